/- A sparse tree: what its functions tell. -/
import Derived.Test.YtpomngkcfbnjoaaGreatDoorSpX
import Derived.Test.YtpomngkcfbnjoaaGreatDoorSpW
import Derived.Test.YtpomngkcfbnjoaaGreatDoorLawNumbers
/- A sparse tree: what its functions tell. -/
set_option maxRecDepth 100000
set_option maxHeartbeats 2000000
namespace Go.Proofs.YtpomngkcfbnjoaaGreatDoor
open Go.RowKit Go.Dk
theorem mf:gK Tryz.prog 49 65 72:=jd (z:= .agg (dc (List.replicate 32 0)++(.int .i64 0::dc (List.replicate 32 0))).toArray) af af
theorem wV (w:World):(Instr.build 37 #[]).run Tryz.prog w= .ok (.agg ([.pointer none,.slice none 0 0]:List Value).toArray) w:=af
theorem jS (c:Int) (l:List UInt8):∀ v∈(Value.int .i64 c::dc l:List Value),v.oneCell'=true:=fun v hv=>by
 rcases List.mem_cons.1 hv with rfl | h
 ·rfl
 ·exact bz _ v h
theorem Itm.one (i:Itm):∀ v∈i.cells,v.oneCell'=true:=fun v hv=>by
 unfold Itm.cells at hv
 rcases List.mem_append.1 hv with h | h
 ·exact bz _ v h
 ·exact jS _ _ v h
def Sm2 (w0:World) (R:List Seg) (f:FuncId) (g:Nat) (width:Int):Prop:=∃ A c wb,Rw w0 R g [.int .i64 width,.slice A 257 c,.func (.func f) #[] #[.pointer (some ⟨wb,0,none⟩)]]∧Rw w0 R wb [.int .i64 width]∧Rc w0 R A (dM (aK width) 257)∧257≤c
theorem Sm2.sm {w0:World} {R:List Seg} {f:FuncId} {g:Nat} {width:Int} (h:Sm2 w0 R f g width):Sm w0 R f g width:=by
 obtain ⟨A,c,wb,h1,h2,h3,_⟩:=h
 exact ⟨A,c,wb,h1,h2,h3⟩
theorem Sm2.mono {w0:World} {R S:List Seg} {f:FuncId} {g:Nat} {width:Int} (h:Sm2 w0 R f g width) (hs:R⊆S):Sm2 w0 S f g width:=by
 obtain ⟨A,c,wb,h1,h2,h3,h4⟩:=h
 exact ⟨A,c,wb,h1.mono hs,h2.mono hs,h3.mono hs,h4⟩
theorem Ez (w0 w:World) (R G:List Seg) (hG:G⊆R) (t:Rx) (hg:t.Good) (gn:Nat) (gs:Nat) (width:Int) (hSm:Sm w0 G 60 gs width) (hTr:Tr w0 G true t gn) (hT:Tab w0) (hA:Hp w0 R w):Calls Tryz.prog 57 #[.pointer (some ⟨gs,0,none⟩),.pointer (some ⟨gn,0,none⟩),.int .i64 256] w fun e w'=>e= .returned (.agg (dc (t.lift width 256)).toArray)∧Hp w0 R w' :=
 kN w0 w R G hG t hg gn gs width 256 ag (TG _) hSm hTr hT hA
def TV (w0:World) (G:List Seg) (L:List Itm) (top sl:Value):Prop :=
 (L=[]∧top= .pointer none∧sl= .slice none 0 0)∨∃ t g ad c,t.items=L∧t.Good∧top=ptr g∧sl= .slice (some ad) 257 c∧Tr w0 G true t g∧Rc w0 G (some ad) (dM (aK 32) 257)∧257≤c
theorem TV.monoF {w0:World} {G R:List Seg} {L:List Itm} {top sl:Value} (h:TV w0 G L top sl) (hs:G.flatten⊆R.flatten):TV w0 R L top sl:=by
 rcases h with h | ⟨t,g,ad,c,h1,h2,h3,h4,h5,h6,h7⟩
 ·exact .inl h
 ·exact .inr ⟨t,g,ad,c,h1,h2,h3,h4,h5.monoF hs,h6.monoF hs,h7⟩
theorem TV.mono {w0:World} {G R:List Seg} {L:List Itm} {top sl:Value} (h:TV w0 G L top sl) (hs:G⊆R):TV w0 R L top sl:=h.monoF (Dq hs)
theorem TV.ok {w0:World} {G:List Seg} {L:List Itm} {top sl:Value} (h:TV w0 G L top sl):∀ i∈L,i.OK:=by
 rcases h with ⟨rfl,_⟩ | ⟨t,g,ad,c,rfl,h2,_⟩
 ·intro i hi; cases hi
 ·exact h2.ok
theorem TV.one {w0:World} {G:List Seg} {L:List Itm} {top sl:Value} (h:TV w0 G L top sl):top.oneCell'=true∧sl.oneCell'=true:=by
 rcases h with ⟨_,rfl,rfl⟩ | ⟨t,g,ad,c,_,_,rfl,rfl,_⟩
 ·exact ⟨rfl,rfl⟩
 ·exact ⟨rfl,rfl⟩
theorem Fp (width:Int):kept (min (max width 1) 32)=kept width:=by unfold kept; omega
theorem qQ (D:List UInt8) (width:Int):gZ D (min (max width 1) 32)=gZ D width:=by unfold gZ; rw [Fp]
theorem qE (width:Int) (X Y:List UInt8):ik (min (max width 1) 32) X Y=ik width X Y:=qQ _ _
theorem lL (width:Int):∀ k,aK (min (max width 1) 32) k=aK width k
 | 0=>qQ _ _
 | k+1=>by
  show ik _ (aK _ k) (aK _ k)=ik width (aK width k) (aK width k)
  rw [qE,lL width k]
theorem AP (width:Int) (i:Itm):entryD (min (max width 1) 32) i=entryD width i:=qQ _ _
theorem oq (width:Int):∀ (h:Nat) (l:List Itm),dQ (min (max width 1) 32) h l=dQ width h l
 | h,[]=>by rw [iw,iw,lL]
 | 0,i::l=>by rw [lM,lM,AP]
 | h+1,i::l=>by rw [lN,lN,qE,oq width h,oq width h]
theorem IP (width:Int) (k:List UInt8) (L:List Itm) (h:Nat):nbr (min (max width 1) 32) k L h=nbr width k L h:=oq width h _
theorem xm (width:Int) (L:List Itm) (k:List UInt8):aV (min (max width 1) 32) L k 256=aV width L k 256:=by
 obtain ⟨h1,h2⟩:=uF (f:=nbr (min (max width 1) 32) k L) (g:=nbr width k L) (e:=aK (min (max width 1) 32)) (e':=aK width) (n:=256) (fun h _=>IP width k L h) (fun h _=>lL width h) 256 (TG _)
 unfold aV
 rw [h1,h2]
theorem Rx.getL_eq {t:Rx} (hg:t.Good) (k:List UInt8):gX t.items k=t.find k:=(Rx.find_eq hg).symm
theorem xK {L:List Itm} {k:List UInt8} {i:Itm} (h:gX L k=some i):dF L k=i.ct:=by unfold dF; rw [h]
theorem xM {L:List Itm} {k:List UInt8} {i:Itm} (h:gX L k=some i):dC L k=i.ch:=by unfold dC; rw [h]
theorem qO {L:List Itm} {k:List UInt8} (h:gX L k=none):dF L k=0:=by unfold dF; rw [h]
theorem qP {L:List Itm} {k:List UInt8} (h:gX L k=none):dC L k=List.replicate 32 0:=by unfold dC; rw [h]; rfl
theorem xe (w0 w:World) (R G:List Seg) (hG:G⊆R) (t:Rx) (hg:t.Good) (gn:Nat) (q:Bool) (k:List UInt8) (hk:k.length=32) (hTr:Tr w0 G q t gn) (hf:t.find k=none) (hA:Hp w0 R w):Calls Tryz.prog 53 #[.pointer (some ⟨gn,0,none⟩),.agg (dc k).toArray] w fun e w'=>e= .returned (.pointer none)∧Hp w0 R w':=by
 refine (Gg w0 w R G hG t hg gn q k hk hTr hA).mono ?_
 rintro e w' ⟨⟨_,rfl⟩ | ⟨i,g,h,_⟩,hA2⟩
 ·exact ⟨rfl,hA2⟩
 ·rw [hf] at h; cases h
theorem uA (w0 w:World) (R G:List Seg) (hG:G⊆R) (t:Rx) (hg:t.Good) (gn:Nat) (q:Bool) (k:List UInt8) (hk:k.length=32) (hTr:Tr w0 G q t gn) (i:Itm) (hf:t.find k=some i) (hA:Hp w0 R w):Calls Tryz.prog 53 #[.pointer (some ⟨gn,0,none⟩),.agg (dc k).toArray] w fun e w'=>∃ g,e= .returned (.pointer (some ⟨g,0,none⟩))∧(i.OK∧Rw w0 G g (aU i))∧Hp w0 R w':=by
 refine (Gg w0 w R G hG t hg gn q k hk hTr hA).mono ?_
 rintro e w' ⟨⟨h,rfl⟩ | ⟨j,g,h,rfl,h3⟩,hA2⟩
 ·rw [hf] at h; cases h
 ·rw [hf] at h; cases h; exact ⟨g,rfl,h3,hA2⟩
theorem wP:isRow Tryz.prog 37 2=true:=af
theorem wC:(Tryz.prog.info? 37).map (·.size)=some 2:=af
theorem sV:aG Tryz.prog 36:=⟨_,Tryz.func36,af,af⟩
theorem xU:aG Tryz.prog 53:=⟨_,Tryz.func53,af,af⟩
theorem Bd:bV Tryz.prog 27 (.agg ([.int .i64 0,.int .u8 0,.int .u8 0,.int .u8 0,.int .u8 0,.int .u8 0,.int .u8 0,.int .u8 0,.int .u8 0,.int .u8 0,.int .u8 0,.int .u8 0,.int .u8 0,.int .u8 0,.int .u8 0,.int .u8 0,.int .u8 0,.int .u8 0,.int .u8 0,.int .u8 0,.int .u8 0,.int .u8 0,.int .u8 0,.int .u8 0,.int .u8 0,.int .u8 0,.int .u8 0,.int .u8 0,.int .u8 0,.int .u8 0,.int .u8 0,.int .u8 0,.int .u8 0]:List Value).toArray):=by unfold bV; kernel_rfl
theorem vP:bV Tryz.prog 37 (.agg ([.pointer none,.slice none 0 0]:List Value).toArray):=by unfold bV; kernel_rfl
theorem Ro (w0 w:World) (R:List Seg) (width:Int) (hkw:32=min (max width 1) 32) (ad:Addr) (c:Nat) (hA:Hp w0 R w):Calls Tryz.prog 36 #[.int .i64 width,.slice (some ad) 257 c] w fun e w'=>∃ g wb,e= .returned (.pointer (some ⟨g,0,none⟩))∧Hp w0 ([row g 95 [.int .i64 32,.slice (some ad) 257 c,.func (.func 60) #[] #[.pointer (some ⟨wb,0,none⟩)]]]::[row wb 3 [.int .i64 32]]::R) w':=by
 refine aJ Tryz.func36 O Tryz.ntmps36 ai (fun a hF=>?_)
 refine wp_seq_k fun K1 hK1=>wp_region_lit ?_
 refine au O (fun K hK=>pU hF O ae rfl hA O O (fun b1 w2 a hb1 hF hA3=>hK _ _ ?_))
 refine vR hF<|vX O<|vE hK1<|wT fun K2 hK2=>vV O (aX O hA3.q O 0 O O Bq)<|vV O (y_max O O O O)<|vV O (y_min O O O hkw.symm) fun a hF=>?_
 refine au O (fun K hK=>aW hF O O hA3 O O 0 O (by simp) rfl QY (fun w4 hA5=>hK _ _ ?_))
 replace hA5:Hp w0 ([row b1 3 [.int .i64 32]]::R) w4:=hA5
 refine az<|hK2 _ _ ?_
 apply wp_seq_k; intro K3 hK3
 refine wS hF fun K4 hK4=>vX O<|vV O (Be O Tu O O)<|vX O<|vG O (aX O hA5.q O 0 O O Bq)<|vG O (aH O O O O (jb ag))<|vV O (bg O O O)<|vE hK4<|vF1 O<|wKp hK3<|wT fun K5 hK5=>vV O (aX O hA5.q O 0 O O Bq)<|vX O<|vV O (ku O O)<|vV O (dS (qs := #[(0,.int .i64 32),(1,.slice (some ad) 257 c),(2,.func (.func 60) #[] #[.pointer (some ⟨b1,0,none⟩)])]) O O (tK _ _ _ _)) fun a hF=>?_
 refine au O (fun K hK=>bC (cs:=[.int .i64 32,.slice (some ad) 257 c,.func (.func 60) #[] #[.pointer (some ⟨b1,0,none⟩)]]) hF O ae rfl hA5 O (fun b6 w7 a hb6 hF hA8=>hK _ _ ?_))
 refine vR hF<|vX O<|vE hK5 fun a hF=>?_
 apply wp_ret
 refine aO hF Tryz.results36 O ?_
 exact ⟨b6,b1,rfl,hA8⟩
theorem Rn (w0 w:World) (R:List Seg) (width kw:Int) (hkw:kw=min (max width 1) 32) (hk:¬ kw=32) (ad:Addr) (c:Nat) (hT:Tab w0) (hA:Hp w0 R w):Calls Tryz.prog 36 #[.int .i64 width,.slice (some ad) 257 c] w fun e w'=>∃ g wb A c X,e= .returned (.pointer (some ⟨g,0,none⟩))∧Rc w0 [X] A (dM (aK kw) 257)∧257≤c∧Hp w0 ([row g 95 [.int .i64 kw,.slice A 257 c,.func (.func 60) #[] #[.pointer (some ⟨wb,0,none⟩)]]]::[row wb 3 [.int .i64 kw]]::X::R) w':=by
 refine aJ Tryz.func36 O Tryz.ntmps36 ai (fun a hF=>?_)
 refine wp_seq_k fun K1 hK1=>wp_region_lit ?_
 refine au O (fun K hK=>pU hF O ae rfl hA O O (fun b1 w2 a hb1 hF hA3=>hK _ _ ?_))
 refine vR hF<|vX O<|vE hK1<|wT fun K2 hK2=>vV O (aX O hA3.q O 0 O O Bq)<|vV O (y_max O O O O)<|vV O (y_min O O O hkw.symm) fun a hF=>?_
 refine au O (fun K hK=>aW hF O O hA3 O O 0 O (by simp) rfl QY (fun w4 hA5=>hK _ _ ?_))
 replace hA5:Hp w0 ([row b1 3 [.int .i64 kw]]::R) w4:=hA5
 refine az<|hK2 _ _ ?_
 apply wp_seq_k; intro K3 hK3
 refine wS hF fun K4 hK4=>vX O<|vV O (Be O Tu O O)<|vX O<|vG O (aX O hA5.q O 0 O O Bq)<|vG O (aH O O O O (nS ag))<|vV O (bg O O O)<|vE hK4<|vT1 O fun a hF=>?_
 refine wp_region_lit ?_
 refine vR hF<|vV O (aX O hA5.q O 0 O O Bq) fun a hF=>?_
 refine au O (fun K hK=>ax hF O ae PN rfl rfl ?_)
 with_reducible refine (qH w0 _ ([row b1 3 [.int .i64 kw]]::R) kw hT hA5).mono ?_
 rintro e' w6 ⟨ev,X,rfl,hX,hA7⟩
 refine ⟨_,rfl,fun a hF=>hK _ _ ?_⟩
 replace hA7:Hp w0 (X::[row b1 3 [.int .i64 kw]]::R) w6:=hA7
 have hFn:=hF
 obtain ⟨A,c2,rfl,hcb,hRc⟩:=hX.rc (w0:=w0) (R:=[X]) (TF ..)
 have hF:=hFn
 refine vR hF<|vX O<|vE hK3<|wT fun K5 hK5=>vV O (aX O hA7.q O 1 O O Bq)<|vX O<|vV O (ku O O)<|vV O (dS (qs := #[(0,.int .i64 kw),(1,.slice A 257 c2),(2,.func (.func 60) #[] #[.pointer (some ⟨b1,0,none⟩)])]) O O (tK _ _ _ _)) fun a hF=>?_
 refine au O (fun K hK=>bC (cs:=[.int .i64 kw,.slice A 257 c2,.func (.func 60) #[] #[.pointer (some ⟨b1,0,none⟩)]]) hF O ae rfl hA7 O (fun b8 w9 a hb8 hF hA10=>hK _ _ ?_))
 refine vR hF<|vX O<|vE hK5 fun a hF=>?_
 apply wp_ret
 refine aO hF Tryz.results36 O ?_
 have hA11:Hp w0 ([row b8 95 [.int .i64 kw,.slice A 257 c2,.func (.func 60) #[] #[.pointer (some ⟨b1,0,none⟩)]]]::[row b1 3 [.int .i64 kw]]::X::R) w9:=hpO 3 [0,2,1] hA10 rfl
 exact ⟨b8,b1,A,c2,X,rfl,hRc,hcb,hA11⟩
theorem La (w0 w:World) (R:List Seg) (width kw:Int) (hkw:kw=min (max width 1) 32) (hT:Tab w0) (hA:Hp w0 R w):Calls Tryz.prog 36 #[.int .i64 width,.slice none 0 0] w fun e w'=>∃ g wb A c X,e= .returned (.pointer (some ⟨g,0,none⟩))∧Rc w0 [X] A (dM (aK kw) 257)∧257≤c∧Hp w0 ([row g 95 [.int .i64 kw,.slice A 257 c,.func (.func 60) #[] #[.pointer (some ⟨wb,0,none⟩)]]]::[row wb 3 [.int .i64 kw]]::X::R) w':=by
 refine aJ Tryz.func36 O Tryz.ntmps36 ai (fun a hF=>?_)
 refine wp_seq_k fun K1 hK1=>wp_region_lit ?_
 refine au O (fun K hK=>pU hF O ae rfl hA O O (fun b1 w2 a hb1 hF hA3=>hK _ _ ?_))
 refine vR hF<|vX O<|vE hK1<|wT fun K2 hK2=>vV O (aX O hA3.q O 0 O O Bq)<|vV O (y_max O O O O)<|vV O (y_min O O O hkw.symm) fun a hF=>?_
 refine au O (fun K hK=>aW hF O O hA3 O O 0 O (by simp) rfl QY (fun w4 hA5=>hK _ _ ?_))
 replace hA5:Hp w0 ([row b1 3 [.int .i64 kw]]::R) w4:=hA5
 refine az<|hK2 _ _ ?_
 apply wp_seq_k; intro K3 hK3
 refine wS hF fun K4 hK4=>vX O<|vV O (Jq O Tu O O)<|vX O<|vS O<|vS O<|vV O (bg O O O)<|vE hK4<|vT1 O fun a hF=>?_
 refine wp_region_lit ?_
 refine vR hF<|vV O (aX O hA5.q O 0 O O Bq) fun a hF=>?_
 refine au O (fun K hK=>ax hF O ae PN rfl rfl ?_)
 with_reducible refine (qH w0 _ ([row b1 3 [.int .i64 kw]]::R) kw hT hA5).mono ?_
 rintro e' w6 ⟨ev,X,rfl,hX,hA7⟩
 refine ⟨_,rfl,fun a hF=>hK _ _ ?_⟩
 replace hA7:Hp w0 (X::[row b1 3 [.int .i64 kw]]::R) w6:=hA7
 have hFn:=hF
 obtain ⟨A,c2,rfl,hcb,hRc⟩:=hX.rc (w0:=w0) (R:=[X]) (TF ..)
 have hF:=hFn
 refine vR hF<|vX O<|vE hK3<|wT fun K5 hK5=>vV O (aX O hA7.q O 1 O O Bq)<|vX O<|vV O (ku O O)<|vV O (dS (qs := #[(0,.int .i64 kw),(1,.slice A 257 c2),(2,.func (.func 60) #[] #[.pointer (some ⟨b1,0,none⟩)])]) O O (tK _ _ _ _)) fun a hF=>?_
 refine au O (fun K hK=>bC (cs:=[.int .i64 kw,.slice A 257 c2,.func (.func 60) #[] #[.pointer (some ⟨b1,0,none⟩)]]) hF O ae rfl hA7 O (fun b8 w9 a hb8 hF hA10=>hK _ _ ?_))
 refine vR hF<|vX O<|vE hK5 fun a hF=>?_
 apply wp_ret
 refine aO hF Tryz.results36 O ?_
 have hA11:Hp w0 ([row b8 95 [.int .i64 kw,.slice A 257 c2,.func (.func 60) #[] #[.pointer (some ⟨b1,0,none⟩)]]]::[row b1 3 [.int .i64 kw]]::X::R) w9:=hpO 3 [0,2,1] hA10 rfl
 exact ⟨b8,b1,A,c2,X,rfl,hRc,hcb,hA11⟩
theorem EH (w0 w:World) (R:List Seg) (width:Int) (hT:Tab w0) (hA:Hp w0 R w):Calls Tryz.prog 36 #[.int .i64 width,.slice none 0 0] w fun e w'=>∃ gs X,e= .returned (.pointer (some ⟨gs,0,none⟩))∧Sm2 w0 [X] 60 gs (min (max width 1) 32)∧Hp w0 (X::R) w':=by
 refine (La w0 w R width _ O hT hA).mono ?_
 rintro e w' ⟨g,wb,A,c,X,rfl,hRc,hcb,hA2⟩
 refine ⟨g,row g 95 [.int .i64 (min (max width 1) 32),.slice A 257 c,.func (.func 60) #[] #[.pointer (some ⟨wb,0,none⟩)]]::(row wb 3 [.int .i64 (min (max width 1) 32)]::X),rfl,⟨A,c,wb,Rw.ofMem (TF ..) (TF ..),Rw.ofMem (TF ..) (TI _ (TF ..)),hRc.monoF (fun r hr=>?_),hcb⟩,Hp.cast hA2 (by simp only [List.flatten_cons,List.append_assoc,List.cons_append,List.nil_append])⟩
 rw [List.flatten_cons,List.flatten_nil,List.append_nil] at hr ⊢
 exact TI _ (TI _ hr)
theorem EG (w0 w:World) (R G:List Seg) (width:Int) (ad:Addr) (c:Nat) (hcb:257≤c) (hRc:Rc w0 G (some ad) (dM (aK 32) 257)) (hT:Tab w0) (hA:Hp w0 R w):Calls Tryz.prog 36 #[.int .i64 width,.slice (some ad) 257 c] w fun e w'=>∃ gs X,e= .returned (.pointer (some ⟨gs,0,none⟩))∧Sm2 w0 (X::G) 60 gs (min (max width 1) 32)∧Hp w0 (X::R) w':=by
 by_cases hk:min (max width 1) 32=32
 ·rw [hk]
  refine (Ro w0 w R width hk.symm ad c hA).mono ?_
  rintro e w' ⟨g,wb,rfl,hA2⟩
  exact ⟨g,row g 95 [.int .i64 32,.slice (some ad) 257 c,.func (.func 60) #[] #[.pointer (some ⟨wb,0,none⟩)]]::[row wb 3 [.int .i64 32]],rfl,⟨some ad,c,wb,Rw.ofMem (TF ..) (TF ..),Rw.ofMem (TF ..) (TI _ (TF ..)),hRc.mono (List.subset_cons_of_subset _ (List.Subset.refl _)),hcb⟩,Hp.cast hA2 (by simp only [List.flatten_cons,List.append_assoc,List.cons_append,List.nil_append])⟩
 ·refine (Rn w0 w R width _ O hk ad c hT hA).mono ?_
  rintro e w' ⟨g,wb,A,c2,X,rfl,hR2,hcb2,hA2⟩
  refine ⟨g,row g 95 [.int .i64 (min (max width 1) 32),.slice A 257 c2,.func (.func 60) #[] #[.pointer (some ⟨wb,0,none⟩)]]::(row wb 3 [.int .i64 (min (max width 1) 32)]::X),rfl,⟨A,c2,wb,Rw.ofMem (TF ..) (TF ..),Rw.ofMem (TF ..) (TI _ (TF ..)),hR2.monoF (fun r hr=>?_),hcb2⟩,Hp.cast hA2 (by simp only [List.flatten_cons,List.append_assoc,List.cons_append,List.nil_append])⟩
  rw [List.flatten_cons,List.flatten_nil,List.append_nil] at hr
  rw [List.flatten_cons]
  exact TI _ (TI _ (TD _ hr))
theorem OT (w0 w:World) (R G:List Seg) (hG:G⊆R) (t:Rx) (hg:t.Good) (gn:Nat) (hTr:Tr w0 G true t gn) (sv:Value) (hA:Hp w0 R w):Calls Tryz.prog 29 #[.agg ([.pointer (some ⟨gn,0,none⟩),sv]:List Value).toArray] w fun e w'=>e= .returned (.int .i64 ((t.size:Nat):Int))∧Hp w0 R w':=by
 obtain ⟨E,p,p',s,hL,hN⟩:=Tr.view hg hTr
 refine aJ Tryz.func29 O Tryz.ntmps29 ai (fun a hF=>?_)
 refine wp_seq_k fun K1 hK1=>wp_region_lit ?_
 refine au O (fun K hK=>bC (cs:=[.pointer (some ⟨gn,0,none⟩),sv]) hF O ae rfl hA O (fun b1 w2 a hb1 hF hA3=>hK _ _ ?_))
 refine vR hF<|vX O<|vE hK1<|wQ fun K2 hK2=>wT fun K3 hK3=>vV O (yf 0 O Ul O Oo O)<|vV O (aX O hA3.q O 0 O O Pi)<|vV O (iG O af rfl rfl)<|vE hK3<|vF1 O<|wKp hK2<|wT fun K4 hK4=>vV O (yf 0 O Ul O Oo O)<|vV O (aX O hA3.q O 0 O O Pi)<|vX O<|vV O (yf 65 rfl Uj O QY O)<|vV O (bD O (Hq.sub hA3.q (List.Subset.trans hG (aA (bu)))) O hN 65 (by rw [aF hL]; decide) rfl (dY hL _ _ _ _) Bq) fun a hF=>?_
 refine vR hF<|vX O<|vE hK4 fun a hF=>?_
 apply wp_ret
 refine aO hF Tryz.results29 O ?_
 have hA4:Hp w0 (R) w2:=hpS 1 [] [0] hA3 rfl
 exact ⟨rfl,hA4⟩
theorem OV (w0 w:World) (R G:List Seg) (hG:G⊆R) (t:Rx) (hg:t.Good) (gn:Nat) (hTr:Tr w0 G true t gn) (sv:Value) (k:List UInt8) (hk:k.length=32) (hA:Hp w0 R w):Calls Tryz.prog 37 #[.agg ([.pointer (some ⟨gn,0,none⟩),sv]:List Value).toArray,.agg (dc k).toArray] w fun e w'=>e= .returned (.tuple #[.agg (.int .i64 (dF t.items k)::dc (dC t.items k)).toArray,.bool (gX t.items k).isSome])∧Hp w0 R w':=by
 have hdk:(dc k).length=32:=by rw [aj,hk]
 refine aJ Tryz.func37 O Tryz.ntmps37 ai (fun a hF=>?_)
 refine wp_seq_k fun K1 hK1=>wp_region_lit ?_
 refine au O (fun K hK=>bC (cs:=[.pointer (some ⟨gn,0,none⟩),sv]) hF O ae rfl hA O (fun b1 w2 a hb1 hF hA3=>hK _ _ ?_))
 refine au O (fun K hK=>bC (cs:=dc k) hF O ae rfl hA3 O (fun b4 w5 a hb4 hF hA6=>hK _ _ ?_))
 refine au O (fun K hK=>bG hF O ae rfl hA6 (Bd) (fun b7 w8 a hb7 hF hA9=>hK _ _ ?_))
 refine vR hF<|vX O<|vE hK1<|wQ fun K2 hK2 a hF=>?_
 by_cases hf:t.find k=none
 ·have hfk:gX t.items k=none:=by rw [Rx.getL_eq hg]; exact hf
  have hct:=qO hfk
  have hch:=qP hfk
  have hss:(gX t.items k).isSome=false:=by rw [hfk]; rfl
  have hel:(Value.int .i64 (dF t.items k)::dc (dC t.items k)).length=33:=by rw [hch]; rfl
  refine wp_region_lit ?_
  refine vR hF<|vV O (yf 0 O Ul O Oo O)<|vV O (aX O hA9.q O 2 O O Pi)<|vV O (yZ (new:=dc k) rfl hA9.q O 1 O vw hdk) fun a hF=>?_
  refine au O (fun K hK=>ax hF O ae xU rfl rfl ?_)
  with_reducible refine (xe w0 _ ([row b7 27 [.int .i64 0,.int .u8 0,.int .u8 0,.int .u8 0,.int .u8 0,.int .u8 0,.int .u8 0,.int .u8 0,.int .u8 0,.int .u8 0,.int .u8 0,.int .u8 0,.int .u8 0,.int .u8 0,.int .u8 0,.int .u8 0,.int .u8 0,.int .u8 0,.int .u8 0,.int .u8 0,.int .u8 0,.int .u8 0,.int .u8 0,.int .u8 0,.int .u8 0,.int .u8 0,.int .u8 0,.int .u8 0,.int .u8 0,.int .u8 0,.int .u8 0,.int .u8 0,.int .u8 0]]::[row b4 25 (dc k)]::[row b1 37 [.pointer (some ⟨gn,0,none⟩),sv]]::R) G (List.Subset.trans hG (aA (aA (aA (bu))))) t hg gn true k hk hTr hf hA9).mono ?_
  rintro e' w10 ⟨rfl,hA11⟩
  refine ⟨_,rfl,fun a hF=>hK _ _ ?_⟩
  replace hA11:Hp w0 ([row b7 27 [.int .i64 0,.int .u8 0,.int .u8 0,.int .u8 0,.int .u8 0,.int .u8 0,.int .u8 0,.int .u8 0,.int .u8 0,.int .u8 0,.int .u8 0,.int .u8 0,.int .u8 0,.int .u8 0,.int .u8 0,.int .u8 0,.int .u8 0,.int .u8 0,.int .u8 0,.int .u8 0,.int .u8 0,.int .u8 0,.int .u8 0,.int .u8 0,.int .u8 0,.int .u8 0,.int .u8 0,.int .u8 0,.int .u8 0,.int .u8 0,.int .u8 0,.int .u8 0,.int .u8 0]]::[row b4 25 (dc k)]::[row b1 37 [.pointer (some ⟨gn,0,none⟩),sv]]::R) w10:=hA11
  refine vR hF<|vX O<|vE hK2<|wQ fun K3 hK3=>wT fun K4 hK4=>vX O<|vV O (lS O af rfl rfl)<|vE hK4<|vT1 O<|wT fun K5 hK5=>vV O (dS (v:= .agg (.int .i64 (dF t.items k)::dc (dC t.items k)).toArray) (qs := #[]) O O (by intro w; rw [hct,hch]; exact zS w)) fun a hF=>?_
  refine au O (fun K hK=>aI (new:= .int .i64 (dF t.items k)::dc (dC t.items k)) hF O O hA11 O O 0 O (by rw [hel]; rfl) (jS _ _) Bz (fun w12 hA13=>hK _ _ ?_))
  replace hA13:Hp w0 ([row b7 27 (.int .i64 (dF t.items k)::dc (dC t.items k))]::[row b4 25 (dc k)]::[row b1 37 [.pointer (some ⟨gn,0,none⟩),sv]]::R) w12:=hA13
  refine vR hF<|vV O (bJ O (show some (Value.bool false)=some (.bool (gX t.items k).isSome) by rw [hss]))<|vE hK5 fun a hF=>?_
  apply wp_ret
  simp only [Exit.then]
  refine iM hF Tryz.results37 hA13.q O O 0 O (by rw [hel]; exact BN) ?_
  have hA14:Hp w0 (R) w12:=hpS 3 [] [0,1,2] hA13 rfl
  exact ⟨rfl,hA14⟩
 ·obtain ⟨i,hf⟩:=Option.ne_none_iff_exists'.1 hf
  have hfk:gX t.items k=some i:=by rw [Rx.getL_eq hg]; exact hf
  have hct:=xK hfk
  have hch:=xM hfk
  have hss:(gX t.items k).isSome=true:=by rw [hfk]; rfl
  refine wp_region_lit ?_
  refine vR hF<|vV O (yf 0 O Ul O Oo O)<|vV O (aX O hA9.q O 2 O O Pi)<|vV O (yZ (new:=dc k) rfl hA9.q O 1 O vw hdk) fun a hF=>?_
  refine au O (fun K hK=>ax hF O ae xU rfl rfl ?_)
  with_reducible refine (uA w0 _ ([row b7 27 [.int .i64 0,.int .u8 0,.int .u8 0,.int .u8 0,.int .u8 0,.int .u8 0,.int .u8 0,.int .u8 0,.int .u8 0,.int .u8 0,.int .u8 0,.int .u8 0,.int .u8 0,.int .u8 0,.int .u8 0,.int .u8 0,.int .u8 0,.int .u8 0,.int .u8 0,.int .u8 0,.int .u8 0,.int .u8 0,.int .u8 0,.int .u8 0,.int .u8 0,.int .u8 0,.int .u8 0,.int .u8 0,.int .u8 0,.int .u8 0,.int .u8 0,.int .u8 0,.int .u8 0]]::[row b4 25 (dc k)]::[row b1 37 [.pointer (some ⟨gn,0,none⟩),sv]]::R) G (List.Subset.trans hG (aA (aA (aA (bu))))) t hg gn true k hk hTr i hf hA9).mono ?_
  rintro e' w15 ⟨gf,rfl,⟨hi,hNf⟩,hA16⟩
  refine ⟨_,rfl,fun a hF=>hK _ _ ?_⟩
  replace hA16:Hp w0 ([row b7 27 [.int .i64 0,.int .u8 0,.int .u8 0,.int .u8 0,.int .u8 0,.int .u8 0,.int .u8 0,.int .u8 0,.int .u8 0,.int .u8 0,.int .u8 0,.int .u8 0,.int .u8 0,.int .u8 0,.int .u8 0,.int .u8 0,.int .u8 0,.int .u8 0,.int .u8 0,.int .u8 0,.int .u8 0,.int .u8 0,.int .u8 0,.int .u8 0,.int .u8 0,.int .u8 0,.int .u8 0,.int .u8 0,.int .u8 0,.int .u8 0,.int .u8 0,.int .u8 0,.int .u8 0]]::[row b4 25 (dc k)]::[row b1 37 [.pointer (some ⟨gn,0,none⟩),sv]]::R) w15:=hA16
  refine vR hF<|vX O<|vE hK2<|wQ fun K6 hK6=>wT fun K7 hK7=>vX O<|vV O (iG O af rfl rfl)<|vE hK7<|vF1 O fun a hF=>?_
  have hLf:=NodeL.leaf hi
  have hel:(Value.int .i64 (dF t.items k)::dc (dC t.items k)).length=33:=by rw [hch,List.length_cons,aj,hi.ch]
  apply wp_skip
  refine hK6 _ _ ?_
  refine wS hF fun K8 hK8=>vX O<|vX O<|vV O (yf 32 rfl Uj O Bz O)<|vV O (aQ O (Hq.sub hA16.q (List.Subset.trans hG (aA (aA (aA (bu)))))) O hNf 32 (by rw [pO hi]; decide) rfl (show List.take 33 (List.drop 32 (aU i))= .int .i64 (dF t.items k)::dc (dC t.items k) by rw [hct,hch]; exact zq hi) BN) fun a hF=>?_
  refine au O (fun K hK=>aI (new:= .int .i64 (dF t.items k)::dc (dC t.items k)) hF O O hA16 O O 0 O (by rw [hel]; rfl) (jS _ _) Bz (fun w17 hA18=>hK _ _ ?_))
  replace hA18:Hp w0 ([row b7 27 (.int .i64 (dF t.items k)::dc (dC t.items k))]::[row b4 25 (dc k)]::[row b1 37 [.pointer (some ⟨gn,0,none⟩),sv]]::R) w17:=hA18
  refine vR hF<|vV O (bJ O (show some (Value.bool true)=some (.bool (gX t.items k).isSome) by rw [hss]))<|vE hK8 fun a hF=>?_
  apply wp_ret
  refine iM hF Tryz.results37 hA18.q O O 0 O (by rw [hel]; exact BN) ?_
  have hA19:Hp w0 (R) w17:=hpS 3 [] [0,1,2] hA18 rfl
  exact ⟨rfl,hA19⟩
theorem OW (w0 w:World) (R:List Seg) (k:List UInt8) (hk:k.length=32) (hA:Hp w0 R w):Calls Tryz.prog 37 #[.agg ([.pointer none,.slice none 0 0]:List Value).toArray,.agg (dc k).toArray] w fun e w'=>e= .returned (.tuple #[.agg (.int .i64 (dF [] k)::dc (dC [] k)).toArray,.bool (gX [] k).isSome])∧Hp w0 R w':=by
 have hdk:(dc k).length=32:=by rw [aj,hk]
 refine aJ Tryz.func37 O Tryz.ntmps37 ai (fun a hF=>?_)
 refine wp_seq_k fun K1 hK1=>wp_region_lit ?_
 refine au O (fun K hK=>bC (cs:=[.pointer none,.slice none 0 0]) hF O ae rfl hA O (fun b1 w2 a hb1 hF hA3=>hK _ _ ?_))
 refine au O (fun K hK=>bC (cs:=dc k) hF O ae rfl hA3 O (fun b4 w5 a hb4 hF hA6=>hK _ _ ?_))
 refine au O (fun K hK=>bG hF O ae rfl hA6 (Bd) (fun b7 w8 a hb7 hF hA9=>hK _ _ ?_))
 refine vR hF<|vX O<|vE hK1<|wQ fun K2 hK2 a hF=>?_
 have hfk:gX [] k=none:=rfl
 have hct:=qO hfk
 have hch:=qP hfk
 have hss:(gX [] k).isSome=false:=by rw [hfk]; rfl
 have hel:(Value.int .i64 (dF [] k)::dc (dC [] k)).length=33:=by rw [hch]; rfl
 refine wp_region_lit ?_
 refine vR hF<|vV O (yf 0 O Ul O Oo O)<|vV O (aX O hA9.q O 2 O O Pi)<|vV O (yZ (new:=dc k) rfl hA9.q O 1 O vw hdk) fun a hF=>?_
 refine au O (fun K hK=>ax hF O ae xU rfl rfl ?_)
 with_reducible refine (BZ w0 _ ([row b7 27 [.int .i64 0,.int .u8 0,.int .u8 0,.int .u8 0,.int .u8 0,.int .u8 0,.int .u8 0,.int .u8 0,.int .u8 0,.int .u8 0,.int .u8 0,.int .u8 0,.int .u8 0,.int .u8 0,.int .u8 0,.int .u8 0,.int .u8 0,.int .u8 0,.int .u8 0,.int .u8 0,.int .u8 0,.int .u8 0,.int .u8 0,.int .u8 0,.int .u8 0,.int .u8 0,.int .u8 0,.int .u8 0,.int .u8 0,.int .u8 0,.int .u8 0,.int .u8 0,.int .u8 0]]::[row b4 25 (dc k)]::[row b1 37 [.pointer none,.slice none 0 0]]::R) k hA9).mono ?_
 rintro e' w10 ⟨rfl,hA11⟩
 refine ⟨_,rfl,fun a hF=>hK _ _ ?_⟩
 replace hA11:Hp w0 ([row b7 27 [.int .i64 0,.int .u8 0,.int .u8 0,.int .u8 0,.int .u8 0,.int .u8 0,.int .u8 0,.int .u8 0,.int .u8 0,.int .u8 0,.int .u8 0,.int .u8 0,.int .u8 0,.int .u8 0,.int .u8 0,.int .u8 0,.int .u8 0,.int .u8 0,.int .u8 0,.int .u8 0,.int .u8 0,.int .u8 0,.int .u8 0,.int .u8 0,.int .u8 0,.int .u8 0,.int .u8 0,.int .u8 0,.int .u8 0,.int .u8 0,.int .u8 0,.int .u8 0,.int .u8 0]]::[row b4 25 (dc k)]::[row b1 37 [.pointer none,.slice none 0 0]]::R) w10:=hA11
 refine vR hF<|vX O<|vE hK2<|wQ fun K3 hK3=>wT fun K4 hK4=>vX O<|vV O (lS O af rfl rfl)<|vE hK4<|vT1 O<|wT fun K5 hK5=>vV O (dS (v:= .agg (.int .i64 (dF [] k)::dc (dC [] k)).toArray) (qs := #[]) O O (by intro w; rw [hct,hch]; exact zS w)) fun a hF=>?_
 refine au O (fun K hK=>aI (new:= .int .i64 (dF [] k)::dc (dC [] k)) hF O O hA11 O O 0 O (by rw [hel]; rfl) (jS _ _) Bz (fun w12 hA13=>hK _ _ ?_))
 replace hA13:Hp w0 ([row b7 27 (.int .i64 (dF [] k)::dc (dC [] k))]::[row b4 25 (dc k)]::[row b1 37 [.pointer none,.slice none 0 0]]::R) w12:=hA13
 refine vR hF<|vV O (bJ O (show some (Value.bool false)=some (.bool (gX [] k).isSome) by rw [hss]))<|vE hK5 fun a hF=>?_
 apply wp_ret
 simp only [Exit.then]
 refine iM hF Tryz.results37 hA13.q O O 0 O (by rw [hel]; exact BN) ?_
 have hA14:Hp w0 (R) w12:=hpS 3 [] [0,1,2] hA13 rfl
 exact ⟨rfl,hA14⟩
theorem KW (w0 w:World) (R G:List Seg) (hG:G⊆R) (t:Rx) (hg:t.Good) (gn:Nat) (hTr:Tr w0 G true t gn) (ad:Addr) (c:Nat) (hcb:257≤c) (hRc:Rc w0 G (some ad) (dM (aK 32) 257)) (width:Int) (hT:Tab w0) (hA:Hp w0 R w):Calls Tryz.prog 32 #[.agg ([.pointer (some ⟨gn,0,none⟩),.slice (some ad) 257 c]:List Value).toArray,.int .i64 width] w fun e w'=>e= .returned (.agg (dc (dQ width 256 t.items)).toArray)∧Hp w0 R w':=by
 refine aJ Tryz.func32 O Tryz.ntmps32 ai (fun a hF=>?_)
 refine wp_seq_k fun K1 hK1=>wp_region_lit ?_
 refine au O (fun K hK=>bC (cs:=[.pointer (some ⟨gn,0,none⟩),.slice (some ad) 257 c]) hF O ae rfl hA O (fun b1 w2 a hb1 hF hA3=>hK _ _ ?_))
 refine au O (fun K hK=>bG hF O ae rfl hA3 (jE) (fun b4 w5 a hb4 hF hA6=>hK _ _ ?_))
 refine az<|hK1 _ _ ?_
 refine wS hF fun K2 hK2=>vX O<|vV O (yf 1 O Ul O rC O)<|vV O (aX O hA6.q O 1 O O rQ) fun a hF=>?_
 refine au O (fun K hK=>ax hF O ae sV rfl rfl ?_)
 with_reducible refine (EG w0 _ ([row b4 25 (dc (List.replicate 32 0))]::[row b1 37 [.pointer (some ⟨gn,0,none⟩),.slice (some ad) 257 c]]::R) G width ad c hcb hRc hT hA6).mono ?_
 rintro e' w7 ⟨gs,SX,rfl,hSm2,hA8⟩
 refine ⟨_,rfl,fun a hF=>hK _ _ ?_⟩
 replace hA8:Hp w0 (SX::[row b4 25 (dc (List.replicate 32 0))]::[row b1 37 [.pointer (some ⟨gn,0,none⟩),.slice (some ad) 257 c]]::R) w7:=hA8
 have hSm:=hSm2.sm
 refine vR hF<|vX O<|vE hK2<|wQ fun K3 hK3=>wT fun K4 hK4=>vV O (yf 0 O Ul O Oo O)<|vV O (aX O hA8.q O 2 O O Pi)<|vV O (iG O af rfl rfl)<|vE hK4<|vF1 O fun a hF=>?_
 have hres:t.lift (min (max width 1) 32) 256=dQ width 256 t.items:=by rw [Rx.lift_sub hg ag (TG _),oq]
 have hdl:(dc (dQ width 256 t.items)).length=32:=by rw [← hres,aj,Rx.lift_length]
 apply wp_skip
 refine hK3 _ _ ?_
 refine wS hF fun K5 hK5=>vX O<|vV O (yf 0 O Ul O Oo O)<|vV O (aX O hA8.q O 2 O O Pi) fun a hF=>?_
 refine au O (fun K hK=>ax hF O ae DL rfl rfl ?_)
 with_reducible refine (Ez w0 _ (SX::[row b4 25 (dc (List.replicate 32 0))]::[row b1 37 [.pointer (some ⟨gn,0,none⟩),.slice (some ad) 257 c]]::R) (SX::G) (dR ((TF ..)) (List.Subset.trans hG (aA (aA (aA (bu)))))) t hg gn gs (min (max width 1) 32) hSm (hTr.mono (List.subset_cons_of_subset _ (List.Subset.refl _))) hT hA8).mono ?_
 rintro e' w9 ⟨rfl,hA10⟩
 refine ⟨_,rfl,fun a hF=>hK _ _ ?_⟩
 replace hA10:Hp w0 (SX::[row b4 25 (dc (List.replicate 32 0))]::[row b1 37 [.pointer (some ⟨gn,0,none⟩),.slice (some ad) 257 c]]::R) w9:=hA10
 rw [hres] at hF
 refine au O (fun K hK=>aI (new:=dc (dQ width 256 t.items)) hF O O hA10 O O 1 O (by rw [hdl]; rfl) (bz _) uX (fun w11 hA12=>hK _ _ ?_))
 replace hA12:Hp w0 (SX::[row b4 25 (dc (dQ width 256 t.items))]::[row b1 37 [.pointer (some ⟨gn,0,none⟩),.slice (some ad) 257 c]]::R) w11:=hA12
 refine az<|hK5 _ _ ?_
 apply wp_ret
 refine fD hF Tryz.results32 hA12.q O 1 O (by rw [hdl]; exact vw) ?_
 have hA13:Hp w0 (R) w11:=hpS 3 [] [0,1,2] hA12 rfl
 exact ⟨rfl,hA13⟩
theorem KX (w0 w:World) (R:List Seg) (width:Int) (hT:Tab w0) (hA:Hp w0 R w):Calls Tryz.prog 32 #[.agg ([.pointer none,.slice none 0 0]:List Value).toArray,.int .i64 width] w fun e w'=>e= .returned (.agg (dc (dQ width 256 [])).toArray)∧Hp w0 R w':=by
 refine aJ Tryz.func32 O Tryz.ntmps32 ai (fun a hF=>?_)
 refine wp_seq_k fun K1 hK1=>wp_region_lit ?_
 refine au O (fun K hK=>bC (cs:=[.pointer none,.slice none 0 0]) hF O ae rfl hA O (fun b1 w2 a hb1 hF hA3=>hK _ _ ?_))
 refine au O (fun K hK=>bG hF O ae rfl hA3 (jE) (fun b4 w5 a hb4 hF hA6=>hK _ _ ?_))
 refine az<|hK1 _ _ ?_
 refine wS hF fun K2 hK2=>vX O<|vV O (yf 1 O Ul O rC O)<|vV O (aX O hA6.q O 1 O O rQ) fun a hF=>?_
 refine au O (fun K hK=>ax hF O ae sV rfl rfl ?_)
 with_reducible refine (EH w0 _ ([row b4 25 (dc (List.replicate 32 0))]::[row b1 37 [.pointer none,.slice none 0 0]]::R) width hT hA6).mono ?_
 rintro e' w7 ⟨gs,SX,rfl,hSm2,hA8⟩
 refine ⟨_,rfl,fun a hF=>hK _ _ ?_⟩
 replace hA8:Hp w0 (SX::[row b4 25 (dc (List.replicate 32 0))]::[row b1 37 [.pointer none,.slice none 0 0]]::R) w7:=hA8
 have hSm:=hSm2.sm
 refine vR hF<|vX O<|vE hK2<|wQ fun K3 hK3=>wT fun K4 hK4=>vV O (yf 0 O Ul O Oo O)<|vV O (aX O hA8.q O 2 O O Pi)<|vV O (lS O af rfl rfl)<|vE hK4<|vT1 O fun a hF=>?_
 obtain ⟨AE,cE,wb,hs1,hs2,hs3⟩:=hSm
 have hdle:=bZ (min (max width 1) 32)
 obtain ⟨herd,hele⟩:=iY (aK (min (max width 1) 32)) 257 256 (fun i _=>hdle i) ae
 obtain ⟨be_,qe,hAE,hce⟩:=hs3.ne (i:=256*32) ag
 have hres:aK (min (max width 1) 32) 256=dQ width 256 []:=by rw [iw,lL]
 have hdl:(dc (dQ width 256 [])).length=32:=by rw [← hres,aj,hdle]
 refine wS hF fun K5 hK5=>vX O<|vX O<|vV O (yf 1 O Uk O rC O)<|vV O (bD O (Hq.sub hA8.q (dZ ((TF ..)))) O hs1 1 (by simp) rfl rfl rQ)<|vV O (bi O Tu uX (by exact congrArg (fun A=>some (Value.slice A 257 cE)) hAE) rfl 256 rfl ae rfl) fun a hF=>?_
 refine vR hF<|vV O (aQ O (Hq.sub hA8.q (dZ ((TF ..)))) O hce (256*32) hele rfl (show _=dc (dQ width 256 []) by rw [← hres]; exact herd) vw) fun a hF=>?_
 refine au O (fun K hK=>aI (new:=dc (dQ width 256 [])) hF O O hA8 O O 1 O (by rw [hdl]; rfl) (bz _) uX (fun w9 hA10=>hK _ _ ?_))
 replace hA10:Hp w0 (SX::[row b4 25 (dc (dQ width 256 []))]::[row b1 37 [.pointer none,.slice none 0 0]]::R) w9:=hA10
 refine az<|hK5 _ _ ?_
 apply wp_ret
 simp only [Exit.then]
 refine fD hF Tryz.results32 hA10.q O 1 O (by rw [hdl]; exact vw) ?_
 have hA11:Hp w0 (R) w9:=hpS 3 [] [0,1,2] hA10 rfl
 exact ⟨rfl,hA11⟩
theorem KU (w0 w:World) (R:List Seg) (i:Itm) (hi:i.OK) (hct:1≤i.ct∧i.ct≤1099511627776) (hT:Tab w0) (hA:Hp w0 R w):Calls Tryz.prog 30 #[.agg ([.pointer none,.slice none 0 0]:List Value).toArray,.agg (dc i.k).toArray,.agg (.int .i64 i.ct::dc i.ch).toArray] w fun e w'=>∃ gn A c X,e= .returned (.tuple #[.agg ([.pointer (some ⟨gn,0,none⟩),.slice A 257 c]:List Value).toArray,.int .i64 0])∧Rc w0 [X] A (dM (aK 32) 257)∧257≤c∧Hp w0 ([row gn 117 (aU i)]::X::R) w':=by
 have hdk:(dc i.k).length=32:=by rw [aj,hi.k]
 have hde:(Value.int .i64 i.ct::dc i.ch).length=33:=by rw [List.length_cons,aj,hi.ch]
 refine aJ Tryz.func30 O Tryz.ntmps30 ai (fun a hF=>?_)
 refine wp_seq_k fun K1 hK1=>wp_region_lit ?_
 refine au O (fun K hK=>bC (cs:=[.pointer none,.slice none 0 0]) hF O ae rfl hA O (fun b1 w2 a hb1 hF hA3=>hK _ _ ?_))
 refine au O (fun K hK=>bC (cs:=dc i.k) hF O ae rfl hA3 O (fun b4 w5 a hb4 hF hA6=>hK _ _ ?_))
 refine au O (fun K hK=>bC (cs:= .int .i64 i.ct::dc i.ch) hF O ae rfl hA6 O (fun b7 w8 a hb7 hF hA9=>hK _ _ ?_))
 refine au O (fun K hK=>bG hF O ae rfl hA9 (vP) (fun b10 w11 a hb10 hF hA12=>hK _ _ ?_))
 refine vR hF<|vX O<|vE hK1<|wQ fun K2 hK2=>wT fun K3 hK3=>vV O (yZ (new:= .int .i64 i.ct::dc i.ch) rfl hA12.q O 1 O BN hde) fun a hF=>?_
 refine au O (fun K hK=>ax hF O ae Nj rfl rfl ?_)
 with_reducible refine (kE w0 _ ([row b10 37 [.pointer none,.slice none 0 0]]::[row b7 27 (.int .i64 i.ct::dc i.ch)]::[row b4 25 (dc i.k)]::[row b1 37 [.pointer none,.slice none 0 0]]::R) i.ct i.ch hA12).mono ?_
 rintro e' w13 ⟨rfl,hA14⟩
 refine ⟨_,rfl,fun a hF=>hK _ _ ?_⟩
 replace hA14:Hp w0 ([row b10 37 [.pointer none,.slice none 0 0]]::[row b7 27 (.int .i64 i.ct::dc i.ch)]::[row b4 25 (dc i.k)]::[row b1 37 [.pointer none,.slice none 0 0]]::R) w13:=hA14
 rw [decide_eq_true hct] at hF
 refine vR hF<|vV O (eU O O O)<|vE hK3<|vF1 O<|wKp hK2<|wT fun K4 hK4=>vV O (yf 1 O Ul O rC O)<|vV O (aX O hA14.q O 3 O O rQ) fun a hF=>?_
 refine au O (fun K hK=>ax hF O ae sV rfl rfl ?_)
 with_reducible refine (La w0 _ ([row b10 37 [.pointer none,.slice none 0 0]]::[row b7 27 (.int .i64 i.ct::dc i.ch)]::[row b4 25 (dc i.k)]::[row b1 37 [.pointer none,.slice none 0 0]]::R) 32 32 ae hT hA14).mono ?_
 rintro e' w15 ⟨gs,wb,A,c,X,rfl,hRc,hcb,hA16⟩
 refine ⟨_,rfl,fun a hF=>hK _ _ ?_⟩
 replace hA16:Hp w0 ([row gs 95 [.int .i64 32,.slice A 257 c,.func (.func 60) #[] #[.pointer (some ⟨wb,0,none⟩)]]]::[row wb 3 [.int .i64 32]]::X::[row b10 37 [.pointer none,.slice none 0 0]]::[row b7 27 (.int .i64 i.ct::dc i.ch)]::[row b4 25 (dc i.k)]::[row b1 37 [.pointer none,.slice none 0 0]]::R) w15:=hA16
 refine vR hF<|vX O<|vE hK4<|wQ fun K5 hK5 a hF=>?_
 refine ak 11 [5,11,12] [0,1,2,3,4,6,7,8,9,5,10,11,12] _ af af (Hq.drew hA16.q) ?_
 have hA17:=Hl.drew hA16
 refine pR hF<|pW O O (fun _=>yf 0 O Ul O Oo O)<|pV O O (fun x hx=>aX O hx O 6 O O Pi)<|pV O O (fun x hx=>yZ (new:=dc i.k) rfl hx O 5 O vw hdk)<|pV O O (fun x hx=>yZ (new:= .int .i64 i.ct::dc i.ch) rfl hx O 4 O BN hde)<|pX O O<|pX O O<|pX O O<|pW O O (fun _=>yf 1 O Uk O rC O)<|pV O O (fun x hx=>aX O hx O 0 O O rQ) fun a hF=>?_
 refine bM O O O (fun K hK=>ax hF O ae sU rfl rfl ?_)
 with_reducible refine (Gf w0 _ ([row gs 95 [.int .i64 32,.slice A 257 c,.func (.func 60) #[] #[.pointer (some ⟨wb,0,none⟩)]]]::[row wb 3 [.int .i64 32]]::X::[row b10 37 [.pointer none,.slice none 0 0]]::[row b7 27 (.int .i64 i.ct::dc i.ch)]::[row b4 25 (dc i.k)]::[row b1 37 [.pointer none,.slice none 0 0]]::R) i hi _ hA17).mono ?_
 rintro e' w18 ⟨gn,rfl,hA19⟩
 refine ⟨_,rfl,fun a hF=>hK _ _ (fun _=>?_) ?_⟩
 ·exact (qT hA19)
 refine pR hF<|pW O O (fun _=>dS (qs := #[(0,.pointer (some ⟨gn,0,none⟩)),(1,.slice A 257 c)]) O O (yV _ _ _)) fun a hF=>?_
 refine bM O O O (fun K hK=>aI (new:=[.pointer (some ⟨gn,0,none⟩),.slice A 257 c]) hF O O hA19 O O 4 O O (by simp [Value.oneCell']) wC (fun w20 hA21=>hK _ _ (fun h=>absurd h ae) ?_))
 replace hA21:Hp w0 ([row gn 117 (aU i)]::[row gs 95 [.int .i64 32,.slice A 257 c,.func (.func 60) #[] #[.pointer (some ⟨wb,0,none⟩)]]]::[row wb 3 [.int .i64 32]]::X::[row b10 37 [.pointer (some ⟨gn,0,none⟩),.slice A 257 c]]::[row b7 27 (.int .i64 i.ct::dc i.ch)]::[row b4 25 (dc i.k)]::[row b1 37 [.pointer none,.slice none 0 0]]::R) w20:=hA21
 refine bY hF O O O O ae _ (bJ O O) (fun h=>absurd h ae) (fun a hF=>?_)
 refine aB ?_
 refine hK5 _ _ ?_
 apply wp_ret
 refine iM hF Tryz.results30 hA21.q O O 4 O wP ?_
 have hA22:Hp w0 ([row gn 117 (aU i)]::X::R) w20:=hpS 8 [0,3] [1,2,4,5,6,7] hA21 rfl
 exact ⟨gn,A,c,X,rfl,hRc,hcb,hA22⟩
theorem KT (w0 w:World) (R G:List Seg) (hG:G⊆R) (t:Rx) (hg:t.Good) (gn:Nat) (hTr:Tr w0 G true t gn) (hsz:t.size≤100000) (ad:Addr) (c:Nat) (hcb:257≤c) (hRc:Rc w0 G (some ad) (dM (aK 32) 257)) (i:Itm) (hi:i.OK) (hct:1≤i.ct∧i.ct≤1099511627776) (hT:Tab w0) (hA:Hp w0 R w):Calls Tryz.prog 30 #[.agg ([.pointer (some ⟨gn,0,none⟩),.slice (some ad) 257 c]:List Value).toArray,.agg (dc i.k).toArray,.agg (.int .i64 i.ct::dc i.ch).toArray] w fun e w'=>∃ top sl X,e= .returned (.tuple #[.agg ([top,sl]:List Value).toArray,.int .i64 0])∧TV w0 (X::G) (insL i t.items) top sl∧Hp w0 (X::R) w':=by
 have hdk:(dc i.k).length=32:=by rw [aj,hi.k]
 have hde:(Value.int .i64 i.ct::dc i.ch).length=33:=by rw [List.length_cons,aj,hi.ch]
 refine aJ Tryz.func30 O Tryz.ntmps30 ai (fun a hF=>?_)
 refine wp_seq_k fun K1 hK1=>wp_region_lit ?_
 refine au O (fun K hK=>bC (cs:=[.pointer (some ⟨gn,0,none⟩),.slice (some ad) 257 c]) hF O ae rfl hA O (fun b1 w2 a hb1 hF hA3=>hK _ _ ?_))
 refine au O (fun K hK=>bC (cs:=dc i.k) hF O ae rfl hA3 O (fun b4 w5 a hb4 hF hA6=>hK _ _ ?_))
 refine au O (fun K hK=>bC (cs:= .int .i64 i.ct::dc i.ch) hF O ae rfl hA6 O (fun b7 w8 a hb7 hF hA9=>hK _ _ ?_))
 refine au O (fun K hK=>bG hF O ae rfl hA9 (vP) (fun b10 w11 a hb10 hF hA12=>hK _ _ ?_))
 refine vR hF<|vX O<|vE hK1<|wQ fun K2 hK2=>wT fun K3 hK3=>vV O (yZ (new:= .int .i64 i.ct::dc i.ch) rfl hA12.q O 1 O BN hde) fun a hF=>?_
 refine au O (fun K hK=>ax hF O ae Nj rfl rfl ?_)
 with_reducible refine (kE w0 _ ([row b10 37 [.pointer none,.slice none 0 0]]::[row b7 27 (.int .i64 i.ct::dc i.ch)]::[row b4 25 (dc i.k)]::[row b1 37 [.pointer (some ⟨gn,0,none⟩),.slice (some ad) 257 c]]::R) i.ct i.ch hA12).mono ?_
 rintro e' w13 ⟨rfl,hA14⟩
 refine ⟨_,rfl,fun a hF=>hK _ _ ?_⟩
 replace hA14:Hp w0 ([row b10 37 [.pointer none,.slice none 0 0]]::[row b7 27 (.int .i64 i.ct::dc i.ch)]::[row b4 25 (dc i.k)]::[row b1 37 [.pointer (some ⟨gn,0,none⟩),.slice (some ad) 257 c]]::R) w13:=hA14
 rw [decide_eq_true hct] at hF
 refine vR hF<|vV O (eU O O O)<|vE hK3<|vF1 O<|wKp hK2<|wT fun K4 hK4=>vV O (yf 1 O Ul O rC O)<|vV O (aX O hA14.q O 3 O O rQ) fun a hF=>?_
 refine au O (fun K hK=>ax hF O ae sV rfl rfl ?_)
 with_reducible refine (EG w0 _ ([row b10 37 [.pointer none,.slice none 0 0]]::[row b7 27 (.int .i64 i.ct::dc i.ch)]::[row b4 25 (dc i.k)]::[row b1 37 [.pointer (some ⟨gn,0,none⟩),.slice (some ad) 257 c]]::R) G 32 ad c hcb hRc hT hA14).mono ?_
 rintro e' w15 ⟨gs,SX,rfl,hSm2,hA16⟩
 refine ⟨_,rfl,fun a hF=>hK _ _ ?_⟩
 replace hA16:Hp w0 (SX::[row b10 37 [.pointer none,.slice none 0 0]]::[row b7 27 (.int .i64 i.ct::dc i.ch)]::[row b4 25 (dc i.k)]::[row b1 37 [.pointer (some ⟨gn,0,none⟩),.slice (some ad) 257 c]]::R) w15:=hA16
 rw [show min (max (32:Int) 1) 32=32 from rfl] at hSm2
 have hSm:=hSm2.sm
 obtain ⟨AE,cE,wb,hs1,hs2,hs3,hcE⟩:=id hSm2
 obtain ⟨be_,qe,hAE,_⟩:=hs3.ne (i:=0) (by rw [jT _ _ (fun i _=>bZ _ _)]; decide)
 refine vR hF<|vX O<|vE hK4<|wQ fun K5 hK5 a hF=>?_
 refine ak 11 [5,11,12] [0,1,2,3,4,6,7,8,9,5,10,11,12] _ af af (Hq.drew hA16.q) ?_
 have hA17:=Hl.drew hA16
 refine pR hF<|pW O O (fun _=>yf 0 O Ul O Oo O)<|pV O O (fun x hx=>aX O hx O 4 O O Pi)<|pV O O (fun x hx=>yZ (new:=dc i.k) rfl hx O 3 O vw hdk)<|pV O O (fun x hx=>yZ (new:= .int .i64 i.ct::dc i.ch) rfl hx O 2 O BN hde)<|pX O O<|pX O O<|pX O O<|pW O O (fun _=>yf 1 O Uk O rC O)<|pV O O (fun x hx=>bD O (Hq.sub hx (dR ((TF ..)) (List.Subset.trans hG (aA (aA (aA (aA (aA (bu))))))))) O hs1 1 (by simp) rfl rfl rQ) fun a hF=>?_
 refine bM O O O (fun K hK=>ax hF O ae sU rfl rfl ?_)
 with_reducible refine (zY w0 i hi hT t hg hsz _ (SX::[row b10 37 [.pointer none,.slice none 0 0]]::[row b7 27 (.int .i64 i.ct::dc i.ch)]::[row b4 25 (dc i.k)]::[row b1 37 [.pointer (some ⟨gn,0,none⟩),.slice (some ad) 257 c]]::R) (SX::G) (dR ((TF ..)) (List.Subset.trans hG (aA (aA (aA (aA (aA (bu)))))))) gs gn hSm (hTr.mono (List.subset_cons_of_subset _ (List.Subset.refl _))) hA17).mono ?_
 rintro e' w18 ⟨g2,X,rfl,hT2,hA19⟩
 refine ⟨_,rfl,fun a hF=>hK _ _ (fun _=>?_) ?_⟩
 ·exact (qT hA19)
 refine pR hF<|pW O O (fun _=>dS (qs := #[(0,.pointer (some ⟨g2,0,none⟩)),(1,.slice AE 257 cE)]) O O (yV _ _ _)) fun a hF=>?_
 refine bM O O O (fun K hK=>aI (new:=[.pointer (some ⟨g2,0,none⟩),.slice AE 257 cE]) hF O O hA19 O O 2 O O (by simp [Value.oneCell']) wC (fun w20 hA21=>hK _ _ (fun h=>absurd h ae) ?_))
 replace hA21:Hp w0 (X::SX::[row b10 37 [.pointer (some ⟨g2,0,none⟩),.slice AE 257 cE]]::[row b7 27 (.int .i64 i.ct::dc i.ch)]::[row b4 25 (dc i.k)]::[row b1 37 [.pointer (some ⟨gn,0,none⟩),.slice (some ad) 257 c]]::R) w20:=hA21
 refine bY hF O O O O ae _ (bJ O O) (fun h=>absurd h ae) (fun a hF=>?_)
 refine aB ?_
 refine hK5 _ _ ?_
 apply wp_ret
 refine iM hF Tryz.results30 hA21.q O O 2 O wP ?_
 have hA22:Hp w0 (X::SX::R) w20:=hpS 6 [0,1] [2,3,4,5] hA21 rfl
 have hmo:(X::SX::G).flatten⊆((X++SX)::G).flatten:=fun r hr=>by
  simp only [List.flatten_cons,List.append_assoc] at hr ⊢; exact hr
 have hup:(SX::G).flatten⊆((X++SX)::G).flatten:=zy
 exact ⟨_,_,X++SX,rfl,.inr ⟨t.ins i,g2,⟨be_,qe,none⟩,cE,(Rx.ins_good hi hg).2.1,(Rx.ins_good hi hg).1,rfl,by rw [hAE],hT2.monoF hmo,by rw [← hAE]; exact hs3.monoF hup,hcE⟩,Hp.join hA22⟩
theorem KR (w0 w:World) (R:List Seg) (top sl:Value) (i:Itm) (hi:i.OK) (hct:¬ (1≤i.ct∧i.ct≤1099511627776)) (hA:Hp w0 R w):Calls Tryz.prog 30 #[.agg ([top,sl]:List Value).toArray,.agg (dc i.k).toArray,.agg (.int .i64 i.ct::dc i.ch).toArray] w fun e w'=>e= .returned (.tuple #[.agg ([.pointer none,.slice none 0 0]:List Value).toArray,.int .i64 8])∧Hp w0 R w':=by
 have hdk:(dc i.k).length=32:=by rw [aj,hi.k]
 have hde:(Value.int .i64 i.ct::dc i.ch).length=33:=by rw [List.length_cons,aj,hi.ch]
 refine aJ Tryz.func30 O Tryz.ntmps30 ai (fun a hF=>?_)
 refine wp_seq_k fun K1 hK1=>wp_region_lit ?_
 refine au O (fun K hK=>bC (cs:=[top,sl]) hF O ae rfl hA O (fun b1 w2 a hb1 hF hA3=>hK _ _ ?_))
 refine au O (fun K hK=>bC (cs:=dc i.k) hF O ae rfl hA3 O (fun b4 w5 a hb4 hF hA6=>hK _ _ ?_))
 refine au O (fun K hK=>bC (cs:= .int .i64 i.ct::dc i.ch) hF O ae rfl hA6 O (fun b7 w8 a hb7 hF hA9=>hK _ _ ?_))
 refine au O (fun K hK=>bG hF O ae rfl hA9 (vP) (fun b10 w11 a hb10 hF hA12=>hK _ _ ?_))
 refine vR hF<|vX O<|vE hK1<|wQ fun K2 hK2=>wT fun K3 hK3=>vV O (yZ (new:= .int .i64 i.ct::dc i.ch) rfl hA12.q O 1 O BN hde) fun a hF=>?_
 refine au O (fun K hK=>ax hF O ae Nj rfl rfl ?_)
 with_reducible refine (kE w0 _ ([row b10 37 [.pointer none,.slice none 0 0]]::[row b7 27 (.int .i64 i.ct::dc i.ch)]::[row b4 25 (dc i.k)]::[row b1 37 [top,sl]]::R) i.ct i.ch hA12).mono ?_
 rintro e' w13 ⟨rfl,hA14⟩
 refine ⟨_,rfl,fun a hF=>hK _ _ ?_⟩
 replace hA14:Hp w0 ([row b10 37 [.pointer none,.slice none 0 0]]::[row b7 27 (.int .i64 i.ct::dc i.ch)]::[row b4 25 (dc i.k)]::[row b1 37 [top,sl]]::R) w13:=hA14
 rw [decide_eq_false hct] at hF
 refine vR hF<|vV O (eU O O O)<|vE hK3<|vT1 O<|wT fun K4 hK4=>vV O (dS (qs := #[]) O O wV) fun a hF=>?_
 refine au O (fun K hK=>aI (new:=[.pointer none,.slice none 0 0]) hF O O hA14 O O 0 O O (by simp [Value.oneCell']) wC (fun w15 hA16=>hK _ _ ?_))
 replace hA16:Hp w0 ([row b10 37 [.pointer none,.slice none 0 0]]::[row b7 27 (.int .i64 i.ct::dc i.ch)]::[row b4 25 (dc i.k)]::[row b1 37 [top,sl]]::R) w15:=hA16
 refine vR hF<|vX O<|vE hK4 fun a hF=>?_
 apply wp_ret
 simp only [Exit.then]
 refine iM hF Tryz.results30 hA16.q O O 0 O wP ?_
 have hA17:Hp w0 (R) w15:=hpS 4 [] [0,1,2,3] hA16 rfl
 exact ⟨rfl,hA17⟩
theorem Rl (w0 w:World) (R G:List Seg) (hG:G⊆R) (L:List Itm) (top sl:Value) (h:TV w0 G L top sl) (hA:Hp w0 R w):Calls Tryz.prog 29 #[.agg ([top,sl]:List Value).toArray] w fun e w'=>e= .returned (.int .i64 ((L.length:Nat):Int))∧Hp w0 R w':=by
 rcases h with ⟨rfl,rfl,rfl⟩ | ⟨t,g,ad,c,rfl,hg,rfl,rfl,hTr,hRc,hcb⟩
 ·exact OI w0 w R hA
 ·rw [← t.size_eq]; exact OT w0 w R G hG t hg g hTr _ hA
theorem OO (w0 w:World) (R G:List Seg) (hG:G⊆R) (L:List Itm) (top sl:Value) (h:TV w0 G L top sl) (width:Int) (hT:Tab w0) (hA:Hp w0 R w):Calls Tryz.prog 32 #[.agg ([top,sl]:List Value).toArray,.int .i64 width] w fun e w'=>e= .returned (.agg (dc (dQ width 256 L)).toArray)∧Hp w0 R w':=by
 rcases h with ⟨rfl,rfl,rfl⟩ | ⟨t,g,ad,c,rfl,hg,rfl,rfl,hTr,hRc,hcb⟩
 ·exact KX w0 w R width hT hA
 ·exact KW w0 w R G hG t hg g hTr ad c hcb hRc width hT hA
theorem OM (w0 w:World) (R G:List Seg) (hG:G⊆R) (L:List Itm) (top sl:Value) (h:TV w0 G L top sl) (hsz:L.length≤100000) (i:Itm) (hi:i.OK) (hct:okC i=true) (hT:Tab w0) (hA:Hp w0 R w):Calls Tryz.prog 30 #[.agg ([top,sl]:List Value).toArray,.agg (dc i.k).toArray,.agg (.int .i64 i.ct::dc i.ch).toArray] w fun e w'=>∃ top2 sl2 X,e= .returned (.tuple #[.agg ([top2,sl2]:List Value).toArray,.int .i64 0])∧TV w0 (X::G) (insL i L) top2 sl2∧Hp w0 (X::R) w':=by
 have hc:=of_decide_eq_true hct
 rcases h with ⟨rfl,rfl,rfl⟩ | ⟨t,g,ad,c,rfl,hg,rfl,rfl,hTr,hRc,hcb⟩
 ·refine (KU w0 w R i hi hc hT hA).mono ?_
  rintro e w' ⟨gn,A,c,X,rfl,hRc,hcb,hA2⟩
  obtain ⟨be_,qe,hAE,_⟩:=hRc.ne (i:=0) (by rw [jT _ _ (fun i _=>bZ _ _)]; decide)
  subst hAE
  refine ⟨_,_,[row gn 117 (aU i)]++X,rfl,.inr ⟨.leaf i,gn,⟨be_,qe,none⟩,c,rfl,hi,rfl,rfl,Rw.ofMem (TF ..) (TF ..),hRc.monoF (fun r hr=>?_),hcb⟩,Hp.join hA2⟩
  rw [List.flatten_cons,List.flatten_nil,List.append_nil] at hr
  rw [List.flatten_cons]
  exact TD _ (TE _ hr)
 ·exact KT w0 w R G hG t hg g hTr (by rw [t.size_eq]; exact hsz) ad c hcb hRc i hi hc hT hA
theorem zB (f:Nat→List UInt8) (n:Nat):∀ v∈dM f n,v.oneCell'=true:=fun v hv=>by
 rw [kY] at hv
 unfold cel at hv
 obtain ⟨W,h1,h2⟩:=List.mem_flatten.1 hv
 obtain ⟨l,_,rfl⟩:=List.mem_map.1 h1
 exact bz _ v h2
theorem EF (w0 w:World) (R G:List Seg) (hG:G⊆R) (k:List UInt8) (hk:k.length=32) (gs:Nat) (width:Int) (hSm2:Sm2 w0 G 60 gs width) (hA:Hp w0 R w):Calls Tryz.prog 38 #[.agg ([.pointer none,.slice none 0 0]:List Value).toArray,.pointer (some ⟨gs,0,none⟩),.agg (dc k).toArray] w fun e w'=>∃ v X,e= .returned v∧Buf 25 32 X v 256 (dM (nbr width k []) 256)∧Hp w0 (X::R) w':=by
 have hSm:=hSm2.sm
 obtain ⟨AE,cE,wb,hs1,hs2,hs3,hcE⟩:=hSm2
 have hdk:(dc k).length=32:=by rw [aj,hk]
 have hdle:=bZ width
 have hwl:(dM (aK width) 257).length=257*32:=jT _ _ (fun i _=>hdle i)
 have hw6:(dM (aK width) 256).length=256*32:=jT _ _ (fun i _=>hdle i)
 have hcut:(dM (aK width) 257).take (256*32)=dM (aK width) 256:=by
  rw [kJ,List.take_left' hw6]
 have hs4:Rc w0 G AE (dM (aK width) 256):=by rw [← hcut]; exact hs3.take _
 refine aJ Tryz.func38 O Tryz.ntmps38 ai (fun a hF=>?_)
 refine wp_seq_k fun K1 hK1=>wp_region_lit ?_
 refine au O (fun K hK=>bC (cs:=[.pointer none,.slice none 0 0]) hF O ae rfl hA O (fun b1 w2 a hb1 hF hA3=>hK _ _ ?_))
 refine au O (fun K hK=>bC (cs:=dc k) hF O ae rfl hA3 O (fun b4 w5 a hb4 hF hA6=>hK _ _ ?_))
 refine vR hF<|vX O<|vE hK1<|wT fun K2 hK2=>vX O<|vX O<|vV O (yf 1 O Uk O rC O)<|vV O (bD O (Hq.sub hA6.q (List.Subset.trans hG (aA (aA (bu))))) O hs1 1 (by simp) rfl rfl rQ)<|vV O (ed (v:= .slice AE 256 cE) rfl Tu uX O (.none 0) (.some rfl rfl) (Tv _) (show 256≤cE by omega) dU) fun a hF=>?_
 have hnl:Hp w0 ([]::[row b4 25 (dc k)]::[row b1 37 [.pointer none,.slice none 0 0]]::R) w5:=hA6
 refine au O (fun K hK=>dI hF O ae rfl hnl 0 O (Buf.nil 25 32) Tu oh rfl rfl (Rc.srcC (W:=dM (aK width) 256) (m:=256) (size:=32) (R:=G) hs4 (Hq.sub hnl.q (List.Subset.trans hG (aA (aA (aA (bu)))))) Tu ae hw6 (zB _ _)) ag ae (fun lv XL w7 a hB hF hA8=>hK _ _ ?_))
 replace hA8:Hp w0 (XL::[row b4 25 (dc k)]::[row b1 37 [.pointer none,.slice none 0 0]]::R) w7:=hA8
 rw [Nat.zero_add,List.nil_append] at hB
 refine vR hF<|vX O<|vE hK2<|wQ fun K3 hK3=>wT fun K4 hK4=>vV O (yf 0 O Ul O Oo O)<|vV O (aX O hA8.q O 2 O O Pi)<|vX O<|vE hK4<|wBk fun a hF=>?_
 have hA9:Hp w0 (XL::[row b4 25 (dc k)]::R) w7:=hpS 3 [0,1] [2] hA8 rfl
 refine bQ (G:=Unit) (fun u a x=>True∧Fr 72 [(8,.pointer none),(7,lv),(3,.pointer (some ⟨b1,0,none⟩)),(5,.pointer (some ⟨b4,0,none⟩)),(1,.pointer (some ⟨gs,0,none⟩))] a∧Hp w0 (XL::[row b4 25 (dc k)]::R) x) (fun u=>0) () (⟨trivial,hF.keep [8,7,3,5,1] rfl,hA9⟩) ?_
 clear hF
 rintro u a w11 ⟨_,hF,hA10⟩
 apply wp_seq_k; intro K5 hK5
 refine wS hF fun K6 hK6=>vX O<|vV O (jF O af rfl rfl)<|vE hK6<|vF1 O fun a hF=>?_
 apply wp_exit
 refine hK3 _ _ ?_
 refine wS hF fun K7 hK7=>vX O<|vX O<|vE hK7 fun a hF=>?_
 apply wp_ret
 refine aO hF Tryz.results38 O ?_
 have hA12:Hp w0 (XL::R) w11:=hpS 2 [0] [1] hA10 rfl
 rw [oK (f:=aK width) (g:=nbr width k []) (BInv.empty width k)] at hB
 exact ⟨lv,_,rfl,hB,hA12⟩
theorem EE (w0 w:World) (R G:List Seg) (hG:G⊆R) (t:Rx) (hg:t.Good) (gn:Nat) (hTr:Tr w0 G true t gn) (ad:Addr) (c:Nat) (hcb:257≤c) (hRc:Rc w0 G (some ad) (dM (aK 32) 257)) (k:List UInt8) (hk:k.length=32) (gs:Nat) (width:Int) (hSm2:Sm2 w0 G 60 gs width) (hT:Tab w0) (hA:Hp w0 R w):Calls Tryz.prog 38 #[.agg ([.pointer (some ⟨gn,0,none⟩),.slice (some ad) 257 c]:List Value).toArray,.pointer (some ⟨gs,0,none⟩),.agg (dc k).toArray] w fun e w'=>∃ v X,e= .returned v∧Buf 25 32 X v 256 (dM (nbr width k t.items) 256)∧Hp w0 (X::R) w':=by
 have hSm:=hSm2.sm
 obtain ⟨AE,cE,wb,hs1,hs2,hs3,hcE⟩:=hSm2
 have hdk:(dc k).length=32:=by rw [aj,hk]
 have hdle:=bZ width
 have hwl:(dM (aK width) 257).length=257*32:=jT _ _ (fun i _=>hdle i)
 have hw6:(dM (aK width) 256).length=256*32:=jT _ _ (fun i _=>hdle i)
 have hcut:(dM (aK width) 257).take (256*32)=dM (aK width) 256:=by
  rw [kJ,List.take_left' hw6]
 have hs4:Rc w0 G AE (dM (aK width) 256):=by rw [← hcut]; exact hs3.take _
 refine aJ Tryz.func38 O Tryz.ntmps38 ai (fun a hF=>?_)
 refine wp_seq_k fun K1 hK1=>wp_region_lit ?_
 refine au O (fun K hK=>bC (cs:=[.pointer (some ⟨gn,0,none⟩),.slice (some ad) 257 c]) hF O ae rfl hA O (fun b1 w2 a hb1 hF hA3=>hK _ _ ?_))
 refine au O (fun K hK=>bC (cs:=dc k) hF O ae rfl hA3 O (fun b4 w5 a hb4 hF hA6=>hK _ _ ?_))
 refine vR hF<|vX O<|vE hK1<|wT fun K2 hK2=>vX O<|vX O<|vV O (yf 1 O Uk O rC O)<|vV O (bD O (Hq.sub hA6.q (List.Subset.trans hG (aA (aA (bu))))) O hs1 1 (by simp) rfl rfl rQ)<|vV O (ed (v:= .slice AE 256 cE) rfl Tu uX O (.none 0) (.some rfl rfl) (Tv _) (show 256≤cE by omega) dU) fun a hF=>?_
 have hnl:Hp w0 ([]::[row b4 25 (dc k)]::[row b1 37 [.pointer (some ⟨gn,0,none⟩),.slice (some ad) 257 c]]::R) w5:=hA6
 refine au O (fun K hK=>dI hF O ae rfl hnl 0 O (Buf.nil 25 32) Tu oh rfl rfl (Rc.srcC (W:=dM (aK width) 256) (m:=256) (size:=32) (R:=G) hs4 (Hq.sub hnl.q (List.Subset.trans hG (aA (aA (aA (bu)))))) Tu ae hw6 (zB _ _)) ag ae (fun lv XL w7 a hB hF hA8=>hK _ _ ?_))
 replace hA8:Hp w0 (XL::[row b4 25 (dc k)]::[row b1 37 [.pointer (some ⟨gn,0,none⟩),.slice (some ad) 257 c]]::R) w7:=hA8
 rw [Nat.zero_add,List.nil_append] at hB
 refine vR hF<|vX O<|vE hK2<|wQ fun K3 hK3=>wT fun K4 hK4=>vV O (yf 0 O Ul O Oo O)<|vV O (aX O hA8.q O 2 O O Pi)<|vX O<|vE hK4<|wBk fun a hF=>?_
 have hA9:Hp w0 (XL::[row b4 25 (dc k)]::R) w7:=hpS 3 [0,1] [2] hA8 rfl
 refine bQ (G:=Rx × Nat × (Nat→List UInt8)) (fun gh a x=>∃ (X:Seg),gh.1.Good∧Tr w0 G true gh.1 gh.2.1∧BInv width k t.items gh.1 gh.2.2∧(∀ h,(gh.2.2 h).length=32)∧Buf 25 32 X lv 256 (dM gh.2.2 256)∧Fr 72 [(8,.pointer (some ⟨gh.2.1,0,none⟩)),(7,lv),(3,.pointer (some ⟨b1,0,none⟩)),(5,.pointer (some ⟨b4,0,none⟩)),(1,.pointer (some ⟨gs,0,none⟩))] a∧Hp w0 (X::[row b4 25 (dc k)]::R) x) (fun gh=>gh.1.size) (t,gn,aK width) (⟨_,hg,hTr,BInv.top width k t,hdle,hB,hF.keep [8,7,3,5,1] rfl,hA9⟩) ?_
 clear hF
 rintro gh a w11 ⟨X,hgi,hTi,hBI,hfl,hB,hF,hA10⟩
 obtain ⟨t',g',f⟩:=gh
 simp only at hgi hTi hBI hfl hB hF
 obtain ⟨E,p,p',s,hL,hN⟩:=Tr.view hgi hTi
 have hbl:=Rx.bit_le hgi
 have hkl:=hgi.key
 have hpl:=nP k t'.key
 apply wp_seq_k; intro K5 hK5
 refine wS hF fun K6 hK6=>vX O<|vV O (lF O af rfl rfl)<|vE hK6<|vT1 O<|wKp hK5<|wBk<|wQ fun K7 hK7 a hF=>?_
 refine ak 6 [5,6] [0,1,2,3,4,5,6] _ af af (Hq.drew hA10.q) ?_
 have hA12:=Hl.drew hA10
 refine pR hF<|pV O O (fun x hx=>yZ (new:=dc k) rfl hx O 1 O vw hdk)<|pX O O<|pX O O<|pW O O (fun _=>yf 0 O Uj O uX O)<|pV O O (fun x hx=>aQ O (Hq.sub hx (List.Subset.trans hG (aA (aA (bu))))) O hN 0 (by rw [aF hL]; decide) rfl (dV hL _ _ _ _) vw) fun a hF=>?_
 refine bM O O O (fun K hK=>ax hF O ae sQ rfl rfl ?_)
 with_reducible refine (o5 w0 _ (X::[row b4 25 (dc k)]::R) k t'.key hk hkl hA12).mono ?_
 rintro e' w13 ⟨rfl,hA14⟩
 refine ⟨_,rfl,fun a hF=>hK _ _ (fun _=>?_) ?_⟩
 ·exact hA14.q
 replace hA14:Hp w0 (X::[row b4 25 (dc k)]::R) w13:=hA14
 refine bY hF O O O O ae _ (bJ O O) (fun h=>absurd h ae) (fun a hF=>?_)
 refine aB ?_
 refine hK7 _ _ ?_
 apply wp_seq_k; intro K8 hK8
 refine wS hF fun K9 hK9=>vX O<|vX O<|vX O<|vV O (yf 66 rfl Uj O QY O)<|vV O (bD O (Hq.sub hA14.q (List.Subset.trans hG (aA (aA (bu))))) O hN 66 (by rw [aF hL]; decide) rfl (dA hL _ _ _ _) Bq) fun a hF=>?_
 refine vR hF<|vV O (aH O O O O O)<|vE hK9 fun a hF=>?_
 by_cases hp:bI k t'.key<t'.bit
 ·refine aZ hF O (dB ag) ?_
  have hp2:bI k t'.key<256:=by omega
  have hFn:=hF
  obtain ⟨gB,BB,ZB,cB,rfl,rfl,hWB,hiB,hB2⟩:=hB.setRow (i:=255-bI k t'.key) (V:=dc (t'.lift width (255-bI k t'.key))) ag (by rw [aj,Rx.lift_length])
  have hF:=hFn
  have hA15:Hp w0 ([row gB 25 (BB++dM f 256++ZB)]::[row b4 25 (dc k)]::R) w13:=hA14
  refine wS hF fun K10 hK10=>vX O<|vX O<|vV O (dm O O O (show IntKind.i64.wrap (255-((bI k t'.key:Nat):Int))=((255-bI k t'.key:Nat):Int) by rw [TB _ ag]; omega)) fun a hF=>?_
  refine vR hF<|vX O<|vX O<|vX O<|vV O (dm O O O (show IntKind.i64.wrap (255-((bI k t'.key:Nat):Int))=((255-bI k t'.key:Nat):Int) by rw [TB _ ag]; omega)) fun a hF=>?_
  refine au O (fun K hK=>ax hF O ae DL rfl rfl ?_)
  with_reducible refine (kN w0 _ ([row gB 25 (BB++dM f 256++ZB)]::[row b4 25 (dc k)]::R) G (List.Subset.trans hG (aA (aA (bu)))) t' hgi g' gs width (255-bI k t'.key) ag ag hSm hTi hT hA15).mono ?_
  rintro e' w16 ⟨rfl,hA17⟩
  refine ⟨_,rfl,fun a hF=>hK _ _ ?_⟩
  refine vR hF<|vV O (bi O Tu uX O O (255-bI k t'.key) rfl ag rfl) fun a hF=>?_
  refine au O (fun K hK=>dE (new:=dc (t'.lift width (255-bI k t'.key))) hF O O hA17 O O 0 O (by rw [List.length_append,List.length_append,hWB,aj,Rx.lift_length]; omega) (bz _) (by rw [aj,Rx.lift_length]; exact uX) (fun w18 hA19=>hK _ _ ?_))
  replace hA19:Hp w0 ([row gB 25 (splice (BB++dM f 256++ZB) (BB.length+(255-bI k t'.key)*32) (dc (t'.lift width (255-bI k t'.key))))]::[row b4 25 (dc k)]::R) w18:=hA19
  refine az<|hK10 _ _ ?_
  apply wp_exit
  refine hK3 _ _ ?_
  refine wS hF fun K11 hK11=>vX O<|vX O<|vE hK11 fun a hF=>?_
  apply wp_ret
  refine aO hF Tryz.results38 O ?_
  have hA20:Hp w0 ([row gB 25 (splice (BB++dM f 256++ZB) (BB.length+(255-bI k t'.key)*32) (dc (t'.lift width (255-bI k t'.key))))]::R) w18:=hpS 2 [0] [1] hA19 rfl
  have hpu:=pY (f:=f) (g:=ry f (255-bI k t'.key) (t'.lift width (255-bI k t'.key))) (n:=256) (h:=255-bI k t'.key) (fun i _=>hfl i) ag (by rw [mX,Rx.lift_length]) (fun i hi=>ru _ _ hi) []
  rw [mX,List.append_nil,List.append_nil] at hpu
  rw [hpu,oK (f:=ry f (255-bI k t'.key) (t'.lift width (255-bI k t'.key))) (g:=nbr width k t.items) (fun h hh=>BInv.out hgi hBI hp h hh)] at hB2
  exact ⟨_,_,rfl,hB2,hA20⟩
 ·refine aS hF O (dD ag) ?_
  by_cases hlf:t'.bit=256
  ·apply wp_skip
   refine hK8 _ _ ?_
   apply wp_seq_k; intro K12 hK12
   refine wS hF fun K13 hK13=>vX O<|vX O<|vV O (yf 66 rfl Uj O QY O)<|vV O (bD O (Hq.sub hA14.q (List.Subset.trans hG (aA (aA (bu))))) O hN 66 (by rw [aF hL]; decide) rfl (dA hL _ _ _ _) Bq) fun a hF=>?_
   refine vR hF<|vV O (aH O O O O (gJ ag))<|vE hK13<|vT1 O fun a hF=>?_
   obtain ⟨i,rfl⟩:=Rx.isLeaf hgi hlf
   have hp2:¬ bI k i.k<256:=hp
   apply wp_exit
   refine hK3 _ _ ?_
   refine wS hF fun K14 hK14=>vX O<|vX O<|vE hK14 fun a hF=>?_
   apply wp_ret
   refine aO hF Tryz.results38 O ?_
   have hA21:Hp w0 (X::R) w13:=hpS 2 [0] [1] hA14 rfl
   rw [oK (f:=f) (g:=nbr width k t.items) (BInv.leaf hBI hp2)] at hB
   exact ⟨lv,_,rfl,hB,hA21⟩
  ·apply wp_skip
   refine hK8 _ _ ?_
   apply wp_seq_k; intro K15 hK15
   refine wS hF fun K16 hK16=>vX O<|vX O<|vV O (yf 66 rfl Uj O QY O)<|vV O (bD O (Hq.sub hA14.q (List.Subset.trans hG (aA (aA (bu))))) O hN 66 (by rw [aF hL]; decide) rfl (dA hL _ _ _ _) Bq) fun a hF=>?_
   refine vR hF<|vV O (aH O O O O (fJ ag))<|vE hK16<|vF1 O fun a hF=>?_
   obtain ⟨b,l,r,rfl⟩:=Rx.isFork hlf
   have hb:b<256:=by have:(Rx.fork b l r).bit=b:=rfl; omega
   have hp2:¬ bI k l.key<b:=hp
   obtain ⟨hL,gl,gr,hN,hTl,hTr2⟩:=Tr.viewF hgi hTi
   have hg1:=hgi.1
   have hg2:=hgi.2.1
   have hsl:=l.size_pos
   have hsr:=r.size_pos
   by_cases hkb:bK k b=0
   ·have hFn:=hF
    obtain ⟨gB,BB,ZB,cB,rfl,rfl,hWB,hiB,hB2⟩:=hB.setRow (i:=255-b) (V:=dc (r.lift width (255-b))) ag (by rw [aj,Rx.lift_length])
    have hF:=hFn
    have hA22:Hp w0 ([row gB 25 (BB++dM f 256++ZB)]::[row b4 25 (dc k)]::R) w13:=hA14
    apply wp_skip
    refine hK15 _ _ ?_
    apply wp_seq_k; intro K17 hK17
    refine ak 6 [5,6] [0,1,2,3,4,5,6] _ af af (Hq.drew hA22.q) ?_
    have hA23:=Hl.drew hA22
    refine pR hF<|pV O O (fun x hx=>yZ (new:=dc k) rfl hx O 1 O vw hdk)<|pX O O<|pX O O<|pW O O (fun _=>yf 66 rfl Uj O QY O)<|pV O O (fun x hx=>bD O (Hq.sub hx (List.Subset.trans hG (aA (aA (bu))))) O hN 66 (by rw [aF hL]; decide) rfl (dA hL _ _ _ _) Bq) fun a hF=>?_
    refine bM O O O (fun K hK=>ax hF O ae GV rfl rfl ?_)
    with_reducible refine (gQ (w0:=w0) (R:=([row gB 25 (BB++dM f 256++ZB)]::[row b4 25 (dc k)]::R)) (z:=0) hkb hk hb hA23).mono ?_
    rintro e' w24 ⟨rfl,hA25⟩
    refine ⟨_,rfl,fun a hF=>hK _ _ (fun _=>?_) ?_⟩
    ·exact hA25.q
    replace hA25:Hp w0 ([row gB 25 (BB++dM f 256++ZB)]::[row b4 25 (dc k)]::R) w24:=hA25
    rw [show ((0:Nat):Int)=0 from rfl] at hF
    refine bY hF O O O O ae _ (bJ O O) (fun h=>absurd h ae) (fun a hF=>?_)
    refine aB ?_
    refine hK17 _ _ ?_
    apply wp_seq_k; intro K18 hK18
    refine ak 12 [10,12] [0,1,2,3,4,5,6,7,8,9,10,11,12] _ af af (Hq.drew hA25.q) ?_
    have hA26:=Hl.drew hA25
    refine pR hF<|pX O O<|pX O O<|pX O O<|pW O O (fun _=>yf 66 rfl Uj O QY O)<|pV O O (fun x hx=>bD O (Hq.sub hx (List.Subset.trans hG (aA (aA (bu))))) O hN 66 (by rw [aF hL]; decide) rfl (dA hL _ _ _ _) Bq) fun a hF=>?_
    refine pR hF<|pW O O (fun _=>dm O O O (show IntKind.i64.wrap (255-((b:Nat):Int))=((255-b:Nat):Int) by rw [TB _ ag]; omega)) fun a hF=>?_
    refine pR hF<|pX O O<|pX O O<|pX O O<|pW O O (fun _=>dm O O O (show IntKind.i64.wrap (1-(0:Int))=1 by decide)) fun a hF=>?_
    refine bM O O O (fun K hK=>ax hF O ae DI rfl rfl ?_)
    with_reducible refine (BR w0 _ ([row gB 25 (BB++dM f 256++ZB)]::[row b4 25 (dc k)]::R) G (List.Subset.trans hG (aA (aA (bu)))) b l r hgi g' gs width (wY w0 width hT r hg2) hSm hTi hT hA26).mono ?_
    rintro e' w27 ⟨rfl,hA28⟩
    refine ⟨_,rfl,fun a hF=>hK _ _ (fun _=>?_) ?_⟩
    ·exact hA28.q
    refine pR hF<|pW O O (fun _=>bi O Tu uX O O (255-b) rfl ag rfl) fun a hF=>?_
    refine bM O O O (fun K hK=>dE (new:=dc (r.lift width (255-b))) hF O O hA28 O O 0 O (by rw [List.length_append,List.length_append,hWB,aj,Rx.lift_length]; omega) (bz _) (by rw [aj,Rx.lift_length]; exact uX) (fun w29 hA30=>hK _ _ (fun h=>absurd h ae) ?_))
    replace hA30:Hp w0 ([row gB 25 (splice (BB++dM f 256++ZB) (BB.length+(255-b)*32) (dc (r.lift width (255-b))))]::[row b4 25 (dc k)]::R) w29:=hA30
    refine aB ?_
    refine hK18 _ _ ?_
    refine wp_region_lit ?_
    refine vR hF<|vX O<|vX O<|vX O<|vV O (yf 67 rfl Uj O pF O)<|vV O (aP O Um Oo O O 0 O ae (rfl:(⟨_,67+0*1,none⟩:Addr)=⟨_,67,none⟩) (rfl:(none:Option Nat)=none))<|vV O (bD O (Hq.sub hA30.q (List.Subset.trans hG (aA (aA (bu))))) O hN 67 (by rw [aF hL]; decide) rfl (eX hL _ _ _ _) Pi) fun a hF=>?_
    refine vR hF<|vX O fun a hF=>?_
    refine az ?_
    have hpu:=pY (f:=f) (g:=ry f (255-b) (r.lift width (255-b))) (n:=256) (h:=255-b) (fun i _=>hfl i) ag (by rw [mX,Rx.lift_length]) (fun i hi=>ru _ _ hi) []
    rw [mX,List.append_nil,List.append_nil] at hpu
    rw [hpu] at hB2
    have hmm:l.size<(Rx.fork b l r).size:=by show _<l.size+r.size; omega
    exact ⟨(l,gl,ry f (255-b) (r.lift width (255-b))),hmm,_,hg1,hTl,BInv.side hgi hBI hp2 (.inl ⟨hkb,rfl,rfl⟩),(fun h=>by show (ry f _ _ h).length=32; unfold ry; split; exact Rx.lift_length ..; exact hfl h),hB2,hF.keep [8,7,3,5,1] rfl,hA30⟩
   ·have hkb1:bK k b=1:=by have:=iT k b; omega
    have hFn:=hF
    obtain ⟨gB,BB,ZB,cB,rfl,rfl,hWB,hiB,hB2⟩:=hB.setRow (i:=255-b) (V:=dc (l.lift width (255-b))) ag (by rw [aj,Rx.lift_length])
    have hF:=hFn
    have hA31:Hp w0 ([row gB 25 (BB++dM f 256++ZB)]::[row b4 25 (dc k)]::R) w13:=hA14
    apply wp_skip
    refine hK15 _ _ ?_
    apply wp_seq_k; intro K19 hK19
    refine ak 6 [5,6] [0,1,2,3,4,5,6] _ af af (Hq.drew hA31.q) ?_
    have hA32:=Hl.drew hA31
    refine pR hF<|pV O O (fun x hx=>yZ (new:=dc k) rfl hx O 1 O vw hdk)<|pX O O<|pX O O<|pW O O (fun _=>yf 66 rfl Uj O QY O)<|pV O O (fun x hx=>bD O (Hq.sub hx (List.Subset.trans hG (aA (aA (bu))))) O hN 66 (by rw [aF hL]; decide) rfl (dA hL _ _ _ _) Bq) fun a hF=>?_
    refine bM O O O (fun K hK=>ax hF O ae GV rfl rfl ?_)
    with_reducible refine (gQ (w0:=w0) (R:=([row gB 25 (BB++dM f 256++ZB)]::[row b4 25 (dc k)]::R)) (z:=1) hkb1 hk hb hA32).mono ?_
    rintro e' w33 ⟨rfl,hA34⟩
    refine ⟨_,rfl,fun a hF=>hK _ _ (fun _=>?_) ?_⟩
    ·exact hA34.q
    replace hA34:Hp w0 ([row gB 25 (BB++dM f 256++ZB)]::[row b4 25 (dc k)]::R) w33:=hA34
    rw [show ((1:Nat):Int)=1 from rfl] at hF
    refine bY hF O O O O ae _ (bJ O O) (fun h=>absurd h ae) (fun a hF=>?_)
    refine aB ?_
    refine hK19 _ _ ?_
    apply wp_seq_k; intro K20 hK20
    refine ak 12 [10,12] [0,1,2,3,4,5,6,7,8,9,10,11,12] _ af af (Hq.drew hA34.q) ?_
    have hA35:=Hl.drew hA34
    refine pR hF<|pX O O<|pX O O<|pX O O<|pW O O (fun _=>yf 66 rfl Uj O QY O)<|pV O O (fun x hx=>bD O (Hq.sub hx (List.Subset.trans hG (aA (aA (bu))))) O hN 66 (by rw [aF hL]; decide) rfl (dA hL _ _ _ _) Bq) fun a hF=>?_
    refine pR hF<|pW O O (fun _=>dm O O O (show IntKind.i64.wrap (255-((b:Nat):Int))=((255-b:Nat):Int) by rw [TB _ ag]; omega)) fun a hF=>?_
    refine pR hF<|pX O O<|pX O O<|pX O O<|pW O O (fun _=>dm O O O (show IntKind.i64.wrap (1-(1:Int))=0 by decide)) fun a hF=>?_
    refine bM O O O (fun K hK=>ax hF O ae DI rfl rfl ?_)
    with_reducible refine (BU w0 _ ([row gB 25 (BB++dM f 256++ZB)]::[row b4 25 (dc k)]::R) G (List.Subset.trans hG (aA (aA (bu)))) b l r hgi g' gs width (wY w0 width hT l hg1) hSm hTi hT hA35).mono ?_
    rintro e' w36 ⟨rfl,hA37⟩
    refine ⟨_,rfl,fun a hF=>hK _ _ (fun _=>?_) ?_⟩
    ·exact hA37.q
    refine pR hF<|pW O O (fun _=>bi O Tu uX O O (255-b) rfl ag rfl) fun a hF=>?_
    refine bM O O O (fun K hK=>dE (new:=dc (l.lift width (255-b))) hF O O hA37 O O 0 O (by rw [List.length_append,List.length_append,hWB,aj,Rx.lift_length]; omega) (bz _) (by rw [aj,Rx.lift_length]; exact uX) (fun w38 hA39=>hK _ _ (fun h=>absurd h ae) ?_))
    replace hA39:Hp w0 ([row gB 25 (splice (BB++dM f 256++ZB) (BB.length+(255-b)*32) (dc (l.lift width (255-b))))]::[row b4 25 (dc k)]::R) w38:=hA39
    refine aB ?_
    refine hK20 _ _ ?_
    refine wp_region_lit ?_
    refine vR hF<|vX O<|vX O<|vX O<|vV O (yf 67 rfl Uj O pF O)<|vV O (aP O Um Oo O O 1 O ae (rfl:(⟨_,67+1*1,none⟩:Addr)=⟨_,68,none⟩) (rfl:(none:Option Nat)=none))<|vV O (bD O (Hq.sub hA39.q (List.Subset.trans hG (aA (aA (bu))))) O hN 68 (by rw [aF hL]; decide) rfl (gI hL _ _ _ _) Pi) fun a hF=>?_
    refine vR hF<|vX O fun a hF=>?_
    refine az ?_
    have hpu:=pY (f:=f) (g:=ry f (255-b) (l.lift width (255-b))) (n:=256) (h:=255-b) (fun i _=>hfl i) ag (by rw [mX,Rx.lift_length]) (fun i hi=>ru _ _ hi) []
    rw [mX,List.append_nil,List.append_nil] at hpu
    rw [hpu] at hB2
    have hmm:r.size<(Rx.fork b l r).size:=by show _<l.size+r.size; omega
    exact ⟨(r,gr,ry f (255-b) (l.lift width (255-b))),hmm,_,hg2,hTr2,BInv.side hgi hBI hp2 (.inr ⟨hkb1,rfl,rfl⟩),(fun h=>by show (ry f _ _ h).length=32; unfold ry; split; exact Rx.lift_length ..; exact hfl h),hB2,hF.keep [8,7,3,5,1] rfl,hA39⟩
end Go.Proofs.YtpomngkcfbnjoaaGreatDoor
