/- The law SparseMemory walked. -/
import Derived.Test.YtpomngkcfbnjoaaGreatDoorSpP
import Derived.Test.YtpomngkcfbnjoaaGreatDoorKd
import Derived.Test.YtpomngkcfbnjoaaGreatDoorKm
/- The law SparseMemory walked. -/
set_option maxRecDepth 100000
set_option maxHeartbeats 2000000
namespace Go.Proofs.YtpomngkcfbnjoaaGreatDoor
open Go.RowKit Go.Dk
theorem MK {P:Program} {Q:Exit→Act→World→Prop} {w w0:World} {n:Nat} {F:List (Nat × Value)} {a:Act} {o:Oper} {d:Nat} {K:Act→World→Prop} {S:List Seg} {t e:TypeId} {x y:Operand} {size bytes:Nat} (hF:Fr n F a) (hd:o.dst=some d) (hlt:d<n) (ho:o.op= .makeSlice t x y) (hA:Hp w0 S w) (hu:P.underlying t=some (.slice e))
  (hb:(P.info? e).map (fun i=>(i.zero.isSome,i.size,i.bytes))=some (true,size,bytes)) (hs:0<size)
  {kl kc:IntKind} {p q:Int} (m:Nat) (hx:Dk.ev F x=some (.int kl p)) (hy:Dk.ev F y=some (.int kc q)) (hp:p=m) (hq:q=m) (hm:bytes*m≤281474976710656) (hm2:m≤9223372036854775807)
  (h:∀ g cs w' a',cs.length=m*size→Fr n ((d,.slice (some ⟨g,0,none⟩) m m)::F) a'→Hp w0 ([row g e cs]::S) w'→K a' w'):o.wp P a w K Q:=by
 subst hp hq
 cases hi:P.info? e with
 | none=>simp [hi] at hb
 | some i =>
  rw [hi] at hb
  simp only [Option.map_some,Option.some.injEq,Prod.mk.injEq] at hb
  obtain ⟨hz,hsz,hbb⟩:=hb
  cases hz0:i.zero with
  | none=>simp [hz0] at hz
  | some z =>
   have hr:=run_make (P:=P) w t e i z hu hi hz0 kl kc m m ag ag (by rw [hbb,← Int.natCast_mul]; exact Int.ofNat_le.2 hm) ag
   have h1:=(At.refl w).alloc (madeCells z.cells (m*size)) e
   rw [hsz,Int.toNat_natCast] at hr
   unfold Oper.wp execOp
   simp only [ho,hF.ev hx,hF.ev hy,Sem.run_bind,Sem.run_pure,hr,Result.andThen_ok,Oper.upon_value,hd]
   exact h _ _ _ _ (by simp [size_madeCells]) (hF.put hlt) (hA.thenNew h1 (xE (TG _)))
theorem F7 {cs W:List Value}:((splice cs 0 W).drop 0).take W.length=W:=by
 unfold splice
 rw [List.take_zero,List.nil_append,List.drop_zero]
 exact List.take_left' rfl
theorem J9 {cs W:List Value} {n:Nat} (hc:cs.length=n) (h:W.length≤n):(splice cs 0 W).length=n:=by rw [qo ag,hc]
structure CA where
 c:CX
 sA:Option Addr
 n:Nat
 sC:Nat
 lA:Option Addr
 m:Nat
 lC:Nat
abbrev CA.cells (a:CA):List Value:=a.c.cells (.slice a.sA a.n a.sC) (.slice a.lA a.m a.lC)
structure CA.Good (w0:World) (a:CA):Prop where
 ok:a.c.OK
 n:a.n≤a.sC
 ss:a.c.p.ss.length=min a.n 300
 m:a.m≤a.lC
 l:a.c.l.length=min a.m 24
 rs:Rc w0 [] a.sA (fF a.c.p.ss)
 rl:Rc w0 [] a.lA (cel Itm.cells a.c.l)
section
variable {c:CX} {sv lv:Value}
def CX.head (c:CX):List Value:= .int .i64 c.kd:: .int .i64 c.wd::(dc c.it.k++(dc c.root++c.it.ent))
theorem CX.cells_eq:c.cells sv lv=c.head++(c.p.cells sv++[lv]):=by unfold CX.cells CX.head; simp
theorem CX.head_len (h:c.OK):c.head.length=99:=by
 unfold CX.head
 rw [List.length_cons,List.length_cons,List.length_append,List.length_append,CX.l1 h,CX.l2 h,CX.l3 h]
theorem CX.put_p (h:c.OK) {sv2:Value}:splice (c.cells sv lv) 99 (c.p.cells sv2)=c.cells sv2 lv:=by
 rw [CX.cells_eq,CX.cells_eq]
 unfold splice
 rw [List.take_left' (CX.head_len h),Prf.c_len h.p,← List.drop_drop,List.drop_left' (CX.head_len h),List.drop_left' (Prf.c_len h.p),List.append_assoc]
theorem CX.put_l (h:c.OK) {u:Value}:(c.cells sv lv).set 166 u=c.cells sv u:=by
 rw [CX.cells_eq,CX.cells_eq,List.set_append_right _ _ (by rw [CX.head_len h]; decide),List.set_append_right _ _ (by rw [CX.head_len h,Prf.c_len h.p]; decide),CX.head_len h,Prf.c_len h.p]
 rfl
theorem CX.get_l (h:c.OK):(c.cells sv lv)[166]? = some lv:=by
 rw [CX.cells_eq,List.getElem?_append_right (by rw [CX.head_len h]; decide),List.getElem?_append_right (by rw [CX.head_len h,Prf.c_len h.p]; decide),CX.head_len h,Prf.c_len h.p]
 rfl
theorem CX.get_s (h:c.OK):(c.cells sv lv)[165]? = some sv:=by
 rw [CX.cells_eq,List.getElem?_append_right (by rw [CX.head_len h]; decide),List.getElem?_append_left (by rw [CX.head_len h,Prf.c_len h.p]; decide),CX.head_len h]
 exact Prf.c_sums h.p
theorem CX.c_all (h:c.OK):((c.cells sv lv).drop 0).take 167=c.cells sv lv:=by
 rw [List.drop_zero]; exact TJ (by rw [CX.len h]; decide)
theorem CX.one (hs:sv.oneCell'=true) (hl:lv.oneCell'=true):∀ v∈c.cells sv lv,v.oneCell'=true:=by
 intro v hv
 unfold CX.cells at hv
 simp only [List.mem_cons,List.mem_append,List.not_mem_nil,or_false] at hv
 rcases hv with rfl | rfl | h | h | (rfl | h) | h | rfl
 ·rfl
 ·rfl
 ·exact bz _ v h
 ·exact bz _ v h
 ·rfl
 ·exact bz _ v h
 ·exact Prf.c_one hs v h
 ·exact hl
end
def cx0:CX:=⟨0,0,⟨List.replicate 32 0,0,List.replicate 32 0⟩,List.replicate 32 0,prf0,[]⟩
theorem MP:cx0.OK:=⟨⟨rfl,rfl⟩,rfl,gU,fun i hi=>by cases hi⟩
theorem QK:bV Tryz.prog 33 (.agg (cx0.cells (.slice none 0 0) (.slice none 0 0)).toArray):=by unfold bV; kernel_rfl
theorem Q8:(Tryz.prog.info? 25).map (fun i=>(i.zero.isSome,i.size,i.bytes))=some (true,32,32):=af
theorem Q7:(Tryz.prog.info? 49).map (fun i=>(i.zero.isSome,i.size,i.bytes))=some (true,65,72):=af
theorem J8 (w:World):(Instr.build 45 #[]).run Tryz.prog w= .ok (.agg ([.pointer none,.slice none 0 0,.slice none 0 0,.slice none 0 0,.slice none 0 0,.int .i64 0,.bool false,.slice none 0 0,.slice none 0 0,.int .i64 0,.bool false]:List Value).toArray) w:=af
theorem QS (w0:World) (wb:Nat):WorldS w0 wb [row wb 45 [.pointer none,.slice none 0 0,.slice none 0 0,.slice none 0 0,.slice none 0 0,.int .i64 0,.bool false,.slice none 0 0,.slice none 0 0,.int .i64 0,.bool false]] :=
 ⟨[],_,_,_,_,_,_,_,0,0,[],[],[],[],[],[],Tv _,.inl ⟨rfl,rfl,rfl⟩,Buf.nil _ _,BookV.new _ _ _ _,BookV.new _ _ _ _,rfl⟩
theorem Di {l:List Itm} (h:∀ i∈l,i.OK):(cel Itm.cells l).length=l.length*65:=nH (fun y hy=>Itm.len (h y hy))
theorem Dy {ds:List (List UInt8)} (h:∀ d∈ds,d.length=32):(fF ds).length=ds.length*32:=nH (C:=dc) (fun y hy=>by rw [aj]; exact h y hy)
theorem Px {ds:List (List UInt8)}:∀ v∈fF ds,v.oneCell'=true:=fun v hv=>by
 obtain ⟨W,hW,hv⟩:=List.mem_flatten.1 hv
 obtain ⟨x,_,rfl⟩:=List.mem_map.1 hW
 exact bz x v hv
theorem BM:isRow Tryz.prog 33 167=true:=af
theorem wE:(Tryz.prog.info? 33).map (·.size)=some 167:=af
theorem P6:aG Tryz.prog 4:=⟨_,Tryz.func4,af,af⟩
theorem PW:aG Tryz.prog 5:=⟨_,Tryz.func5,af,af⟩
theorem PU:aG Tryz.prog 6:=⟨_,Tryz.func6,af,af⟩
theorem PI:aG Tryz.prog 7:=⟨_,Tryz.func7,af,af⟩
theorem NI:aG Tryz.prog 12:=⟨_,Tryz.func12,af,af⟩
theorem NH:aG Tryz.prog 13:=⟨_,Tryz.func13,af,af⟩
theorem NG:aG Tryz.prog 14:=⟨_,Tryz.func14,af,af⟩
theorem NF:aG Tryz.prog 15:=⟨_,Tryz.func15,af,af⟩
theorem OZ (w0 w:World) (R:List Seg) (A:Option Addr) (n m c:Nat) (hn:n≤c) (hA:Hp w0 R w):Calls Tryz.prog 4 #[.slice A n c,.int .i64 ((m:Nat):Int)] w fun e w'=>e= .returned (.slice A (min n m) c)∧Hp w0 R w':=by
 refine aJ Tryz.func4 O Tryz.ntmps4 ai (fun a hF=>?_)
 refine wS hF fun K1 hK1=>vX O<|vE hK1<|wQ fun K2 hK2=>wQ fun K3 hK3 a hF=>?_
 by_cases hgt:m<n
 ·refine wp_region_lit ?_
  refine vR hF<|vX O<|vV O (aY O TR O O)<|vX O<|vV O (aH O O O O (mM ag))<|vE hK3<|vT1 O<|wT fun K4 hK4=>vX O<|vX O<|vV O (ed O TR wE O (.none 0) (.some rfl rfl) (Tv _) (show m≤c by omega) dU) fun a hF=>?_
  refine vR hF<|vX O<|vE hK4 fun a hF=>?_
  apply wp_ret
  simp only [Exit.then]
  refine aO hF Tryz.results4 O ?_
  exact ⟨by rw [show min n m=m by omega],hA⟩
 ·refine wp_region_lit ?_
  refine vR hF<|vX O<|vV O (aY O TR O O)<|vX O<|vV O (aH O O O O (nT ag))<|vE hK3<|vF1 O<|wKp hK2<|wT fun K5 hK5=>vX O<|vX O<|vE hK5 fun a hF=>?_
  apply wp_ret
  refine aO hF Tryz.results4 O ?_
  exact ⟨by rw [show min n m=n by omega],hA⟩
theorem Fj (w0:World) (A:Option Addr) (qs:List CA) (n cc:Nat) (hT:Tab w0) (hn:n≤cc) (hlen:qs.length=min n 12) (hG:∀ a∈qs,a.Good w0) (hAS:Rc w0 [] A (qs.map CA.cells).flatten):Calls Tryz.prog 3 #[.slice A n cc] w0 fun e w'=>e= .returned (.bool true)∧At w0 [] w':=by
 have hA:Hp w0 [] w0:=Hp.start w0
 refine aJ Tryz.func3 O Tryz.ntmps3 ai (fun a hF=>?_)
 refine wS hF fun K1 hK1=>vX O<|vE hK1<|wT fun K2 hK2=>vX O fun a hF=>?_
 refine au O (fun K hK=>ax hF O ae P6 rfl rfl ?_)
 with_reducible refine ((show Calls Tryz.prog 4 #[.slice A n cc,.int .i64 12] _ _ from OZ w0 _ [] A n 12 cc hn hA)).mono ?_
 rintro e' w1 ⟨rfl,hA2⟩
 refine ⟨_,rfl,fun a hF=>hK _ _ ?_⟩
 replace hA2:Hp w0 ([]) w1:=hA2
 rw [← hlen] at hF
 refine vR hF<|vX O<|vE hK2 fun a hF=>?_
 refine wp_seq_k fun K3 hK3=>wp_region_lit ?_
 refine au O (fun K hK=>MK (size:=32) hF O ae rfl hA2 Tu Q8 ae 300 rfl rfl rfl rfl ae ae (fun b3 cSM w4 a hcSM hF hA5=>hK _ _ ?_))
 refine vR hF<|vX O<|vE hK3 fun a hF=>?_
 refine wp_seq_k fun K4 hK4=>wp_region_lit ?_
 refine au O (fun K hK=>MK (size:=65) hF O ae rfl hA5 TT Q7 ae 24 rfl rfl rfl rfl ae ae (fun b6 cIT w7 a hcIT hF hA8=>hK _ _ ?_))
 refine vR hF<|vX O<|vE hK4<|wT fun K5 hK5=>vV O (dS (qs := #[]) O O J8) fun a hF=>?_
 refine au O (fun K hK=>bC (cs:=[.pointer none,.slice none 0 0,.slice none 0 0,.slice none 0 0,.slice none 0 0,.int .i64 0,.bool false,.slice none 0 0,.slice none 0 0,.int .i64 0,.bool false]) hF O ae rfl hA8 O (fun b9 w10 a hb9 hF hA11=>hK _ _ ?_))
 refine vR hF<|vX O<|vE hK5<|wQ fun K6 hK6=>wT fun K7 hK7=>vX O<|vE hK7<|wBk fun a hF=>?_
 have hA12:Hp w0 ([row b9 45 [.pointer none,.slice none 0 0,.slice none 0 0,.slice none 0 0,.slice none 0 0,.int .i64 0,.bool false,.slice none 0 0,.slice none 0 0,.int .i64 0,.bool false]]::[row b3 25 cSM]::[row b6 49 cIT]::[]) w10:=hpO 3 [0,2,1] hA11 rfl
 refine bQ (G:=Nat) (fun rd a x=>∃ (Y:Seg) (cs1:List Value) (cs2:List Value),rd≤2∧WorldS w0 b9 Y∧(cs1.length=9600)∧(cs2.length=1560)∧Fr 116 [(6,.int .i64 (rd:Int)),(0,.slice A qs.length cc),(3,.slice (some ⟨b3,0,none⟩) 300 300),(4,.slice (some ⟨b6,0,none⟩) 24 24),(5,.pointer (some ⟨b9,0,none⟩))] a∧Hp w0 (Y::[row b3 25 cs1]::[row b6 49 cs2]::[]) x) (fun rd=>2-rd) 0 (⟨_,_,_,Tv _,QS w0 b9,hcSM,hcIT,hF.keep [6,0,3,4,5] rfl,hA12⟩) ?_
 clear hF
 rintro rd a w14 ⟨Y,cs1,cs2,hrd,hY,hcs1,hcs2,hF,hA13⟩
 by_cases hr2:rd<2
 ·have hrd2:rd<2:=hr2
  apply wp_seq_k; intro K8 hK8
  refine wS hF fun K9 hK9=>vX O<|vV O (aH O O O O (dB ag))<|vE hK9<|vT1 O<|wKp hK8<|wQ fun K10 hK10=>wBk<|wQ fun K11 hK11=>wT fun K12 hK12=>vX O<|vE hK12<|wBk fun a hF=>?_
  refine bQ (G:=Nat) (fun i a x=>∃ (Y:Seg) (cs1:List Value) (cs2:List Value),i≤qs.length∧WorldS w0 b9 Y∧(cs1.length=9600)∧(cs2.length=1560)∧Fr 116 [(7,.int .i64 (i:Int)),(0,.slice A qs.length cc),(3,.slice (some ⟨b3,0,none⟩) 300 300),(4,.slice (some ⟨b6,0,none⟩) 24 24),(5,.pointer (some ⟨b9,0,none⟩)),(6,.int .i64 (rd:Int))] a∧Hp w0 (Y::[row b3 25 cs1]::[row b6 49 cs2]::[]) x) (fun i=>qs.length-i) 0 (⟨_,_,_,Tv _,hY,hcs1,hcs2,hF.keep [7,0,3,4,5,6] rfl,hA13⟩) ?_
  clear hF
  rintro i a w16 ⟨Y,cs1,cs2,hi,hY,hcs1,hcs2,hF,hA15⟩
  by_cases hil:i<qs.length
  ·apply wp_seq_k; intro K13 hK13
   refine wS hF fun K14 hK14=>vX O<|vX O<|vV O (aY O TR O O)<|vV O (aH O O O O (dB ag))<|vE hK14<|vT1 O fun a hF=>?_
   obtain ⟨ci,ha⟩:∃ ci,qs[i]? = some ci:=⟨_,List.getElem?_eq_getElem hil⟩
   have hag:=hG ci (List.mem_of_getElem? ha)
   have hc:=hag.ok
   have hss:=hag.ss
   have hll:=hag.l
   have hnC:=hag.n
   have hmC:=hag.m
   have hfew:=hc.p.few
   have hal:ci.cells.length=167:=CX.len hc
   obtain ⟨hat,hle⟩:=Go.Dk.flat_at (z:=167) (Ws:=qs.map CA.cells) (V:=ci.cells) (i:=i) (fun V hV=>by obtain ⟨u,hu,rfl⟩:=List.mem_map.1 hV; exact CX.len (hG u hu).ok) (by rw [List.getElem?_map,ha]; rfl)
   obtain ⟨b,q,hAd,hcA⟩:=hAS.ne (i:=i*167) ag
   have hds:∀ d∈ci.c.p.ss,d.length=32:=hc.p.ss
   have hdl:=Dy hds
   have hil2:=Di hc.l
   apply wp_skip
   refine hK13 _ _ ?_
   apply wp_seq_k; intro K15 hK15
   apply wp_block
   refine wS hF fun K16 hK16=>vX O<|vX O<|vV O (bi O TR wE (by exact congrArg (fun A=>some (Value.slice A qs.length cc)) hAd) rfl i rfl hil rfl) fun a hF=>?_
   refine vR hF<|vV O (aQ (new:=ci.c.cells (.slice ci.sA ci.n ci.sC) (.slice ci.lA ci.m ci.lC)) O (Hq.sub hA15.q (List.nil_subset _)) O hcA (i*167) hle rfl hat BM) fun a hF=>?_
   refine au O (fun K hK=>bG hF O ae rfl hA15 QK (fun b17 w18 a hb17 hF hA19=>hK _ _ ?_))
   refine au O (fun K hK=>aI (new:=ci.c.cells (.slice ci.sA ci.n ci.sC) (.slice ci.lA ci.m ci.lC)) hF O O hA19 O O 0 O (by rw [CX.len hc,CX.len MP]) (CX.one rfl rfl) (by rw [CX.len MP]; exact wE) (fun w20 hA21=>hK _ _ ?_))
   replace hA21:Hp w0 ([row b17 33 (ci.c.cells (.slice ci.sA ci.n ci.sC) (.slice ci.lA ci.m ci.lC))]::Y::[row b3 25 cs1]::[row b6 49 cs2]::[]) w20:=hA21
   refine az<|hK16 _ _ ?_
   refine wS hF fun K17 hK17=>vV O (yf 99 rfl TU O Bv O)<|vV O (aT O hA21.q O 0 O OL (CX.le hc ae) (CX.c_p hc)) fun a hF=>?_
   refine au O (fun K hK=>ax hF O ae PW rfl rfl ?_)
   with_reducible refine (J4 w0 _ ([row b17 33 (ci.c.cells (.slice ci.sA ci.n ci.sC) (.slice ci.lA ci.m ci.lC))]::Y::[row b3 25 cs1]::[row b6 49 cs2]::[]) ci.c.p ci.sA ci.n ci.sC hc.p hnC hss hA21).mono ?_
   rintro e' w22 ⟨rfl,hA23⟩
   refine ⟨_,rfl,fun a hF=>hK _ _ ?_⟩
   refine vR hF<|vV O (yf 99 rfl TU O Bv O) fun a hF=>?_
   refine au O (fun K hK=>dE (new:=ci.c.p.cells (.slice ci.sA ci.c.p.ss.length ci.sC)) hF O O hA23 O O 0 O (by rw [CX.len hc,Prf.c_len hc.p]; decide) (Prf.c_one rfl) (by rw [Prf.c_len hc.p]; exact Bv) (fun w24 hA25=>hK _ _ ?_))
   replace hA25:Hp w0 ([row b17 33 (splice (ci.c.cells (.slice ci.sA ci.n ci.sC) (.slice ci.lA ci.m ci.lC)) 99 (ci.c.p.cells (.slice ci.sA ci.c.p.ss.length ci.sC)))]::Y::[row b3 25 cs1]::[row b6 49 cs2]::[]) w24:=hA25
   have hA26:Hp w0 ([row b17 33 (ci.c.cells (.slice ci.sA ci.c.p.ss.length ci.sC) (.slice ci.lA ci.m ci.lC))]::Y::[row b3 25 cs1]::[row b6 49 cs2]::[]) w24:=by rw [← CX.put_p hc (sv:= .slice ci.sA ci.n ci.sC)]; exact hA25
   refine az<|hK17 _ _ ?_
   refine wS hF fun K18 hK18=>vV O (yf 166 rfl TU O JQ O)<|vV O (aX O hA26.q O 0 O (CX.get_l hc) xy) fun a hF=>?_
   refine au O (fun K hK=>ax hF O ae PU rfl rfl ?_)
   with_reducible refine ((show Calls Tryz.prog 6 #[.slice ci.lA ci.m ci.lC,.int .i64 24] _ _ from OY w0 _ ([row b17 33 (ci.c.cells (.slice ci.sA ci.c.p.ss.length ci.sC) (.slice ci.lA ci.m ci.lC))]::Y::[row b3 25 cs1]::[row b6 49 cs2]::[]) ci.lA ci.m 24 ci.lC hmC hA26)).mono ?_
   rintro e' w27 ⟨rfl,hA28⟩
   refine ⟨_,rfl,fun a hF=>hK _ _ ?_⟩
   replace hA28:Hp w0 ([row b17 33 (ci.c.cells (.slice ci.sA ci.c.p.ss.length ci.sC) (.slice ci.lA ci.m ci.lC))]::Y::[row b3 25 cs1]::[row b6 49 cs2]::[]) w27:=hA28
   rw [← hll] at hF
   refine vR hF<|vV O (yf 166 rfl TU O JQ O) fun a hF=>?_
   refine au O (fun K hK=>aW hF O O hA28 O O 0 O (by rw [CX.len hc]; decide) rfl JQ (fun w29 hA30=>hK _ _ ?_))
   replace hA30:Hp w0 ([row b17 33 ((ci.c.cells (.slice ci.sA ci.c.p.ss.length ci.sC) (.slice ci.lA ci.m ci.lC)).set 166 (.slice ci.lA ci.c.l.length ci.lC))]::Y::[row b3 25 cs1]::[row b6 49 cs2]::[]) w29:=hA30
   have hA31:Hp w0 ([row b17 33 (ci.c.cells (.slice ci.sA ci.c.p.ss.length ci.sC) (.slice ci.lA ci.c.l.length ci.lC))]::Y::[row b3 25 cs1]::[row b6 49 cs2]::[]) w29:=by rw [← CX.put_l hc (lv:= .slice ci.lA ci.m ci.lC)]; exact hA30
   refine az<|hK18 _ _ ?_
   refine wS hF fun K19 hK19=>vX O<|vE hK19<|wBk fun a hF=>?_
   refine bQ (G:=Nat) (fun j a x=>∃ (Y:Seg) (cs1:List Value) (cs2:List Value),j≤2∧WorldS w0 b9 Y∧(cs1.length=9600)∧(cs2.length=1560)∧Fr 116 [(9,.int .i64 (j:Int)),(0,.slice A qs.length cc),(3,.slice (some ⟨b3,0,none⟩) 300 300),(4,.slice (some ⟨b6,0,none⟩) 24 24),(5,.pointer (some ⟨b9,0,none⟩)),(6,.int .i64 (rd:Int)),(7,.int .i64 (i:Int)),(8,.pointer (some ⟨b17,0,none⟩))] a∧Hp w0 ([row b17 33 (ci.c.cells (.slice ci.sA ci.c.p.ss.length ci.sC) (.slice ci.lA ci.c.l.length ci.lC))]::Y::[row b3 25 cs1]::[row b6 49 cs2]::[]) x) (fun j=>2-j) 0 (⟨_,_,_,Tv _,hY,hcs1,hcs2,hF.keep [9,0,3,4,5,6,7,8] rfl,hA31⟩) ?_
   clear hF
   rintro j a w33 ⟨Y,cs1,cs2,hj,hY,hcs1,hcs2,hF,hA32⟩
   by_cases hjl:j<2
   ·apply wp_seq_k; intro K20 hK20
    refine wS hF fun K21 hK21=>vX O<|vV O (aH O O O O (dB ag))<|vE hK21<|vT1 O<|wKp hK20<|wQ fun K22 hK22=>wBk<|wT fun K23 hK23=>vX O<|vV O (yf 99 rfl TU O Bv O)<|vV O (yf 165 rfl TW O mZ O)<|vV O (aX O hA32.q O 0 O (CX.get_s hc) nz) fun a hF=>?_
    refine au O (fun K hK=>Dl (size:=32) hF O ae rfl hA32 Tu uX ae rfl rfl ci.c.p.ss.length (Nat.min_eq_left ag).symm hdl hag.rs (Hq.sub hA32.q (List.nil_subset _)) Px 0 2 O (fun _=>rfl) (by rw [hdl,hcs1]; omega) (fun w34 _ hF hA35=>hK _ _ ?_))
    replace hA35:Hp w0 ([row b17 33 (ci.c.cells (.slice ci.sA ci.c.p.ss.length ci.sC) (.slice ci.lA ci.c.l.length ci.lC))]::Y::[row b3 25 (splice cs1 0 (fF ci.c.p.ss))]::[row b6 49 cs2]::[]) w34:=hA35
    refine az<|hK23 _ _ ?_
    refine wS hF fun K24 hK24=>vX O<|vV O (yf 166 rfl TU O JQ O)<|vV O (aX O hA35.q O 0 O (CX.get_l hc) xy) fun a hF=>?_
    refine au O (fun K hK=>Dl (size:=65) hF O ae rfl hA35 TT kU ae rfl rfl ci.c.l.length (Nat.min_eq_left ag).symm hil2 hag.rl (Hq.sub hA35.q (List.nil_subset _)) (cells_one ci.c.l) 0 3 O (fun _=>rfl) (by rw [hil2,hcs2]; omega) (fun w36 _ hF hA37=>hK _ _ ?_))
    replace hA37:Hp w0 ([row b17 33 (ci.c.cells (.slice ci.sA ci.c.p.ss.length ci.sC) (.slice ci.lA ci.c.l.length ci.lC))]::Y::[row b3 25 (splice cs1 0 (fF ci.c.p.ss))]::[row b6 49 (splice cs2 0 (cel Itm.cells ci.c.l))]::[]) w36:=hA37
    refine az<|hK24 _ _ ?_
    apply wp_seq_k; intro K25 hK25
    have hn1:(splice cs1 0 (fF ci.c.p.ss)).length=9600:=J9 hcs1 ag
    have hn2:(splice cs2 0 (cel Itm.cells ci.c.l)).length=1560:=J9 hcs2 ag
    have hRS:Rc w0 [[row b3 25 (splice cs1 0 (fF ci.c.p.ss))],[row b6 49 (splice cs2 0 (cel Itm.cells ci.c.l))]] (some ⟨b3,0,none⟩) (fF ci.c.p.ss):=Rc.ofRow (i:=0) (off:=0) rfl F7
    have hRI:Rc w0 [[row b3 25 (splice cs1 0 (fF ci.c.p.ss))],[row b6 49 (splice cs2 0 (cel Itm.cells ci.c.l))]] (some ⟨b6,0,none⟩) (cel Itm.cells ci.c.l):=Rc.ofRow (i:=1) (off:=0) rfl F7
    refine ak 38 [13,25,36,38] [0,1,2,3,4,5,6,7,8,9,10,11,12,13,14,15,16,17,18,19,20,21,22,23,24,25,26,27,28,29,30,31,32,33,34,35,36,37,38] (fun x=>Hq w0 ([row b17 33 (ci.c.cells (.slice ci.sA ci.c.p.ss.length ci.sC) (.slice ci.lA ci.c.l.length ci.lC))]::[row b3 25 (splice cs1 0 (fF ci.c.p.ss))]::[row b6 49 (splice cs2 0 (cel Itm.cells ci.c.l))]::[]) x) af af (Hq.drew (Hp.qp [[row b17 33 (ci.c.cells (.slice ci.sA ci.c.p.ss.length ci.sC) (.slice ci.lA ci.c.l.length ci.lC))],Y,[row b3 25 (splice cs1 0 (fF ci.c.p.ss))],[row b6 49 (splice cs2 0 (cel Itm.cells ci.c.l))]] [] [0,2,3] hA37)) ?_
    have hA38:=Hl.drew hA37
    refine pR hF<|pX O O<|pV O O (fun x hx=>aT O hx O 0 O BM (CX.le hc ae) (CX.c_all hc))<|pX O O<|pW O O (fun _=>yf 99 rfl TU O Bv O)<|pW O O (fun _=>yf 165 rfl TW O mZ O)<|pV O O (fun x hx=>aX O hx O 0 O (CX.get_s hc) nz)<|pW O O (fun _=>aY O Tu O O)<|pW O O (fun _=>ed O Tu uX O (.none 0) (.some rfl rfl) (Tv _) ag dU)<|pX O O<|pW O O (fun _=>yf 166 rfl TU O JQ O)<|pV O O (fun x hx=>aX O hx O 0 O (CX.get_l hc) xy)<|pW O O (fun _=>aY O TT O O)<|pW O O (fun _=>ed O TT kU O (.none 0) (.some rfl rfl) (Tv _) ag dU) fun a hF=>?_
    have hA39:Hp w0 (Y::[row b17 33 (ci.c.cells (.slice ci.sA ci.c.p.ss.length ci.sC) (.slice ci.lA ci.c.l.length ci.lC))]::[row b3 25 (splice cs1 0 (fF ci.c.p.ss))]::[row b6 49 (splice cs2 0 (cel Itm.cells ci.c.l))]::[]) w36.drew:=hpO 4 [1,0,2,3] hA38 rfl
    refine bM O O O (fun K hK=>ax hF O ae PI rfl rfl ?_)
    with_reducible refine (Kq w0 _ ([row b17 33 (ci.c.cells (.slice ci.sA ci.c.p.ss.length ci.sC) (.slice ci.lA ci.c.l.length ci.lC))]::[row b3 25 (splice cs1 0 (fF ci.c.p.ss))]::[row b6 49 (splice cs2 0 (cel Itm.cells ci.c.l))]::[]) [[row b3 25 (splice cs1 0 (fF ci.c.p.ss))],[row b6 49 (splice cs2 0 (cel Itm.cells ci.c.l))]] (dR (TI _ ((TF ..))) (dZ (TI _ (TI _ ((TF ..)))))) b9 ci.c (.slice ci.sA ci.c.p.ss.length ci.sC) (.slice ci.lA ci.c.l.length ci.lC) (some ⟨b3,0,none⟩) (some ⟨b6,0,none⟩) 300 24 Y hc rfl hT hY ag ag ag hRS hRI hA39).mono ?_
    rintro e' w40 ⟨Y',rfl,hY',hA41⟩
    refine ⟨_,rfl,fun a hF=>hK _ _ (fun _=>?_) ?_⟩
    ·exact (qT hA41)
    replace hA41:Hp w0 (Y'::[row b17 33 (ci.c.cells (.slice ci.sA ci.c.p.ss.length ci.sC) (.slice ci.lA ci.c.l.length ci.lC))]::[row b3 25 (splice cs1 0 (fF ci.c.p.ss))]::[row b6 49 (splice cs2 0 (cel Itm.cells ci.c.l))]::[]) w40:=hA41
    refine pR hF<|pW O O (fun _=>eU O O O)<|pX O O<|pG O O (fun _=>bT O O)<|pG O O (fun _=>yf 99 rfl TU O Bv O)<|pG O O (fun _=>yf 165 rfl TW O mZ O) fun a hF=>?_
    refine dX hF O O O O O O O ae _ (fun x hx=>aX O hx O 0 O (CX.get_s hc) nz) (fun a hF=>?_)
    refine pR hF<|pG O O (fun _=>aY O Tu O O)<|pG O O (fun _=>ed O Tu uX O (.none 0) (.some rfl rfl) (Tv _) ag dU)<|pG O O (fun _=>yf 99 rfl TU O Bv O)<|pG O O (fun _=>yf 165 rfl TW O mZ O) fun a hF=>?_
    refine dX hF O O O O O O O ae _ (fun x hx=>aX O hx O 0 O (CX.get_s hc) nz) (fun a hF=>?_)
    refine lX hF O O O O O O (fun K hK=>ax hF O ae Fz rfl rfl ?_)
    with_reducible refine (jc w0 _ (Y'::[row b17 33 (ci.c.cells (.slice ci.sA ci.c.p.ss.length ci.sC) (.slice ci.lA ci.c.l.length ci.lC))]::[row b3 25 (splice cs1 0 (fF ci.c.p.ss))]::[row b6 49 (splice cs2 0 (cel Itm.cells ci.c.l))]::[]) (some ⟨b3,0,none⟩) ci.sA ci.c.p.ss ci.c.p.ss 300 ci.sC (hRS.mono (dR (TI _ (TI _ ((TF ..)))) (dZ (TI _ (TI _ (TI _ ((TF ..)))))))) (hag.rs.mono (List.nil_subset _)) (fun x hx=>by rw [aj]; exact hds x hx) (fun x hx=>by rw [aj]; exact hds x hx) hA41 ag).mono ?_
    rintro e' w42 ⟨rfl,hA43⟩
    refine ⟨_,rfl,fun a hF=>hK _ _ (fun _=>?_) ?_⟩
    ·exact (qT hA43)
    replace hA43:Hp w0 (Y'::[row b17 33 (ci.c.cells (.slice ci.sA ci.c.p.ss.length ci.sC) (.slice ci.lA ci.c.l.length ci.lC))]::[row b3 25 (splice cs1 0 (fF ci.c.p.ss))]::[row b6 49 (splice cs2 0 (cel Itm.cells ci.c.l))]::[]) w42:=hA43
    rw [decide_eq_true rfl] at hF
    refine pR hF<|pG O O (fun _=>eU O O O)<|pW O O (fun _=>bg O O O)<|pX O O<|pG O O (fun _=>bT O O)<|pG O O (fun _=>yf 166 rfl TU O JQ O) fun a hF=>?_
    refine dX hF O O O O O O O ae _ (fun x hx=>aX O hx O 0 O (CX.get_l hc) xy) (fun a hF=>?_)
    refine pR hF<|pG O O (fun _=>aY O TT O O)<|pG O O (fun _=>ed O TT kU O (.none 0) (.some rfl rfl) (Tv _) ag dU)<|pG O O (fun _=>yf 166 rfl TU O JQ O) fun a hF=>?_
    refine dX hF O O O O O O O ae _ (fun x hx=>aX O hx O 0 O (CX.get_l hc) xy) (fun a hF=>?_)
    refine lX hF O O O O O O (fun K hK=>ax hF O ae Pz rfl rfl ?_)
    with_reducible refine (BP w0 _ (Y'::[row b17 33 (ci.c.cells (.slice ci.sA ci.c.p.ss.length ci.sC) (.slice ci.lA ci.c.l.length ci.lC))]::[row b3 25 (splice cs1 0 (fF ci.c.p.ss))]::[row b6 49 (splice cs2 0 (cel Itm.cells ci.c.l))]::[]) [[row b3 25 (splice cs1 0 (fF ci.c.p.ss))],[row b6 49 (splice cs2 0 (cel Itm.cells ci.c.l))]] [] (dR (TI _ (TI _ ((TF ..)))) (dZ (TI _ (TI _ (TI _ ((TF ..))))))) (List.nil_subset _) (some ⟨b6,0,none⟩) ci.lA ci.c.l 24 ci.lC ag hc.l hRI hag.rl hA43).mono ?_
    rintro e' w44 ⟨rfl,hA45⟩
    refine ⟨_,rfl,fun a hF=>hK _ _ (fun _=>?_) ?_⟩
    ·exact (qT hA45)
    replace hA45:Hp w0 (Y'::[row b17 33 (ci.c.cells (.slice ci.sA ci.c.p.ss.length ci.sC) (.slice ci.lA ci.c.l.length ci.lC))]::[row b3 25 (splice cs1 0 (fF ci.c.p.ss))]::[row b6 49 (splice cs2 0 (cel Itm.cells ci.c.l))]::[]) w44:=hA45
    refine pR hF<|pG O O (fun _=>eU O O O) fun a hF=>?_
    refine bY hF O O O O ae _ (bg O O O) (fun h=>absurd h ae) (fun a hF=>?_)
    refine aB ?_
    refine hK25 _ _ ?_
    refine dL hF O ?_
    apply wp_skip
    refine hK22 _ _ ?_
    refine wp_region_lit ?_
    refine vR hF<|vX O<|vV O (bH O O O (TB _ ag))<|vX O fun a hF=>?_
    refine az ?_
    have hA46:Hp w0 ([row b17 33 (ci.c.cells (.slice ci.sA ci.c.p.ss.length ci.sC) (.slice ci.lA ci.c.l.length ci.lC))]::Y'::[row b3 25 (splice cs1 0 (fF ci.c.p.ss))]::[row b6 49 (splice cs2 0 (cel Itm.cells ci.c.l))]::[]) w44:=hpO 4 [1,0,2,3] hA45 rfl
    exact ⟨j+1,(by show 2-(j+1)<2-j; omega),Y',_,_,(by show j+1≤2; omega),hY',hn1,hn2,hF.keep [9,0,3,4,5,6,7,8] rfl,hA46⟩
   ·apply wp_seq_k; intro K26 hK26
    refine wS hF fun K27 hK27=>vX O<|vV O (aH O O O O (dD ag))<|vE hK27<|vF1 O fun a hF=>?_
    apply wp_exit
    refine hK15 _ _ ?_
    refine wp_region_lit ?_
    refine vR hF<|vX O<|vV O (bH O O O (TB _ ag))<|vX O fun a hF=>?_
    refine az ?_
    have hA47:Hp w0 (Y::[row b3 25 cs1]::[row b6 49 cs2]::[]) w33:=hpS 4 [1,2,3] [0] hA32 rfl
    exact ⟨i+1,(by show qs.length-(i+1)<qs.length-i; omega),_,_,_,(by show i+1≤_; omega),hY,hcs1,hcs2,hF.keep [7,0,3,4,5,6] rfl,hA47⟩
  ·apply wp_seq_k; intro K28 hK28
   refine wS hF fun K29 hK29=>vX O<|vX O<|vV O (aY O TR O O)<|vV O (aH O O O O (dD ag))<|vE hK29<|vF1 O fun a hF=>?_
   apply wp_exit
   refine hK11 _ _ ?_
   apply wp_seq_k; intro K30 hK30
   obtain ⟨L,top,sl,iv,lA,wA,lB,wB,held1,held2,ks1,ks2,XT,XL,Y1,Y2,hL24,hTV,hB,hbA,hbB,rfl⟩:=hY
   have hA48:Hp w0 ([row b9 45 [top,sl,iv,lA,wA,.int .i64 held1,.bool false,lB,wB,.int .i64 held2,.bool false]]::XT::XL::Y1::Y2::[row b3 25 cs1]::[row b6 49 cs2]::[]) w16:=WorldS.split hA15
   refine wp_region_lit ?_
   refine vR hF<|vX O<|vX O<|vV O (yf 3 O TY O JU O) fun a hF=>?_
   have hA49:Hp w0 ([row b9 45 [top,sl,iv,lA,wA,.int .i64 held1,.bool false,lB,wB,.int .i64 held2,.bool false]]::Y1::XT::XL::Y2::[row b3 25 cs1]::[row b6 49 cs2]::[]) w16:=hpO 7 [0,3,1,2,4,5,6] hA48 rfl
   refine au O (fun K hK=>ax hF O ae Qj rfl rfl ?_)
   with_reducible refine (lD w0 _ (XT::XL::Y2::[row b3 25 cs1]::[row b6 49 cs2]::[]) b9 ks1 Y1 hbA hA49).mono ?_
   rintro e' w50 ⟨rfl,hA51⟩
   refine ⟨_,rfl,fun a hF=>hK _ _ ?_⟩
   replace hA51:Hp w0 ([row b9 45 [top,sl,iv,lA,wA,.int .i64 held1,.bool false,lB,wB,.int .i64 held2,.bool false]]::Y1::XT::XL::Y2::[row b3 25 cs1]::[row b6 49 cs2]::[]) w50:=hA51
   refine vR hF<|vV O (eU O O O)<|vX O<|vG O (bT O O)<|vG O (bP O O)<|vG O (yf 7 O TY O JR O) fun a hF=>?_
   have hA52:Hp w0 ([row b9 45 [top,sl,iv,lA,wA,.int .i64 held1,.bool false,lB,wB,.int .i64 held2,.bool false]]::Y2::Y1::XT::XL::[row b3 25 cs1]::[row b6 49 cs2]::[]) w50:=hpO 7 [0,4,1,2,3,5,6] hA51 rfl
   refine lm hF O O O O (fun K hK=>ax hF O ae Qi rfl rfl ?_)
   with_reducible refine (nD w0 _ (Y1::XT::XL::[row b3 25 cs1]::[row b6 49 cs2]::[]) b9 ks2 Y2 hbB hA52).mono ?_
   rintro e' w53 ⟨rfl,hA54⟩
   refine ⟨_,rfl,fun a hF=>hK _ _ ?_⟩
   replace hA54:Hp w0 ([row b9 45 [top,sl,iv,lA,wA,.int .i64 held1,.bool false,lB,wB,.int .i64 held2,.bool false]]::Y2::Y1::XT::XL::[row b3 25 cs1]::[row b6 49 cs2]::[]) w53:=hA54
   refine vR hF<|vG O (eU O O O)<|vV O (bg O O O)<|vX O<|vG O (bT O O)<|vG O (bP O O)<|vG O (yf 3 O TY O JU O) fun a hF=>?_
   have hA55:Hp w0 ([row b9 45 [top,sl,iv,lA,wA,.int .i64 held1,.bool false,lB,wB,.int .i64 held2,.bool false]]::Y1::Y2::XT::XL::[row b3 25 cs1]::[row b6 49 cs2]::[]) w53:=hpO 7 [0,2,1,3,4,5,6] hA54 rfl
   refine lm hF O O O O (fun K hK=>ax hF O ae NI rfl rfl ?_)
   with_reducible refine (qi w0 _ (Y2::XT::XL::[row b3 25 cs1]::[row b6 49 cs2]::[]) b9 13 ks1 Y1 Dh (fun _ _=>rfl) NH (xH w0) hbA hA55).mono ?_
   rintro e' w56 ⟨rfl,hA57⟩
   refine ⟨_,rfl,fun a hF=>hK _ _ ?_⟩
   replace hA57:Hp w0 ([row b9 45 [top,sl,iv,.slice none 0 0,.slice none 0 0,.int .i64 0,.bool false,lB,wB,.int .i64 held2,.bool false]]::Y2::XT::XL::[row b3 25 cs1]::[row b6 49 cs2]::[]) w56:=hA57
   refine vR hF<|vG O (eU O O O)<|vV O (bg O O O)<|vX O<|vG O (bT O O)<|vG O (bP O O)<|vG O (yf 7 O TY O JR O) fun a hF=>?_
   refine lm hF O O O O (fun K hK=>ax hF O ae NG rfl rfl ?_)
   with_reducible refine (sD w0 _ (XT::XL::[row b3 25 cs1]::[row b6 49 cs2]::[]) b9 15 ks2 Y2 QF (fun _ _=>rfl) NF (Aw w0) hbB hA57).mono ?_
   rintro e' w58 ⟨rfl,hA59⟩
   refine ⟨_,rfl,fun a hF=>hK _ _ ?_⟩
   replace hA59:Hp w0 ([row b9 45 [top,sl,iv,.slice none 0 0,.slice none 0 0,.int .i64 0,.bool false,.slice none 0 0,.slice none 0 0,.int .i64 0,.bool false]]::XT::XL::[row b3 25 cs1]::[row b6 49 cs2]::[]) w58:=hA59
   refine vR hF<|vG O (eU O O O)<|vV O (bg O O O)<|vE hK30<|vF1 O fun a hF=>?_
   apply wp_skip
   refine hK10 _ _ ?_
   refine wp_region_lit ?_
   refine vR hF<|vX O<|vV O (bH O O O (TB _ ag))<|vX O fun a hF=>?_
   refine az ?_
   obtain ⟨Y9,hY9,hA9⟩:=WorldS.mk (w0:=w0) hL24 hTV hB (BookV.new dc 28 25 32) (BookV.new cB 70 5 1) (show Hp w0 ([row b9 45 [top,sl,iv,.slice none 0 0,.slice none 0 0,.int .i64 0,.bool false,.slice none 0 0,.slice none 0 0,.int .i64 0,.bool false]]::XT::XL::[]::[]::[row b3 25 cs1]::[row b6 49 cs2]::[]) _ from Hp.cast hA59 (by simp))
   exact ⟨rd+1,(by show 2-(rd+1)<2-rd; omega),_,_,_,(by show rd+1≤2; omega),hY9,hcs1,hcs2,hF.keep [6,0,3,4,5] rfl,hA9⟩
 ·apply wp_seq_k; intro K31 hK31
  refine wS hF fun K32 hK32=>vX O<|vV O (aH O O O O (dD ag))<|vE hK32<|vF1 O fun a hF=>?_
  apply wp_exit
  refine hK6 _ _ ?_
  refine wS hF fun K33 hK33=>vX O<|vE hK33 fun a hF=>?_
  apply wp_ret
  refine aO hF Tryz.results3 O ?_
  exact ⟨rfl,hA13.at0⟩
end Go.Proofs.YtpomngkcfbnjoaaGreatDoor
