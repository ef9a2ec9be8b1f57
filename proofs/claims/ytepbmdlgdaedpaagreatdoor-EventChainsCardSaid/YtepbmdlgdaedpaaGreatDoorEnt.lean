/- Entries, the sums of states. -/
import Derived.Test.YtepbmdlgdaedpaaGreatDoorTt
import Derived.Test.YtepbmdlgdaedpaaGreatDoorOpenR
/- Entries, the sums of states. -/
namespace Go.Proofs.YtepbmdlgdaedpaaGreatDoor
open Go.RowKit Go.Dk
theorem xC:isRow Tryz.prog 49 33=true:=af
theorem xh:(Tryz.prog.info? 49).map (·.size)=some 33:=af
theorem D5:aQ Tryz.prog 122:=⟨_,Tryz.func122,af,af⟩
theorem DZ:aQ Tryz.prog 123:=⟨_,Tryz.func123,af,af⟩
theorem DY:aQ Tryz.prog 124:=⟨_,Tryz.func124,af,af⟩
theorem DX:aQ Tryz.prog 125:=⟨_,Tryz.func125,af,af⟩
theorem wL:bI Tryz.prog 49 (.agg ([.int .i64 0,.int .u8 0,.int .u8 0,.int .u8 0,.int .u8 0,.int .u8 0,.int .u8 0,.int .u8 0,.int .u8 0,.int .u8 0,.int .u8 0,.int .u8 0,.int .u8 0,.int .u8 0,.int .u8 0,.int .u8 0,.int .u8 0,.int .u8 0,.int .u8 0,.int .u8 0,.int .u8 0,.int .u8 0,.int .u8 0,.int .u8 0,.int .u8 0,.int .u8 0,.int .u8 0,.int .u8 0,.int .u8 0,.int .u8 0,.int .u8 0,.int .u8 0,.int .u8 0]:List Value).toArray):=by unfold bI; kernel_rfl
def nxt (n:Int):Int:=IntKind.i64.wrap (n+1)
def dZ (ch l:List UInt8):List UInt8:=ofL 32 2 (ch++ofL 32 0 l)
theorem dE (ch l:List UInt8):(dZ ch l).length=32:=eU _ _ _
theorem Nl {D:List UInt8} (h:D.length=32):(List.range 32).map (bAt D)=D:=by
 apply List.ext_getElem?
 intro i
 by_cases hi:i<32
 ·rw [List.getElem?_map,List.getElem?_range hi,pO ag]
  rfl
 ·rw [List.getElem?_eq_none (by simp; omega),List.getElem?_eq_none ag]
set_option maxRecDepth 100000 in
theorem JQ (c:Int) (g:Nat→UInt8) (w:World):(Instr.build 49 #[(0,.int .i64 c),(1,.agg (dc ((List.range 32).map g)).toArray)]).run Tryz.prog w= .ok (.agg (.int .i64 c::dc ((List.range 32).map g)).toArray) w:=af
theorem Ha (c:Int) {X:List UInt8} (h:X.length=32) (w:World):(Instr.build 49 #[(0,.int .i64 c),(1,.agg (dc X).toArray)]).run Tryz.prog w= .ok (.agg (.int .i64 c::dc X).toArray) w:=by
 have h1:=JQ c (bAt X) w
 rw [Nl h] at h1
 exact h1
theorem pK (n:Int) (ch:List UInt8):∀ v∈(Value.int .i64 n::dc ch),v.oneCell'=true:=fun v hv=>by
 rcases List.mem_cons.1 hv with h | h
 ·subst h; rfl
 ·exact gG _ v h
set_option maxRecDepth 100000 in
set_option maxHeartbeats 8000000 in
theorem F5 {w0:World} {R:List Seg} {G:List Seg} (n:Int) (ch:List UInt8) (X:Option Addr) (l:List UInt8) (c:Nat) (w:World) (hch:ch.length=32) (hR:Rd w0 G X l) (hc:l.length≤c) (hl:l.length<140737488353000) (hT:Tab w0) (hG:G⊆R) (hA:Hp w0 R w):Calls Tryz.prog 63 #[.agg (.int .i64 n::dc ch:List Value).toArray,.slice X l.length c] w fun e w'=>e= .returned (.agg (.int .i64 (nxt n)::dc (dZ ch l):List Value).toArray)∧Hp w0 R w':=by
 refine aP Tryz.func63 O Tryz.ntmps63 ai (fun a hF=>?_)
 refine wp_seq_k fun K1 hK1=>wp_region_lit ?_
 refine ay O (fun K hK=>fM (cs:= .int .i64 n::dc ch) hF O ae rfl hA O (fun b1 w2 a hb1 hF hA3=>hK _ _ ?_))
 refine ay O (fun K hK=>cZ hF O ae rfl hA3 (wL) (fun b4 w5 a hb4 hF hA6=>hK _ _ ?_))
 refine aI<|hK1 _ _ ?_
 apply wp_seq_k; intro K2 hK2
 refine aT 9 [6,7,9] [0,1,2,3,4,5,6,7,8,9] _ af af (Hq.drew hA6.q) ?_
 have hA7:=Hl.drew hA6
 refine pR hF<|pW O O (fun _=>yf 0 O N8 O jd O)<|pV O O (fun x hx=>bi (u:= .int .i64 n) rfl hx O 1 O O mg)<|pW O O (fun _=>bz O O O (rfl:_=nxt n))<|pW O O (fun _=>yf 1 O N8 O AX O)<|pV O O (fun x hx=>df (new:=dc ch) rfl hx O 1 O Il (by rw [dP hch]; exact Nat.le_of_ble_eq_true rfl) (by show (dc ch).take 32=_; exact NZ (by rw [aK,hch]; exact NV _))) fun a hF=>?_
 refine pR hF<|pX O O fun a hF=>?_
 refine eY O O O (fun K hK=>aB hF O ae DZ rfl rfl ?_)
 with_reducible refine (Ih w0 _ ([row b4 49 [.int .i64 0,.int .u8 0,.int .u8 0,.int .u8 0,.int .u8 0,.int .u8 0,.int .u8 0,.int .u8 0,.int .u8 0,.int .u8 0,.int .u8 0,.int .u8 0,.int .u8 0,.int .u8 0,.int .u8 0,.int .u8 0,.int .u8 0,.int .u8 0,.int .u8 0,.int .u8 0,.int .u8 0,.int .u8 0,.int .u8 0,.int .u8 0,.int .u8 0,.int .u8 0,.int .u8 0,.int .u8 0,.int .u8 0,.int .u8 0,.int .u8 0,.int .u8 0,.int .u8 0]]::[row b1 49 (.int .i64 n::dc ch)]::R) G (List.Subset.trans hG (fK (fK (kz)))) 32 X l c hT hR hc hl hA7).mono ?_
 rintro e' w8 ⟨rfl,hA9⟩
 refine ⟨_,rfl,fun a hF=>hK _ _ (fun _=>?_) ?_⟩
 ·exact hA9.q
 replace hA9:Hp w0 ([row b4 49 [.int .i64 0,.int .u8 0,.int .u8 0,.int .u8 0,.int .u8 0,.int .u8 0,.int .u8 0,.int .u8 0,.int .u8 0,.int .u8 0,.int .u8 0,.int .u8 0,.int .u8 0,.int .u8 0,.int .u8 0,.int .u8 0,.int .u8 0,.int .u8 0,.int .u8 0,.int .u8 0,.int .u8 0,.int .u8 0,.int .u8 0,.int .u8 0,.int .u8 0,.int .u8 0,.int .u8 0,.int .u8 0,.int .u8 0,.int .u8 0,.int .u8 0,.int .u8 0,.int .u8 0]]::[row b1 49 (.int .i64 n::dc ch)]::R) w8:=hA9
 refine eY O O O (fun K hK=>aB hF O ae D5 rfl rfl ?_)
 with_reducible refine (Ig w0 _ ([row b4 49 [.int .i64 0,.int .u8 0,.int .u8 0,.int .u8 0,.int .u8 0,.int .u8 0,.int .u8 0,.int .u8 0,.int .u8 0,.int .u8 0,.int .u8 0,.int .u8 0,.int .u8 0,.int .u8 0,.int .u8 0,.int .u8 0,.int .u8 0,.int .u8 0,.int .u8 0,.int .u8 0,.int .u8 0,.int .u8 0,.int .u8 0,.int .u8 0,.int .u8 0,.int .u8 0,.int .u8 0,.int .u8 0,.int .u8 0,.int .u8 0,.int .u8 0,.int .u8 0,.int .u8 0]]::[row b1 49 (.int .i64 n::dc ch)]::R) 32 ch (ofL 32 0 l) hch (eU _ _ _) hT hA9).mono ?_
 rintro e' w10 ⟨rfl,hA11⟩
 refine ⟨_,rfl,fun a hF=>hK _ _ (fun _=>?_) ?_⟩
 ·exact hA11.q
 replace hA11:Hp w0 ([row b4 49 [.int .i64 0,.int .u8 0,.int .u8 0,.int .u8 0,.int .u8 0,.int .u8 0,.int .u8 0,.int .u8 0,.int .u8 0,.int .u8 0,.int .u8 0,.int .u8 0,.int .u8 0,.int .u8 0,.int .u8 0,.int .u8 0,.int .u8 0,.int .u8 0,.int .u8 0,.int .u8 0,.int .u8 0,.int .u8 0,.int .u8 0,.int .u8 0,.int .u8 0,.int .u8 0,.int .u8 0,.int .u8 0,.int .u8 0,.int .u8 0,.int .u8 0,.int .u8 0,.int .u8 0]]::[row b1 49 (.int .i64 n::dc ch)]::R) w10:=hA11
 rw [show ofL 32 2 (ch++ofL 32 0 l)=dZ ch l from rfl] at hF
 refine pR hF<|pW O O (fun _=>fP (qs := #[(0,.int .i64 (nxt n)),(1,.agg (dc (dZ ch l)).toArray)]) O O (Ha _ (dE ch l))) fun a hF=>?_
 refine eY O O O (fun K hK=>aZ (new:=(.int .i64 (nxt n)::dc (dZ ch l))) hF O O hA11 O O 0 O (by rw [dP (dE ch l)]; rfl) (pK _ _) xh (fun w12 hA13=>hK _ _ (fun h=>absurd h ae) ?_))
 replace hA13:Hp w0 ([row b4 49 (.int .i64 (nxt n)::dc (dZ ch l))]::[row b1 49 (.int .i64 n::dc ch)]::R) w12:=hA13
 refine bF ?_
 refine hK2 _ _ ?_
 apply wp_ret
 refine uS hF Tryz.results63 hA13.q O 0 O (by rw [dP (dE ch l)]; exact xC) ?_
 have hA14:Hp w0 (R) w12:=hpS 2 [] [0,1] hA13 rfl
 exact ⟨rfl,hA14⟩
set_option maxRecDepth 100000 in
set_option maxHeartbeats 8000000 in
theorem EK {w0:World} {R:List Seg} {G:List Seg} (n:Int) (ch:List UInt8) (X:Option Addr) (l:List UInt8) (c:Nat) (w:World) (hch:ch.length=32) (hR:Rd w0 G X l) (hc:l.length≤c) (hl:l.length<140737488353000) (hG:G⊆R) (hA:Hp w0 R w):Calls Tryz.prog 64 #[.agg (.int .i64 n::dc ch:List Value).toArray,.slice X l.length c] w fun e w'=>e= .returned (.agg (.int .i64 (nxt n)::dc (dZ ch l):List Value).toArray)∧Hp w0 R w':=by
 refine aP Tryz.func64 O Tryz.ntmps64 ai (fun a hF=>?_)
 refine wp_seq_k fun K1 hK1=>wp_region_lit ?_
 refine ay O (fun K hK=>fM (cs:= .int .i64 n::dc ch) hF O ae rfl hA O (fun b1 w2 a hb1 hF hA3=>hK _ _ ?_))
 refine ay O (fun K hK=>cZ hF O ae rfl hA3 (wL) (fun b4 w5 a hb4 hF hA6=>hK _ _ ?_))
 refine aI<|hK1 _ _ ?_
 apply wp_seq_k; intro K2 hK2
 refine aT 9 [6,7,9] [0,1,2,3,4,5,6,7,8,9] _ af af (Hq.drew hA6.q) ?_
 have hA7:=Hl.drew hA6
 refine pR hF<|pW O O (fun _=>yf 0 O N8 O jd O)<|pV O O (fun x hx=>bi (u:= .int .i64 n) rfl hx O 1 O O mg)<|pW O O (fun _=>bz O O O (rfl:_=nxt n))<|pW O O (fun _=>yf 1 O N8 O AX O)<|pV O O (fun x hx=>df (new:=dc ch) rfl hx O 1 O Il (by rw [dP hch]; exact Nat.le_of_ble_eq_true rfl) (by show (dc ch).take 32=_; exact NZ (by rw [aK,hch]; exact NV _))) fun a hF=>?_
 refine pR hF<|pX O O fun a hF=>?_
 refine eY O O O (fun K hK=>aB hF O ae DX rfl rfl ?_)
 with_reducible refine (Ey w0 _ ([row b4 49 [.int .i64 0,.int .u8 0,.int .u8 0,.int .u8 0,.int .u8 0,.int .u8 0,.int .u8 0,.int .u8 0,.int .u8 0,.int .u8 0,.int .u8 0,.int .u8 0,.int .u8 0,.int .u8 0,.int .u8 0,.int .u8 0,.int .u8 0,.int .u8 0,.int .u8 0,.int .u8 0,.int .u8 0,.int .u8 0,.int .u8 0,.int .u8 0,.int .u8 0,.int .u8 0,.int .u8 0,.int .u8 0,.int .u8 0,.int .u8 0,.int .u8 0,.int .u8 0,.int .u8 0]]::[row b1 49 (.int .i64 n::dc ch)]::R) G (List.Subset.trans hG (fK (fK (kz)))) 32 X l c hR hc hl hA7).mono ?_
 rintro e' w8 ⟨rfl,hA9⟩
 refine ⟨_,rfl,fun a hF=>hK _ _ (fun _=>?_) ?_⟩
 ·exact hA9.q
 replace hA9:Hp w0 ([row b4 49 [.int .i64 0,.int .u8 0,.int .u8 0,.int .u8 0,.int .u8 0,.int .u8 0,.int .u8 0,.int .u8 0,.int .u8 0,.int .u8 0,.int .u8 0,.int .u8 0,.int .u8 0,.int .u8 0,.int .u8 0,.int .u8 0,.int .u8 0,.int .u8 0,.int .u8 0,.int .u8 0,.int .u8 0,.int .u8 0,.int .u8 0,.int .u8 0,.int .u8 0,.int .u8 0,.int .u8 0,.int .u8 0,.int .u8 0,.int .u8 0,.int .u8 0,.int .u8 0,.int .u8 0]]::[row b1 49 (.int .i64 n::dc ch)]::R) w8:=hA9
 refine eY O O O (fun K hK=>aB hF O ae DY rfl rfl ?_)
 with_reducible refine (Ew w0 _ ([row b4 49 [.int .i64 0,.int .u8 0,.int .u8 0,.int .u8 0,.int .u8 0,.int .u8 0,.int .u8 0,.int .u8 0,.int .u8 0,.int .u8 0,.int .u8 0,.int .u8 0,.int .u8 0,.int .u8 0,.int .u8 0,.int .u8 0,.int .u8 0,.int .u8 0,.int .u8 0,.int .u8 0,.int .u8 0,.int .u8 0,.int .u8 0,.int .u8 0,.int .u8 0,.int .u8 0,.int .u8 0,.int .u8 0,.int .u8 0,.int .u8 0,.int .u8 0,.int .u8 0,.int .u8 0]]::[row b1 49 (.int .i64 n::dc ch)]::R) 32 ch (ofL 32 0 l) hch (eU _ _ _) hA9).mono ?_
 rintro e' w10 ⟨rfl,hA11⟩
 refine ⟨_,rfl,fun a hF=>hK _ _ (fun _=>?_) ?_⟩
 ·exact hA11.q
 replace hA11:Hp w0 ([row b4 49 [.int .i64 0,.int .u8 0,.int .u8 0,.int .u8 0,.int .u8 0,.int .u8 0,.int .u8 0,.int .u8 0,.int .u8 0,.int .u8 0,.int .u8 0,.int .u8 0,.int .u8 0,.int .u8 0,.int .u8 0,.int .u8 0,.int .u8 0,.int .u8 0,.int .u8 0,.int .u8 0,.int .u8 0,.int .u8 0,.int .u8 0,.int .u8 0,.int .u8 0,.int .u8 0,.int .u8 0,.int .u8 0,.int .u8 0,.int .u8 0,.int .u8 0,.int .u8 0,.int .u8 0]]::[row b1 49 (.int .i64 n::dc ch)]::R) w10:=hA11
 rw [show ofL 32 2 (ch++ofL 32 0 l)=dZ ch l from rfl] at hF
 refine pR hF<|pW O O (fun _=>fP (qs := #[(0,.int .i64 (nxt n)),(1,.agg (dc (dZ ch l)).toArray)]) O O (Ha _ (dE ch l))) fun a hF=>?_
 refine eY O O O (fun K hK=>aZ (new:=(.int .i64 (nxt n)::dc (dZ ch l))) hF O O hA11 O O 0 O (by rw [dP (dE ch l)]; rfl) (pK _ _) xh (fun w12 hA13=>hK _ _ (fun h=>absurd h ae) ?_))
 replace hA13:Hp w0 ([row b4 49 (.int .i64 (nxt n)::dc (dZ ch l))]::[row b1 49 (.int .i64 n::dc ch)]::R) w12:=hA13
 refine bF ?_
 refine hK2 _ _ ?_
 apply wp_ret
 refine uS hF Tryz.results64 hA13.q O 0 O (by rw [dP (dE ch l)]; exact xC) ?_
 have hA14:Hp w0 (R) w12:=hpS 2 [] [0,1] hA13 rfl
 exact ⟨rfl,hA14⟩
set_option maxRecDepth 100000 in
set_option maxHeartbeats 8000000 in
theorem Na {w0:World} {R:List Seg} {G:List Seg} (ea:EA) (w:World) (hV:ea.Ok w0 G) (hA:Hp w0 R w):Calls Tryz.prog 66 #[.agg ea.cells.toArray] w fun e w'=>e= .returned (aj ea.cas)∧Hp w0 R w':=by
 have he32:ea.eff.length=32:=hV.i.2.2.2.2.2
 refine aP Tryz.func66 O Tryz.ntmps66 ai (fun a hF=>?_)
 refine wp_seq_k fun K1 hK1=>wp_region_lit ?_
 refine ay O (fun K hK=>fM (cs:=ea.cells) hF O ae rfl hA O (fun b1 w2 a hb1 hF hA3=>hK _ _ ?_))
 refine vR hF<|vX O<|vE hK1<|wT fun K2 hK2=>vV O (yf 4 O N9 O uV O)<|vV O (bi O hA3.q O 0 O O vM)<|vX O<|vE hK2 fun a hF=>?_
 apply wp_ret
 refine aO hF Tryz.results66 O ?_
 have hA4:Hp w0 (R) w2:=hpS 1 [] [0] hA3 rfl
 exact ⟨rfl,hA4⟩
end Go.Proofs.YtepbmdlgdaedpaaGreatDoor
