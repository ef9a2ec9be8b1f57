/- The walk of a sparse tree, item by item; a list of its items. -/
import Derived.Test.YtpomngkcfbnjoaaGreatDoorSpQ
import Derived.Test.YtpomngkcfbnjoaaGreatDoorSi
/- The walk of a sparse tree, item by item; a list of its items. -/
set_option maxRecDepth 100000
set_option maxHeartbeats 2000000
namespace Go.Proofs.YtpomngkcfbnjoaaGreatDoor
open Go.RowKit Go.Dk
abbrev WalkC (w0:World) (L:List Itm) (G:List Seg) (q:Bool) (bx:Value) (JS:List Itm→List Seg→Prop) (JX:List Seg→Prop) (t:Rx):Prop :=
 ∀ pre post,pre++(t.items++post)=L→∀ (w:World) (R S:List Seg) (g:Nat),G⊆R→JS pre S→Tr w0 G q t g→Hp w0 (S++R) w→Calls Tryz.prog 80 #[.pointer (some ⟨g,0,none⟩),.func (.func 81) #[] #[bx]] w (Qs w0 JS JX R (pre++t.items))
abbrev YC (w0:World) (L:List Itm) (G:List Seg) (bx:Value) (JS:List Itm→List Seg→Prop) (JX:List Seg→Prop):Prop :=
 ∀ pre i post,pre++i::post=L→∀ (w:World) (R S:List Seg),G⊆R→JS pre S→Hp w0 (S++R) w→Calls Tryz.prog 81 #[.agg (dc i.k).toArray,.agg i.ent.toArray,bx] w (Qs w0 JS JX R (pre++[i]))
abbrev YR (w0:World) (l:Nat) (L:List Itm) (G:List Seg) (JS:List Itm→List Seg→Prop) (JX:List Seg→Prop):Prop :=
 ∀ pre i post,pre++i::post=L→i.OK→∀ (w:World) (R S:List Seg),G⊆R→JS pre S→Hp w0 (S++R) w→Ydl Tryz.prog l #[.agg i.cells.toArray] w (Qs w0 JS JX R (pre++[i]))
theorem Lp {i:Itm} (h:i.OK) (w:World):(Instr.build 49 #[(0,.agg (dc i.k).toArray),(1,.agg i.ent.toArray)]).run Tryz.prog w= .ok (.agg i.cells.toArray) w:=by
 have h1:∀ (f g:Nat→UInt8) (c:Int),(Instr.build 49 #[(0,.agg (dc ((List.range 32).map f)).toArray),(1,.agg (.int .i64 c::dc ((List.range 32).map g)).toArray)]).run Tryz.prog w= .ok (.agg (dc ((List.range 32).map f)++(.int .i64 c::dc ((List.range 32).map g))).toArray) w:=fun f g c=>by kernel_rfl
 have h2:=h1 (bAt i.k) (bAt i.ch) i.ct
 rw [lu h.k,lu h.ch] at h2
 exact h2
theorem QP {P:Program} {w:World} {n:Nat} {F:List (Nat × Value)} {o:Oper} {op:BinOp} {t t':TypeId} {x y:Operand} {u v r:Value} (ho:o.op= .binOp op t x y t') (hx:Dk.ev F x=some u) (hy:Dk.ev F y=some v) (hr:∀ w:World,(do eqGuard op t x y u v; binOp op t u v:Sem Value).run P w= .ok r w):Yd P n F o w r:=fun a hF=>by
 unfold execOp
 have h:=hr w
 simp only [ho,hF.ev hx,hF.ev hy]
 rw [Sem.run_bind,h]
 rfl
theorem xy:bW Tryz.prog 31=true:=af
theorem IL:bW Tryz.prog 139=true:=af
theorem JQ:(Tryz.prog.info? 31).map (·.size)=some 1:=af
theorem Nq:aG Tryz.prog 58:=⟨_,Tryz.func58,af,af⟩
theorem Nh:aG Tryz.prog 79:=⟨_,Tryz.func79,af,af⟩
theorem sS:aG Tryz.prog 80:=⟨_,Tryz.func80,af,af⟩
theorem Nc:aG Tryz.prog 81:=⟨_,Tryz.func81,af,af⟩
theorem Jm:bV Tryz.prog 31 (.slice none 0 0):=by unfold bV; kernel_rfl
theorem KP {w0:World} {L:List Itm} {G:List Seg} {q:Bool} {bx:Value} {JS:List Itm→List Seg→Prop} {JX:List Seg→Prop} (hY:YC w0 L G bx JS JX) (i:Itm) (hi:i.OK):WalkC w0 L G q bx JS JX (.leaf i):=by
 intro pre post hL w R S g hG0 hJ hTr hA
 have hG:G⊆S++R:=fun x hx=>TE _ (hG0 hx)
 have hL2:=NodeL.leaf hi
 have hN:Rw w0 G g (aC i.k i.ent 1 256 (.pointer none) (.pointer none) (List.replicate 64 (.int .u8 0))):=hTr
 refine aJ Tryz.func80 O Tryz.ntmps80 ai (fun a hF=>?_)
 refine wS hF fun K1 hK1=>vX O<|vE hK1<|wQ fun K2 hK2=>wT fun K3 hK3=>vX O<|vV O (iG O af rfl rfl)<|vE hK3<|vF1 O<|wKp hK2<|wQ fun K4 hK4=>wT fun K5 hK5=>vX O<|vX O<|vV O (yf 66 rfl Uj O QY O)<|vV O (bD O (Hq.sub hA.q (List.Subset.trans hG (bu))) O hN 66 (by rw [aF hL2]; decide) rfl (dA hL2 _ _ _ _) Bq) fun a hF=>?_
 refine vR hF<|vV O (aH O O O O (gJ ag))<|vE hK5<|vT1 O<|wQ fun K6 hK6 a hF=>?_
 refine ak 9 [9,10] [0,1,2,3,4,5,6,7,8,9,10] _ af af (Hq.drew hA.q) ?_
 have hA1:=Hl.drew hA
 refine pR hF<|pX O O<|pX O O<|pX O O<|pW O O (fun _=>yf 0 O Uj O uX O)<|pV O O (fun x hx=>aQ O (Hq.sub hx (List.Subset.trans hG (bu))) O hN 0 (by rw [aF hL2]; decide) rfl (dV hL2 _ _ _ _) vw) fun a hF=>?_
 refine pR hF<|pX O O<|pX O O<|pW O O (fun _=>yf 32 rfl Uj O Bz O)<|pV O O (fun x hx=>aQ O (Hq.sub hx (List.Subset.trans hG (bu))) O hN 32 (by rw [aF hL2]; decide) rfl (IM hL2 _ _ _ _) BN) fun a hF=>?_
 refine bM O O O (fun K hK=>Bg hF O ae Nc rfl rfl rfl ?_)
 refine (hY pre i post (by have h:=hL; unfold Rx.items at h; rw [List.singleton_append] at h; exact h) _ R S hG0 hJ hA1).mono ?_
 rintro e' w2 ⟨b,rfl,hW⟩
 refine ⟨_,rfl,fun a hF=>hK _ _ (fun h=>absurd h ae) ?_⟩
 refine bY hF O O O O ae _ (bJ O O) (fun h=>absurd h ae) (fun a hF=>?_)
 refine aB ?_
 refine hK6 _ _ ?_
 apply wp_ret
 simp only [Exit.then]
 refine aO hF Tryz.results80 O ?_
 exact ⟨b,rfl,hW⟩
theorem KQ {w0:World} {L:List Itm} {G:List Seg} {q:Bool} {bx:Value} {JS:List Itm→List Seg→Prop} {JX:List Seg→Prop} (b:Nat) (l r:Rx) (hg:(Rx.fork b l r).Good) (hl:WalkC w0 L G q bx JS JX l) (hr:WalkC w0 L G q bx JS JX r):WalkC w0 L G q bx JS JX (.fork b l r):=by
 intro pre post hL w R S g hG0 hJ hTr hA
 have hG:G⊆S++R:=fun x hx=>TE _ (hG0 hx)
 have hgl:=hg.1
 have hll:=Rx.bit_le hgl
 have hbl:b<l.bit:=hg.2.2.1
 obtain ⟨hL2,gl,gr,hN,hTl,hTr2⟩:=Tr.viewF hg hTr
 have hL':pre++(l.items++(r.items++post))=L:=by rw [← hL]; show _=pre++((l.items++r.items)++post); rw [List.append_assoc]
 have hL'':(pre++l.items)++(r.items++post)=L:=by rw [← hL',List.append_assoc]
 refine aJ Tryz.func80 O Tryz.ntmps80 ai (fun a hF=>?_)
 refine wS hF fun K1 hK1=>vX O<|vE hK1<|wQ fun K2 hK2=>wT fun K3 hK3=>vX O<|vV O (iG O af rfl rfl)<|vE hK3<|vF1 O<|wKp hK2<|wQ fun K4 hK4=>wT fun K5 hK5=>vX O<|vX O<|vV O (yf 66 rfl Uj O QY O)<|vV O (bD O (Hq.sub hA.q (List.Subset.trans hG (bu))) O hN 66 (by rw [aF hL2]; decide) rfl (dA hL2 _ _ _ _) Bq) fun a hF=>?_
 refine vR hF<|vV O (aH O O O O (fJ ag))<|vE hK5<|vF1 O<|wKp hK4<|wT fun K6 hK6=>vX O<|vX O<|vV O (yf 67 rfl Uj O pF O)<|vV O (aP O Um Oo O O 0 O ae (rfl:(⟨_,67+0*1,none⟩:Addr)=⟨_,67,none⟩) (rfl:(none:Option Nat)=none))<|vV O (bD O (Hq.sub hA.q (List.Subset.trans hG (bu))) O hN 67 (by rw [aF hL2]; decide) rfl (eX hL2 _ _ _ _) Pi) fun a hF=>?_
 refine vR hF<|vX O fun a hF=>?_
 refine au O (fun K hK=>ax hF O ae sS rfl rfl ?_)
 with_reducible refine (hl pre (r.items++post) hL' _ R S gl hG0 hJ hTl hA).mono ?_
 rintro e' w2 ⟨b1,rfl,hW⟩
 refine ⟨_,rfl,fun a hF=>hK _ _ ?_⟩
 cases b1
 ·refine vR hF<|vX O<|vS O<|vS O<|vS O<|vS O<|vS O<|vS O<|vS O<|vV O (bg O O O)<|vX O<|vE hK6 fun a hF=>?_
  apply wp_ret
  refine aO hF Tryz.results80 O ?_
  exact ⟨false,rfl,hW⟩
 ·obtain ⟨S2,hJ2,hA2⟩:=hW
  have hG:G⊆S2++R:=fun x hx=>TE _ (hG0 hx)
  refine vR hF<|vX O<|vG O (bT O O)<|vG O (bP O O)<|vG O (yf 67 rfl Uj O pF O)<|vG O (aP O Um Oo O O 1 O ae (rfl:(⟨_,67+1*1,none⟩:Addr)=⟨_,68,none⟩) (rfl:(none:Option Nat)=none))<|vG O (bD O (Hq.sub hA2.q (List.Subset.trans hG (bu))) O hN 68 (by rw [aF hL2]; decide) rfl (gI hL2 _ _ _ _) Pi) fun a hF=>?_
  refine vR hF<|vG O (bT O O) fun a hF=>?_
  refine lm hF O O O O (fun K hK=>ax hF O ae sS rfl rfl ?_)
  with_reducible refine (hr (pre++l.items) post hL'' _ R S2 gr hG0 hJ2 hTr2 hA2).mono ?_
  rintro e' w3 ⟨b2,rfl,hW⟩
  refine ⟨_,rfl,fun a hF=>hK _ _ ?_⟩
  refine vR hF<|vV O (bg O O O)<|vX O<|vE hK6 fun a hF=>?_
  apply wp_ret
  refine aO hF Tryz.results80 O ?_
  rw [List.append_assoc] at hW
  exact ⟨b2,rfl,hW⟩
theorem zV {w0:World} {L:List Itm} {G:List Seg} {q:Bool} {bx:Value} {JS:List Itm→List Seg→Prop} {JX:List Seg→Prop} (hY:YC w0 L G bx JS JX):∀ t:Rx,t.Good→WalkC w0 L G q bx JS JX t
 | .leaf i,hg=>KP hY i hg
 | .fork b l r,hg=>KQ b l r hg (zV hY l hg.1) (zV hY r hg.2.1)
theorem KO (w0 w:World) (R:List Seg) (bx:Value) (hA:Hp w0 R w):Calls Tryz.prog 80 #[.pointer none,.func (.func 81) #[] #[bx]] w fun e w'=>e= .returned (.bool true)∧Hp w0 R w':=by
 refine aJ Tryz.func80 O Tryz.ntmps80 ai (fun a hF=>?_)
 refine wS hF fun K1 hK1=>vX O<|vE hK1<|wQ fun K2 hK2=>wT fun K3 hK3=>vX O<|vV O (lS O af rfl rfl)<|vE hK3<|vT1 O<|wT fun K4 hK4=>vX O<|vE hK4 fun a hF=>?_
 apply wp_ret
 simp only [Exit.then]
 refine aO hF Tryz.results80 O ?_
 exact ⟨rfl,hA⟩
theorem IZ {w0 w:World} {X Y:Seg} {S R:List Seg} (h:Hp w0 (X::Y::(S++R)) w):Hp w0 (S++(X::Y::R)) w:=by
 refine Hl.perm h ?_
 simp only [List.flatten_cons,List.flatten_append]
 rw [← List.append_assoc,← List.append_assoc,← List.append_assoc X Y]
 exact List.Perm.trans (List.Perm.append_right _ List.perm_append_comm) (List.Perm.of_eq (by rw [List.append_assoc]))
theorem YR.mono {w0:World} {l:Nat} {L:List Itm} {G G2:List Seg} {JS:List Itm→List Seg→Prop} {JX:List Seg→Prop} (h:YR w0 l L G JS JX) (hs:G⊆G2):YR w0 l L G2 JS JX :=
 fun pre i post hL hi w R S hG=>h pre i post hL hi w R S (List.Subset.trans hs hG)
theorem SK {w0:World} {L:List Itm} {G:List Seg} {JS:List Itm→List Seg→Prop} {JX:List Seg→Prop} {l bx:Nat} (hI:∀ i∈L,i.OK) (hY:YR w0 l L G JS JX) (hbx:Rw w0 G bx [.func (.yield l) #[] #[]]):YC w0 L G (.pointer (some ⟨bx,0,none⟩)) JS JX:=by
 intro pre i post hL w R S hG hJ hA
 have hi:i.OK:=hI i (by rw [← hL]; exact TE _ (TF ..))
 have hdk:(dc i.k).length=32:=by rw [aj,hi.k]
 have hde:i.ent.length=33:=by unfold Itm.ent; rw [List.length_cons,aj,hi.ch]
 have hno:¬ LetsOut (bodyPostM (fc none) 0 Tryz.prog Tryz.f81 (Qs w0 JS JX R (pre++[i]))):=(fun ⟨_,_,(⟨_,h,_⟩:∃ b,_=_∧_)⟩=>nomatch h)
 refine JH Tryz.func81 O Tryz.ntmps81 ai (fun a hF=>?_)
 apply iL; intro K1 hK1
 refine yw hno rfl ?_
 refine au O (fun K hK=>bC (cs:=dc i.k) hF O ae rfl hA O (fun b1 w2 a hb1 hF hA3=>hK _ _ ?_))
 refine au O (fun K hK=>bC (cs:=i.ent) hF O ae rfl hA3 O (fun b4 w5 a hb4 hF hA6=>hK _ _ ?_))
 refine vR hF<|vX O fun a hF=>az<|hK1 _ _ ?_
 apply iL; intro K2 hK2
 have hA7:Hp w0 ([row b1 25 (dc i.k)]::[row b4 27 i.ent]::(S++R)) w5:=hpO 2 [1,0] hA6 rfl
 refine wpIn_region_lit ?_
 refine JD hF O O O hno ae _ (bD O (Hq.sub hA7.q (show G⊆([row b1 25 (dc i.k)]::[row b4 27 i.ent]::(S++R)) from fun x hx=>TI _ (TI _ (TE _ (hG hx))))) O (hbx) 0 (by simp) rfl rfl IL) (fun a hF=>?_)
 refine JD hF O O O hno ae _ (yZ (new:=dc i.k) rfl hA7.q O 0 O vw hdk) (fun a hF=>?_)
 refine JD hF O O O hno ae _ (yZ (new:=i.ent) rfl hA7.q O 1 O BN hde) (fun a hF=>?_)
 refine JD hF O O O hno ae _ (dS (qs := #[(0,.agg (dc i.k).toArray),(1,.agg i.ent.toArray)]) O O (by exact Lp hi)) (fun a hF=>?_)
 refine JC hF O O ae rfl rfl rfl ?_
 have hA2:Hp w0 (S++([row b1 25 (dc i.k)]::[row b4 27 i.ent]::R)) w5:=IZ hA7
 refine Ydl.mono (hY pre i post hL hi _ _ S (List.subset_cons_of_subset _ (List.subset_cons_of_subset _ hG)) hJ hA2) ?_
 rintro e' w2 ⟨b,rfl,hW⟩
 refine ⟨_,rfl,fun a hF=>?_⟩
 refine JD hF O O O hno ae _ (bJ O O) (fun a hF=>?_)
 refine wpListIn_nil ?_
 refine hK2 _ _ ?_
 apply wpIn_ret
 exact Oh hF Tryz.results81 O ⟨b,rfl,hW.drop.drop⟩
theorem MS {X:Seg} {G R:List Seg} (h:G⊆R):(X::G)⊆(X::R):=fun x hx=>by
 rcases List.mem_cons.1 hx with rfl | hx
 ·exact TF ..
 ·exact TI _ (h hx)
theorem EC {w0 w:World} {L:List Itm} {G:List Seg} {JS:List Itm→List Seg→Prop} {JX:List Seg→Prop} {l tb:Nat} (hI:∀ i∈L,i.OK) (hY:YR w0 l L G JS JX) (t:Rx) (hg:t.Good) (hLt:t.items=L) (gn:Nat) (sl:Value) (q:Bool) (hTr:Tr w0 G q t gn) (R S:List Seg) (hG:G⊆R) (hTb:Rw w0 G tb [.pointer (some ⟨gn,0,none⟩),sl]) (hJ:JS [] S) (hA:Hp w0 (S++R) w):Calls Tryz.prog 79 #[.func (.yield l) #[] #[],.pointer (some ⟨tb,0,none⟩)] w fun e w'=>(∃ v,e= .returned v)∧∃ b,WB w0 JS JX R L b w':=by
 have hGS:G⊆S++R:=fun x hx=>TE _ (hG hx)
 refine aJ Tryz.func79 O Tryz.ntmps79 ai (fun a hF=>?_)
 refine wp_seq_k fun K1 hK1=>wp_region_lit ?_
 refine au O (fun K hK=>pU hF O ae rfl hA O O (fun b1 w2 a hb1 hF hA3=>hK _ _ ?_))
 refine az<|hK1 _ _ ?_
 refine wp_region_lit ?_
 refine vR hF<|vV O (yf 0 O Ul O Oo O)<|vV O (bD O (Hq.sub hA3.q (List.subset_cons_of_subset _ hGS)) O hTb 0 (by simp) rfl rfl Pi)<|vV O (ku O O) fun a hF=>?_
 have hA2:Hp w0 (S++([row b1 139 [.func (.yield l) #[] #[]]]::R)) w2:=Hp.under hA3
 have hgs:G⊆([row b1 139 [.func (.yield l) #[] #[]]]::G):=List.subset_cons_of_subset _ (List.Subset.refl _)
 refine au O (fun K hK=>ax hF O ae sS rfl rfl ?_)
 with_reducible refine (zV (SK hI (YR.mono hY hgs) (Rw.ofMem (TF ..) (TF ..))) t hg [] [] (by rw [List.append_nil,List.nil_append]; exact hLt) _ ([row b1 139 [.func (.yield l) #[] #[]]]::R) S gn (MS hG) hJ (hTr.mono hgs) hA2).mono ?_
 rintro e' w2 ⟨b,rfl,hW⟩
 refine ⟨_,rfl,fun a hF=>hK _ _ ?_⟩
 refine az ?_
 refine jJ hF Tryz.results79 ?_
 rw [List.nil_append,hLt] at hW
 exact ⟨⟨_,rfl⟩,b,hW.drop⟩
theorem ED {w0 w:World} {G:List Seg} {JS:List Itm→List Seg→Prop} {JX:List Seg→Prop} {l tb:Nat} (sl:Value) (R S:List Seg) (hG:G⊆R) (hTb:Rw w0 G tb [.pointer none,sl]) (hJ:JS [] S) (hA:Hp w0 (S++R) w):Calls Tryz.prog 79 #[.func (.yield l) #[] #[],.pointer (some ⟨tb,0,none⟩)] w fun e w'=>(∃ v,e= .returned v)∧∃ b,WB w0 JS JX R [] b w':=by
 have hGS:G⊆S++R:=fun x hx=>TE _ (hG hx)
 refine aJ Tryz.func79 O Tryz.ntmps79 ai (fun a hF=>?_)
 refine wp_seq_k fun K1 hK1=>wp_region_lit ?_
 refine au O (fun K hK=>pU hF O ae rfl hA O O (fun b1 w2 a hb1 hF hA3=>hK _ _ ?_))
 refine az<|hK1 _ _ ?_
 refine wp_region_lit ?_
 refine vR hF<|vV O (yf 0 O Ul O Oo O)<|vV O (bD O (Hq.sub hA3.q (List.subset_cons_of_subset _ hGS)) O hTb 0 (by simp) rfl rfl Pi)<|vV O (ku O O) fun a hF=>?_
 refine au O (fun K hK=>ax hF O ae sS rfl rfl ?_)
 with_reducible refine (KO w0 _ _ _ hA3).mono ?_
 rintro e' w2 ⟨rfl,hA2⟩
 refine ⟨_,rfl,fun a hF=>hK _ _ ?_⟩
 refine az ?_
 refine jJ hF Tryz.results79 ?_
 exact ⟨⟨_,rfl⟩,true,S,hJ,hA2.tail⟩
theorem Ih {w0 w:World} {L:List Itm} {G:List Seg} {JS:List Itm→List Seg→Prop} {JX:List Seg→Prop} {l tb:Nat} {top sl:Value} (hTV:TV w0 G L top sl) (hY:YR w0 l L G JS JX) (R S:List Seg) (hG:G⊆R) (hTb:Rw w0 G tb [top,sl]) (hJ:JS [] S) (hA:Hp w0 (S++R) w):Calls Tryz.prog 79 #[.func (.yield l) #[] #[],.pointer (some ⟨tb,0,none⟩)] w fun e w'=>(∃ v,e= .returned v)∧∃ b,WB w0 JS JX R L b w':=by
 have hI:=hTV.ok
 rcases hTV with ⟨rfl,rfl,rfl⟩ | ⟨t,g,ad,c,hLt,hg,rfl,rfl,hTr,_⟩
 ·exact ED _ R S hG hTb hJ hA
 ·exact EC hI hY t hg hLt g _ true hTr R S hG hTb hJ hA
theorem KY (w0 w:World) (R:List Seg) (top sl:Value) (hA:Hp w0 R w):Calls Tryz.prog 58 #[.agg ([top,sl]:List Value).toArray] w fun e w'=>∃ tb,e= .returned (.func (.func 79) #[] #[.pointer (some ⟨tb,0,none⟩)])∧Hp w0 ([row tb 37 [top,sl]]::R) w':=by
 refine aJ Tryz.func58 O Tryz.ntmps58 ai (fun a hF=>?_)
 refine wp_seq_k fun K1 hK1=>wp_region_lit ?_
 refine au O (fun K hK=>bC (cs:=[top,sl]) hF O ae rfl hA O (fun b1 w2 a hb1 hF hA3=>hK _ _ ?_))
 refine vR hF<|vX O<|vE hK1<|wT fun K2 hK2=>vV O (ku O O)<|vX O<|vE hK2 fun a hF=>?_
 apply wp_ret
 refine aO hF Tryz.results58 O ?_
 exact ⟨b1,rfl,hA3⟩
theorem Ig (w0 w:World) (R G:List Seg) (hG:G⊆R) (L:List Itm) (top sl:Value) (hTV:TV w0 G L top sl) (n:Nat) (hn:L.length<n) (hn2:n≤100000) (hA:Hp w0 R w):Calls Tryz.prog 34 #[.agg ([top,sl]:List Value).toArray,.int .i64 (n:Int)] w fun e w'=>∃ v X,e= .returned v∧Buf 49 65 X v L.length (cel Itm.cells L)∧Hp w0 (X::R) w':=by
 have hI:=hTV.ok
 refine JG Tryz.func34 O Tryz.ntmps34 ai (fun a hF=>?_)
 apply iL; intro K1 hK1
 refine fB (fun ⟨_,_,(⟨_,_,h,_⟩:∃ v X,_=_∧_)⟩=>nomatch h) rfl ?_
 refine au O (fun K hK=>bC (cs:=[top,sl]) hF O ae rfl hA O (fun b1 w2 a hb1 hF hA3=>hK _ _ ?_))
 refine au O (fun K hK=>pU hF O ae rfl hA3 O O (fun b4 w5 a hb4 hF hA6=>hK _ _ ?_))
 refine vR hF<|vX O fun a hF=>az<|hK1 _ _ ?_
 apply iL; intro K2 hK2
 refine fB (fun ⟨_,_,(⟨_,_,h,_⟩:∃ v X,_=_∧_)⟩=>nomatch h) rfl ?_
 refine au O (fun K hK=>IY hF O ae rfl hA6 (Jm) rfl (fun b7 w8 a hb7 hF hA9=>hK _ _ ?_))
 refine az<|hK2 _ _ ?_
 apply iL; intro K3 hK3
 refine fB (fun ⟨_,_,(⟨_,_,h,_⟩:∃ v X,_=_∧_)⟩=>nomatch h) rfl ?_
 refine vR hF<|vV O (aT (new:=[top,sl]) O hA9.q O 2 O wP ai rfl) fun a hF=>?_
 refine au O (fun K hK=>ax hF O ae Nq rfl rfl ?_)
 with_reducible refine (KY w0 _ ([row b7 31 [.slice none 0 0]]::[row b4 3 [.int .i64 ((n:Nat):Int)]]::[row b1 37 [top,sl]]::R) top sl hA9).mono ?_
 rintro e' w10 ⟨tb,rfl,hA11⟩
 refine ⟨_,rfl,fun a hF=>hK _ _ ?_⟩
 replace hA11:Hp w0 ([row tb 37 [top,sl]]::[row b7 31 [.slice none 0 0]]::[row b4 3 [.int .i64 ((n:Nat):Int)]]::[row b1 37 [top,sl]]::R) w10:=hA11
 refine vR hF<|vX O fun a hF=>az<|hK3 _ _ ?_
 apply iL; intro K4 hK4
 apply iL; intro K5 hK5
 refine fB (fun ⟨_,_,(⟨_,_,h,_⟩:∃ v X,_=_∧_)⟩=>nomatch h) rfl ?_
 refine vR hF<|vX O<|vV O (QP (r:= .bool false) rfl rfl rfl (fun w=>by kernel_rfl)) fun a hF=>az<|hK5 _ _ ?_
 refine Bj hF O ?_
 apply wpIn_skip
 refine hK4 _ _ ?_
 apply iL; intro K6 hK6
 apply iL; intro K7 hK7
 refine fB (fun ⟨_,_,(⟨_,_,h,_⟩:∃ v X,_=_∧_)⟩=>nomatch h) rfl ?_
 refine vR hF<|vX O fun a hF=>az<|hK7 _ _ ?_
 apply wpIn_block
 have hA12:Hp w0 ([row b7 31 [.slice none 0 0]]::[row b4 3 [.int .i64 ((n:Nat):Int)]]::[row tb 37 [top,sl]]::R) w10:=hpS 4 [1,2,0] [3] hA11 rfl
 refine Jw hF O Nh hA12 (fun d l rc w1 hrc hA1=>?_)
 have hA2:Hp w0 (([(l,rc .ready none)]::[row b7 31 [.slice none 0 0]]::[]::[])++([row b4 3 [.int .i64 ((n:Nat):Int)]]::[row tb 37 [top,sl]]::[(d,.deferred (some []))]::R)) w1:=by
  have e:=hpO 5 [0,2,3,4,1] hA1 rfl
  exact e
 have hGR:([row b4 3 [.int .i64 ((n:Nat):Int)]]::[row tb 37 [top,sl]]::G)⊆([row b4 3 [.int .i64 ((n:Nat):Int)]]::[row tb 37 [top,sl]]::[(d,.deferred (some []))]::R):=fun x hx=>by
  rcases List.mem_cons.1 hx with rfl | hx
  ·exact TF ..
  rcases List.mem_cons.1 hx with rfl | hx
  ·exact TI _ (TF ..)
  ·exact TI _ (TI _ (TI _ (hG hx)))
 have hG1:G⊆([row b4 3 [.int .i64 ((n:Nat):Int)]]::[row tb 37 [top,sl]]::G):=List.subset_cons_of_subset _ (List.subset_cons_of_subset _ (List.Subset.refl _))
 have hNB:Rw w0 ([row b4 3 [.int .i64 ((n:Nat):Int)]]::[row tb 37 [top,sl]]::G) b4 [.int .i64 (n:Int)]:=Rw.ofMem (TF ..) (TF ..)
 refine (Ih (JS:=fun pre S=>∃ v X,Buf 49 65 X v pre.length (cel Itm.cells pre)∧S=[(l,rc .ready none)]::[row b7 31 [v]]::X::[]) (JX:=fun _=>False) (G:=[row b4 3 [.int .i64 ((n:Nat):Int)]]::[row tb 37 [top,sl]]::G) (hTV.mono hG1) ?_ ([row b4 3 [.int .i64 ((n:Nat):Int)]]::[row tb 37 [top,sl]]::[(d,.deferred (some []))]::R) _ hGR (Rw.ofMem (TI _ (TF ..)) (TF ..)) ⟨_,_,Buf.nil 49 65,rfl⟩ hA2).mono ?_
 ·rintro pre i post hL hi w R S hG3 ⟨v,X,hB,rfl⟩ hA
  have hLp:pre.length<n:=by have:=congrArg List.length hL; rw [List.length_append,List.length_cons] at this; omega
  clear hA1 hA2
  refine MJ hrc hF (p:=13) ae hA (fun a hF=>?_)
  refine fB (fun ⟨_,_,h⟩=>h) rfl ?_
  refine au O (fun K hK=>bG hF O ae rfl hA (Jn) (fun b13 w14 a hb13 hF hA15=>hK _ _ ?_))
  refine au O (fun K hK=>aI (new:=i.cells) hF O O hA15 O O 0 O (by rw [Itm.len hi]; rfl) (Itm.one i) kU (fun w16 hA17=>hK _ _ ?_))
  replace hA17:Hp w0 ([row b13 49 i.cells]::[(l,rc .ready none)]::[row b7 31 [v]]::X::R) w16:=hA17
  refine az ?_
  have hA18:Hp w0 ([(l,rc .ready none)]::[row b7 31 [v]]::X::[row b13 49 i.cells]::R) w16:=hpO 4 [1,2,3,0] hA17 rfl
  refine ⟨[row b7 31 [v]]::X::[row b13 49 i.cells]::R,hA18,fun w19 hA20=>?_⟩
  replace hA20:Hp w0 ([(l,rc .busy none)]::[row b7 31 [v]]::X::[row b13 49 i.cells]::R) w19:=hA20
  have hFn:=hF
  obtain ⟨A,c,rfl,hcb,hRc⟩:=hB.rc (w0:=w0) (R:=[X]) (TF ..)
  have hF:=hFn
  have hne:¬ (pre.length:Int)=(n:Int):=by omega
  apply wpIn_block
  apply iL; intro K8 hK8
  apply iL; intro K9 hK9
  refine fB (fun ⟨_,_,h⟩=>h) rfl ?_
  refine vR hF<|vV O (aX O hA20.q O 1 O O xy)<|vV O (aY O TT O O)<|vV O (bD O (Hq.sub hA20.q (List.Subset.trans hG3 (aA (aA (aA (aA (bu))))))) O hNB 0 (by simp) rfl rfl Bq)<|vV O (aH O O O O (fJ ag)) fun a hF=>az<|hK9 _ _ ?_
  refine Bj hF O ?_
  apply wpIn_skip
  refine hK8 _ _ ?_
  refine fB (fun ⟨_,_,h⟩=>h) rfl ?_
  refine vR hF<|vV O (aX O hA20.q O 1 O O xy)<|vV O (yZ (new:=i.cells) rfl hA20.q O 3 O KL (Itm.len hi)) fun a hF=>?_
  refine au O (fun K hK=>jY (qs := #[(0,.agg i.cells.toArray)]) (cells:=i.cells.toArray) hF O ae rfl hA20 O (by exact mg hi) (fun b21 w22 a hb21 hF hA23=>hK _ _ ?_))
  refine au O (fun K hK=>dI hF O ae rfl hA23 3 O hB TT mf rfl rfl (Rc.srcC (W:=i.cells) (m:=1) (size:=65) (R:=[row b21 49 i.cells]::[(l,rc .busy none)]::[row b7 31 [.slice A pre.length c]]::X::[row b13 49 i.cells]::R) (Rc.ofRow (i:=0) (off:=0) rfl (by rw [List.drop_zero]; exact List.take_length ..)) hA23.q TT ae (by rw [Itm.len hi]) (Itm.one i)) ag ae (fun lv XL w24 a hBL hF hA25=>hK _ _ ?_))
  replace hA25:Hp w0 ([row b21 49 i.cells]::[(l,rc .busy none)]::[row b7 31 [.slice A pre.length c]]::XL::[row b13 49 i.cells]::R) w24:=hA25
  rw [← mO,show pre.length+1=(pre++[i]).length from lZ _ _] at hBL
  refine au O (fun K hK=>aW hF O O hA25 O O 2 O (by simp) hBL.one JQ (fun w26 hA27=>hK _ _ ?_))
  replace hA27:Hp w0 ([row b21 49 i.cells]::[(l,rc .busy none)]::[row b7 31 [lv]]::XL::[row b13 49 i.cells]::R) w26:=hA27
  refine az ?_
  have hA28:Hp w0 ([(l,rc .busy none)]::[row b7 31 [lv]]::XL::R) w26:=hpS 5 [1,2,3] [0,4] hA27 rfl
  simp only [Exit.inBlock]
  exact Il hrc hA28 (fun w' hA'=>⟨true,rfl,_,⟨_,_,hBL,rfl⟩,hA'⟩)
 ·rintro e w3 ⟨hret,b,hW⟩
  cases b
  ·obtain ⟨_,hf,_⟩:=hW
   exact hf.elim
  obtain ⟨_,⟨v,X,hB,rfl⟩,hA3⟩:=hW
  refine ⟨hret,.ready,none,[row b7 31 [v]]::X::([row b4 3 [.int .i64 ((n:Nat):Int)]]::[row tb 37 [top,sl]]::[(d,.deferred (some []))]::R),by simp,hA3,fun w4 hA4=>?_⟩
  refine hK6 _ _ ?_
  apply iL; intro K10 hK10
  refine fB (fun ⟨_,_,(⟨_,_,h,_⟩:∃ v X,_=_∧_)⟩=>nomatch h) rfl ?_
  refine vR hF<|vV O (aX O hA4.q O 0 O O xy)<|vX O fun a hF=>az<|hK10 _ _ ?_
  apply wpIn_ret
  refine JF hF ?_
  have hA29:Hp w0 ([(d,.deferred (some []))]::[row b7 31 [v]]::X::[row b4 3 [.int .i64 ((n:Nat):Int)]]::[row tb 37 [top,sl]]::R) w4:=hpO 5 [4,0,1,2,3] hA4 rfl
  refine Fh hA29 (fun w30 hA31=>?_)
  replace hA31:Hp w0 ([(d,.deferred none)]::[row b7 31 [v]]::X::[row b4 3 [.int .i64 ((n:Nat):Int)]]::[row tb 37 [top,sl]]::R) w30:=hA31
  refine Fg hF Tryz.results34 O ?_
  have hA32:Hp w0 (X::R) w30:=hpS 5 [2] [0,1,3,4] hA31 rfl
  exact ⟨v,X,rfl,hB,hA32⟩
noncomputable def SY:Field:=(Tryz.prog.fieldsOf 49)[0]?.getD default
noncomputable def itmF2:Field:=(Tryz.prog.fieldsOf 49)[1]?.getD default
theorem Oz:(Tryz.prog.fieldsOf 49).toList=[SY,itmF2]:=af
theorem Oy:(Tryz.prog.fieldsOf itmF2.type).toList=[QJ,QI]:=af
theorem BP (w0 w:World) (R G1 G2:List Seg) (hG1:G1⊆R) (hG2:G2⊆R) (A B:Option Addr) (l:List Itm) (ca cb:Nat) (hcm:l.length≤100000) (hI:∀ i∈l,i.OK) (hLA:Rc w0 G1 A (cel Itm.cells l)) (hLB:Rc w0 G2 B (cel Itm.cells l)) (hA:Hp w0 R w):Calls Tryz.prog 9 #[.slice A l.length ca,.slice B l.length cb] w fun e w'=>e= .returned (.bool true)∧Hp w0 R w':=by
 refine aJ Tryz.func9 O Tryz.ntmps9 ai (fun a hF=>?_)
 refine wS hF fun K1 hK1=>vX O<|vE hK1<|wQ fun K2 hK2=>wT fun K3 hK3=>vX O<|vV O (aY O TT O O)<|vX O<|vV O (aY O TT O O)<|vV O (aH O O O O (jb ag))<|vE hK3<|vF1 O<|wKp hK2<|wQ fun K4 hK4=>wT fun K5 hK5=>vX O<|vE hK5<|wBk fun a hF=>?_
 refine bQ (G:=Nat) (fun n a x=>n≤l.length∧Fr 26 [(5,.int .i64 (n:Int)),(0,.slice A l.length ca),(1,.slice B l.length cb)] a∧Hp w0 (R) x) (fun n=>l.length-n) 0 (⟨Tv _,hF.keep [5,0,1] rfl,hA⟩) ?_
 clear hF
 rintro n a w2 ⟨hn,hF,hA1⟩
 apply wp_seq_k; intro K6 hK6
 refine wS hF fun K7 hK7=>vX O<|vX O<|vV O (aY O TT O O)<|vV O (aH O O O O O)<|vE hK7 fun a hF=>?_
 by_cases hlt:n<l.length
 ·refine aZ hF O (dB ag) ?_
  obtain ⟨i,hi⟩:∃ i,l[n]? = some i:=⟨_,List.getElem?_eq_getElem hlt⟩
  have hiK:=hI i (List.mem_of_getElem? hi)
  have hrb:=(fE hI hi).2
  obtain ⟨b,q,hAd,hc⟩:=hLA.ne (i:=n*65) ag
  obtain ⟨b2,q2,hAd2,hc2⟩:=hLB.ne (i:=n*65) ag
  apply wp_skip
  refine hK6 _ _ ?_
  apply wp_seq_k; intro K8 hK8
  apply wp_block
  apply wp_seq_k; intro K9 hK9
  refine ak 8 [8] [0,1,2,3,4,5,6,7,8] _ af af (Hq.drew hA1.q) ?_
  have hA3:=Hl.drew hA1
  refine pR hF<|pX O O<|pX O O<|pW O O (fun _=>bi O TT kU (by exact congrArg (fun A=>some (Value.slice A l.length ca)) hAd) rfl n rfl hlt rfl) fun a hF=>?_
  refine pR hF<|pV O O (fun x hx=>aQ O (Hq.sub hx (List.Subset.trans hG1 (bu))) O hc (n*65) (fE hI hi).2 rfl (fE hI hi).1 KL)<|pX O O<|pX O O<|pW O O (fun _=>bi O TT kU (by exact congrArg (fun A=>some (Value.slice A l.length cb)) hAd2) rfl n rfl hlt rfl) fun a hF=>?_
  refine pR hF<|pV O O (fun x hx=>aQ O (Hq.sub hx (List.Subset.trans hG2 (bu))) O hc2 (n*65) (fE hI hi).2 rfl (fE hI hi).1 KL) fun a hF=>?_
  refine bY hF O O O O ae _ (N8 (b:=false) (K:=i.k) (K':=i.k) (c:=i.ct) (c':=i.ct) (X:=i.ch) (X':=i.ch) rfl af af af Oz ae ae rfl rfl Tz TA D5 uX Bz af af Oy ae ae rfl rfl TP Tz uX hiK.k hiK.k hiK.ch hiK.ch rfl rfl (by simp)) (fun h=>absurd h ae) (fun a hF=>?_)
  refine aB ?_
  refine hK9 _ _ ?_
  refine dL hF O ?_
  apply wp_skip
  refine hK8 _ _ ?_
  refine wp_region_lit ?_
  refine vR hF<|vX O<|vV O (bH O O O (TB _ ag))<|vX O fun a hF=>?_
  refine az ?_
  exact ⟨n+1,ag,ag,hF.keep [5,0,1] rfl,hA3⟩
 ·refine aS hF O (dD ag) ?_
  apply wp_exit
  refine hK4 _ _ ?_
  refine wS hF fun K10 hK10=>vX O<|vE hK10 fun a hF=>?_
  apply wp_ret
  refine aO hF Tryz.results9 O ?_
  exact ⟨rfl,hA1⟩
end Go.Proofs.YtpomngkcfbnjoaaGreatDoor
