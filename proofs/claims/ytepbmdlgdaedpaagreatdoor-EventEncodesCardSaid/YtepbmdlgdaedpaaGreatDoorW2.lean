/- Is a whole event as it was? And an event turned where it stands. -/
import Derived.Test.YtepbmdlgdaedpaaGreatDoorW1
/- Is a whole event as it was? And an event turned where it stands. -/
namespace Go.Proofs.YtepbmdlgdaedpaaGreatDoor
open Go.RowKit Go.Dk
theorem CS:aO Tryz.prog 22:=⟨_,Tryz.func22,af,af⟩
theorem uZ:aO Tryz.prog 51:=⟨_,Tryz.func51,af,af⟩
theorem CQ:aO Tryz.prog 65:=⟨_,Tryz.func65,af,af⟩
theorem xI {w0:World} {G:List Seg}:VA.Ok w0 G markVA:=⟨Rc.nil,ae,⟨ ae,ae⟩,ae,ae⟩
theorem oJ (w0 w:World) (R:List Seg) (B B2:Option Addr) (l:List UInt8) (c c2:Nat) (hB:Rc w0 R B (dc (l++List.replicate 80 219))) (hB2:Rc w0 R B2 (dc l)) (hc:l.length+80≤c) (hA:Hp w0 R w) (hl:l.length<140737488354000):Calls Tryz.prog 65 #[.slice B (l.length+80) c,.slice B2 l.length c2,.int .u8 219] w fun e w'=>e= .returned (.bool true)∧Hp w0 R w' :=
 oI w0 w R B B2 l c c2 219 (by rw [← mf]; exact hB) (by rw [← mf]; exact hB2) (fun _ _=>rfl) rfl hc hA hl
set_option maxRecDepth 100000 in
set_option maxHeartbeats 8000000 in
theorem EY {w0:World} {R:List Seg} {gS gA gB hS hA_ hB:Nat} {M N:Seg} (u v:EA) (w:World) (hU:WE w0 gS gA gB M u) (hW:WE w0 hS hA_ hB N v) (he:u.ev=v.ev) (hGu:WE.sg gS gA gB M u⊆R) (hGv:WE.sg hS hA_ hB N v⊆R) (hA:Hp w0 R w):Calls Tryz.prog 69 #[.agg u.cells.toArray,.agg v.cells.toArray] w fun e w'=>e= .returned (.bool true)∧Hp w0 R w':=by
 have hu32:u.eff.length=32:=hU.i.2.2.2.2.2
 have hv32:v.eff.length=32:=hW.i.2.2.2.2.2
 have hsrc:u.src=v.src:=congrArg Ev.src he
 have hvv:u.v.v=v.v.v:=congrArg Ev.v he
 have hav:u.args.map VA.v=v.args.map VA.v:=congrArg Ev.args he
 have hlen:u.args.length=v.args.length:=by have:=congrArg List.length hav; rwa [List.length_map,List.length_map] at this
 have hnA:=hW.nA
 have hnB:=hW.nB
 have hnS:=hW.nS
 have hSs:[sgS gS u]⊆WE.sg gS gA gB M u:=List.cons_subset.2 ⟨by simp,List.nil_subset _⟩
 have hBs:[sgB gB u]⊆WE.sg gS gA gB M u:=List.cons_subset.2 ⟨by simp,List.nil_subset _⟩
 have hMs:[M]⊆WE.sg gS gA gB M u:=List.cons_subset.2 ⟨by simp,List.nil_subset _⟩
 have hUo:=hU.ok
 have hWo:=hW.ok
 refine aN Tryz.func69 O Tryz.ntmps69 ai (fun a hF=>?_)
 refine wp_seq_k fun K1 hK1=>wp_region_lit ?_
 refine aI O (fun K hK=>dE (cs:=u.cells) hF O ae rfl hA O (fun b1 w2 a hb1 hF hA3=>hK _ _ ?_))
 refine aI O (fun K hK=>dE (cs:=v.cells) hF O ae rfl hA3 O (fun b4 w5 a hb4 hF hA6=>hK _ _ ?_))
 refine vR hF<|vX O<|vE hK1<|wQ fun K2 hK2=>wQ fun K3 hK3 a hF=>?_
 refine bi 32 [2,14,30,32] [0,1,2,3,4,5,6,7,8,9,10,11,12,13,14,15,16,17,18,19,20,21,22,23,24,25,26,27,28,29,30,31,32] _ af af (Hq.drew hA6.q) ?_
 have hA7:=Hl.drew hA6
 refine pR hF<|pV O O (fun x hx=>bQ (new:=[.int .i64 u.op,.int .i64 u.num,.int .i64 u.clk,ak u.typ,ak u.cas,ak u.nam,.int .i64 u.v.v.k,.int .i64 u.v.v.n,ak u.v.v.t,.slice u.v.sA u.v.v.s.length u.v.sC,.slice u.aA u.args.length u.aC,.slice u.bA u.src.length u.bC]++dc u.eff) rfl hx O 1 O Ed (by rw [List.length_append,aS,hu32]; exact Nat.le_of_ble_eq_true rfl) (by rw [List.drop_zero]; exact JO (by rw [List.length_append,aS,hu32]; exact Nat.le_of_ble_eq_true rfl))) fun a hF=>?_
 refine pR hF<|pV O O (fun x hx=>bQ (new:=[.int .i64 v.op,.int .i64 v.num,.int .i64 v.clk,ak v.typ,ak v.cas,ak v.nam,.int .i64 v.v.v.k,.int .i64 v.v.v.n,ak v.v.v.t,.slice v.v.sA v.v.v.s.length v.v.sC,.slice v.aA v.args.length v.aC,.slice v.bA v.src.length v.bC]++dc v.eff) rfl hx O 0 O Ed (by rw [List.length_append,aS,hv32]; exact Nat.le_of_ble_eq_true rfl) (by rw [List.drop_zero]; exact JO (by rw [List.length_append,aS,hv32]; exact Nat.le_of_ble_eq_true rfl))) fun a hF=>?_
 refine fZ O O O (fun K hK=>aH hF O ae CS rfl rfl ?_)
 with_reducible refine (Cb u v _ hUo (List.Subset.trans hGu (bD (bD (dD)))) hWo (List.Subset.trans hGv (bD (bD (dD)))) hA7).mono ?_
 rintro e' w8 ⟨rfl,hA9⟩
 refine ⟨_,rfl,fun a hF=>hK _ _ (fun _=>?_) ?_⟩
 ·exact hA9.q
 replace hA9:Hp w0 ([row b4 31 ([.int .i64 v.op,.int .i64 v.num,.int .i64 v.clk,ak v.typ,ak v.cas,ak v.nam,.int .i64 v.v.v.k,.int .i64 v.v.v.n,ak v.v.v.t,.slice v.v.sA v.v.v.s.length v.v.sC,.slice v.aA v.args.length v.aC,.slice v.bA v.src.length v.bC]++dc v.eff)]::[row b1 31 ([.int .i64 u.op,.int .i64 u.num,.int .i64 u.clk,ak u.typ,ak u.cas,ak u.nam,.int .i64 u.v.v.k,.int .i64 u.v.v.n,ak u.v.v.t,.slice u.v.sA u.v.v.s.length u.v.sC,.slice u.aA u.args.length u.aC,.slice u.bA u.src.length u.bC]++dc u.eff)]::R) w8:=hA9
 rw [decide_eq_true he] at hF
 refine pR hF<|pW O O (fun _=>cZ O O O)<|pX O O<|pG O O (fun _=>yf 11 rfl JQ O dF O) fun a hF=>?_
 refine jT hF O O O O O O O ae _ (fun x hx=>aV O hx O 1 O O iK) (fun a hF=>?_)
 refine pR hF<|pG O O (fun _=>yf 11 rfl JQ O dF O) fun a hF=>?_
 refine jT hF O O O O O O O ae _ (fun x hx=>aV O hx O 0 O O iK) (fun a hF=>?_)
 refine pR hF<|pG O O (fun _=>aT O JG O O)<|pG O O (fun _=>bK O O O (JF _ ag))<|pG O O (fun _=>eU O JG fM rfl (.none 0) (.some (k:=v.src.length+80) rfl rfl) (JE _) (by rw [hU.bC,hsrc]; exact JH _) fK) fun a hF=>?_
 refine pR hF<|pG O O (fun _=>yf 11 rfl JQ O dF O) fun a hF=>?_
 refine jT hF O O O O O O O ae _ (fun x hx=>aV O hx O 0 O O iK) (fun a hF=>?_)
 refine Gj hF O O O O O O (fun K hK=>aH hF O ae CQ rfl rfl ?_)
 with_reducible refine (oJ w0 _ ([row b4 31 ([.int .i64 v.op,.int .i64 v.num,.int .i64 v.clk,ak v.typ,ak v.cas,ak v.nam,.int .i64 v.v.v.k,.int .i64 v.v.v.n,ak v.v.v.t,.slice v.v.sA v.v.v.s.length v.v.sC,.slice v.aA v.args.length v.aC,.slice v.bA v.src.length v.bC]++dc v.eff)]::[row b1 31 ([.int .i64 u.op,.int .i64 u.num,.int .i64 u.clk,ak u.typ,ak u.cas,ak u.nam,.int .i64 u.v.v.k,.int .i64 u.v.v.n,ak u.v.v.t,.slice u.v.sA u.v.v.s.length u.v.sC,.slice u.aA u.args.length u.aC,.slice u.bA u.src.length u.bC]++dc u.eff)]::R) u.bA v.bA v.src u.bC v.bC (by rw [← hsrc]; exact hU.rB.mono (List.Subset.trans (List.Subset.trans hBs hGu) (bD (bD (dD))))) (hWo.src.mono (List.Subset.trans hGv (bD (bD (dD))))) (by rw [hU.bC,hsrc]; exact JH _) hA9 ag).mono ?_
 rintro e' w10 ⟨rfl,hA11⟩
 refine ⟨_,rfl,fun a hF=>hK _ _ (fun _=>?_) ?_⟩
 ·exact hA11.q
 replace hA11:Hp w0 ([row b4 31 ([.int .i64 v.op,.int .i64 v.num,.int .i64 v.clk,ak v.typ,ak v.cas,ak v.nam,.int .i64 v.v.v.k,.int .i64 v.v.v.n,ak v.v.v.t,.slice v.v.sA v.v.v.s.length v.v.sC,.slice v.aA v.args.length v.aC,.slice v.bA v.src.length v.bC]++dc v.eff)]::[row b1 31 ([.int .i64 u.op,.int .i64 u.num,.int .i64 u.clk,ak u.typ,ak u.cas,ak u.nam,.int .i64 u.v.v.k,.int .i64 u.v.v.n,ak u.v.v.t,.slice u.v.sA u.v.v.s.length u.v.sC,.slice u.aA u.args.length u.aC,.slice u.bA u.src.length u.bC]++dc u.eff)]::R) w10:=hA11
 refine pR hF<|pG O O (fun _=>cZ O O O)<|pW O O (fun _=>dA O O O)<|pX O O<|pG O O (fun _=>yf 6 O JQ O kZ O)<|pG O O (fun _=>yf 9 O JP O kE O) fun a hF=>?_
 refine jT hF O O O O O O O ae _ (fun x hx=>aV O hx O 1 O O kG) (fun a hF=>?_)
 refine pR hF<|pG O O (fun _=>yf 6 O JQ O kZ O)<|pG O O (fun _=>yf 9 O JP O kE O) fun a hF=>?_
 refine jT hF O O O O O O O ae _ (fun x hx=>aV O hx O 0 O O kG) (fun a hF=>?_)
 refine pR hF<|pG O O (fun _=>aT O JD O O)<|pG O O (fun _=>bK O O O (JF _ ag))<|pG O O (fun _=>eU O JD qQ O (.none 0) (.some (k:=v.v.v.s.length+80) rfl rfl) (JE _) (by rw [hU.vC,hvv]; exact JH _) fK) fun a hF=>?_
 refine pR hF<|pG O O (fun _=>yf 6 O JQ O kZ O)<|pG O O (fun _=>yf 9 O JP O kE O) fun a hF=>?_
 refine jT hF O O O O O O O ae _ (fun x hx=>aV O hx O 0 O O kG) (fun a hF=>?_)
 refine Gj hF O O O O O O (fun K hK=>aH hF O ae uZ rfl rfl ?_)
 with_reducible refine (jr w0 _ ([row b4 31 ([.int .i64 v.op,.int .i64 v.num,.int .i64 v.clk,ak v.typ,ak v.cas,ak v.nam,.int .i64 v.v.v.k,.int .i64 v.v.v.n,ak v.v.v.t,.slice v.v.sA v.v.v.s.length v.v.sC,.slice v.aA v.args.length v.aC,.slice v.bA v.src.length v.bC]++dc v.eff)]::[row b1 31 ([.int .i64 u.op,.int .i64 u.num,.int .i64 u.clk,ak u.typ,ak u.cas,ak u.nam,.int .i64 u.v.v.k,.int .i64 u.v.v.n,ak u.v.v.t,.slice u.v.sA u.v.v.s.length u.v.sC,.slice u.aA u.args.length u.aC,.slice u.bA u.src.length u.bC]++dc u.eff)]::R) u.v.sA v.v.sA v.v.v.s u.v.sC v.v.sC mkS (by rw [← hvv]; exact hU.rS.mono (List.Subset.trans (List.Subset.trans hSs hGu) (bD (bD (dD))))) (by rw [← je v.v.v.s]; exact hWo.v.rc.mono (List.Subset.trans hGv (bD (bD (dD))))) (fun _ _=>rfl) rfl (by rw [hU.vC,hvv]; exact JH _) hA11 ag).mono ?_
 rintro e' w12 ⟨rfl,hA13⟩
 refine ⟨_,rfl,fun a hF=>hK _ _ (fun _=>?_) ?_⟩
 ·exact hA13.q
 replace hA13:Hp w0 ([row b4 31 ([.int .i64 v.op,.int .i64 v.num,.int .i64 v.clk,ak v.typ,ak v.cas,ak v.nam,.int .i64 v.v.v.k,.int .i64 v.v.v.n,ak v.v.v.t,.slice v.v.sA v.v.v.s.length v.v.sC,.slice v.aA v.args.length v.aC,.slice v.bA v.src.length v.bC]++dc v.eff)]::[row b1 31 ([.int .i64 u.op,.int .i64 u.num,.int .i64 u.clk,ak u.typ,ak u.cas,ak u.nam,.int .i64 u.v.v.k,.int .i64 u.v.v.n,ak u.v.v.t,.slice u.v.sA u.v.v.s.length u.v.sC,.slice u.aA u.args.length u.aC,.slice u.bA u.src.length u.bC]++dc u.eff)]::R) w12:=hA13
 refine pR hF<|pG O O (fun _=>cZ O O O) fun a hF=>?_
 refine fB hF O O O O ae _ (dA O O O) (fun h=>absurd h ae) (fun a hF=>?_)
 refine bY ?_
 refine hK3 _ _ ?_
 refine eG hF O ?_
 apply wp_skip
 refine hK2 _ _ ?_
 apply wp_seq_k; intro K4 hK4
 refine wS hF fun K5 hK5=>vX O<|vE hK5<|wBk fun a hF=>?_
 refine bz (G:=Nat) (fun i a x=>i≤v.args.length∧Fr 89 [(5,.int .i64 ((i:Nat):Int)),(2,.pointer (some ⟨b1,0,none⟩)),(3,.pointer (some ⟨b4,0,none⟩))] a∧Hp w0 ([row b4 31 ([.int .i64 v.op,.int .i64 v.num,.int .i64 v.clk,ak v.typ,ak v.cas,ak v.nam,.int .i64 v.v.v.k,.int .i64 v.v.v.n,ak v.v.v.t,.slice v.v.sA v.v.v.s.length v.v.sC,.slice v.aA v.args.length v.aC,.slice v.bA v.src.length v.bC]++dc v.eff)]::[row b1 31 ([.int .i64 u.op,.int .i64 u.num,.int .i64 u.clk,ak u.typ,ak u.cas,ak u.nam,.int .i64 u.v.v.k,.int .i64 u.v.v.n,ak u.v.v.t,.slice u.v.sA u.v.v.s.length u.v.sC,.slice u.aA u.args.length u.aC,.slice u.bA u.src.length u.bC]++dc u.eff)]::R) x) (fun i=>v.args.length-i) 0 (⟨JE _,hF.keep [5,2,3] rfl,hA13⟩) ?_
 clear hF
 rintro i a w15 ⟨hi,hF,hA14⟩
 apply wp_seq_k; intro K6 hK6
 refine wS hF fun K7 hK7=>vX O<|vV O (yf 10 rfl JQ O qU O)<|vV O (aV O hA14.q O 0 O O ry)<|vV O (aT O JS O O)<|vV O (aG O O O O O)<|vE hK7 fun a hF=>?_
 by_cases hlt:i<v.args.length
 ·refine aF hF O (dB ag) ?_
  obtain ⟨ua,hpua⟩:∃ q,u.args[i]? = some q:=⟨_,List.getElem?_eq_getElem (show i<u.args.length by omega)⟩
  obtain ⟨htua,hlua⟩:((jA u.args).drop (i*4)).take 4=ua.cells∧i*4+4≤(jA u.args).length:=Go.Dk.flat_at (z:=4) (Ws:=u.args.map VA.cells) (V:=ua.cells) (i:=i) (fun V hV=>by obtain ⟨u,_,rfl⟩:=List.mem_map.1 hV; rfl) (by rw [List.getElem?_map,hpua]; rfl)
  obtain ⟨bua,oua,hsua,hcua⟩:=hUo.rc.ne (i:=i*4) ag
  obtain ⟨va,hpva⟩:∃ q,v.args[i]? = some q:=⟨_,List.getElem?_eq_getElem hlt⟩
  obtain ⟨htva,hlva⟩:((jA v.args).drop (i*4)).take 4=va.cells∧i*4+4≤(jA v.args).length:=Go.Dk.flat_at (z:=4) (Ws:=v.args.map VA.cells) (V:=va.cells) (i:=i) (fun V hV=>by obtain ⟨u,_,rfl⟩:=List.mem_map.1 hV; rfl) (by rw [List.getElem?_map,hpva]; rfl)
  obtain ⟨bva,ova,hsva,hcva⟩:=hWo.rc.ne (i:=i*4) ag
  obtain ⟨hm1,hm2,hmn,_⟩:=hU.m _ (List.mem_of_getElem? hpua)
  have hab:ua.v=va.v:=by
   have h1:(u.args.map VA.v)[i]? = some ua.v:=by rw [List.getElem?_map,hpua]; rfl
   rw [hav,List.getElem?_map,hpva] at h1
   exact (Option.some.inj h1).symm
  apply wp_skip
  refine hK6 _ _ ?_
  apply wp_seq_k; intro K8 hK8
  apply wp_block
  refine wS hF fun K9 hK9=>vV O (yf 10 rfl JQ O qU O)<|vV O (aV (u:= .slice (some ⟨bua,oua,none⟩) u.args.length u.aC) rfl hA14.q O 1 O (by rw [← hsua]; rfl) ry) fun a hF=>?_
  refine vR hF<|vX O<|vV O (bI O JS kZ O O i rfl ag rfl)<|vV O (kD O JP O kE ae rfl rfl)<|vV O (dN (u:= .slice ua.sA ua.v.s.length ua.sC) rfl (Hq.sub hA14.q (List.Subset.trans hGu (bD (bD (dD))))) O hcua (i*4+3) ag rfl (kK (k:=3) htua (by show 3<4; decide)) kG) fun a hF=>?_
  refine vR hF<|vX O<|vE hK9<|wQ fun K10 hK10 a hF=>?_
  refine bi 12 [11,12] [0,1,2,3,4,5,6,7,8,9,10,11,12] _ af af (Hq.drew hA14.q) ?_
  have hA16:=Hl.drew hA14
  refine pR hF<|pX O O<|pX O O<|pW O O (fun _=>aT O JD O O)<|pW O O (fun _=>bK O O O (JF _ ag))<|pW O O (fun _=>eU O JD qQ O (.none 0) (.some (k:=ua.v.s.length+80) rfl rfl) (JE _) (by rw [hm1]; exact JH _) fK) fun a hF=>?_
  refine pR hF<|pW O O (fun _=>yf 10 rfl JQ O qU O)<|pV O O (fun x hx=>aV (u:= .slice (some ⟨bva,ova,none⟩) v.args.length v.aC) rfl hx O 0 O (by rw [← hsva]; rfl) ry) fun a hF=>?_
  refine pR hF<|pX O O<|pW O O (fun _=>bI O JS kZ O O i rfl hlt rfl)<|pW O O (fun _=>kD O JP O kE ae rfl rfl)<|pV O O (fun x hx=>dN (u:= .slice va.sA ua.v.s.length va.sC) rfl (Hq.sub hx (List.Subset.trans hGv (bD (bD (dD))))) O hcva (i*4+3) ag rfl (by rw [hab]; exact kK (k:=3) htva (by show 3<4; decide)) kG) fun a hF=>?_
  refine fZ O O O (fun K hK=>aH hF O ae uZ rfl rfl ?_)
  with_reducible refine (jr w0 _ ([row b4 31 ([.int .i64 v.op,.int .i64 v.num,.int .i64 v.clk,ak v.typ,ak v.cas,ak v.nam,.int .i64 v.v.v.k,.int .i64 v.v.v.n,ak v.v.v.t,.slice v.v.sA v.v.v.s.length v.v.sC,.slice v.aA v.args.length v.aC,.slice v.bA v.src.length v.bC]++dc v.eff)]::[row b1 31 ([.int .i64 u.op,.int .i64 u.num,.int .i64 u.clk,ak u.typ,ak u.cas,ak u.nam,.int .i64 u.v.v.k,.int .i64 u.v.v.n,ak u.v.v.t,.slice u.v.sA u.v.v.s.length u.v.sC,.slice u.aA u.args.length u.aC,.slice u.bA u.src.length u.bC]++dc u.eff)]::R) ua.sA va.sA ua.v.s ua.sC va.sC mkS (hm2.mono (List.Subset.trans (List.Subset.trans hMs hGu) (bD (bD (dD))))) (by rw [hab,← je va.v.s]; exact (hWo.args _ (List.mem_of_getElem? hpva)).rc.mono (List.Subset.trans hGv (bD (bD (dD))))) (fun _ _=>rfl) rfl (by rw [hm1]; exact JH _) hA16 ag).mono ?_
  rintro e' w17 ⟨rfl,hA18⟩
  refine ⟨_,rfl,fun a hF=>hK _ _ (fun _=>?_) ?_⟩
  ·exact hA18.q
  replace hA18:Hp w0 ([row b4 31 ([.int .i64 v.op,.int .i64 v.num,.int .i64 v.clk,ak v.typ,ak v.cas,ak v.nam,.int .i64 v.v.v.k,.int .i64 v.v.v.n,ak v.v.v.t,.slice v.v.sA v.v.v.s.length v.v.sC,.slice v.aA v.args.length v.aC,.slice v.bA v.src.length v.bC]++dc v.eff)]::[row b1 31 ([.int .i64 u.op,.int .i64 u.num,.int .i64 u.clk,ak u.typ,ak u.cas,ak u.nam,.int .i64 u.v.v.k,.int .i64 u.v.v.n,ak u.v.v.t,.slice u.v.sA u.v.v.s.length u.v.sC,.slice u.aA u.args.length u.aC,.slice u.bA u.src.length u.bC]++dc u.eff)]::R) w17:=hA18
  refine fB hF O O O O ae _ (cZ O O O) (fun h=>absurd h ae) (fun a hF=>?_)
  refine bY ?_
  refine hK10 _ _ ?_
  refine eG hF O ?_
  apply wp_skip
  refine hK8 _ _ ?_
  refine wp_region_lit ?_
  refine vR hF<|vX O<|vV O (bK O O O (JF _ ag))<|vX O fun a hF=>?_
  refine aJ ?_
  exact ⟨i+1,ag,ag,hF.keep [5,2,3] rfl,hA18⟩
 ·refine az hF O (dw ag) ?_
  have hcap:v.args.length+80≤u.aC:=by rw [hU.aC,hlen]; exact JH _
  have hlA:(cel VA.cells (u.args++List.replicate 80 markVA)).length≤u.aC*4:=by rw [dR (sz:=4) (fun _ _=>rfl),List.length_append,List.length_replicate,hU.aC]; exact JH _
  have hrB:Rc w0 (WE.sg gS gA gB M u) (sub u.aA v.args.length u.aC 4) (cel VA.cells (List.replicate 80 markVA)):=by
   have h1:=(Rc.drop hU.rA v.args.length 4 hlA).mono (List.cons_subset.2 ⟨(by simp:sgA gA u∈WE.sg gS gA gB M u),List.nil_subset _⟩)
   rwa [← hlen,fU,List.drop_left' (by rw [dR (sz:=4) (fun _ _=>rfl)]),hlen] at h1
  obtain ⟨b9,o9,hs9,hc9⟩:=hrB.ne (i:=0) (by rw [dR (sz:=4) (fun _ _=>rfl),List.length_replicate]; decide)
  apply wp_exit
  refine hK4 _ _ ?_
  refine wS hF fun K11 hK11=>vV O (yf 10 rfl JQ O qU O)<|vV O (aV O hA14.q O 1 O O ry)<|vV O (yf 10 rfl JQ O qU O)<|vV O (aV O hA14.q O 0 O O ry)<|vV O (aT O JS O O)<|vV O (yf 10 rfl JQ O qU O)<|vV O (aV O hA14.q O 0 O O ry)<|vV O (aT O JS O O)<|vV O (bK O O O (JF _ ag))<|vV O (eU O JS kZ O (.some (k:=v.args.length) rfl rfl) (.some (k:=v.args.length+80) rfl rfl) ag hcap (show Value.slice (sub u.aA v.args.length u.aC 4) (v.args.length+80-v.args.length) (u.aC-v.args.length)= .slice (some ⟨b9,o9,none⟩) 80 (u.aC-v.args.length) by rw [hs9,Nat.add_sub_cancel_left])) fun a hF=>?_
  refine vR hF<|vX O<|vE hK11<|wQ fun K12 hK12=>wT fun K13 hK13=>vX O<|vE hK13<|wBk fun a hF=>?_
  refine bz (G:=Nat) (fun j a x=>j≤80∧Fr 89 [(8,.int .i64 ((j:Nat):Int)),(7,.slice (some ⟨b9,o9,none⟩) 80 (u.aC-v.args.length))] a∧Hp w0 ([row b4 31 ([.int .i64 v.op,.int .i64 v.num,.int .i64 v.clk,ak v.typ,ak v.cas,ak v.nam,.int .i64 v.v.v.k,.int .i64 v.v.v.n,ak v.v.v.t,.slice v.v.sA v.v.v.s.length v.v.sC,.slice v.aA v.args.length v.aC,.slice v.bA v.src.length v.bC]++dc v.eff)]::[row b1 31 ([.int .i64 u.op,.int .i64 u.num,.int .i64 u.clk,ak u.typ,ak u.cas,ak u.nam,.int .i64 u.v.v.k,.int .i64 u.v.v.n,ak u.v.v.t,.slice u.v.sA u.v.v.s.length u.v.sC,.slice u.aA u.args.length u.aC,.slice u.bA u.src.length u.bC]++dc u.eff)]::R) x) (fun j=>80-j) 0 (⟨JE _,hF.keep [8,7] rfl,hA14⟩) ?_
  clear hF
  rintro j a w20 ⟨hj,hF,hA19⟩
  apply wp_seq_k; intro K14 hK14
  refine wS hF fun K15 hK15=>vX O<|vV O (aG O O O O O)<|vE hK15 fun a hF=>?_
  by_cases hlt2:j<80
  ·refine aF hF O (dB ag) ?_
   obtain ⟨hat,hle⟩:((cel VA.cells (List.replicate 80 markVA)).drop (j*4)).take 4=markVA.cells∧j*4+4≤(cel VA.cells (List.replicate 80 markVA)).length:=DI (fun _ _=>rfl) (by rw [List.getElem?_replicate,if_pos hlt2])
   apply wp_skip
   refine hK14 _ _ ?_
   apply wp_seq_k; intro K16 hK16
   apply wp_block
   apply wp_seq_k; intro K17 hK17
   refine bi 6 [4,5,6] [0,1,2,3,4,5,6] _ af af (Hq.drew hA19.q) ?_
   have hA21:=Hl.drew hA19
   refine pR hF<|pX O O<|pX O O<|pW O O (fun _=>bI O JS kZ O O j rfl hlt2 rfl)<|pV O O (fun x hx=>gQ (new:=markVA.cells) rfl (Hq.sub hx (List.Subset.trans hGu (bD (bD (dD))))) O hc9 (j*4) hle rfl hat Ef) fun a hF=>?_
   refine fZ O O O (fun K hK=>aH hF O ae zO rfl rfl ?_)
   with_reducible refine (uH _ hA21).mono ?_
   rintro e' w22 ⟨rfl,hA23⟩
   refine ⟨_,rfl,fun a hF=>hK _ _ (fun _=>?_) ?_⟩
   ·exact hA23.q
   replace hA23:Hp w0 ([row b4 31 ([.int .i64 v.op,.int .i64 v.num,.int .i64 v.clk,ak v.typ,ak v.cas,ak v.nam,.int .i64 v.v.v.k,.int .i64 v.v.v.n,ak v.v.v.t,.slice v.v.sA v.v.v.s.length v.v.sC,.slice v.aA v.args.length v.aC,.slice v.bA v.src.length v.bC]++dc v.eff)]::[row b1 31 ([.int .i64 u.op,.int .i64 u.num,.int .i64 u.clk,ak u.typ,ak u.cas,ak u.nam,.int .i64 u.v.v.k,.int .i64 u.v.v.n,ak u.v.v.t,.slice u.v.sA u.v.v.s.length u.v.sC,.slice u.aA u.args.length u.aC,.slice u.bA u.src.length u.bC]++dc u.eff)]::R) w22:=hA23
   refine fZ O O O (fun K hK=>aH hF O ae yB rfl rfl ?_)
   with_reducible refine (oO (G:=[]) (H:=[]) markVA markVA _ xI (List.nil_subset _) xI (List.nil_subset _) hA23).mono ?_
   rintro e' w24 ⟨rfl,hA25⟩
   refine ⟨_,rfl,fun a hF=>hK _ _ (fun _=>?_) ?_⟩
   ·exact hA25.q
   replace hA25:Hp w0 ([row b4 31 ([.int .i64 v.op,.int .i64 v.num,.int .i64 v.clk,ak v.typ,ak v.cas,ak v.nam,.int .i64 v.v.v.k,.int .i64 v.v.v.n,ak v.v.v.t,.slice v.v.sA v.v.v.s.length v.v.sC,.slice v.aA v.args.length v.aC,.slice v.bA v.src.length v.bC]++dc v.eff)]::[row b1 31 ([.int .i64 u.op,.int .i64 u.num,.int .i64 u.clk,ak u.typ,ak u.cas,ak u.nam,.int .i64 u.v.v.k,.int .i64 u.v.v.n,ak u.v.v.t,.slice u.v.sA u.v.v.s.length u.v.sC,.slice u.aA u.args.length u.aC,.slice u.bA u.src.length u.bC]++dc u.eff)]::R) w24:=hA25
   rw [decide_eq_true rfl] at hF
   refine fB hF O O O O ae _ (cZ O O O) (fun h=>absurd h ae) (fun a hF=>?_)
   refine bY ?_
   refine hK17 _ _ ?_
   refine eG hF O ?_
   apply wp_skip
   refine hK16 _ _ ?_
   refine wp_region_lit ?_
   refine vR hF<|vX O<|vV O (bK O O O (JF _ ag))<|vX O fun a hF=>?_
   refine aJ ?_
   exact ⟨j+1,ag,ag,hF.keep [8,7] rfl,hA25⟩
  ·refine az hF O (dw ag) ?_
   apply wp_exit
   refine hK12 _ _ ?_
   refine wS hF fun K18 hK18=>vX O<|vE hK18 fun a hF=>?_
   apply wp_ret
   refine aK hF Tryz.results69 O ?_
   have hA26:Hp w0 (R) w20:=hpS 2 [] [0,1] hA19 rfl
   exact ⟨rfl,hA26⟩
def tb (b:UInt8):UInt8:=UInt8.ofNat (b.toNat ^^^ 1)
def qJ (n:Int):Int:=bits .xor .i64 n 1
abbrev tA (a:VA):VA:=⟨⟨a.v.k,qJ a.v.n,a.v.t,a.v.s⟩,a.sA,a.sC⟩
def dO (u:EA):EA:={ u with args:=u.args.map tA,src:=u.src.map tb }
theorem xm (n:Int) : -9223372036854775808≤qJ n∧qJ n≤9223372036854775807:=by
 unfold qJ bits
 rw [IntKind.wrap_i64]
 omega
theorem Ir (b:UInt8):bits .xor .u8 ((b.toNat:Nat):Int) 1=((tb b).toNat:Int):=by
 have h:=u8_xor_nat b.toNat 1 b.toNat_lt ae
 unfold tb
 rw [UInt8.toNat_ofNat',Nat.mod_eq_of_lt (Nat.xor_lt_two_pow (n:=8) b.toNat_lt ae)]
 exact h
theorem BA {α:Type} {f:α→α} {l T:List α} {i:Nat} {x:α} (h:l[i]? = some x):((l.take i).map f++l.drop i++T)[i]? = some x∧((l.take i).map f++l.drop i++T).set i (f x)=(l.take (i+1)).map f++l.drop (i+1)++T:=by
 obtain ⟨hi,he⟩:=List.getElem?_eq_some_iff.1 h
 have hl:((l.take i).map f).length=i:=by rw [List.length_map,List.length_take]; omega
 have hd:l.drop i=x::l.drop (i+1):=by rw [List.drop_eq_getElem_cons hi,he]
 rw [hd,List.append_assoc]
 refine ⟨by rw [List.getElem?_append_right ag,hl,Nat.sub_self]; rfl,?_⟩
 rw [List.set_append_right _ _ ag,hl,Nat.sub_self,List.take_add_one,h]
 simp
theorem IC {s T:List UInt8} {i:Nat} (hi:i<s.length):(dc ((s.take i).map tb++s.drop i++T))[0+i]? = some (.int .u8 ((bAt s i).toNat:Int))∧(dc ((s.take i).map tb++s.drop i++T)).set (0+i) (.int .u8 ((tb (bAt s i)).toNat:Int))=dc ((s.take (i+1)).map tb++s.drop (i+1)++T):=by
 obtain ⟨h1,h2⟩:=BA (f:=tb) (T:=T) (kC hi)
 rw [Nat.zero_add]
 refine ⟨?_,?_⟩
 ·unfold dc
  rw [List.getElem?_map,h1]
  rfl
 ·rw [← h2]
  unfold dc
  rw [List.map_set]
theorem AO {l:List VA} {i:Nat} {va:VA} (h:l[i]? = some va):(cel VA.cells l)[i*4+1]? = some (.int .i64 va.v.n)∧(cel VA.cells l).set (i*4+1) (.int .i64 (qJ va.v.n))=cel VA.cells (l.set i (tA va)):=by
 induction l generalizing i with
 | nil=>cases h
 | cons a l ih =>
  cases i with
  | zero=>cases h; exact ⟨rfl,rfl⟩
  | succ i =>
   obtain ⟨h1,h2⟩:=ih (i:=i) h
   have e:(i+1)*4+1=i*4+1+4:=by omega
   rw [e,List.set_cons_succ,ku,ku]
   refine ⟨h1,?_⟩
   rw [← h2]
   rfl
theorem IE {l T:List VA} {i:Nat} {va:VA} (h:l[i]? = some va):(cel VA.cells ((l.take i).map tA++l.drop i++T))[0+i*4+1]? = some (.int .i64 va.v.n)∧(cel VA.cells ((l.take i).map tA++l.drop i++T)).set (0+i*4+1) (.int .i64 (qJ va.v.n))=cel VA.cells ((l.take (i+1)).map tA++l.drop (i+1)++T):=by
 obtain ⟨h1,h2⟩:=BA (f:=tA) (T:=T) h
 obtain ⟨h3,h4⟩:=AO h1
 rw [Nat.zero_add,← h2]
 exact ⟨h3,h4⟩
theorem WE.turn {w0:World} {gS gA gB:Nat} {M:Seg} {u:EA} (h:WE w0 gS gA gB M u):WE w0 gS gA gB M (dO u):=by
 refine ⟨h.vA,h.vC,h.aA,by show u.aC=(u.args.map tA).length+80; rw [List.length_map]; exact h.aC,h.bA,by show u.bC=(u.src.map tb).length+80; rw [List.length_map]; exact h.bC,fun a ha=>?_,h.nS,by show (u.args.map tA).length≤_; rw [List.length_map]; exact h.nA,by show (u.src.map tb).length≤_; rw [List.length_map]; exact h.nB,h.i.1,h.i.2.1,h.i.2.2.1,h.i.2.2.2.1,fun v hv=>?_,h.i.2.2.2.2.2⟩
 ·obtain ⟨b,hb,rfl⟩:=List.mem_map.1 ha
  obtain ⟨h1,h2,h3,h4⟩:=h.m b hb
  exact ⟨h1,h2,h3,h4.1,xm _⟩
 ·have hv':v∈(u.args.map tA).map VA.v:=hv
  rw [List.map_map] at hv'
  obtain ⟨b,hb,rfl⟩:=List.mem_map.1 hv'
  exact ⟨(h.m b hb).2.2.2.1,xm _⟩
theorem Eb {u v:EA} (h:u.ev=v.ev):(dO u).ev=(dO v).ev:=by
 have hargs:∀ l:List VA,(l.map tA).map VA.v=(l.map VA.v).map fun x=>⟨x.k,qJ x.n,x.t,x.s⟩:=fun l=>by rw [List.map_map,List.map_map]; rfl
 have h1:=congrArg Ev.op h
 have h2:=congrArg Ev.num h
 have h3:=congrArg Ev.clk h
 have h4:=congrArg Ev.typ h
 have h5:=congrArg Ev.cas h
 have h6:=congrArg Ev.nam h
 have h7:=congrArg Ev.v h
 have h8:=congrArg Ev.args h
 have h9:=congrArg Ev.src h
 have h10:=congrArg Ev.eff h
 unfold EA.ev at h1 h2 h3 h4 h5 h6 h7 h8 h9 h10 ⊢
 simp only at h1 h2 h3 h4 h5 h6 h7 h8 h9 h10
 unfold dO
 simp only [hargs,h1,h2,h3,h4,h5,h6,h7,h8,h9,h10]
set_option maxRecDepth 100000 in
set_option maxHeartbeats 8000000 in
theorem xW {w0:World} {R:List Seg} {gS gA gB:Nat} {M:Seg} (u:EA) (w:World) (hU:WE w0 gS gA gB M u) (hA:Hp w0 (sgA gA u::sgB gB u::R) w):Calls Tryz.prog 70 #[.agg u.cells.toArray] w fun e w'=>e= .returned (.tuple #[])∧Hp w0 (sgA gA (dO u)::sgB gB (dO u)::R) w':=by
 have hu32:u.eff.length=32:=hU.i.2.2.2.2.2
 have hnA:=hU.nA
 have hnB:=hU.nB
 refine aN Tryz.func70 O Tryz.ntmps70 ai (fun a hF=>?_)
 refine wp_seq_k fun K1 hK1=>wp_region_lit ?_
 refine aI O (fun K hK=>dE (cs:=u.cells) hF O ae rfl hA O (fun b1 w2 a hb1 hF hA3=>hK _ _ ?_))
 refine aJ<|hK1 _ _ ?_
 apply wp_seq_k; intro K2 hK2
 refine wS hF fun K3 hK3=>vX O<|vE hK3<|wBk fun a hF=>?_
 have hA4:Hp w0 ([row b1 31 ([.int .i64 u.op,.int .i64 u.num,.int .i64 u.clk,ak u.typ,ak u.cas,ak u.nam,.int .i64 u.v.v.k,.int .i64 u.v.v.n,ak u.v.v.t,.slice u.v.sA u.v.v.s.length u.v.sC,.slice u.aA u.args.length u.aC,.slice u.bA u.src.length u.bC]++dc u.eff)]::[row gA 25 (cel VA.cells ((u.args.take 0).map tA++u.args.drop 0++List.replicate 80 markVA))]::[row gB 5 (dc ((u.src.take 0).map tb++u.src.drop 0++List.replicate 80 219))]::R) w2:=hA3
 refine bz (G:=Nat) (fun i a x=>i≤u.src.length∧Fr 40 [(2,.int .i64 ((i:Nat):Int)),(1,.pointer (some ⟨b1,0,none⟩))] a∧Hp w0 ([row b1 31 ([.int .i64 u.op,.int .i64 u.num,.int .i64 u.clk,ak u.typ,ak u.cas,ak u.nam,.int .i64 u.v.v.k,.int .i64 u.v.v.n,ak u.v.v.t,.slice u.v.sA u.v.v.s.length u.v.sC,.slice u.aA u.args.length u.aC,.slice u.bA u.src.length u.bC]++dc u.eff)]::[row gA 25 (cel VA.cells ((u.args.take 0).map tA++u.args.drop 0++List.replicate 80 markVA))]::[row gB 5 (dc ((u.src.take i).map tb++u.src.drop i++List.replicate 80 219))]::R) x) (fun i=>u.src.length-i) 0 (⟨JE _,hF.keep [2,1] rfl,hA4⟩) ?_
 clear hF
 rintro i a w6 ⟨hi,hF,hA5⟩
 apply wp_seq_k; intro K4 hK4
 refine wS hF fun K5 hK5=>vX O<|vV O (yf 11 rfl JQ O dF O)<|vV O (aV O hA5.q O 0 O O iK)<|vV O (aT O JG O O)<|vV O (aG O O O O O)<|vE hK5 fun a hF=>?_
 by_cases hlt:i<u.src.length
 ·refine aF hF O (dB ag) ?_
  obtain ⟨hg1,hs1⟩:=IC (T:=List.replicate 80 219) hlt
  apply wp_skip
  refine hK4 _ _ ?_
  apply wp_seq_k; intro K6 hK6
  apply wp_block
  refine bi 10 [10] [0,1,2,3,4,5,6,7,8,9,10] _ af af (Hq.drew hA5.q) ?_
  have hA7:=Hl.drew hA5
  refine pR hF<|pW O O (fun _=>yf 11 rfl JQ O dF O)<|pV O O (fun x hx=>aV (u:= .slice (some ⟨gB,0,none⟩) u.src.length u.bC) rfl hx O 0 O (by rw [← hU.bA]; rfl) iK) fun a hF=>?_
  refine pR hF<|pX O O<|pW O O (fun _=>yf 11 rfl JQ O dF O)<|pV O O (fun x hx=>aV (u:= .slice (some ⟨gB,0,none⟩) u.src.length u.bC) rfl hx O 0 O (by rw [← hU.bA]; rfl) iK) fun a hF=>?_
  refine pR hF<|pX O O<|pW O O (fun _=>bI O JG qR O O i rfl hlt (ad2 _ _ _))<|pV O O (fun x hx=>aV (u:= .int .u8 ((bAt u.src i).toNat:Int)) O hx O 2 O hg1 ru)<|pW O O (fun _=>Gh O O O (Ir _))<|pW O O (fun _=>bI O JG qR O O i rfl hlt (ad2 _ _ _)) fun a hF=>?_
  refine fZ O O O (fun K hK=>bH hF O O hA7 O O 2 O (by rw [aS,List.length_append,List.length_append,List.length_map,List.length_take,List.length_drop,List.length_replicate]; omega) rfl qR (fun w8 hA9=>hK _ _ (fun h=>absurd h ae) ?_))
  replace hA9:Hp w0 ([row b1 31 ([.int .i64 u.op,.int .i64 u.num,.int .i64 u.clk,ak u.typ,ak u.cas,ak u.nam,.int .i64 u.v.v.k,.int .i64 u.v.v.n,ak u.v.v.t,.slice u.v.sA u.v.v.s.length u.v.sC,.slice u.aA u.args.length u.aC,.slice u.bA u.src.length u.bC]++dc u.eff)]::[row gA 25 (cel VA.cells ((u.args.take 0).map tA++u.args.drop 0++List.replicate 80 markVA))]::[row gB 5 ((dc ((u.src.take i).map tb++u.src.drop i++List.replicate 80 219)).set (0+i) (.int .u8 ((tb (bAt u.src i)).toNat:Int)))]::R) w8:=hA9
  have hA10:Hp w0 ([row b1 31 ([.int .i64 u.op,.int .i64 u.num,.int .i64 u.clk,ak u.typ,ak u.cas,ak u.nam,.int .i64 u.v.v.k,.int .i64 u.v.v.n,ak u.v.v.t,.slice u.v.sA u.v.v.s.length u.v.sC,.slice u.aA u.args.length u.aC,.slice u.bA u.src.length u.bC]++dc u.eff)]::[row gA 25 (cel VA.cells ((u.args.take 0).map tA++u.args.drop 0++List.replicate 80 markVA))]::[row gB 5 (dc ((u.src.take (i+1)).map tb++u.src.drop (i+1)++List.replicate 80 219))]::R) w8:=(by rw [← hs1]; exact hA9)
  refine bY ?_
  refine hK6 _ _ ?_
  refine wp_region_lit ?_
  refine vR hF<|vX O<|vV O (bK O O O (JF _ ag))<|vX O fun a hF=>?_
  refine aJ ?_
  exact ⟨i+1,ag,ag,hF.keep [2,1] rfl,hA10⟩
 ·refine az hF O (dw ag) ?_
  obtain rfl:i=u.src.length:=by omega
  have hA11:Hp w0 ([row b1 31 ([.int .i64 u.op,.int .i64 u.num,.int .i64 u.clk,ak u.typ,ak u.cas,ak u.nam,.int .i64 u.v.v.k,.int .i64 u.v.v.n,ak u.v.v.t,.slice u.v.sA u.v.v.s.length u.v.sC,.slice u.aA u.args.length u.aC,.slice u.bA u.src.length u.bC]++dc u.eff)]::[row gA 25 (cel VA.cells ((u.args.take 0).map tA++u.args.drop 0++List.replicate 80 markVA))]::[row gB 5 (dc (u.src.map tb++List.replicate 80 219))]::R) w6:=(by have h9:=hA5; rw [List.take_length,List.drop_length,List.append_nil] at h9; exact h9)
  apply wp_exit
  refine hK2 _ _ ?_
  refine wS hF fun K7 hK7=>vX O<|vE hK7<|wBk fun a hF=>?_
  refine bz (G:=Nat) (fun i a x=>i≤u.args.length∧Fr 40 [(3,.int .i64 ((i:Nat):Int)),(1,.pointer (some ⟨b1,0,none⟩))] a∧Hp w0 ([row b1 31 ([.int .i64 u.op,.int .i64 u.num,.int .i64 u.clk,ak u.typ,ak u.cas,ak u.nam,.int .i64 u.v.v.k,.int .i64 u.v.v.n,ak u.v.v.t,.slice u.v.sA u.v.v.s.length u.v.sC,.slice u.aA u.args.length u.aC,.slice u.bA u.src.length u.bC]++dc u.eff)]::[row gA 25 (cel VA.cells ((u.args.take i).map tA++u.args.drop i++List.replicate 80 markVA))]::[row gB 5 (dc (u.src.map tb++List.replicate 80 219))]::R) x) (fun i=>u.args.length-i) 0 (⟨JE _,hF.keep [3,1] rfl,hA11⟩) ?_
  clear hF
  rintro i a w13 ⟨hi,hF,hA12⟩
  apply wp_seq_k; intro K8 hK8
  refine wS hF fun K9 hK9=>vX O<|vV O (yf 10 rfl JQ O qU O)<|vV O (aV O hA12.q O 0 O O ry)<|vV O (aT O JS O O)<|vV O (aG O O O O O)<|vE hK9 fun a hF=>?_
  by_cases hlt2:i<u.args.length
  ·refine aF hF O (dB ag) ?_
   obtain ⟨va,hp⟩:∃ q,u.args[i]? = some q:=⟨_,List.getElem?_eq_getElem hlt2⟩
   obtain ⟨hg1,hs1⟩:=IE (T:=List.replicate 80 markVA) hp
   apply wp_skip
   refine hK8 _ _ ?_
   apply wp_seq_k; intro K10 hK10
   apply wp_block
   refine bi 12 [12] [0,1,2,3,4,5,6,7,8,9,10,11,12] _ af af (Hq.drew hA12.q) ?_
   have hA14:=Hl.drew hA12
   refine pR hF<|pW O O (fun _=>yf 10 rfl JQ O qU O)<|pV O O (fun x hx=>aV (u:= .slice (some ⟨gA,0,none⟩) u.args.length u.aC) rfl hx O 0 O (by rw [← hU.aA]; rfl) ry) fun a hF=>?_
   refine pR hF<|pX O O<|pW O O (fun _=>yf 10 rfl JQ O qU O)<|pV O O (fun x hx=>aV (u:= .slice (some ⟨gA,0,none⟩) u.args.length u.aC) rfl hx O 0 O (by rw [← hU.aA]; rfl) ry) fun a hF=>?_
   refine pR hF<|pX O O<|pW O O (fun _=>bI O JS kZ O O i rfl hlt2 rfl)<|pW O O (fun _=>kD O JP O gU ae rfl rfl)<|pV O O (fun x hx=>aV (off:=0+i*4+1) (u:= .int .i64 va.v.n) rfl hx O 1 O hg1 jW)<|pW O O (fun _=>Gh O O O (rfl:_=qJ va.v.n))<|pW O O (fun _=>bI O JS kZ O O i rfl hlt2 rfl)<|pW O O (fun _=>kD O JP O gU ae rfl rfl) fun a hF=>?_
   refine fZ O O O (fun K hK=>bH (off:=0+i*4+1) hF O O hA14 O O 1 O (by rw [dR (sz:=4) (fun _ _=>rfl),List.length_append,List.length_append,List.length_map,List.length_take,List.length_drop,List.length_replicate]; omega) rfl gU (fun w15 hA16=>hK _ _ (fun h=>absurd h ae) ?_))
   replace hA16:Hp w0 ([row b1 31 ([.int .i64 u.op,.int .i64 u.num,.int .i64 u.clk,ak u.typ,ak u.cas,ak u.nam,.int .i64 u.v.v.k,.int .i64 u.v.v.n,ak u.v.v.t,.slice u.v.sA u.v.v.s.length u.v.sC,.slice u.aA u.args.length u.aC,.slice u.bA u.src.length u.bC]++dc u.eff)]::[row gA 25 ((cel VA.cells ((u.args.take i).map tA++u.args.drop i++List.replicate 80 markVA)).set (0+i*4+1) (.int .i64 (qJ va.v.n)))]::[row gB 5 (dc (u.src.map tb++List.replicate 80 219))]::R) w15:=hA16
   have hA17:Hp w0 ([row b1 31 ([.int .i64 u.op,.int .i64 u.num,.int .i64 u.clk,ak u.typ,ak u.cas,ak u.nam,.int .i64 u.v.v.k,.int .i64 u.v.v.n,ak u.v.v.t,.slice u.v.sA u.v.v.s.length u.v.sC,.slice u.aA u.args.length u.aC,.slice u.bA u.src.length u.bC]++dc u.eff)]::[row gA 25 (cel VA.cells ((u.args.take (i+1)).map tA++u.args.drop (i+1)++List.replicate 80 markVA))]::[row gB 5 (dc (u.src.map tb++List.replicate 80 219))]::R) w15:=(by rw [← hs1]; exact hA16)
   refine bY ?_
   refine hK10 _ _ ?_
   refine wp_region_lit ?_
   refine vR hF<|vX O<|vV O (bK O O O (JF _ ag))<|vX O fun a hF=>?_
   refine aJ ?_
   exact ⟨i+1,ag,ag,hF.keep [3,1] rfl,hA17⟩
  ·refine az hF O (dw ag) ?_
   obtain rfl:i=u.args.length:=by omega
   have hA18:Hp w0 ([row b1 31 ([.int .i64 u.op,.int .i64 u.num,.int .i64 u.clk,ak u.typ,ak u.cas,ak u.nam,.int .i64 u.v.v.k,.int .i64 u.v.v.n,ak u.v.v.t,.slice u.v.sA u.v.v.s.length u.v.sC,.slice u.aA u.args.length u.aC,.slice u.bA u.src.length u.bC]++dc u.eff)]::[row gA 25 (cel VA.cells (u.args.map tA++List.replicate 80 markVA))]::[row gB 5 (dc (u.src.map tb++List.replicate 80 219))]::R) w13:=(by have h9:=hA12; rw [List.take_length,List.drop_length,List.append_nil] at h9; exact h9)
   apply wp_exit
   simp only [Exit.then,Exit.inBlock,↓reduceIte]
   refine ig hF Tryz.results70 ?_
   have hA19:Hp w0 ([row gA 25 (cel VA.cells (u.args.map tA++List.replicate 80 markVA))]::[row gB 5 (dc (u.src.map tb++List.replicate 80 219))]::R) w13:=hpS 3 [1,2] [0] hA18 rfl
   exact ⟨rfl,hA19⟩
end Go.Proofs.YtepbmdlgdaedpaaGreatDoor
