/- A sparse tree: what it proves; how it is built. -/
import Derived.Test.YtpomngkcfbnjoaaGreatDoorSpY
/- A sparse tree: what it proves; how it is built. -/
set_option maxRecDepth 100000
set_option maxHeartbeats 2000000
namespace Go.Proofs.YtpomngkcfbnjoaaGreatDoor
open Go.RowKit Go.Dk
def prf0:Prf:=⟨false,0,List.replicate 32 0,List.replicate 32 0,[]⟩
theorem uu:bV Tryz.prog 30 (.agg (prf0.cells (.slice none 0 0)).toArray):=by unfold bV; kernel_rfl
theorem gU:prf0.OK:=⟨List.length_replicate ..,List.length_replicate ..,(fun d hd=>by cases hd),Tv _⟩
theorem Prf.c_putE {p:Prf} {sv:Value} (hp:p.OK) (ct:Int) {ch:List UInt8} (hch:ch.length=32):splice (p.cells sv) 1 (.int .i64 ct::dc ch)=Prf.cells ⟨p.pr,ct,ch,p.bs,p.ss⟩ sv:=by
 unfold splice Prf.cells
 rw [List.length_cons,aj,hch]
 show [Value.bool p.pr]++(.int .i64 ct::dc ch)++(dc p.ch++(dc p.bs++[sv])).drop 32=_
 rw [List.drop_left' (by rw [aj,hp.ch])]
 rfl
theorem RZ (l:List UInt8) (i:Nat) (x:UInt8):(dc l).set i (.int .u8 (x.toNat:Int))=dc (l.set i x):=by
 show (l.map _).set i _=(l.set i x).map _
 rw [List.map_set]
theorem Prf.c_putB {p:Prf} {sv:Value} (hp:p.OK) {i:Nat} (hi:i<32) (x:UInt8):(p.cells sv).set (34+i) (.int .u8 (x.toNat:Int))=Prf.cells ⟨p.pr,p.ct,p.ch,p.bs.set i x,p.ss⟩ sv:=by
 unfold Prf.cells
 rw [show 34+i=(32+i)+1+1 by omega,List.set_cons_succ,List.set_cons_succ,List.set_append,if_neg (by rw [aj,hp.ch]; omega),List.set_append,if_pos (by rw [aj,aj,hp.ch,hp.bs]; omega),aj,hp.ch,show 32+i-32=i by omega,RZ]
theorem rJ {width:Int} {L:List Itm} {k:List UInt8} {h:Nat} (he:nbr width k L h=aK width h):aV width L k (h+1)=aV width L k h:=by
 unfold aV
 rw [show iE (nbr width k L) (aK width) (h+1)=iE (nbr width k L) (aK width) h from if_pos he,show oN (nbr width k L) (aK width) (h+1)=oN (nbr width k L) (aK width) h from if_pos he]
theorem Ls {width:Int} {L:List Itm} {k:List UInt8} {h:Nat} (he:¬ nbr width k L h=aK width h):(aV width L k (h+1)).bs=(aV width L k h).bs.set (h/8) (UInt8.ofNat ((bAt (aV width L k h).bs (h/8)).toNat+2 ^ (h%8))):=by
 exact if_neg he
theorem mr {width:Int} {L:List Itm} {k:List UInt8} {h:Nat} (he:¬ nbr width k L h=aK width h):(aV width L k (h+1)).ss=(aV width L k h).ss++[nbr width k L h]:=by
 exact if_neg he
theorem xk {width:Int} {L:List Itm} {k:List UInt8} {h:Nat} (he:¬ nbr width k L h=aK width h):aV width L k (h+1)=⟨(aV width L k h).pr,(aV width L k h).ct,(aV width L k h).ch,(aV width L k h).bs.set (h/8) (UInt8.ofNat ((bAt (aV width L k h).bs (h/8)).toNat+2 ^ (h%8))),(aV width L k h).ss++[nbr width k L h]⟩:=by
 rw [← Ls he,← mr he]; rfl
theorem uo (ss:List (List UInt8)) (d:List UInt8):fF (ss++[d])=fF ss++dc d:=by simp [fF]
theorem KG:∀ j:Fin 8,IntKind.u8.wrap (1*2 ^ min ((j.val:Int)).toNat IntKind.u8.bits)=((2 ^ j.val:Nat):Int):=by decide +kernel
theorem wL (i:Nat):IntKind.u8.wrap (1*2 ^ min (((i%8:Nat):Int)).toNat IntKind.u8.bits)=((2 ^ (i%8):Nat):Int):=KG ⟨i%8,ag⟩
theorem KL:isRow Tryz.prog 49 65=true:=af
theorem Bv:(Tryz.prog.info? 30).map (·.size)=some 67:=af
theorem DR:aG Tryz.prog 37:=⟨_,Tryz.func37,af,af⟩
theorem DJ:aG Tryz.prog 38:=⟨_,Tryz.func38,af,af⟩
theorem Jn:bV Tryz.prog 49 (.agg ([.int .u8 0,.int .u8 0,.int .u8 0,.int .u8 0,.int .u8 0,.int .u8 0,.int .u8 0,.int .u8 0,.int .u8 0,.int .u8 0,.int .u8 0,.int .u8 0,.int .u8 0,.int .u8 0,.int .u8 0,.int .u8 0,.int .u8 0,.int .u8 0,.int .u8 0,.int .u8 0,.int .u8 0,.int .u8 0,.int .u8 0,.int .u8 0,.int .u8 0,.int .u8 0,.int .u8 0,.int .u8 0,.int .u8 0,.int .u8 0,.int .u8 0,.int .u8 0,.int .i64 0,.int .u8 0,.int .u8 0,.int .u8 0,.int .u8 0,.int .u8 0,.int .u8 0,.int .u8 0,.int .u8 0,.int .u8 0,.int .u8 0,.int .u8 0,.int .u8 0,.int .u8 0,.int .u8 0,.int .u8 0,.int .u8 0,.int .u8 0,.int .u8 0,.int .u8 0,.int .u8 0,.int .u8 0,.int .u8 0,.int .u8 0,.int .u8 0,.int .u8 0,.int .u8 0,.int .u8 0,.int .u8 0,.int .u8 0,.int .u8 0,.int .u8 0,.int .u8 0]:List Value).toArray):=by unfold bV; kernel_rfl
theorem Ie (w0 w:World) (R G:List Seg) (hG:G⊆R) (width:Int) (k:List UInt8) (hk:k.length=32) (hT:Tab w0) (hA:Hp w0 R w):Calls Tryz.prog 17 #[.agg ([.pointer none,.slice none 0 0]:List Value).toArray,.int .i64 width,.agg (dc k).toArray] w fun e w'=>∃ sv X,e= .returned (.agg ((aV width [] k 256).cells sv).toArray)∧Buf 25 32 X sv (aV width [] k 256).ss.length (fF (aV width [] k 256).ss)∧Hp w0 (X::R) w':=by
 have hdk:(dc k).length=32:=by rw [aj,hk]
 have hII:∀ i∈([]:List Itm),i.OK:=(fun i hi=>by cases hi)
 have hch:=jR hII k
 have hel:(Value.int .i64 (dF [] k)::dc (dC [] k)).length=33:=by rw [List.length_cons,aj,hch]
 have hnl:=oG (min (max width 1) 32) k []
 refine aJ Tryz.func17 O Tryz.ntmps17 ai (fun a hF=>?_)
 refine wp_seq_k fun K1 hK1=>wp_region_lit ?_
 refine au O (fun K hK=>bC (cs:=[.pointer none,.slice none 0 0]) hF O ae rfl hA O (fun b1 w2 a hb1 hF hA3=>hK _ _ ?_))
 refine au O (fun K hK=>bC (cs:=dc k) hF O ae rfl hA3 O (fun b4 w5 a hb4 hF hA6=>hK _ _ ?_))
 refine au O (fun K hK=>bG hF O ae rfl hA6 uu (fun b7 w8 a hb7 hF hA9=>hK _ _ ?_))
 refine az<|hK1 _ _ ?_
 refine wS hF fun K2 hK2=>vX O<|vV O (yf 1 O Ul O rC O)<|vV O (aX O hA9.q O 2 O O rQ) fun a hF=>?_
 refine au O (fun K hK=>ax hF O ae sV rfl rfl ?_)
 with_reducible refine (EH w0 _ ([row b7 30 (prf0.cells (.slice none 0 0))]::[row b4 25 (dc k)]::[row b1 37 [.pointer none,.slice none 0 0]]::R) width hT hA9).mono ?_
 rintro e' w10 ⟨gs,SX,rfl,hSm2,hA11⟩
 refine ⟨_,rfl,fun a hF=>hK _ _ ?_⟩
 replace hA11:Hp w0 (SX::[row b7 30 (prf0.cells (.slice none 0 0))]::[row b4 25 (dc k)]::[row b1 37 [.pointer none,.slice none 0 0]]::R) w10:=hA11
 have hSm:=hSm2.sm
 refine vR hF<|vX O<|vE hK2 fun a hF=>?_
 refine wp_seq_k fun K3 hK3=>wp_region_lit ?_
 refine au O (fun K hK=>bG hF O ae rfl hA11 uu (fun b12 w13 a hb12 hF hA14=>hK _ _ ?_))
 refine az<|hK3 _ _ ?_
 apply wp_seq_k; intro K4 hK4
 have hSm2:=hSm2.mono (List.cons_subset_cons SX (List.nil_subset G))
 have hSm:=hSm2.sm
 have hSmk:=hSm
 obtain ⟨AE,cE,wb,hs1,hs2,hs3⟩:=hSmk
 refine wp_region_lit ?_
 refine vR hF<|vV O (aT (new:=[.pointer none,.slice none 0 0]) O hA14.q O 4 O wP ai rfl)<|vV O (yZ (new:=dc k) rfl hA14.q O 3 O vw hdk) fun a hF=>?_
 refine au O (fun K hK=>ax hF O ae DR rfl rfl ?_)
 with_reducible refine (OW w0 _ ([row b12 30 (prf0.cells (.slice none 0 0))]::SX::[row b7 30 (prf0.cells (.slice none 0 0))]::[row b4 25 (dc k)]::[row b1 37 [.pointer none,.slice none 0 0]]::R) k hk hA14).mono ?_
 rintro e' w15 ⟨rfl,hA16⟩
 refine ⟨_,rfl,fun a hF=>hK _ _ ?_⟩
 refine vR hF<|vX O<|vV O (cu (v:= .agg (.int .i64 (dF [] k)::dc (dC [] k)).toArray) rfl rfl rfl)<|vV O (cu (v:= .bool ((gX [] k).isSome)) O O O)<|vV O (yf 1 O TW O Bz O) fun a hF=>?_
 refine au O (fun K hK=>dE (new:= .int .i64 (dF [] k)::dc (dC [] k)) hF O O hA16 O O 0 O (by rw [hel,Prf.c_len gU]; decide) (jS _ _) (by rw [hel]; exact Bz) (fun w17 hA18=>hK _ _ ?_))
 replace hA18:Hp w0 ([row b12 30 (splice (prf0.cells (.slice none 0 0)) 1 (.int .i64 (dF [] k)::dc (dC [] k)))]::SX::[row b7 30 (prf0.cells (.slice none 0 0))]::[row b4 25 (dc k)]::[row b1 37 [.pointer none,.slice none 0 0]]::R) w17:=hA18
 have hA19:Hp w0 ([row b12 30 (Prf.cells ⟨false,dF [] k,dC [] k,List.replicate 32 0,[]⟩ (.slice none 0 0))]::SX::[row b7 30 (prf0.cells (.slice none 0 0))]::[row b4 25 (dc k)]::[row b1 37 [.pointer none,.slice none 0 0]]::R) w17:=by
  rw [← show splice (prf0.cells (.slice none 0 0)) 1 (.int .i64 (dF [] k)::dc (dC [] k))=Prf.cells ⟨false,dF [] k,dC [] k,List.replicate 32 0,[]⟩ (.slice none 0 0) from (Prf.c_putE gU _ hch)]
  exact hA18
 refine vR hF<|vV O (yf 0 O TW O Om O) fun a hF=>?_
 refine au O (fun K hK=>aW hF O O hA19 O O 0 O (by rw [Prf.c_len ⟨hch,List.length_replicate ..,(fun d hd=>by cases hd),Tv _⟩]; decide) rfl Om (fun w20 hA21=>hK _ _ ?_))
 replace hA21:Hp w0 ([row b12 30 ((Prf.cells ⟨false,dF [] k,dC [] k,List.replicate 32 0,[]⟩ (.slice none 0 0)).set 0 (.bool (gX [] k).isSome))]::SX::[row b7 30 (prf0.cells (.slice none 0 0))]::[row b4 25 (dc k)]::[row b1 37 [.pointer none,.slice none 0 0]]::R) w20:=hA21
 have hA22:Hp w0 ([row b12 30 ((aV (min (max width 1) 32) [] k 0).cells (.slice none 0 0))]::SX::[row b7 30 (prf0.cells (.slice none 0 0))]::[row b4 25 (dc k)]::[row b1 37 [.pointer none,.slice none 0 0]]::R) w20:=by
  rw [← show (Prf.cells ⟨false,dF [] k,dC [] k,List.replicate 32 0,[]⟩ (.slice none 0 0)).set 0 (.bool (gX [] k).isSome)=(aV (min (max width 1) 32) [] k 0).cells (.slice none 0 0) from rfl]
  exact hA21
 refine az<|hK4 _ _ ?_
 apply wp_seq_k; intro K5 hK5
 refine wS hF fun K6 hK6=>vV O (aT (new:=[.pointer none,.slice none 0 0]) O hA22.q O 4 O wP ai rfl)<|vX O<|vV O (yZ (new:=dc k) rfl hA22.q O 3 O vw hdk) fun a hF=>?_
 refine au O (fun K hK=>ax hF O ae DJ rfl rfl ?_)
 with_reducible refine (EF w0 _ ([row b12 30 ((aV (min (max width 1) 32) [] k 0).cells (.slice none 0 0))]::SX::[row b7 30 (prf0.cells (.slice none 0 0))]::[row b4 25 (dc k)]::[row b1 37 [.pointer none,.slice none 0 0]]::R) (SX::G) (dR (TI _ ((TF ..))) (List.Subset.trans hG (aA (aA (aA (aA (aA (bu)))))))) k hk gs (min (max width 1) 32) hSm2 hA22).mono ?_
 rintro e' w23 ⟨bv,XB,rfl,hBE,hA24⟩
 refine ⟨_,rfl,fun a hF=>hK _ _ ?_⟩
 replace hA24:Hp w0 (XB::[row b12 30 ((aV (min (max width 1) 32) [] k 0).cells (.slice none 0 0))]::SX::[row b7 30 (prf0.cells (.slice none 0 0))]::[row b4 25 (dc k)]::[row b1 37 [.pointer none,.slice none 0 0]]::R) w23:=hA24
 have hFn:=hF
 obtain ⟨AB,cB,rfl,_,hRB⟩:=hBE.rc (w0:=w0) (R:=[XB]) (TF ..)
 have hF:=hFn
 refine vR hF<|vV O (aY O Tu O O)<|vX O<|vE hK6<|wBk fun a hF=>?_
 have hA25:Hp w0 ([row b12 30 ((aV (min (max width 1) 32) [] k 0).cells (.slice none 0 0))]::[row b7 30 (prf0.cells (.slice none 0 0))]::XB::SX::R) w23:=hpS 6 [1,3,0,2] [4,5] hA24 rfl
 have hA26:Hp w0 ([row b12 30 ((aV (min (max width 1) 32) [] k 0).cells (.slice none 0 0))]::[]::[row b7 30 (prf0.cells (.slice none 0 0))]::XB::SX::R) w23:=hA25
 refine bQ (G:=Nat) (fun h a x=>∃ (sv:Value) (XS:Seg),h≤256∧Buf 25 32 XS sv (aV (min (max width 1) 32) [] k h).ss.length (fF (aV (min (max width 1) 32) [] k h).ss)∧Fr 61 [(28,.int .i64 (h:Int)),(7,.pointer (some ⟨gs,0,none⟩)),(8,.pointer (some ⟨b12,0,none⟩)),(6,.pointer (some ⟨b7,0,none⟩)),(26,.slice AB 256 cB),(27,.int .i64 256)] a∧Hp w0 ([row b12 30 ((aV (min (max width 1) 32) [] k h).cells sv)]::XS::[row b7 30 (prf0.cells (.slice none 0 0))]::XB::SX::R) x) (fun h=>256-h) 0 (⟨_,_,Tv _,(Buf.nil 25 32),hF.keep [28,7,8,6,26,27] rfl,hA26⟩) ?_
 clear hF
 rintro h a w28 ⟨sv,XS,hh,hS,hF,hA27⟩
 have hpk:(aV (min (max width 1) 32) [] k h).OK:=vF hII k hh
 refine wS hF fun K7 hK7=>vV O (aH O O O O O)<|vE hK7<|wQ fun K8 hK8 a hF=>?_
 by_cases hlt:h<256
 ·refine aZ hF O (dB ag) ?_
  have hdd:(dc (nbr (min (max width 1) 32) k [] h)).length=32:=by rw [aj,hnl]
  have hdle:=bZ (min (max width 1) 32)
  obtain ⟨herd,hele⟩:=iY (aK (min (max width 1) 32)) 257 h (fun i _=>hdle i) ag
  obtain ⟨hnrd,hnle⟩:=iY (nbr (min (max width 1) 32) k []) 256 h (fun i _=>hnl i) hlt
  obtain ⟨be_,qe,hAE,hce⟩:=hs3.ne (i:=h*32) ag
  obtain ⟨bn,qn,hAN,hcn⟩:=hRB.ne (i:=h*32) ag
  apply wp_skip
  refine hK8 _ _ ?_
  apply wp_seq_k; intro K9 hK9
  apply wp_block
  refine wS hF fun K10 hK10=>vX O<|vV O (bi O Tu uX (by exact congrArg (fun A=>some (Value.slice A 256 cB)) hAN) rfl h rfl hlt rfl) fun a hF=>?_
  refine vR hF<|vV O (aQ O (Hq.sub hA27.q (dZ (TI _ (TI _ (TI _ ((TF ..))))))) O hcn (h*32) hnle rfl hnrd vw) fun a hF=>?_
  refine au O (fun K hK=>bG hF O ae rfl hA27 (jE) (fun b29 w30 a hb29 hF hA31=>hK _ _ ?_))
  refine vR hF<|vX O fun a hF=>?_
  refine au O (fun K hK=>aI (new:=dc (nbr (min (max width 1) 32) k [] h)) hF O O hA31 O O 0 O (by rw [hdd]; rfl) (bz _) uX (fun w32 hA33=>hK _ _ ?_))
  replace hA33:Hp w0 ([row b29 25 (dc (nbr (min (max width 1) 32) k [] h))]::[row b12 30 ((aV (min (max width 1) 32) [] k h).cells sv)]::XS::[row b7 30 (prf0.cells (.slice none 0 0))]::XB::SX::R) w32:=hA33
  refine az<|hK10 _ _ ?_
  apply wp_seq_k; intro K11 hK11
  by_cases heq:nbr (min (max width 1) 32) k [] h=aK (min (max width 1) 32) h
  ·refine ak 8 [8] [0,1,2,3,4,5,6,7,8] _ af af (Hq.drew hA33.q) ?_
   have hA34:=Hl.drew hA33
   refine pR hF<|pV O O (fun x hx=>aT (new:=dc (nbr (min (max width 1) 32) k [] h)) O hx O 0 O vw (by rw [hdd]; exact TG _) (by rw [List.drop_zero]; exact TJ (by rw [hdd]; exact TG _))) fun a hF=>?_
   refine pR hF<|pX O O<|pX O O<|pW O O (fun _=>yf 1 O Uk O rC O)<|pV O O (fun x hx=>bD O (Hq.sub hx (dR (TI _ (TI _ (TI _ (TI _ (TI _ ((TF ..))))))) (List.Subset.trans hG (aA (aA (aA (aA (aA (aA (bu)))))))))) O hs1 1 (by simp) rfl rfl rQ)<|pX O O<|pW O O (fun _=>bi O Tu uX (by exact congrArg (fun A=>some (Value.slice A 257 cE)) hAE) rfl h rfl ag rfl) fun a hF=>?_
   refine pR hF<|pV O O (fun x hx=>aQ O (Hq.sub hx (dR (TI _ (TI _ (TI _ (TI _ (TI _ ((TF ..))))))) (List.Subset.trans hG (aA (aA (aA (aA (aA (aA (bu)))))))))) O hce (h*32) hele rfl herd vw) fun a hF=>?_
   refine bY hF O O O O ae _ (kS O Tz TA D5 af rfl rfl (hnl h) (hdle h) (show (!decide (nbr (min (max width 1) 32) k [] h=aK (min (max width 1) 32) h))=false by rw [decide_eq_true heq]; rfl)) (fun h=>absurd h ae) (fun a hF=>?_)
   refine aB ?_
   refine hK11 _ _ ?_
   refine dL hF O ?_
   apply wp_skip
   refine hK9 _ _ ?_
   refine wp_region_lit ?_
   refine vR hF<|vV O (bH O O O (TB _ ag))<|vX O fun a hF=>?_
   refine az ?_
   have hps:=rJ heq
   rw [← hps] at hS
   have hA35:Hp w0 ([row b29 25 (dc (nbr (min (max width 1) 32) k [] h))]::[row b12 30 ((aV (min (max width 1) 32) [] k (h+1)).cells sv)]::XS::[row b7 30 (prf0.cells (.slice none 0 0))]::XB::SX::R) w32.drew:=by
    rw [← show (aV (min (max width 1) 32) [] k h).cells sv=(aV (min (max width 1) 32) [] k (h+1)).cells sv from (by rw [hps])]
    exact hA34
   have hA36:Hp w0 ([row b12 30 ((aV (min (max width 1) 32) [] k (h+1)).cells sv)]::XS::[row b7 30 (prf0.cells (.slice none 0 0))]::XB::SX::R) w32.drew:=hpS 6 [1,2,3,4,5] [0] hA35 rfl
   exact ⟨h+1,ag,_,_,ag,hS,hF.keep [28,7,8,6,26,27] rfl,hA36⟩
  ·refine ak 8 [8] [0,1,2,3,4,5,6,7,8] _ af af (Hq.drew hA33.q) ?_
   have hA37:=Hl.drew hA33
   refine pR hF<|pV O O (fun x hx=>aT (new:=dc (nbr (min (max width 1) 32) k [] h)) O hx O 0 O vw (by rw [hdd]; exact TG _) (by rw [List.drop_zero]; exact TJ (by rw [hdd]; exact TG _))) fun a hF=>?_
   refine pR hF<|pX O O<|pX O O<|pW O O (fun _=>yf 1 O Uk O rC O)<|pV O O (fun x hx=>bD O (Hq.sub hx (dR (TI _ (TI _ (TI _ (TI _ (TI _ ((TF ..))))))) (List.Subset.trans hG (aA (aA (aA (aA (aA (aA (bu)))))))))) O hs1 1 (by simp) rfl rfl rQ)<|pX O O<|pW O O (fun _=>bi O Tu uX (by exact congrArg (fun A=>some (Value.slice A 257 cE)) hAE) rfl h rfl ag rfl) fun a hF=>?_
   refine pR hF<|pV O O (fun x hx=>aQ O (Hq.sub hx (dR (TI _ (TI _ (TI _ (TI _ (TI _ ((TF ..))))))) (List.Subset.trans hG (aA (aA (aA (aA (aA (aA (bu)))))))))) O hce (h*32) hele rfl herd vw) fun a hF=>?_
   refine bY hF O O O O ae _ (kS O Tz TA D5 af rfl rfl (hnl h) (hdle h) (show (!decide (nbr (min (max width 1) 32) k [] h=aK (min (max width 1) 32) h))=true by rw [decide_eq_false heq]; rfl)) (fun h=>absurd h ae) (fun a hF=>?_)
   refine aB ?_
   refine hK11 _ _ ?_
   refine eP hF O ?_
   apply wp_seq_k; intro K12 hK12
   refine ak 11 [11] [0,1,2,3,4,5,6,7,8,9,10,11] _ af af (Hq.drew hA37.q) ?_
   have hA38:=Hl.drew hA37
   refine pR hF<|pX O O<|pW O O (fun _=>mQ O O O ae (CB h hlt))<|pW O O (fun _=>yf 34 rfl TW O BA O)<|pW O O (fun _=>aP O Ub D5 rfl rfl (h/8) rfl ag (ad2 _ _ _) (rfl:(none:Option Nat)=none))<|pV O O (fun x hx=>aX O hx O 1 O (Prf.c_bit hpk ag) Aq)<|pX O O<|pW O O (fun _=>fO O O O ae (EP h))<|pW O O (fun _=>yJ O O O ag (wL h))<|pW O O (fun _=>Ee O O O (qJ _ _ hlt).1)<|pW O O (fun _=>yf 34 rfl TW O BA O)<|pW O O (fun _=>aP O Ub D5 rfl rfl (h/8) rfl ag (ad2 _ _ _) (rfl:(none:Option Nat)=none)) fun a hF=>?_
   refine bM O O O (fun K hK=>aW hF O O hA38 O O 1 O (by rw [Prf.c_len hpk]; omega) rfl D5 (fun w39 hA40=>hK _ _ (fun h=>absurd h ae) ?_))
   replace hA40:Hp w0 ([row b29 25 (dc (nbr (min (max width 1) 32) k [] h))]::[row b12 30 (((aV (min (max width 1) 32) [] k h).cells sv).set (34+h/8) (.int .u8 ((UInt8.ofNat ((bAt (aV (min (max width 1) 32) [] k h).bs (h/8)).toNat+2 ^ (h%8))).toNat:Int)))]::XS::[row b7 30 (prf0.cells (.slice none 0 0))]::XB::SX::R) w39:=hA40
   have hA41:Hp w0 ([row b29 25 (dc (nbr (min (max width 1) 32) k [] h))]::[row b12 30 (Prf.cells ⟨(aV (min (max width 1) 32) [] k h).pr,(aV (min (max width 1) 32) [] k h).ct,(aV (min (max width 1) 32) [] k h).ch,(aV (min (max width 1) 32) [] k h).bs.set (h/8) (UInt8.ofNat ((bAt (aV (min (max width 1) 32) [] k h).bs (h/8)).toNat+2 ^ (h%8))),(aV (min (max width 1) 32) [] k h).ss⟩ sv)]::XS::[row b7 30 (prf0.cells (.slice none 0 0))]::XB::SX::R) w39:=by
    rw [← show ((aV (min (max width 1) 32) [] k h).cells sv).set (34+h/8) (.int .u8 ((UInt8.ofNat ((bAt (aV (min (max width 1) 32) [] k h).bs (h/8)).toNat+2 ^ (h%8))).toNat:Int))=Prf.cells ⟨(aV (min (max width 1) 32) [] k h).pr,(aV (min (max width 1) 32) [] k h).ct,(aV (min (max width 1) 32) [] k h).ch,(aV (min (max width 1) 32) [] k h).bs.set (h/8) (UInt8.ofNat ((bAt (aV (min (max width 1) 32) [] k h).bs (h/8)).toNat+2 ^ (h%8))),(aV (min (max width 1) 32) [] k h).ss⟩ sv from (Prf.c_putB hpk ag _)]
    exact hA40
   refine aB ?_
   refine hK12 _ _ ?_
   have hpb:Prf.OK (⟨(aV (min (max width 1) 32) [] k h).pr,(aV (min (max width 1) 32) [] k h).ct,(aV (min (max width 1) 32) [] k h).ch,(aV (min (max width 1) 32) [] k h).bs.set (h/8) (UInt8.ofNat ((bAt (aV (min (max width 1) 32) [] k h).bs (h/8)).toNat+2 ^ (h%8))),(aV (min (max width 1) 32) [] k h).ss⟩:Prf):=⟨hpk.ch,by show (List.set _ _ _).length=32; rw [List.length_set]; exact hpk.bs,hpk.ss,hpk.few⟩
   refine wp_region_lit ?_
   refine vR hF<|vV O (yf 66 rfl TW O rC O)<|vV O (aX O hA41.q O 1 O (Prf.c_sums hpb) rQ)<|vV O (aT (new:=dc (nbr (min (max width 1) 32) k [] h)) O hA41.q O 0 O vw (by rw [hdd]; exact TG _) (by rw [List.drop_zero]; exact TJ (by rw [hdd]; exact TG _))) fun a hF=>?_
   refine au O (fun K hK=>jY (qs := #[(0,.agg (dc (nbr (min (max width 1) 32) k [] h)).toArray)]) (cells:=(dc (nbr (min (max width 1) 32) k [] h)).toArray) hF O ae rfl hA41 O (by exact lY (hnl h)) (fun b42 w43 a hb42 hF hA44=>hK _ _ ?_))
   refine au O (fun K hK=>dI hF O ae rfl hA44 3 O hS Tu oh rfl rfl (Rc.srcC (W:=dc (nbr (min (max width 1) 32) k [] h)) (m:=1) (size:=32) (R:=[row b42 25 (dc (nbr (min (max width 1) 32) k [] h))]::[row b29 25 (dc (nbr (min (max width 1) 32) k [] h))]::[row b12 30 (Prf.cells ⟨(aV (min (max width 1) 32) [] k h).pr,(aV (min (max width 1) 32) [] k h).ct,(aV (min (max width 1) 32) [] k h).ch,(aV (min (max width 1) 32) [] k h).bs.set (h/8) (UInt8.ofNat ((bAt (aV (min (max width 1) 32) [] k h).bs (h/8)).toNat+2 ^ (h%8))),(aV (min (max width 1) 32) [] k h).ss⟩ sv)]::XS::[row b7 30 (prf0.cells (.slice none 0 0))]::XB::SX::R) (Rc.ofRow (i:=0) (off:=0) rfl (by rw [List.drop_zero]; exact List.take_length ..)) hA44.q Tu ae (by rw [aj,(hnl h)]) (bz _)) (by have:=hpk.few; omega) ae (fun sv2 XS2 w45 a hS2 hF hA46=>hK _ _ ?_))
   refine vR hF<|vV O (yf 66 rfl TW O rC O) fun a hF=>?_
   refine au O (fun K hK=>aW hF O O hA46 O O 2 O (by rw [Prf.c_len hpb]; decide) hS2.one rC (fun w47 hA48=>hK _ _ ?_))
   replace hA48:Hp w0 ([row b42 25 (dc (nbr (min (max width 1) 32) k [] h))]::[row b29 25 (dc (nbr (min (max width 1) 32) k [] h))]::[row b12 30 ((Prf.cells ⟨(aV (min (max width 1) 32) [] k h).pr,(aV (min (max width 1) 32) [] k h).ct,(aV (min (max width 1) 32) [] k h).ch,(aV (min (max width 1) 32) [] k h).bs.set (h/8) (UInt8.ofNat ((bAt (aV (min (max width 1) 32) [] k h).bs (h/8)).toNat+2 ^ (h%8))),(aV (min (max width 1) 32) [] k h).ss⟩ sv).set 66 sv2)]::XS2::[row b7 30 (prf0.cells (.slice none 0 0))]::XB::SX::R) w47:=hA48
   have hA49:Hp w0 ([row b42 25 (dc (nbr (min (max width 1) 32) k [] h))]::[row b29 25 (dc (nbr (min (max width 1) 32) k [] h))]::[row b12 30 ((aV (min (max width 1) 32) [] k (h+1)).cells sv2)]::XS2::[row b7 30 (prf0.cells (.slice none 0 0))]::XB::SX::R) w47:=by
    rw [← show (Prf.cells ⟨(aV (min (max width 1) 32) [] k h).pr,(aV (min (max width 1) 32) [] k h).ct,(aV (min (max width 1) 32) [] k h).ch,(aV (min (max width 1) 32) [] k h).bs.set (h/8) (UInt8.ofNat ((bAt (aV (min (max width 1) 32) [] k h).bs (h/8)).toNat+2 ^ (h%8))),(aV (min (max width 1) 32) [] k h).ss⟩ sv).set 66 sv2=(aV (min (max width 1) 32) [] k (h+1)).cells sv2 from ((Prf.c_set hpb sv2).trans (by rw [xk heq]; rfl))]
    exact hA48
   rw [← uo,← mr heq,show (aV (min (max width 1) 32) [] k h).ss.length+1=(aV (min (max width 1) 32) [] k (h+1)).ss.length by rw [mr heq,List.length_append]; rfl] at hS2
   refine az<|hK9 _ _ ?_
   refine wp_region_lit ?_
   refine vR hF<|vV O (bH O O O (TB _ ag))<|vX O fun a hF=>?_
   refine az ?_
   have hA50:Hp w0 ([row b12 30 ((aV (min (max width 1) 32) [] k (h+1)).cells sv2)]::XS2::[row b7 30 (prf0.cells (.slice none 0 0))]::XB::SX::R) w47:=hpS 7 [2,3,4,5,6] [0,1] hA49 rfl
   exact ⟨h+1,ag,_,_,ag,hS2,hF.keep [28,7,8,6,26,27] rfl,hA50⟩
 ·refine aS hF O (dD ag) ?_
  obtain rfl:h=256:=by omega
  apply wp_exit
  refine hK5 _ _ ?_
  refine wS hF fun K13 hK13=>vV O (aT O hA27.q O 0 O OL (by rw [Prf.c_len hpk]; decide) (Prf.c_all hpk)) fun a hF=>?_
  refine au O (fun K hK=>aI (new:=(aV (min (max width 1) 32) [] k 256).cells sv) hF O O hA27 O O 2 O (by rw [Prf.c_len hpk,Prf.c_len gU]) (Prf.c_one hS.one) (by rw [Prf.c_len gU]; exact Bv) (fun w51 hA52=>hK _ _ ?_))
  replace hA52:Hp w0 ([row b12 30 ((aV (min (max width 1) 32) [] k 256).cells sv)]::XS::[row b7 30 ((aV (min (max width 1) 32) [] k 256).cells sv)]::XB::SX::R) w51:=hA52
  refine az<|hK13 _ _ ?_
  apply wp_ret
  refine fD hF Tryz.results17 hA52.q O 2 O (by rw [Prf.c_len hpk]; exact OL) ?_
  have hA53:Hp w0 (XS::R) w51:=hpS 5 [1] [0,2,3,4] hA52 rfl
  rw [xm] at hS ⊢
  exact ⟨sv,XS,rfl,hS,hA53⟩
theorem Ic (w0 w:World) (R G:List Seg) (hG:G⊆R) (t:Rx) (hg:t.Good) (gn:Nat) (hTr:Tr w0 G true t gn) (ad:Addr) (c:Nat) (hcb:257≤c) (hRc:Rc w0 G (some ad) (dM (aK 32) 257)) (width:Int) (k:List UInt8) (hk:k.length=32) (hT:Tab w0) (hA:Hp w0 R w):Calls Tryz.prog 17 #[.agg ([.pointer (some ⟨gn,0,none⟩),.slice (some ad) 257 c]:List Value).toArray,.int .i64 width,.agg (dc k).toArray] w fun e w'=>∃ sv X,e= .returned (.agg ((aV width t.items k 256).cells sv).toArray)∧Buf 25 32 X sv (aV width t.items k 256).ss.length (fF (aV width t.items k 256).ss)∧Hp w0 (X::R) w':=by
 have hdk:(dc k).length=32:=by rw [aj,hk]
 have hII:∀ i∈(t.items:List Itm),i.OK:=hg.ok
 have hch:=jR hII k
 have hel:(Value.int .i64 (dF t.items k)::dc (dC t.items k)).length=33:=by rw [List.length_cons,aj,hch]
 have hnl:=oG (min (max width 1) 32) k t.items
 refine aJ Tryz.func17 O Tryz.ntmps17 ai (fun a hF=>?_)
 refine wp_seq_k fun K1 hK1=>wp_region_lit ?_
 refine au O (fun K hK=>bC (cs:=[.pointer (some ⟨gn,0,none⟩),.slice (some ad) 257 c]) hF O ae rfl hA O (fun b1 w2 a hb1 hF hA3=>hK _ _ ?_))
 refine au O (fun K hK=>bC (cs:=dc k) hF O ae rfl hA3 O (fun b4 w5 a hb4 hF hA6=>hK _ _ ?_))
 refine au O (fun K hK=>bG hF O ae rfl hA6 uu (fun b7 w8 a hb7 hF hA9=>hK _ _ ?_))
 refine az<|hK1 _ _ ?_
 refine wS hF fun K2 hK2=>vX O<|vV O (yf 1 O Ul O rC O)<|vV O (aX O hA9.q O 2 O O rQ) fun a hF=>?_
 refine au O (fun K hK=>ax hF O ae sV rfl rfl ?_)
 with_reducible refine (EG w0 _ ([row b7 30 (prf0.cells (.slice none 0 0))]::[row b4 25 (dc k)]::[row b1 37 [.pointer (some ⟨gn,0,none⟩),.slice (some ad) 257 c]]::R) G width ad c hcb hRc hT hA9).mono ?_
 rintro e' w10 ⟨gs,SX,rfl,hSm2,hA11⟩
 refine ⟨_,rfl,fun a hF=>hK _ _ ?_⟩
 replace hA11:Hp w0 (SX::[row b7 30 (prf0.cells (.slice none 0 0))]::[row b4 25 (dc k)]::[row b1 37 [.pointer (some ⟨gn,0,none⟩),.slice (some ad) 257 c]]::R) w10:=hA11
 have hSm:=hSm2.sm
 refine vR hF<|vX O<|vE hK2 fun a hF=>?_
 refine wp_seq_k fun K3 hK3=>wp_region_lit ?_
 refine au O (fun K hK=>bG hF O ae rfl hA11 uu (fun b12 w13 a hb12 hF hA14=>hK _ _ ?_))
 refine az<|hK3 _ _ ?_
 apply wp_seq_k; intro K4 hK4
 have hSmk:=hSm
 obtain ⟨AE,cE,wb,hs1,hs2,hs3⟩:=hSmk
 refine wp_region_lit ?_
 refine vR hF<|vV O (aT (new:=[.pointer (some ⟨gn,0,none⟩),.slice (some ad) 257 c]) O hA14.q O 4 O wP ai rfl)<|vV O (yZ (new:=dc k) rfl hA14.q O 3 O vw hdk) fun a hF=>?_
 refine au O (fun K hK=>ax hF O ae DR rfl rfl ?_)
 with_reducible refine (OV w0 _ ([row b12 30 (prf0.cells (.slice none 0 0))]::SX::[row b7 30 (prf0.cells (.slice none 0 0))]::[row b4 25 (dc k)]::[row b1 37 [.pointer (some ⟨gn,0,none⟩),.slice (some ad) 257 c]]::R) G (List.Subset.trans hG (aA (aA (aA (aA (aA (bu))))))) t hg gn hTr _ k hk hA14).mono ?_
 rintro e' w15 ⟨rfl,hA16⟩
 refine ⟨_,rfl,fun a hF=>hK _ _ ?_⟩
 refine vR hF<|vX O<|vV O (cu (v:= .agg (.int .i64 (dF t.items k)::dc (dC t.items k)).toArray) rfl rfl rfl)<|vV O (cu (v:= .bool ((gX t.items k).isSome)) O O O)<|vV O (yf 1 O TW O Bz O) fun a hF=>?_
 refine au O (fun K hK=>dE (new:= .int .i64 (dF t.items k)::dc (dC t.items k)) hF O O hA16 O O 0 O (by rw [hel,Prf.c_len gU]; decide) (jS _ _) (by rw [hel]; exact Bz) (fun w17 hA18=>hK _ _ ?_))
 replace hA18:Hp w0 ([row b12 30 (splice (prf0.cells (.slice none 0 0)) 1 (.int .i64 (dF t.items k)::dc (dC t.items k)))]::SX::[row b7 30 (prf0.cells (.slice none 0 0))]::[row b4 25 (dc k)]::[row b1 37 [.pointer (some ⟨gn,0,none⟩),.slice (some ad) 257 c]]::R) w17:=hA18
 have hA19:Hp w0 ([row b12 30 (Prf.cells ⟨false,dF t.items k,dC t.items k,List.replicate 32 0,[]⟩ (.slice none 0 0))]::SX::[row b7 30 (prf0.cells (.slice none 0 0))]::[row b4 25 (dc k)]::[row b1 37 [.pointer (some ⟨gn,0,none⟩),.slice (some ad) 257 c]]::R) w17:=by
  rw [← show splice (prf0.cells (.slice none 0 0)) 1 (.int .i64 (dF t.items k)::dc (dC t.items k))=Prf.cells ⟨false,dF t.items k,dC t.items k,List.replicate 32 0,[]⟩ (.slice none 0 0) from (Prf.c_putE gU _ hch)]
  exact hA18
 refine vR hF<|vV O (yf 0 O TW O Om O) fun a hF=>?_
 refine au O (fun K hK=>aW hF O O hA19 O O 0 O (by rw [Prf.c_len ⟨hch,List.length_replicate ..,(fun d hd=>by cases hd),Tv _⟩]; decide) rfl Om (fun w20 hA21=>hK _ _ ?_))
 replace hA21:Hp w0 ([row b12 30 ((Prf.cells ⟨false,dF t.items k,dC t.items k,List.replicate 32 0,[]⟩ (.slice none 0 0)).set 0 (.bool (gX t.items k).isSome))]::SX::[row b7 30 (prf0.cells (.slice none 0 0))]::[row b4 25 (dc k)]::[row b1 37 [.pointer (some ⟨gn,0,none⟩),.slice (some ad) 257 c]]::R) w20:=hA21
 have hA22:Hp w0 ([row b12 30 ((aV (min (max width 1) 32) t.items k 0).cells (.slice none 0 0))]::SX::[row b7 30 (prf0.cells (.slice none 0 0))]::[row b4 25 (dc k)]::[row b1 37 [.pointer (some ⟨gn,0,none⟩),.slice (some ad) 257 c]]::R) w20:=by
  rw [← show (Prf.cells ⟨false,dF t.items k,dC t.items k,List.replicate 32 0,[]⟩ (.slice none 0 0)).set 0 (.bool (gX t.items k).isSome)=(aV (min (max width 1) 32) t.items k 0).cells (.slice none 0 0) from rfl]
  exact hA21
 refine az<|hK4 _ _ ?_
 apply wp_seq_k; intro K5 hK5
 refine wS hF fun K6 hK6=>vV O (aT (new:=[.pointer (some ⟨gn,0,none⟩),.slice (some ad) 257 c]) O hA22.q O 4 O wP ai rfl)<|vX O<|vV O (yZ (new:=dc k) rfl hA22.q O 3 O vw hdk) fun a hF=>?_
 refine au O (fun K hK=>ax hF O ae DJ rfl rfl ?_)
 with_reducible refine (EE w0 _ ([row b12 30 ((aV (min (max width 1) 32) t.items k 0).cells (.slice none 0 0))]::SX::[row b7 30 (prf0.cells (.slice none 0 0))]::[row b4 25 (dc k)]::[row b1 37 [.pointer (some ⟨gn,0,none⟩),.slice (some ad) 257 c]]::R) (SX::G) (dR (TI _ ((TF ..))) (List.Subset.trans hG (aA (aA (aA (aA (aA (bu)))))))) t hg gn (hTr.mono (List.subset_cons_of_subset _ (List.Subset.refl _))) ad c hcb (hRc.mono (List.subset_cons_of_subset _ (List.Subset.refl _))) k hk gs (min (max width 1) 32) hSm2 hT hA22).mono ?_
 rintro e' w23 ⟨bv,XB,rfl,hBE,hA24⟩
 refine ⟨_,rfl,fun a hF=>hK _ _ ?_⟩
 replace hA24:Hp w0 (XB::[row b12 30 ((aV (min (max width 1) 32) t.items k 0).cells (.slice none 0 0))]::SX::[row b7 30 (prf0.cells (.slice none 0 0))]::[row b4 25 (dc k)]::[row b1 37 [.pointer (some ⟨gn,0,none⟩),.slice (some ad) 257 c]]::R) w23:=hA24
 have hFn:=hF
 obtain ⟨AB,cB,rfl,_,hRB⟩:=hBE.rc (w0:=w0) (R:=[XB]) (TF ..)
 have hF:=hFn
 refine vR hF<|vV O (aY O Tu O O)<|vX O<|vE hK6<|wBk fun a hF=>?_
 have hA25:Hp w0 ([row b12 30 ((aV (min (max width 1) 32) t.items k 0).cells (.slice none 0 0))]::[row b7 30 (prf0.cells (.slice none 0 0))]::XB::SX::R) w23:=hpS 6 [1,3,0,2] [4,5] hA24 rfl
 have hA26:Hp w0 ([row b12 30 ((aV (min (max width 1) 32) t.items k 0).cells (.slice none 0 0))]::[]::[row b7 30 (prf0.cells (.slice none 0 0))]::XB::SX::R) w23:=hA25
 refine bQ (G:=Nat) (fun h a x=>∃ (sv:Value) (XS:Seg),h≤256∧Buf 25 32 XS sv (aV (min (max width 1) 32) t.items k h).ss.length (fF (aV (min (max width 1) 32) t.items k h).ss)∧Fr 61 [(28,.int .i64 (h:Int)),(7,.pointer (some ⟨gs,0,none⟩)),(8,.pointer (some ⟨b12,0,none⟩)),(6,.pointer (some ⟨b7,0,none⟩)),(26,.slice AB 256 cB),(27,.int .i64 256)] a∧Hp w0 ([row b12 30 ((aV (min (max width 1) 32) t.items k h).cells sv)]::XS::[row b7 30 (prf0.cells (.slice none 0 0))]::XB::SX::R) x) (fun h=>256-h) 0 (⟨_,_,Tv _,(Buf.nil 25 32),hF.keep [28,7,8,6,26,27] rfl,hA26⟩) ?_
 clear hF
 rintro h a w28 ⟨sv,XS,hh,hS,hF,hA27⟩
 have hpk:(aV (min (max width 1) 32) t.items k h).OK:=vF hII k hh
 refine wS hF fun K7 hK7=>vV O (aH O O O O O)<|vE hK7<|wQ fun K8 hK8 a hF=>?_
 by_cases hlt:h<256
 ·refine aZ hF O (dB ag) ?_
  have hdd:(dc (nbr (min (max width 1) 32) k t.items h)).length=32:=by rw [aj,hnl]
  have hdle:=bZ (min (max width 1) 32)
  obtain ⟨herd,hele⟩:=iY (aK (min (max width 1) 32)) 257 h (fun i _=>hdle i) ag
  obtain ⟨hnrd,hnle⟩:=iY (nbr (min (max width 1) 32) k t.items) 256 h (fun i _=>hnl i) hlt
  obtain ⟨be_,qe,hAE,hce⟩:=hs3.ne (i:=h*32) ag
  obtain ⟨bn,qn,hAN,hcn⟩:=hRB.ne (i:=h*32) ag
  apply wp_skip
  refine hK8 _ _ ?_
  apply wp_seq_k; intro K9 hK9
  apply wp_block
  refine wS hF fun K10 hK10=>vX O<|vV O (bi O Tu uX (by exact congrArg (fun A=>some (Value.slice A 256 cB)) hAN) rfl h rfl hlt rfl) fun a hF=>?_
  refine vR hF<|vV O (aQ O (Hq.sub hA27.q (dZ (TI _ (TI _ (TI _ ((TF ..))))))) O hcn (h*32) hnle rfl hnrd vw) fun a hF=>?_
  refine au O (fun K hK=>bG hF O ae rfl hA27 (jE) (fun b29 w30 a hb29 hF hA31=>hK _ _ ?_))
  refine vR hF<|vX O fun a hF=>?_
  refine au O (fun K hK=>aI (new:=dc (nbr (min (max width 1) 32) k t.items h)) hF O O hA31 O O 0 O (by rw [hdd]; rfl) (bz _) uX (fun w32 hA33=>hK _ _ ?_))
  replace hA33:Hp w0 ([row b29 25 (dc (nbr (min (max width 1) 32) k t.items h))]::[row b12 30 ((aV (min (max width 1) 32) t.items k h).cells sv)]::XS::[row b7 30 (prf0.cells (.slice none 0 0))]::XB::SX::R) w32:=hA33
  refine az<|hK10 _ _ ?_
  apply wp_seq_k; intro K11 hK11
  by_cases heq:nbr (min (max width 1) 32) k t.items h=aK (min (max width 1) 32) h
  ·refine ak 8 [8] [0,1,2,3,4,5,6,7,8] _ af af (Hq.drew hA33.q) ?_
   have hA34:=Hl.drew hA33
   refine pR hF<|pV O O (fun x hx=>aT (new:=dc (nbr (min (max width 1) 32) k t.items h)) O hx O 0 O vw (by rw [hdd]; exact TG _) (by rw [List.drop_zero]; exact TJ (by rw [hdd]; exact TG _))) fun a hF=>?_
   refine pR hF<|pX O O<|pX O O<|pW O O (fun _=>yf 1 O Uk O rC O)<|pV O O (fun x hx=>bD O (Hq.sub hx (dR (TI _ (TI _ (TI _ (TI _ (TI _ ((TF ..))))))) (List.Subset.trans hG (aA (aA (aA (aA (aA (aA (bu)))))))))) O hs1 1 (by simp) rfl rfl rQ)<|pX O O<|pW O O (fun _=>bi O Tu uX (by exact congrArg (fun A=>some (Value.slice A 257 cE)) hAE) rfl h rfl ag rfl) fun a hF=>?_
   refine pR hF<|pV O O (fun x hx=>aQ O (Hq.sub hx (dR (TI _ (TI _ (TI _ (TI _ (TI _ ((TF ..))))))) (List.Subset.trans hG (aA (aA (aA (aA (aA (aA (bu)))))))))) O hce (h*32) hele rfl herd vw) fun a hF=>?_
   refine bY hF O O O O ae _ (kS O Tz TA D5 af rfl rfl (hnl h) (hdle h) (show (!decide (nbr (min (max width 1) 32) k t.items h=aK (min (max width 1) 32) h))=false by rw [decide_eq_true heq]; rfl)) (fun h=>absurd h ae) (fun a hF=>?_)
   refine aB ?_
   refine hK11 _ _ ?_
   refine dL hF O ?_
   apply wp_skip
   refine hK9 _ _ ?_
   refine wp_region_lit ?_
   refine vR hF<|vV O (bH O O O (TB _ ag))<|vX O fun a hF=>?_
   refine az ?_
   have hps:=rJ heq
   rw [← hps] at hS
   have hA35:Hp w0 ([row b29 25 (dc (nbr (min (max width 1) 32) k t.items h))]::[row b12 30 ((aV (min (max width 1) 32) t.items k (h+1)).cells sv)]::XS::[row b7 30 (prf0.cells (.slice none 0 0))]::XB::SX::R) w32.drew:=by
    rw [← show (aV (min (max width 1) 32) t.items k h).cells sv=(aV (min (max width 1) 32) t.items k (h+1)).cells sv from (by rw [hps])]
    exact hA34
   have hA36:Hp w0 ([row b12 30 ((aV (min (max width 1) 32) t.items k (h+1)).cells sv)]::XS::[row b7 30 (prf0.cells (.slice none 0 0))]::XB::SX::R) w32.drew:=hpS 6 [1,2,3,4,5] [0] hA35 rfl
   exact ⟨h+1,ag,_,_,ag,hS,hF.keep [28,7,8,6,26,27] rfl,hA36⟩
  ·refine ak 8 [8] [0,1,2,3,4,5,6,7,8] _ af af (Hq.drew hA33.q) ?_
   have hA37:=Hl.drew hA33
   refine pR hF<|pV O O (fun x hx=>aT (new:=dc (nbr (min (max width 1) 32) k t.items h)) O hx O 0 O vw (by rw [hdd]; exact TG _) (by rw [List.drop_zero]; exact TJ (by rw [hdd]; exact TG _))) fun a hF=>?_
   refine pR hF<|pX O O<|pX O O<|pW O O (fun _=>yf 1 O Uk O rC O)<|pV O O (fun x hx=>bD O (Hq.sub hx (dR (TI _ (TI _ (TI _ (TI _ (TI _ ((TF ..))))))) (List.Subset.trans hG (aA (aA (aA (aA (aA (aA (bu)))))))))) O hs1 1 (by simp) rfl rfl rQ)<|pX O O<|pW O O (fun _=>bi O Tu uX (by exact congrArg (fun A=>some (Value.slice A 257 cE)) hAE) rfl h rfl ag rfl) fun a hF=>?_
   refine pR hF<|pV O O (fun x hx=>aQ O (Hq.sub hx (dR (TI _ (TI _ (TI _ (TI _ (TI _ ((TF ..))))))) (List.Subset.trans hG (aA (aA (aA (aA (aA (aA (bu)))))))))) O hce (h*32) hele rfl herd vw) fun a hF=>?_
   refine bY hF O O O O ae _ (kS O Tz TA D5 af rfl rfl (hnl h) (hdle h) (show (!decide (nbr (min (max width 1) 32) k t.items h=aK (min (max width 1) 32) h))=true by rw [decide_eq_false heq]; rfl)) (fun h=>absurd h ae) (fun a hF=>?_)
   refine aB ?_
   refine hK11 _ _ ?_
   refine eP hF O ?_
   apply wp_seq_k; intro K12 hK12
   refine ak 11 [11] [0,1,2,3,4,5,6,7,8,9,10,11] _ af af (Hq.drew hA37.q) ?_
   have hA38:=Hl.drew hA37
   refine pR hF<|pX O O<|pW O O (fun _=>mQ O O O ae (CB h hlt))<|pW O O (fun _=>yf 34 rfl TW O BA O)<|pW O O (fun _=>aP O Ub D5 rfl rfl (h/8) rfl ag (ad2 _ _ _) (rfl:(none:Option Nat)=none))<|pV O O (fun x hx=>aX O hx O 1 O (Prf.c_bit hpk ag) Aq)<|pX O O<|pW O O (fun _=>fO O O O ae (EP h))<|pW O O (fun _=>yJ O O O ag (wL h))<|pW O O (fun _=>Ee O O O (qJ _ _ hlt).1)<|pW O O (fun _=>yf 34 rfl TW O BA O)<|pW O O (fun _=>aP O Ub D5 rfl rfl (h/8) rfl ag (ad2 _ _ _) (rfl:(none:Option Nat)=none)) fun a hF=>?_
   refine bM O O O (fun K hK=>aW hF O O hA38 O O 1 O (by rw [Prf.c_len hpk]; omega) rfl D5 (fun w39 hA40=>hK _ _ (fun h=>absurd h ae) ?_))
   replace hA40:Hp w0 ([row b29 25 (dc (nbr (min (max width 1) 32) k t.items h))]::[row b12 30 (((aV (min (max width 1) 32) t.items k h).cells sv).set (34+h/8) (.int .u8 ((UInt8.ofNat ((bAt (aV (min (max width 1) 32) t.items k h).bs (h/8)).toNat+2 ^ (h%8))).toNat:Int)))]::XS::[row b7 30 (prf0.cells (.slice none 0 0))]::XB::SX::R) w39:=hA40
   have hA41:Hp w0 ([row b29 25 (dc (nbr (min (max width 1) 32) k t.items h))]::[row b12 30 (Prf.cells ⟨(aV (min (max width 1) 32) t.items k h).pr,(aV (min (max width 1) 32) t.items k h).ct,(aV (min (max width 1) 32) t.items k h).ch,(aV (min (max width 1) 32) t.items k h).bs.set (h/8) (UInt8.ofNat ((bAt (aV (min (max width 1) 32) t.items k h).bs (h/8)).toNat+2 ^ (h%8))),(aV (min (max width 1) 32) t.items k h).ss⟩ sv)]::XS::[row b7 30 (prf0.cells (.slice none 0 0))]::XB::SX::R) w39:=by
    rw [← show ((aV (min (max width 1) 32) t.items k h).cells sv).set (34+h/8) (.int .u8 ((UInt8.ofNat ((bAt (aV (min (max width 1) 32) t.items k h).bs (h/8)).toNat+2 ^ (h%8))).toNat:Int))=Prf.cells ⟨(aV (min (max width 1) 32) t.items k h).pr,(aV (min (max width 1) 32) t.items k h).ct,(aV (min (max width 1) 32) t.items k h).ch,(aV (min (max width 1) 32) t.items k h).bs.set (h/8) (UInt8.ofNat ((bAt (aV (min (max width 1) 32) t.items k h).bs (h/8)).toNat+2 ^ (h%8))),(aV (min (max width 1) 32) t.items k h).ss⟩ sv from (Prf.c_putB hpk ag _)]
    exact hA40
   refine aB ?_
   refine hK12 _ _ ?_
   have hpb:Prf.OK (⟨(aV (min (max width 1) 32) t.items k h).pr,(aV (min (max width 1) 32) t.items k h).ct,(aV (min (max width 1) 32) t.items k h).ch,(aV (min (max width 1) 32) t.items k h).bs.set (h/8) (UInt8.ofNat ((bAt (aV (min (max width 1) 32) t.items k h).bs (h/8)).toNat+2 ^ (h%8))),(aV (min (max width 1) 32) t.items k h).ss⟩:Prf):=⟨hpk.ch,by show (List.set _ _ _).length=32; rw [List.length_set]; exact hpk.bs,hpk.ss,hpk.few⟩
   refine wp_region_lit ?_
   refine vR hF<|vV O (yf 66 rfl TW O rC O)<|vV O (aX O hA41.q O 1 O (Prf.c_sums hpb) rQ)<|vV O (aT (new:=dc (nbr (min (max width 1) 32) k t.items h)) O hA41.q O 0 O vw (by rw [hdd]; exact TG _) (by rw [List.drop_zero]; exact TJ (by rw [hdd]; exact TG _))) fun a hF=>?_
   refine au O (fun K hK=>jY (qs := #[(0,.agg (dc (nbr (min (max width 1) 32) k t.items h)).toArray)]) (cells:=(dc (nbr (min (max width 1) 32) k t.items h)).toArray) hF O ae rfl hA41 O (by exact lY (hnl h)) (fun b42 w43 a hb42 hF hA44=>hK _ _ ?_))
   refine au O (fun K hK=>dI hF O ae rfl hA44 3 O hS Tu oh rfl rfl (Rc.srcC (W:=dc (nbr (min (max width 1) 32) k t.items h)) (m:=1) (size:=32) (R:=[row b42 25 (dc (nbr (min (max width 1) 32) k t.items h))]::[row b29 25 (dc (nbr (min (max width 1) 32) k t.items h))]::[row b12 30 (Prf.cells ⟨(aV (min (max width 1) 32) t.items k h).pr,(aV (min (max width 1) 32) t.items k h).ct,(aV (min (max width 1) 32) t.items k h).ch,(aV (min (max width 1) 32) t.items k h).bs.set (h/8) (UInt8.ofNat ((bAt (aV (min (max width 1) 32) t.items k h).bs (h/8)).toNat+2 ^ (h%8))),(aV (min (max width 1) 32) t.items k h).ss⟩ sv)]::XS::[row b7 30 (prf0.cells (.slice none 0 0))]::XB::SX::R) (Rc.ofRow (i:=0) (off:=0) rfl (by rw [List.drop_zero]; exact List.take_length ..)) hA44.q Tu ae (by rw [aj,(hnl h)]) (bz _)) (by have:=hpk.few; omega) ae (fun sv2 XS2 w45 a hS2 hF hA46=>hK _ _ ?_))
   refine vR hF<|vV O (yf 66 rfl TW O rC O) fun a hF=>?_
   refine au O (fun K hK=>aW hF O O hA46 O O 2 O (by rw [Prf.c_len hpb]; decide) hS2.one rC (fun w47 hA48=>hK _ _ ?_))
   replace hA48:Hp w0 ([row b42 25 (dc (nbr (min (max width 1) 32) k t.items h))]::[row b29 25 (dc (nbr (min (max width 1) 32) k t.items h))]::[row b12 30 ((Prf.cells ⟨(aV (min (max width 1) 32) t.items k h).pr,(aV (min (max width 1) 32) t.items k h).ct,(aV (min (max width 1) 32) t.items k h).ch,(aV (min (max width 1) 32) t.items k h).bs.set (h/8) (UInt8.ofNat ((bAt (aV (min (max width 1) 32) t.items k h).bs (h/8)).toNat+2 ^ (h%8))),(aV (min (max width 1) 32) t.items k h).ss⟩ sv).set 66 sv2)]::XS2::[row b7 30 (prf0.cells (.slice none 0 0))]::XB::SX::R) w47:=hA48
   have hA49:Hp w0 ([row b42 25 (dc (nbr (min (max width 1) 32) k t.items h))]::[row b29 25 (dc (nbr (min (max width 1) 32) k t.items h))]::[row b12 30 ((aV (min (max width 1) 32) t.items k (h+1)).cells sv2)]::XS2::[row b7 30 (prf0.cells (.slice none 0 0))]::XB::SX::R) w47:=by
    rw [← show (Prf.cells ⟨(aV (min (max width 1) 32) t.items k h).pr,(aV (min (max width 1) 32) t.items k h).ct,(aV (min (max width 1) 32) t.items k h).ch,(aV (min (max width 1) 32) t.items k h).bs.set (h/8) (UInt8.ofNat ((bAt (aV (min (max width 1) 32) t.items k h).bs (h/8)).toNat+2 ^ (h%8))),(aV (min (max width 1) 32) t.items k h).ss⟩ sv).set 66 sv2=(aV (min (max width 1) 32) t.items k (h+1)).cells sv2 from ((Prf.c_set hpb sv2).trans (by rw [xk heq]; rfl))]
    exact hA48
   rw [← uo,← mr heq,show (aV (min (max width 1) 32) t.items k h).ss.length+1=(aV (min (max width 1) 32) t.items k (h+1)).ss.length by rw [mr heq,List.length_append]; rfl] at hS2
   refine az<|hK9 _ _ ?_
   refine wp_region_lit ?_
   refine vR hF<|vV O (bH O O O (TB _ ag))<|vX O fun a hF=>?_
   refine az ?_
   have hA50:Hp w0 ([row b12 30 ((aV (min (max width 1) 32) t.items k (h+1)).cells sv2)]::XS2::[row b7 30 (prf0.cells (.slice none 0 0))]::XB::SX::R) w47:=hpS 7 [2,3,4,5,6] [0,1] hA49 rfl
   exact ⟨h+1,ag,_,_,ag,hS2,hF.keep [28,7,8,6,26,27] rfl,hA50⟩
 ·refine aS hF O (dD ag) ?_
  obtain rfl:h=256:=by omega
  apply wp_exit
  refine hK5 _ _ ?_
  refine wS hF fun K13 hK13=>vV O (aT O hA27.q O 0 O OL (by rw [Prf.c_len hpk]; decide) (Prf.c_all hpk)) fun a hF=>?_
  refine au O (fun K hK=>aI (new:=(aV (min (max width 1) 32) t.items k 256).cells sv) hF O O hA27 O O 2 O (by rw [Prf.c_len hpk,Prf.c_len gU]) (Prf.c_one hS.one) (by rw [Prf.c_len gU]; exact Bv) (fun w51 hA52=>hK _ _ ?_))
  replace hA52:Hp w0 ([row b12 30 ((aV (min (max width 1) 32) t.items k 256).cells sv)]::XS::[row b7 30 ((aV (min (max width 1) 32) t.items k 256).cells sv)]::XB::SX::R) w51:=hA52
  refine az<|hK13 _ _ ?_
  apply wp_ret
  refine fD hF Tryz.results17 hA52.q O 2 O (by rw [Prf.c_len hpk]; exact OL) ?_
  have hA53:Hp w0 (XS::R) w51:=hpS 5 [1] [0,2,3,4] hA52 rfl
  rw [xm] at hS ⊢
  exact ⟨sv,XS,rfl,hS,hA53⟩
theorem BQ (w0 w:World) (R G:List Seg) (hG:G⊆R) (L:List Itm) (top sl:Value) (h:TV w0 G L top sl) (width:Int) (k:List UInt8) (hk:k.length=32) (hT:Tab w0) (hA:Hp w0 R w):Calls Tryz.prog 17 #[.agg ([top,sl]:List Value).toArray,.int .i64 width,.agg (dc k).toArray] w fun e w'=>∃ sv X,e= .returned (.agg ((aV width L k 256).cells sv).toArray)∧Buf 25 32 X sv (aV width L k 256).ss.length (fF (aV width L k 256).ss)∧Hp w0 (X::R) w':=by
 rcases h with ⟨rfl,rfl,rfl⟩ | ⟨t,g,ad,c,rfl,hg,rfl,rfl,hTr,hRc,hcb⟩
 ·exact Ie w0 w R G hG width k hk hT hA
 ·exact Ic w0 w R G hG t hg g hTr ad c hcb hRc width k hk hT hA
def BSt (acc:List Itm) (top:Value) (Y:Seg):Prop:=(acc=[]∧top= .pointer none∧Y=[])∨∃ t g,t.items=acc∧t.Good∧top=ptr g∧TrO false t g Y
theorem BSt.nil:BSt [] (.pointer none) []:= .inl ⟨rfl,rfl,rfl⟩
theorem KZ (w0 w:World) (R G:List Seg) (hG:G⊆R) (G0:List Seg) (A:Option Addr) (l:List Itm) (c:Nat) (hlc:l.length≤c) (hcm:l.length≤100000) (hI:∀ i∈l,i.OK) (hL:Rc w0 G A (cel Itm.cells l)) (hT:Tab w0) (hA:Hp w0 R w):Calls Tryz.prog 27 #[.slice A l.length c] w fun e w'=>∃ top sl X,e= .returned (.tuple #[.agg ([top,sl]:List Value).toArray,.int .i64 (((jm [] l).1:Nat):Int)])∧TV w0 (X::G0) (jm [] l).2 top sl∧Hp w0 (X::R) w':=by
 refine aJ Tryz.func27 O Tryz.ntmps27 ai (fun a hF=>?_)
 refine wp_seq_k fun K1 hK1=>wp_region_lit ?_
 refine au O (fun K hK=>bG hF O ae rfl hA (vP) (fun b1 w2 a hb1 hF hA3=>hK _ _ ?_))
 refine vR hF<|vX O<|vE hK1 fun a hF=>?_
 refine wp_seq_k fun K2 hK2=>wp_region_lit ?_
 refine au O (fun K hK=>bG hF O ae rfl hA3 (vP) (fun b4 w5 a hb4 hF hA6=>hK _ _ ?_))
 refine az<|hK2 _ _ ?_
 apply wp_seq_k; intro K3 hK3
 refine wS hF fun K4 hK4=>vX O<|vV O (aY O TT O O)<|vX O<|vE hK4<|wBk fun a hF=>?_
 have hA7:Hp w0 ([row b4 37 [.pointer none,.slice none 0 0]]::[]::[row b1 37 [.pointer none,.slice none 0 0]]::R) w5:=hA6
 refine bQ (G:=Nat) (fun n a x=>∃ (acc:List Itm) (top:Value) (Y:Seg),n≤l.length∧jm [] l=jm acc (l.drop n)∧acc.length≤n∧BSt acc top Y∧Fr 49 [(10,.int .i64 (n:Int)),(8,.slice A l.length c),(9,.int .i64 l.length),(2,.pointer (some ⟨b1,0,none⟩)),(4,.pointer (some ⟨b4,0,none⟩))] a∧Hp w0 ([row b4 37 [top,.slice none 0 0]]::Y::[row b1 37 [.pointer none,.slice none 0 0]]::R) x) (fun n=>l.length-n) 0 (⟨_,_,_,Tv _,(by rw [List.drop_zero]),TG _,BSt.nil,hF.keep [10,8,9,2,4] rfl,hA7⟩) ?_
 clear hF
 rintro n a w9 ⟨acc,top,Y,hn,hbl,hal,hB,hF,hA8⟩
 refine wS hF fun K5 hK5=>vV O (aH O O O O O)<|vE hK5<|wQ fun K6 hK6 a hF=>?_
 by_cases hlt:n<l.length
 ·refine aZ hF O (dB ag) ?_
  obtain ⟨i,hi⟩:∃ i,l[n]? = some i:=⟨_,List.getElem?_eq_getElem hlt⟩
  have hiK:=hI i (List.mem_of_getElem? hi)
  have hrb:=(fE hI hi).2
  obtain ⟨b,q,hA2,hc⟩:=hL.ne (i:=n*65) ag
  have hdr:l.drop n=i::l.drop (n+1):=by rw [List.drop_eq_getElem_cons hlt]; congr 1; exact Option.some.inj ((List.getElem?_eq_getElem hlt).symm.trans hi)
  have hil:i.cells.length=65:=Itm.len hiK
  have hdk:(dc i.k).length=32:=by rw [aj,hiK.k]
  have hde:(Value.int .i64 i.ct::dc i.ch).length=33:=by rw [List.length_cons,aj,hiK.ch]
  apply wp_skip
  refine hK6 _ _ ?_
  apply wp_seq_k; intro K7 hK7
  apply wp_block
  refine wS hF fun K8 hK8=>vV O (bi O TT kU (by exact congrArg (fun A=>some (Value.slice A l.length c)) hA2) rfl n rfl hlt rfl) fun a hF=>?_
  refine vR hF<|vV O (aQ O (Hq.sub hA8.q (List.Subset.trans hG (aA (aA (aA (bu)))))) O hc (n*65) (fE hI hi).2 rfl (fE hI hi).1 KL) fun a hF=>?_
  refine au O (fun K hK=>bG hF O ae rfl hA8 (Jn) (fun b10 w11 a hb10 hF hA12=>hK _ _ ?_))
  refine au O (fun K hK=>aI (new:=i.cells) hF O O hA12 O O 0 O (by rw [hil]; rfl) (Itm.one i) kU (fun w13 hA14=>hK _ _ ?_))
  replace hA14:Hp w0 ([row b10 49 i.cells]::[row b4 37 [top,.slice none 0 0]]::Y::[row b1 37 [.pointer none,.slice none 0 0]]::R) w13:=hA14
  refine az<|hK8 _ _ ?_
  apply wp_seq_k; intro K9 hK9
  apply wp_seq_k; intro K10 hK10
  by_cases hct:1≤i.ct∧i.ct≤1099511627776
  ·refine wp_region_lit ?_
   refine vR hF<|vV O (yf 32 rfl TZ O Bz O)<|vV O (aT O hA14.q O 0 O BN (by rw [hil]; decide) (by exact Itm.c_ent hiK)) fun a hF=>?_
   refine au O (fun K hK=>ax hF O ae Nj rfl rfl ?_)
   with_reducible refine (kE w0 _ ([row b10 49 i.cells]::[row b4 37 [top,.slice none 0 0]]::Y::[row b1 37 [.pointer none,.slice none 0 0]]::R) i.ct i.ch hA14).mono ?_
   rintro e' w15 ⟨rfl,hA16⟩
   refine ⟨_,rfl,fun a hF=>hK _ _ ?_⟩
   replace hA16:Hp w0 ([row b10 49 i.cells]::[row b4 37 [top,.slice none 0 0]]::Y::[row b1 37 [.pointer none,.slice none 0 0]]::R) w15:=hA16
   rw [decide_eq_true hct] at hF
   refine vR hF<|vV O (eU O O O)<|vE hK10<|vF1 O fun a hF=>?_
   have hok:okC i=true:=decide_eq_true hct
   have hFn:=hF
   rcases hB with ⟨rfl,rfl,rfl⟩ | ⟨t,g,rfl,hg,rfl,hTO⟩
   ·have hF:=hFn
    apply wp_skip
    refine hK9 _ _ ?_
    apply wp_seq_k; intro K11 hK11
    refine wS hF fun K12 hK12=>vV O (yf 0 O Ul O Oo O)<|vV O (aX O hA16.q O 1 O O Pi)<|vV O (yf 0 O TZ O uX O)<|vV O (aT O hA16.q O 0 O vw (by rw [hil]; decide) (show List.take 32 (List.drop 0 i.cells)=dc i.k from Itm.c_key hiK)) fun a hF=>?_
    refine au O (fun K hK=>ax hF O ae xU rfl rfl ?_)
    with_reducible refine (BZ w0 _ ([row b10 49 i.cells]::[row b4 37 [.pointer none,.slice none 0 0]]::([]:Seg)::[row b1 37 [.pointer none,.slice none 0 0]]::R) i.k hA16).mono ?_
    rintro e' w17 ⟨rfl,hA18⟩
    refine ⟨_,rfl,fun a hF=>hK _ _ ?_⟩
    replace hA18:Hp w0 ([row b10 49 i.cells]::[row b4 37 [.pointer none,.slice none 0 0]]::([]:Seg)::[row b1 37 [.pointer none,.slice none 0 0]]::R) w17:=hA18
    refine vR hF<|vV O (jF O af rfl rfl)<|vE hK12<|vF1 O<|wKp hK11 fun a hF=>?_
    refine wp_region_lit ?_
    refine vR hF<|vV O (yf 0 O Ul O Oo O)<|vV O (aX O hA18.q O 1 O O Pi)<|vV O (yf 0 O TZ O uX O)<|vV O (aT O hA18.q O 0 O vw (by rw [hil]; decide) (show List.take 32 (List.drop 0 i.cells)=dc i.k from Itm.c_key hiK)) fun a hF=>?_
    refine vR hF<|vV O (yf 32 rfl TZ O Bz O)<|vV O (aT O hA18.q O 0 O BN (by rw [hil]; decide) (by exact Itm.c_ent hiK)) fun a hF=>?_
    refine au O (fun K hK=>ax hF O ae sU rfl rfl ?_)
    with_reducible refine (Gf w0 _ ([row b10 49 i.cells]::[row b4 37 [.pointer none,.slice none 0 0]]::([]:Seg)::[row b1 37 [.pointer none,.slice none 0 0]]::R) i hiK _ hA18).mono ?_
    rintro e' w19 ⟨g2,rfl,hA20⟩
    refine ⟨_,rfl,fun a hF=>hK _ _ ?_⟩
    refine vR hF<|vV O (yf 0 O Ul O Oo O) fun a hF=>?_
    refine au O (fun K hK=>aW hF O O hA20 O O 2 O (by simp) rfl Oo (fun w21 hA22=>hK _ _ ?_))
    replace hA22:Hp w0 ([row g2 117 (aU i)]::[row b10 49 i.cells]::[row b4 37 [.pointer (some ⟨g2,0,none⟩),.slice none 0 0]]::([]:Seg)::[row b1 37 [.pointer none,.slice none 0 0]]::R) w21:=hA22
    refine az<|hK7 _ _ ?_
    refine wp_region_lit ?_
    refine vR hF<|vV O (bH O O O (TB _ ag))<|vX O fun a hF=>?_
    refine az ?_
    have hA23:Hp w0 ([row b4 37 [.pointer (some ⟨g2,0,none⟩),.slice none 0 0]]::[row g2 117 (aU i)]::[row b1 37 [.pointer none,.slice none 0 0]]::R) w21:=hpS 5 [2,0,4] [1,3] hA22 rfl
    exact ⟨n+1,ag,insL i [],_,[row g2 117 (aU i)],ag,(by rw [hbl,hdr]; show (if okC i=true then (if hasK [] i.k=true then _ else _) else _)=_; rw [if_pos hok]; rfl),(by show 1≤n+1; omega),.inr ⟨.leaf i,g2,rfl,hiK,rfl,rfl⟩,hF.keep [10,8,9,2,4] rfl,hA23⟩
   ·have hF:=hFn
    have hTrY:Tr w0 [Y] false t g:=hTO.tr (List.mem_singleton.2 rfl)
    by_cases hf:t.find i.k=none
    ·apply wp_skip
     refine hK9 _ _ ?_
     apply wp_seq_k; intro K13 hK13
     refine wS hF fun K14 hK14=>vV O (yf 0 O Ul O Oo O)<|vV O (aX O hA16.q O 1 O O Pi)<|vV O (yf 0 O TZ O uX O)<|vV O (aT O hA16.q O 0 O vw (by rw [hil]; decide) (show List.take 32 (List.drop 0 i.cells)=dc i.k from Itm.c_key hiK)) fun a hF=>?_
     refine au O (fun K hK=>ax hF O ae xU rfl rfl ?_)
     with_reducible refine (xe w0 _ ([row b10 49 i.cells]::[row b4 37 [.pointer (some ⟨g,0,none⟩),.slice none 0 0]]::Y::[row b1 37 [.pointer none,.slice none 0 0]]::R) [Y] (dZ (TI _ (TI _ ((TF ..))))) t hg g false i.k hiK.k hTrY hf hA16).mono ?_
     rintro e' w24 ⟨rfl,hA25⟩
     refine ⟨_,rfl,fun a hF=>hK _ _ ?_⟩
     replace hA25:Hp w0 ([row b10 49 i.cells]::[row b4 37 [.pointer (some ⟨g,0,none⟩),.slice none 0 0]]::Y::[row b1 37 [.pointer none,.slice none 0 0]]::R) w24:=hA25
     refine vR hF<|vV O (jF O af rfl rfl)<|vE hK14<|vF1 O<|wKp hK13 fun a hF=>?_
     refine wp_region_lit ?_
     refine vR hF<|vV O (yf 0 O Ul O Oo O)<|vV O (aX O hA25.q O 1 O O Pi)<|vV O (yf 0 O TZ O uX O)<|vV O (aT O hA25.q O 0 O vw (by rw [hil]; decide) (show List.take 32 (List.drop 0 i.cells)=dc i.k from Itm.c_key hiK)) fun a hF=>?_
     refine vR hF<|vV O (yf 32 rfl TZ O Bz O)<|vV O (aT O hA25.q O 0 O BN (by rw [hil]; decide) (by exact Itm.c_ent hiK)) fun a hF=>?_
     have hA26:Hp w0 (Y::[row b10 49 i.cells]::[row b4 37 [.pointer (some ⟨g,0,none⟩),.slice none 0 0]]::[row b1 37 [.pointer none,.slice none 0 0]]::R) w24:=hpO 4 [2,0,1,3] hA25 rfl
     refine au O (fun K hK=>ax hF O ae sU rfl rfl ?_)
     with_reducible refine (Ac w0 i hiK t hg (by rw [t.size_eq]; omega) _ ([row b10 49 i.cells]::[row b4 37 [.pointer (some ⟨g,0,none⟩),.slice none 0 0]]::[row b1 37 [.pointer none,.slice none 0 0]]::R) Y g hTO hA26).mono ?_
     rintro e' w27 ⟨g2,Y2,rfl,h2,hA28⟩
     refine ⟨_,rfl,fun a hF=>hK _ _ ?_⟩
     refine vR hF<|vV O (yf 0 O Ul O Oo O) fun a hF=>?_
     refine au O (fun K hK=>aW hF O O hA28 O O 2 O (by simp) rfl Oo (fun w29 hA30=>hK _ _ ?_))
     replace hA30:Hp w0 (Y2::[row b10 49 i.cells]::[row b4 37 [.pointer (some ⟨g2,0,none⟩),.slice none 0 0]]::[row b1 37 [.pointer none,.slice none 0 0]]::R) w29:=hA30
     refine az<|hK7 _ _ ?_
     refine wp_region_lit ?_
     refine vR hF<|vV O (bH O O O (TB _ ag))<|vX O fun a hF=>?_
     refine az ?_
     have hle:=sF (i:=i) t.items
     have hA31:Hp w0 ([row b4 37 [.pointer (some ⟨g2,0,none⟩),.slice none 0 0]]::Y2::[row b1 37 [.pointer none,.slice none 0 0]]::R) w29:=hpS 4 [2,0,3] [1] hA30 rfl
     exact ⟨n+1,ag,insL i t.items,_,Y2,ag,(by rw [hbl,hdr]; show (if okC i=true then (if hasK t.items i.k=true then _ else _) else _)=_; rw [if_pos hok,if_neg (by rw [← sJ,Rx.getL_eq hg,hf]; exact Bool.false_ne_true)]),ag,.inr ⟨t.ins i,g2,(Rx.ins_good hiK hg).2.1,(Rx.ins_good hiK hg).1,rfl,h2⟩,hF.keep [10,8,9,2,4] rfl,hA31⟩
    ·obtain ⟨j,hf⟩:=Option.ne_none_iff_exists'.1 hf
     apply wp_skip
     refine hK9 _ _ ?_
     apply wp_seq_k; intro K15 hK15
     refine wS hF fun K16 hK16=>vV O (yf 0 O Ul O Oo O)<|vV O (aX O hA16.q O 1 O O Pi)<|vV O (yf 0 O TZ O uX O)<|vV O (aT O hA16.q O 0 O vw (by rw [hil]; decide) (show List.take 32 (List.drop 0 i.cells)=dc i.k from Itm.c_key hiK)) fun a hF=>?_
     refine au O (fun K hK=>ax hF O ae xU rfl rfl ?_)
     with_reducible refine (uA w0 _ ([row b10 49 i.cells]::[row b4 37 [.pointer (some ⟨g,0,none⟩),.slice none 0 0]]::Y::[row b1 37 [.pointer none,.slice none 0 0]]::R) [Y] (dZ (TI _ (TI _ ((TF ..))))) t hg g false i.k hiK.k hTrY j hf hA16).mono ?_
     rintro e' w32 ⟨gf,rfl,_,hA33⟩
     refine ⟨_,rfl,fun a hF=>hK _ _ ?_⟩
     replace hA33:Hp w0 ([row b10 49 i.cells]::[row b4 37 [.pointer (some ⟨g,0,none⟩),.slice none 0 0]]::Y::[row b1 37 [.pointer none,.slice none 0 0]]::R) w32:=hA33
     refine vR hF<|vV O (lF O af rfl rfl)<|vE hK16<|vT1 O<|wT fun K17 hK17=>vV O (dS (qs := #[]) O O wV) fun a hF=>?_
     refine au O (fun K hK=>aI (new:=[.pointer none,.slice none 0 0]) hF O O hA33 O O 3 O O (by simp [Value.oneCell']) wC (fun w34 hA35=>hK _ _ ?_))
     replace hA35:Hp w0 ([row b10 49 i.cells]::[row b4 37 [.pointer (some ⟨g,0,none⟩),.slice none 0 0]]::Y::[row b1 37 [.pointer none,.slice none 0 0]]::R) w34:=hA35
     refine vR hF<|vX O<|vE hK17 fun a hF=>?_
     apply wp_ret
     simp only [Exit.then,Exit.inBlock]
     refine iM hF Tryz.results27 hA35.q O O 3 O wP ?_
     have hA36:Hp w0 (Y::R) w34:=hpS 4 [2] [0,1,3] hA35 rfl
     have hre:jm [] l=(92,[]):=by rw [hbl,hdr]; unfold jm; rw [if_pos hok,if_pos (by rw [← sJ,Rx.getL_eq hg,hf]; rfl)]
     rw [hre]
     exact ⟨_,_,Y,rfl,.inl ⟨rfl,rfl,rfl⟩,hA36⟩
  ·refine wp_region_lit ?_
   refine vR hF<|vV O (yf 32 rfl TZ O Bz O)<|vV O (aT O hA14.q O 0 O BN (by rw [hil]; decide) (by exact Itm.c_ent hiK)) fun a hF=>?_
   refine au O (fun K hK=>ax hF O ae Nj rfl rfl ?_)
   with_reducible refine (kE w0 _ ([row b10 49 i.cells]::[row b4 37 [top,.slice none 0 0]]::Y::[row b1 37 [.pointer none,.slice none 0 0]]::R) i.ct i.ch hA14).mono ?_
   rintro e' w37 ⟨rfl,hA38⟩
   refine ⟨_,rfl,fun a hF=>hK _ _ ?_⟩
   replace hA38:Hp w0 ([row b10 49 i.cells]::[row b4 37 [top,.slice none 0 0]]::Y::[row b1 37 [.pointer none,.slice none 0 0]]::R) w37:=hA38
   rw [decide_eq_false hct] at hF
   refine vR hF<|vV O (eU O O O)<|vE hK10<|vT1 O<|wT fun K18 hK18=>vV O (dS (qs := #[]) O O wV) fun a hF=>?_
   refine au O (fun K hK=>aI (new:=[.pointer none,.slice none 0 0]) hF O O hA38 O O 3 O O (by simp [Value.oneCell']) wC (fun w39 hA40=>hK _ _ ?_))
   replace hA40:Hp w0 ([row b10 49 i.cells]::[row b4 37 [top,.slice none 0 0]]::Y::[row b1 37 [.pointer none,.slice none 0 0]]::R) w39:=hA40
   refine vR hF<|vX O<|vE hK18 fun a hF=>?_
   apply wp_ret
   simp only [Exit.then,Exit.inBlock]
   refine iM hF Tryz.results27 hA40.q O O 3 O wP ?_
   have hA41:Hp w0 (Y::R) w39:=hpS 4 [2] [0,1,3] hA40 rfl
   have hre:jm [] l=(8,[]):=by rw [hbl,hdr]; unfold jm; rw [if_neg (by unfold okC; rw [decide_eq_false hct]; exact Bool.false_ne_true)]
   rw [hre]
   exact ⟨_,_,Y,rfl,.inl ⟨rfl,rfl,rfl⟩,hA41⟩
 ·refine aS hF O (dD ag) ?_
  obtain rfl:n=l.length:=by omega
  rw [List.drop_length] at hbl
  have hre:jm [] l=(0,acc):=hbl
  have hFn:=hF
  rcases hB with ⟨rfl,rfl,rfl⟩ | ⟨t,g,rfl,hg,rfl,hTO⟩
  ·have hF:=hFn
   apply wp_exit
   refine hK3 _ _ ?_
   apply wp_seq_k; intro K19 hK19
   refine wS hF fun K20 hK20=>vV O (yf 0 O Ul O Oo O)<|vV O (aX O hA8.q O 0 O O Pi)<|vV O (jF O af rfl rfl)<|vE hK20<|vF1 O<|wKp hK19<|wT fun K21 hK21=>vV O (aT (new:=[.pointer none,.slice none 0 0]) O hA8.q O 0 O wP ai rfl) fun a hF=>?_
   refine au O (fun K hK=>aI (new:=[.pointer none,.slice none 0 0]) hF O O hA8 O O 2 O O (by simp [Value.oneCell']) wC (fun w42 hA43=>hK _ _ ?_))
   replace hA43:Hp w0 ([row b4 37 [.pointer none,.slice none 0 0]]::([]:Seg)::[row b1 37 [.pointer none,.slice none 0 0]]::R) w42:=hA43
   refine vR hF<|vX O<|vE hK21 fun a hF=>?_
   apply wp_ret
   refine iM hF Tryz.results27 hA43.q O O 2 O wP ?_
   have hA44:Hp w0 (([]:Seg)::R) w42:=hpS 3 [1] [0,2] hA43 rfl
   rw [hre]
   exact ⟨_,_,[],rfl,.inl ⟨rfl,rfl,rfl⟩,hA44⟩
  ·have hF:=hFn
   apply wp_exit
   refine hK3 _ _ ?_
   apply wp_seq_k; intro K22 hK22
   refine wS hF fun K23 hK23=>vV O (yf 0 O Ul O Oo O)<|vV O (aX O hA8.q O 0 O O Pi)<|vV O (lF O af rfl rfl)<|vE hK23<|vT1 O fun a hF=>?_
   refine wp_seq_k fun K24 hK24=>wp_region_lit ?_
   refine au O (fun K hK=>ax hF O ae sV rfl rfl ?_)
   with_reducible refine (EH w0 _ ([row b4 37 [.pointer (some ⟨g,0,none⟩),.slice none 0 0]]::Y::[row b1 37 [.pointer none,.slice none 0 0]]::R) 32 hT hA8).mono ?_
   rintro e' w45 ⟨gs,SX,rfl,hSm2,hA46⟩
   refine ⟨_,rfl,fun a hF=>hK _ _ ?_⟩
   replace hA46:Hp w0 (SX::[row b4 37 [.pointer (some ⟨g,0,none⟩),.slice none 0 0]]::Y::[row b1 37 [.pointer none,.slice none 0 0]]::R) w45:=hA46
   rw [show min (max (32:Int) 1) 32=32 from rfl] at hSm2
   have hSm:=hSm2.sm
   obtain ⟨AE,cE,wb,hs1,hs2,hs3,hcE⟩:=id hSm2
   obtain ⟨be_,qe,hAE,_⟩:=hs3.ne (i:=0) (by rw [jT _ _ (fun i _=>bZ _ _)]; decide)
   refine vR hF<|vX O<|vE hK24<|wT fun K25 hK25=>vX O<|vX O<|vV O (yf 1 O Uk O rC O)<|vV O (bD O (Hq.sub hA46.q (dZ ((TF ..)))) O hs1 1 (by simp) rfl rfl rQ)<|vV O (yf 1 O Ul O rC O) fun a hF=>?_
   refine au O (fun K hK=>aW hF O O hA46 O O 1 O (by simp) rfl rC (fun w47 hA48=>hK _ _ ?_))
   replace hA48:Hp w0 (SX::[row b4 37 [.pointer (some ⟨g,0,none⟩),.slice AE 257 cE]]::Y::[row b1 37 [.pointer none,.slice none 0 0]]::R) w47:=hA48
   refine az<|hK25 _ _ ?_
   refine wp_region_lit ?_
   refine vR hF<|vV O (yf 0 O Ul O Oo O)<|vV O (aX O hA48.q O 1 O O Pi)<|vX O fun a hF=>?_
   have hGS:[SX]⊆(SX::[row b4 37 [.pointer (some ⟨g,0,none⟩),.slice AE 257 cE]]::[row b1 37 [.pointer none,.slice none 0 0]]::R):=dZ ((TF ..))
   have hA49:Hp w0 (Y::SX::[row b4 37 [.pointer (some ⟨g,0,none⟩),.slice AE 257 cE]]::[row b1 37 [.pointer none,.slice none 0 0]]::R) w47:=hpO 4 [2,0,1,3] hA48 rfl
   refine au O (fun K hK=>ax hF O ae DK rfl rfl ?_)
   with_reducible refine (tX w0 hT t hg _ (SX::[row b4 37 [.pointer (some ⟨g,0,none⟩),.slice AE 257 cE]]::[row b1 37 [.pointer none,.slice none 0 0]]::R) [SX] hGS Y gs g hSm hTO hA49).mono ?_
   rintro e' w50 ⟨rfl,Y2,h2,hA51⟩
   refine ⟨_,rfl,fun a hF=>hK _ _ ?_⟩
   replace hA51:Hp w0 (Y2::SX::[row b4 37 [.pointer (some ⟨g,0,none⟩),.slice AE 257 cE]]::[row b1 37 [.pointer none,.slice none 0 0]]::R) w50:=hA51
   refine az<|hK22 _ _ ?_
   refine wS hF fun K26 hK26=>vV O (aT (new:=[.pointer (some ⟨g,0,none⟩),.slice AE 257 cE]) O hA51.q O 2 O wP ai rfl) fun a hF=>?_
   refine au O (fun K hK=>aI (new:=[.pointer (some ⟨g,0,none⟩),.slice AE 257 cE]) hF O O hA51 O O 3 O O (by simp [Value.oneCell']) wC (fun w52 hA53=>hK _ _ ?_))
   replace hA53:Hp w0 (Y2::SX::[row b4 37 [.pointer (some ⟨g,0,none⟩),.slice AE 257 cE]]::[row b1 37 [.pointer (some ⟨g,0,none⟩),.slice AE 257 cE]]::R) w52:=hA53
   refine vR hF<|vX O<|vE hK26 fun a hF=>?_
   apply wp_ret
   refine iM hF Tryz.results27 hA53.q O O 3 O wP ?_
   have hA54:Hp w0 (Y2::SX::R) w52:=hpS 4 [0,1] [2,3] hA53 rfl
   have hup:[SX].flatten⊆((Y2++SX)::G0).flatten:=fun r hr=>by
    rw [List.flatten_cons,List.flatten_nil,List.append_nil] at hr
    rw [List.flatten_cons]
    exact TD _ (TE _ hr)
   have hup2:[Y2].flatten⊆((Y2++SX)::G0).flatten:=fun r hr=>by
    rw [List.flatten_cons,List.flatten_nil,List.append_nil] at hr
    rw [List.flatten_cons]
    exact TD _ (TD _ hr)
   rw [hre]
   exact ⟨_,.slice AE 257 cE,Y2++SX,rfl,.inr ⟨t,g,⟨be_,qe,none⟩,cE,rfl,hg,rfl,by rw [hAE],(h2.tr (w0:=w0) (R:=[Y2]) (List.mem_singleton.2 rfl)).monoF hup2,by rw [← hAE]; exact hs3.monoF hup,hcE⟩,Hp.join hA54⟩
end Go.Proofs.YtpomngkcfbnjoaaGreatDoor
