/- EventKept walked. -/
import Derived.Test.YtepbmdlgdaedpaaGreatDoorKeptP
import Derived.Test.YtepbmdlgdaedpaaGreatDoorTbW
import Derived.Test.YtepbmdlgdaedpaaGreatDoorKd
import Derived.Test.YtepbmdlgdaedpaaGreatDoorSp
import Derived.Test.YtepbmdlgdaedpaaGreatDoorOctetS
import Derived.Test.YtepbmdlgdaedpaaGreatDoorBook1
import Derived.Test.YtepbmdlgdaedpaaGreatDoorTbR
import Derived.Test.YtepbmdlgdaedpaaGreatDoorBk
import Derived.Test.YtepbmdlgdaedpaaGreatDoorEv9
/- EventKept walked. -/
namespace Go.Proofs.YtepbmdlgdaedpaaGreatDoor
open Go.RowKit Go.Dk
theorem FW:aK Tryz.prog 14:=⟨_,Tryz.func14,af,af⟩
theorem FN:aK Tryz.prog 15:=⟨_,Tryz.func15,af,af⟩
theorem rV:aK Tryz.prog 22:=⟨_,Tryz.func22,af,af⟩
theorem kJ:aK Tryz.prog 30:=⟨_,Tryz.func30,af,af⟩
theorem FD:aK Tryz.prog 33:=⟨_,Tryz.func33,af,af⟩
theorem lU:aK Tryz.prog 36:=⟨_,Tryz.func36,af,af⟩
theorem yA:aK Tryz.prog 37:=⟨_,Tryz.func37,af,af⟩
theorem yz:aK Tryz.prog 38:=⟨_,Tryz.func38,af,af⟩
theorem FC:aK Tryz.prog 39:=⟨_,Tryz.func39,af,af⟩
theorem FB:aK Tryz.prog 41:=⟨_,Tryz.func41,af,af⟩
theorem Fz:aK Tryz.prog 42:=⟨_,Tryz.func42,af,af⟩
theorem Fv:aK Tryz.prog 43:=⟨_,Tryz.func43,af,af⟩
theorem Fq:aK Tryz.prog 44:=⟨_,Tryz.func44,af,af⟩
theorem J9 (w:World):(Instr.build 66 #[]).run Tryz.prog w= .ok (.agg ([.slice none 0 0,.slice none 0 0,.int .i64 0,.bool false]:List Value).toArray) w:=af
theorem J8 (w:World):(Instr.build 70 #[]).run Tryz.prog w= .ok (.agg ([.slice none 0 0,.slice none 0 0,.int .i64 0,.bool false]:List Value).toArray) w:=af
theorem J7 (w:World):(Instr.build 74 #[]).run Tryz.prog w= .ok (.agg ([.slice none 0 0,.slice none 0 0,.int .i64 0,.bool false]:List Value).toArray) w:=af
theorem Jv (z:Int) (w:World):(Instr.build 49 #[(0,.int .i64 z)]).run Tryz.prog w= .ok (.agg (.int .i64 z::dc lkZ:List Value).toArray) w:=af
theorem LU (a:VA) (w:World):(Instr.build 76 #[(0,aj lkA),(1,.agg a.cells.toArray)]).run Tryz.prog w= .ok (.agg (oJ (lkA,a)).toArray) w:=af
abbrev lkC (b:Nat) (a:VA):CA:=⟨[],lkT,0,lkZ,[(lkA,a)],some ⟨b,0,none⟩,1,[],none,0,[],none,0,[],none,0⟩
theorem LQ (b:Nat) (a:VA) (w:World):(Instr.build 52 #[(1,aj lkT),(4,.slice (some ⟨b,0,none⟩) 1 1)]).run Tryz.prog w= .ok (.agg (lkC b a).cells.toArray) w:=af
theorem Ko {w0:World} {G:List Seg} {b:Nat} {a:VA} (h:a.Ok w0 []) (hR:Rc w0 G (some ⟨b,0,none⟩) (oJ (lkA,a))):(lkC b a).Ok w0 G :=
 ⟨rfl,fun x hx=>by rw [List.mem_singleton.1 hx]; exact h.mono (List.nil_subset _),by show Rc w0 G _ [oJ (lkA,a)].flatten; rw [List.flatten_cons,List.flatten_nil,List.append_nil]; exact hR,by show (1:Nat)≤_; decide,Rc.nil,Nl _,Rc.nil,Nl _,Rc.nil,Nl _⟩
theorem BP {w0:World} {R G:List Seg} (n:Int) (ca:CA) (A1:Option Addr) (w:World) (hT:mO w0) (hC:ca.Ok w0 G) (h1:Rc w0 G A1 [aj lkA]) (hG:G⊆R) (hA:Hp w0 R w):Calls Tryz.prog 24 #[.agg (.int .i64 n::dc lkZ:List Value).toArray,.agg ca.cells.toArray,.slice A1 1 1,.slice none 0 0,.slice none 0 0] w fun e w'=>∃ v Z,e= .returned (.tuple #[v,.int .i64 (stE ca.typ ([lkA].map (jd ca.bind)) 1 0 0:Nat)])∧Buf 5 1 Z v (stX ca n lkZ [lkA] [] []).length (dc (stX ca n lkZ [lkA] [] []))∧Hp w0 (Z::R) w' :=
 DK n lkZ ca A1 [lkA] 1 none [] 0 none [] 0 w hT rfl hC h1 Rc.nil Rc.nil hG hA
theorem um {w0:World} {R G:List Seg} (n:Int) (clk:Int) (A1 A2:Option Addr) (d:List UInt8) (w:World) (hT:mO w0) (hd:d.length=32) (h1:Rc w0 G A1 [aj lkT]) (h2:Rc w0 G A2 (dc d)) (hG:G⊆R) (hA:Hp w0 R w):Calls Tryz.prog 29 #[.agg (.int .i64 n::dc lkZ:List Value).toArray,.int .i64 clk,.slice A1 1 1,.slice A2 1 1] w fun e w'=>∃ v Z out,e= .returned (.tuple #[v,.int .i64 0])∧out.length=89∧Buf 5 1 Z v out.length (dc out)∧Hp w0 (Z::R) w' :=
 (EU n lkZ clk A1 [lkT] 1 A2 [d] 1 w hT rfl h1 (by rw [Jl,rY,wz,List.append_nil]; exact h2) (fun x hx=>by rw [List.mem_singleton.1 hx]; exact hd) hG hA).mono fun e w' ⟨v,Z,out,h3,h4,h5,h6⟩=>⟨v,Z,out,by rw [h3,Ey rfl]; rfl,LM rfl hd h4,h5,h6⟩
theorem CB (w0 w:World) (R:List Seg) (rb:Nat) (A:Option Addr) (l:List UInt8) (c p y:Nat) (X:Seg) (hO:Buf 5 1 X (.slice A l.length c) l.length (dc l)) (hA:Hp w0 ([row rb 152 [.slice A l.length c,.int .i64 (p:Nat),.int .i64 (y:Nat)]]::X::R) w) (hp:p≤l.length) (hl:l.length<140737488354000):Calls Tryz.prog 33 #[.pointer (some ⟨rb,0,none⟩)] w fun e w'=>∃ k p1 y1,e= .returned (.int .u16 (k:Nat))∧got (eQ 2) 0 l p y=⟨k,p1,y1⟩∧p1≤l.length∧Hp w0 ([row rb 152 [.slice A l.length c,.int .i64 (p1:Nat),.int .i64 (y1:Nat)]]::X::R) w' :=
 (ry w0 w R rb A l c p y X hO hA hp hl).mono fun e w' ⟨h1,h2⟩=>⟨_,_,_,h1,rfl,kU (r:=eQ 2) (d:=0) hp fun _ _ h=>uQ h,h2⟩
theorem EL (w0 w:World) (R:List Seg) (rb:Nat) (A:Option Addr) (l:List UInt8) (c p y:Nat) (X:Seg) (hO:Buf 5 1 X (.slice A l.length c) l.length (dc l)) (hA:Hp w0 ([row rb 152 [.slice A l.length c,.int .i64 (p:Nat),.int .i64 (y:Nat)]]::X::R) w) (hp:p≤l.length) (hl:l.length<140737488354000):Calls Tryz.prog 34 #[.pointer (some ⟨rb,0,none⟩),.int .i64 42] w fun e w'=>∃ v Z d p1 y1,e= .returned v∧got (eF · 42) [] l p y=⟨d,p1,y1⟩∧p1≤l.length∧Hp w0 (Z::[row rb 152 [.slice A l.length c,.int .i64 (p1:Nat),.int .i64 (y1:Nat)]]::X::R) w' :=
 (vw w0 w R rb A l c p y X 42 hO hA hp hl ae).mono fun e w' ⟨v,Z,h1,h2,h3⟩=>⟨v,Z,_,_,_,h1,rfl,kU (r:=(eF · 42)) (d:=[]) hp fun _ _ h=>zY h,h3⟩
theorem J6 {k n m:Nat} (h:k=0→0<n) (hm:m=89):((((aI .eql (((k:Nat):Int)) (0)) && (aI .eql (n) (0))) || (aI .neq (0) (0))) || (aI .neq (m) (89)))=false:=by
 subst hm
 by_cases hk:k=0
 ·have h2:=h hk
  subst hk
  simp [aI]
  omega
 ·simp [aI,hk]
set_option maxRecDepth 100000 in
set_option maxHeartbeats 8000000 in
theorem ED (w0:World) (A1:Option Addr) (es:List EA) (c1:Nat) (P:Option Addr) (ps:List Piece) (cP:Nat) (hT:mO w0) (h1:Rc w0 [] A1 (cel EA.cells es)) (heo:∀ e∈es,e.Ok w0 []) (hsz:∀ a∈es,a.v.v.s.length<8796093022000∧a.args.length<8796093022000∧a.src.length≤140737488351232∧(∀ b∈a.args,b.v.s.length<8796093022000)∧a.cas.length≤9223372036854775807) (hP:PcS w0 [] P ps) (hpz:∀ p∈ps,p.2.2.length≤140737488351232):Calls Tryz.prog 9 #[.slice A1 es.length c1,.slice P ps.length cP] w0 fun e W'=>e= .returned (.bool true)∧At w0 [] W':=by
 have hA:Hp w0 [] w0:=Hp.start w0
 have hP1:=hP.1
 have hE44:∀ e∈es,e.cells.length=44:=fun e he=>by
  have h9:e.eff.length=32:=(heo e he).i.2.2.2.2.2
  rw [List.length_append,aW,h9]; rfl
 refine aP Tryz.func9 O Tryz.ntmps9 ai (fun a hF=>?_)
 refine wS hF fun K1 hK1=>vX O<|vE hK1<|wT fun K2 hK2=>vV O (eX O J9) fun a hF=>?_
 refine ax O (fun K hK=>ed (cs:=[.slice none 0 0,.slice none 0 0,.int .i64 0,.bool false]) hF O ae rfl hA O (fun b1 w2 a hb1 hF hA3=>hK _ _ ?_))
 refine vR hF<|vX O<|vE hK2<|wT fun K3 hK3=>vV O (eX O J8) fun a hF=>?_
 refine ax O (fun K hK=>ed (cs:=[.slice none 0 0,.slice none 0 0,.int .i64 0,.bool false]) hF O ae rfl hA3 O (fun b4 w5 a hb4 hF hA6=>hK _ _ ?_))
 refine vR hF<|vX O<|vE hK3<|wT fun K4 hK4=>vV O (eX O J7) fun a hF=>?_
 refine ax O (fun K hK=>ed (cs:=[.slice none 0 0,.slice none 0 0,.int .i64 0,.bool false]) hF O ae rfl hA6 O (fun b7 w8 a hb7 hF hA9=>hK _ _ ?_))
 refine vR hF<|vX O<|vE hK4<|wQ fun K5 hK5=>wT fun K6 hK6=>vX O<|vE hK6<|wBk fun a hF=>?_
 have hA10:Hp w0 (([]:Seg)::([]:Seg)::([]:Seg)::([]:Seg)::[row b7 74 [.slice none 0 0,.slice none 0 0,.int .i64 0,.bool false]]::[row b4 70 [.slice none 0 0,.slice none 0 0,.int .i64 0,.bool false]]::[row b1 66 [.slice none 0 0,.slice none 0 0,.int .i64 0,.bool false]]::[]) w8:=Hp.nil (Hp.nil (Hp.nil (Hp.nil hA9)))
 have hA11:Hp w0 ([row b1 66 [.slice none 0 0,.slice none 0 0,.int .i64 0,.bool false]]::([]:Seg)::[row b4 70 [.slice none 0 0,.slice none 0 0,.int .i64 0,.bool false]]::([]:Seg)::[row b7 74 [.slice none 0 0,.slice none 0 0,.int .i64 0,.bool false]]::([]:Seg)::([]:Seg)::[]) w8:=hpO 7 [6,0,5,1,4,2,3] hA10 rfl
 refine bH (G:=Nat) (fun i a x=>∃ (ksB:List (KeptX UInt8)) (lvB:Value) (wvB:Value) (hdB:Int) (YB:Seg) (ksS:List (KeptX (List UInt8))) (lvS:Value) (wvS:Value) (hdS:Int) (YS:Seg) (MM:Seg) (ksA:List KeptR) (lvA:Value) (wvA:Value) (hdA:Int) (YA:Seg),i≤30∧BookV cB 27 5 1 ksB lvB wvB YB∧BookV cS 23 9 1 ksS lvS wvS YS∧RowsV ksA lvA wvA YA∧RRdF w0 (aS ksS++MM) ksA∧ksA.length≤2*i∧Fr 286 [(8,.int .i64 ((i:Nat):Int)),(0,.slice A1 es.length c1),(1,.slice P ps.length cP),(5,.pointer (some ⟨b1,0,none⟩)),(6,.pointer (some ⟨b4,0,none⟩)),(7,.pointer (some ⟨b7,0,none⟩))] a∧Hp w0 ([row b1 66 [lvB,wvB,.int .i64 hdB,.bool false]]::YB::[row b4 70 [lvS,wvS,.int .i64 hdS,.bool false]]::YS::[row b7 74 [lvA,wvA,.int .i64 hdA,.bool false]]::YA::MM::[]) x) (fun i=>30-i) 0 (⟨[],_,_,_,[],[],_,_,_,[],[],[],_,_,_,[],Nl _,(BookV.new _ _ _ _),(BookV.new _ _ _ _),RowsV.new,(fun _ h=>absurd h (List.not_mem_nil)),(Nl _),hF.keep [8,0,1,5,6,7] rfl,hA11⟩) ?_
 clear hF
 rintro i a w13 ⟨ksB,lvB,wvB,hdB,YB,ksS,lvS,wvS,hdS,YS,MM,ksA,lvA,wvA,hdA,YA,hi,hbB,hbS,hbA,hrA,hkA,hF,hA12⟩
 apply wp_seq_k; intro K7 hK7
 refine wS hF fun K8 hK8=>vX O<|vX O<|vV O (aT O NV O O)<|vV O (aF O O O O O)<|vX O fun a hF=>?_
 refine bK (l2:=?lA1) hF [(41,.bool ((aI .lss (((i:Nat):Int)) (es.length)) && (aI .lss (((i:Nat):Int)) (30)))),(0,.slice A1 es.length c1),(1,.slice P ps.length cP),(5,.pointer (some ⟨b1,0,none⟩)),(6,.pointer (some ⟨b4,0,none⟩)),(7,.pointer (some ⟨b7,0,none⟩)),(8,.int .i64 ((i:Nat):Int))] (fun hJ1=>?elA1) (fun a hF=>?flA1)
 case elA1 =>
  rcases tf (aI .lss (((i:Nat):Int)) (es.length)) with hg1 | hg1
  ·refine az hF O O O O O (aB hg1) ae (fun a hF=>?_)
   refine az hF O O O O O (aB hg1) ae (fun a hF=>?_)
   refine vR hF<|vV O (bu hg1 rfl rfl rfl) fun a hF=>?_
   exact hJ1 _ ((hF.keep [41,0,1,5,6,7,8] (F':=[(41,_),(0,_),(1,_),(5,_),(6,_),(7,_),(8,_)]) O).bool (by rw [hg1]; rfl))
  ·refine aJ hF O O O O (ak hg1) ae _ (aV O O) (fun a hF=>?_)
   refine aJ hF O O O O (ak hg1) ae _ (aF O O O O O) (fun a hF=>?_)
   refine vR hF<|vV O (bF hg1 rfl rfl rfl) fun a hF=>?_
   exact hJ1 _ ((hF.keep [41,0,1,5,6,7,8] (F':=[(41,_),(0,_),(1,_),(5,_),(6,_),(7,_),(8,_)]) O).bool (by rw [hg1]; rfl))
 refine aH<|hK8 _ _ ?_
 rcases tf ((aI .lss (((i:Nat):Int)) (es.length)) && (aI .lss (((i:Nat):Int)) (30))) with hc | hc
 ·refine au hF O hc ?_
  apply wp_exit
  refine hK5 _ _ ?_
  refine wS hF fun K9 hK9=>vX O fun a hF=>?_
  have hA14:Hp w0 ([row b7 74 [lvA,wvA,.int .i64 hdA,.bool false]]::YA::[row b1 66 [lvB,wvB,.int .i64 hdB,.bool false]]::YB::[row b4 70 [lvS,wvS,.int .i64 hdS,.bool false]]::YS::MM::[]) w13:=hpO 7 [4,5,0,1,2,3,6] hA12 rfl
  refine ax O (fun K hK=>ay hF O ae FC rfl rfl ?_)
  with_reducible refine (EF w0 _ ([row b1 66 [lvB,wvB,.int .i64 hdB,.bool false]]::YB::[row b4 70 [lvS,wvS,.int .i64 hdS,.bool false]]::YS::MM::[]) b7 ksA YA hbA ag (hrA.inR (vK (iV (oI hbS) (Nw _ (Nw _ (Nw _ ((Nu ..)))))) (iV (List.Subset.refl _) (Nw _ (Nw _ (Nw _ (Nw _ ((Nu ..))))))))) hA14).mono ?_
  rintro e' w15 ⟨rfl,hA16⟩
  refine ⟨_,rfl,fun a hF=>hK _ _ ?_⟩
  replace hA16:Hp w0 ([row b7 74 [.slice none 0 0,.slice none 0 0,.int .i64 0,.bool false]]::[row b1 66 [lvB,wvB,.int .i64 hdB,.bool false]]::YB::[row b4 70 [lvS,wvS,.int .i64 hdS,.bool false]]::YS::MM::[]) w15:=hA16
  refine vR hF<|vX O fun a hF=>?_
  refine aJ hF O O O O (ak rfl) ae _ (aV O O) (fun a hF=>?_)
  have hA17:Hp w0 ([row b1 66 [lvB,wvB,.int .i64 hdB,.bool false]]::YB::[row b7 74 [.slice none 0 0,.slice none 0 0,.int .i64 0,.bool false]]::[row b4 70 [lvS,wvS,.int .i64 hdS,.bool false]]::YS::MM::[]) w15:=hpO 6 [1,2,0,3,4,5] hA16 rfl
  refine gI hF O O O (ak rfl) (fun K hK=>ay hF O ae FB rfl rfl ?_)
  with_reducible refine (sK w0 _ ([row b7 74 [.slice none 0 0,.slice none 0 0,.int .i64 0,.bool false]]::[row b4 70 [lvS,wvS,.int .i64 hdS,.bool false]]::YS::MM::[]) b1 42 ksB YB Jz (fun _ _=>rfl) Fz (fun i j S x hi hj hA=>ve w0 i j S x hi hj hA) hbB hA17).mono ?_
  rintro e' w18 ⟨rfl,hA19⟩
  refine ⟨_,rfl,fun a hF=>hK _ _ ?_⟩
  replace hA19:Hp w0 ([row b1 66 [.slice none 0 0,.slice none 0 0,.int .i64 0,.bool false]]::[row b7 74 [.slice none 0 0,.slice none 0 0,.int .i64 0,.bool false]]::[row b4 70 [lvS,wvS,.int .i64 hdS,.bool false]]::YS::MM::[]) w18:=hA19
  refine vR hF<|vV O (bF O O O O)<|vX O fun a hF=>?_
  refine aJ hF O O O O (ak rfl) ae _ (aV O O) (fun a hF=>?_)
  have hA20:Hp w0 ([row b4 70 [lvS,wvS,.int .i64 hdS,.bool false]]::YS::[row b1 66 [.slice none 0 0,.slice none 0 0,.int .i64 0,.bool false]]::[row b7 74 [.slice none 0 0,.slice none 0 0,.int .i64 0,.bool false]]::MM::[]) w18:=hpO 5 [2,3,0,1,4] hA19 rfl
  refine gI hF O O O (ak rfl) (fun K hK=>ay hF O ae Fv rfl rfl ?_)
  with_reducible refine (qh w0 _ ([row b1 66 [.slice none 0 0,.slice none 0 0,.int .i64 0,.bool false]]::[row b7 74 [.slice none 0 0,.slice none 0 0,.int .i64 0,.bool false]]::MM::[]) b4 44 ksS YS Jy (fun _ _=>rfl) Fq (fun i j S x hi hj hA=>qY w0 i j S x hi hj hA) hbS hA20).mono ?_
  rintro e' w21 ⟨rfl,hA22⟩
  refine ⟨_,rfl,fun a hF=>hK _ _ ?_⟩
  replace hA22:Hp w0 ([row b4 70 [.slice none 0 0,.slice none 0 0,.int .i64 0,.bool false]]::[row b1 66 [.slice none 0 0,.slice none 0 0,.int .i64 0,.bool false]]::[row b7 74 [.slice none 0 0,.slice none 0 0,.int .i64 0,.bool false]]::MM::[]) w21:=hA22
  refine vR hF<|vV O (bF O O O O)<|vX O fun a hF=>?_
  refine gI hF O O O (ak rfl) (fun K hK=>ay hF O ae FN rfl rfl ?_)
  with_reducible refine (EY _ hT hA22).mono ?_
  rintro e' w23 ⟨rfl,hA24⟩
  refine ⟨_,rfl,fun a hF=>hK _ _ ?_⟩
  replace hA24:Hp w0 ([row b4 70 [.slice none 0 0,.slice none 0 0,.int .i64 0,.bool false]]::[row b1 66 [.slice none 0 0,.slice none 0 0,.int .i64 0,.bool false]]::[row b7 74 [.slice none 0 0,.slice none 0 0,.int .i64 0,.bool false]]::MM::[]) w23:=hA24
  refine vR hF<|vV O (bF O O O O)<|vX O<|vE hK9 fun a hF=>?_
  apply wp_ret
  refine aO hF Tryz.results9 O ?_
  have hA25:Hp w0 ([]) w23:=hpS 4 [] [0,1,2,3] hA24 rfl
  exact ⟨rfl,hA25.at0⟩
 ·refine aG hF O hc ?_
  obtain ⟨hlt,h30⟩:=LP hc
  obtain ⟨ea,hpe⟩:∃ q,es[i]? = some q:=⟨_,List.getElem?_eq_getElem hlt⟩
  obtain ⟨hte,hlee⟩:=lW (C:=EA.cells) (sz:=44) hE44 hpe
  obtain ⟨be,oe,hse,hcce⟩:=h1.ne (i:=i*44) ag
  have heV:=heo _ (List.mem_of_getElem? hpe)
  obtain ⟨hzv,hza,hzb,hzs,hzc⟩:=hsz _ (List.mem_of_getElem? hpe)
  have he32:ea.eff.length=32:=heV.i.2.2.2.2.2
  rw [hse] at hF
  apply wp_skip
  refine hK7 _ _ ?_
  apply wp_seq_k; intro K10 hK10
  apply wp_block
  apply wp_seq_k; intro K11 hK11
  refine wS hF fun K12 hK12=>vX O<|vX O<|vV O (aY O NV kV rfl rfl i rfl hlt rfl)<|vV O (dK (new:=ea.cells) rfl (Hq.sub hA12.q (List.nil_subset _)) O hcce (i*44) hlee rfl hte Hg) fun a hF=>?_
  refine ax O (fun K hK=>ay hF O ae FW rfl rfl ?_)
  with_reducible refine (E5 ea _ heV hzv hza hzs (List.nil_subset _) hA12).mono ?_
  rintro e' w26 ⟨bg,rfl,hbg,hA27⟩
  refine ⟨_,rfl,fun a hF=>hK _ _ ?_⟩
  replace hA27:Hp w0 ([row b1 66 [lvB,wvB,.int .i64 hdB,.bool false]]::YB::[row b4 70 [lvS,wvS,.int .i64 hdS,.bool false]]::YS::[row b7 74 [lvA,wvA,.int .i64 hdA,.bool false]]::YA::MM::[]) w26:=hA27
  refine aH<|hK12 _ _ ?_
  rcases tf bg with hb | hb
  ·obtain ⟨hgv,hga,hgs⟩:=hbg hb
   refine au hF O hb ?_
   apply wp_skip
   refine hK11 _ _ ?_
   apply wp_seq_k; intro K13 hK13
   refine wS hF fun K14 hK14=>vX O<|vE hK14<|wBk fun a hF=>?_
   refine bH (G:=Nat) (fun j a x=>∃ (ksB:List (KeptX UInt8)) (lvB:Value) (wvB:Value) (hdB:Int) (YB:Seg) (ksS:List (KeptX (List UInt8))) (lvS:Value) (wvS:Value) (hdS:Int) (YS:Seg) (MM:Seg),j≤2∧BookV cB 27 5 1 ksB lvB wvB YB∧BookV cS 23 9 1 ksS lvS wvS YS∧RRdF w0 (aS ksS++MM) ksA∧Fr 286 [(9,.int .i64 ((j:Nat):Int)),(0,.slice (some ⟨be,oe,none⟩) es.length c1),(1,.slice P ps.length cP),(5,.pointer (some ⟨b1,0,none⟩)),(6,.pointer (some ⟨b4,0,none⟩)),(7,.pointer (some ⟨b7,0,none⟩)),(8,.int .i64 ((i:Nat):Int))] a∧Hp w0 ([row b1 66 [lvB,wvB,.int .i64 hdB,.bool false]]::YB::[row b4 70 [lvS,wvS,.int .i64 hdS,.bool false]]::YS::[row b7 74 [lvA,wvA,.int .i64 hdA,.bool false]]::YA::MM::[]) x) (fun j=>2-j) 0 (⟨_,_,_,_,_,_,_,_,_,_,_,Nl _,hbB,hbS,hrA,hF.keep [9,0,1,5,6,7,8] rfl,hA27⟩) ?_
   clear hF
   rintro j a w29 ⟨ksB,lvB,wvB,hdB,YB,ksS,lvS,wvS,hdS,YS,MM,hj,hbB,hbS,hrA,hF,hA28⟩
   apply wp_seq_k; intro K15 hK15
   refine wS hF fun K16 hK16=>vX O<|vV O (aF O O O O O)<|vE hK16 fun a hF=>?_
   by_cases hj2:j<2
   ·refine aG hF O (dF ag) ?_
    apply wp_skip
    refine hK15 _ _ ?_
    apply wp_seq_k; intro K17 hK17
    apply wp_block
    refine wS hF fun K18 hK18=>vX O<|vV O (fM (qs := #[(0,.int .i64 ((i:Nat):Int))]) O O (Jv _))<|vX O<|vX O<|vV O (aY O NV kV rfl rfl i rfl hlt rfl)<|vV O (jR O NE O nD ae rfl (rfl:(⟨_,oe+i*44+6,none⟩:Addr)=⟨_,oe+i*44+6,none⟩))<|vV O (dK (new:=ea.v.cells) rfl (Hq.sub hA28.q (List.nil_subset _)) O hcce (i*44+6) (by show i*44+6+4≤_; omega) (by rw [Nat.add_assoc]) (rG (k:=6) (m:=4) hte ae) Ho) fun a hF=>?_
    refine vR hF<|vV O (fM (qs := #[(0,aj lkA),(1,.agg ea.v.cells.toArray)]) O O (LU _)) fun a hF=>?_
    refine ax O (fun K hK=>kG (qs := #[(0,.agg (oJ (lkA,ea.v)).toArray)]) (cells:=(oJ (lkA,ea.v)).toArray) hF O ae rfl hA28 O (Kv (lkA,ea.v)) (fun b30 w31 a hb30 hF hA32=>hK _ _ ?_))
    refine vR hF<|vV O (fM (qs := #[(1,aj lkT),(4,.slice (some ⟨b30,0,none⟩) 1 1)]) O O (LQ _ ea.v)) fun a hF=>?_
    refine ax O (fun K hK=>jL hF O ae rfl hA32 O (rE lkA) (fun b33 w34 a hb33 hF hA35=>hK _ _ ?_))
    have hCz:(lkC b30 ea.v).Ok w0 ([[row b30 76 (oJ (lkA,ea.v))],[row b33 9 [aj lkA]]]):=Ko heV.v (Rc.ofRow (i:=0) (off:=0) rfl rfl)
    refine ax O (fun K hK=>ay hF O ae Jh rfl rfl ?_)
    with_reducible refine (BP (G:=[[row b30 76 (oJ (lkA,ea.v))],[row b33 9 [aj lkA]]]) ((i:Nat):Int) (lkC b30 ea.v) (some ⟨b33,0,none⟩) _ hT hCz (Rc.ofRow (i:=1) (off:=0) rfl rfl) (List.cons_subset.2 ⟨(Nw _ ((Nu ..))),List.cons_subset.2 ⟨((Nu ..)),List.nil_subset _⟩⟩) hA35).mono ?_
    rintro e' w36 ⟨qvX0,ZX,rfl,hZX,hA37⟩
    refine ⟨_,rfl,fun a hF=>hK _ _ ?_⟩
    replace hA37:Hp w0 (ZX::[row b33 9 [aj lkA]]::[row b30 76 (oJ (lkA,ea.v))]::[row b1 66 [lvB,wvB,.int .i64 hdB,.bool false]]::YB::[row b4 70 [lvS,wvS,.int .i64 hdS,.bool false]]::YS::[row b7 74 [lvA,wvA,.int .i64 hdA,.bool false]]::YA::MM::[]) w36:=hA37
    rw [Ez (ca:=lkC b30 ea.v) rfl rfl] at hF
    obtain ⟨X,hX⟩:∃ q,q=stX (lkC b30 ea.v) ((i:Nat):Int) lkZ [lkA] [] []:=⟨_,rfl⟩
    rw [← hX] at hZX
    have hXl:X.length≤4300000:=by rw [hX]; exact Ha rfl
    obtain ⟨_,AX,cX,rfl,hcX,hRX⟩:=hZX.rd (w0:=w0) (R:=[ZX]) (Nu ..)
    refine vR hF<|vX O<|vV O (aN (v:= .slice AX X.length cX) rfl rfl rfl)<|vV O (aN (v:= .int .i64 ((ea.v.v.right:Nat):Int)) O O O)<|vX O<|vX O<|vE hK18<|wQ fun K19 hK19 a hF=>?_
    have hA38:Hp w0 (ZX::[row b1 66 [lvB,wvB,.int .i64 hdB,.bool false]]::YB::[row b4 70 [lvS,wvS,.int .i64 hdS,.bool false]]::YS::[row b7 74 [lvA,wvA,.int .i64 hdA,.bool false]]::YA::MM::[]) w36:=hpS 10 [0,3,4,5,6,7,8,9] [1,2] hA37 rfl
    have hJ:∀ (a:Act) (x:World) (vY:Value) (ZY:Seg) (Y:List UInt8),Y.length=89→Buf 5 1 ZY vY Y.length (dc Y)→Fr 286 [(0,.slice (some ⟨be,oe,none⟩) es.length c1),(1,.slice P ps.length cP),(5,.pointer (some ⟨b1,0,none⟩)),(6,.pointer (some ⟨b4,0,none⟩)),(7,.pointer (some ⟨b7,0,none⟩)),(8,.int .i64 ((i:Nat):Int)),(9,.int .i64 ((j:Nat):Int)),(10,.slice AX X.length cX),(11,.int .i64 ((ea.v.v.right:Nat):Int)),(12,vY),(13,.int .i64 0)] a→Hp w0 (ZY::ZX::[row b1 66 [lvB,wvB,.int .i64 hdB,.bool false]]::YB::[row b4 70 [lvS,wvS,.int .i64 hdS,.bool false]]::YS::[row b7 74 [lvA,wvA,.int .i64 hdA,.bool false]]::YA::MM::[]) x→K19 a x:=by
     clear hF
     intro a x vY ZY Y hYl hZY hF hA
     obtain ⟨_,AY,cY,rfl,hcY,hRY⟩:=hZY.rd (w0:=w0) (R:=[ZY]) (Nu ..)
     refine hK19 _ _ ?_
     apply wp_seq_k; intro K20 hK20
     refine wS hF fun K21 hK21=>vX O<|vV O (aF O O O O O)<|vX O fun a hF=>?_
     refine bK (l2:=?lA2) hF [(92,.bool ((aI .eql (((ea.v.v.right:Nat):Int)) (0)) && (aI .eql (X.length) (0)))),(0,.slice (some ⟨be,oe,none⟩) es.length c1),(1,.slice P ps.length cP),(5,.pointer (some ⟨b1,0,none⟩)),(6,.pointer (some ⟨b4,0,none⟩)),(7,.pointer (some ⟨b7,0,none⟩)),(8,.int .i64 ((i:Nat):Int)),(9,.int .i64 ((j:Nat):Int)),(10,.slice AX X.length cX),(11,.int .i64 ((ea.v.v.right:Nat):Int)),(12,.slice AY Y.length cY),(13,.int .i64 0)] (fun hJ2=>?elA2) (fun a hF=>?flA2)
     case elA2 =>
      rcases tf (aI .eql (((ea.v.v.right:Nat):Int)) (0)) with hg2 | hg2
      ·refine az hF O O O O O (aB hg2) ae (fun a hF=>?_)
       refine az hF O O O O O (aB hg2) ae (fun a hF=>?_)
       refine az hF O O O O O (aB hg2) ae (fun a hF=>?_)
       refine vR hF<|vV O (bu hg2 rfl rfl rfl) fun a hF=>?_
       exact hJ2 _ ((hF.keep [92,0,1,5,6,7,8,9,10,11,12,13] (F':=[(92,_),(0,_),(1,_),(5,_),(6,_),(7,_),(8,_),(9,_),(10,_),(11,_),(12,_),(13,_)]) O).bool (by rw [hg2]; rfl))
      ·refine aJ hF O O O O (ak hg2) ae _ (aV O O) (fun a hF=>?_)
       refine aJ hF O O O O (ak hg2) ae _ (aT O Nq O O) (fun a hF=>?_)
       refine aJ hF O O O O (ak hg2) ae _ (aF O O O O O) (fun a hF=>?_)
       refine vR hF<|vV O (bF hg2 rfl rfl rfl) fun a hF=>?_
       exact hJ2 _ ((hF.keep [92,0,1,5,6,7,8,9,10,11,12,13] (F':=[(92,_),(0,_),(1,_),(5,_),(6,_),(7,_),(8,_),(9,_),(10,_),(11,_),(12,_),(13,_)]) O).bool (by rw [hg2]; rfl))
     refine vR hF<|vX O fun a hF=>?_
     refine bK (l2:=?lA3) hF [(96,.bool (((aI .eql (((ea.v.v.right:Nat):Int)) (0)) && (aI .eql (X.length) (0))) || (aI .neq (0) (0)))),(0,.slice (some ⟨be,oe,none⟩) es.length c1),(1,.slice P ps.length cP),(5,.pointer (some ⟨b1,0,none⟩)),(6,.pointer (some ⟨b4,0,none⟩)),(7,.pointer (some ⟨b7,0,none⟩)),(8,.int .i64 ((i:Nat):Int)),(9,.int .i64 ((j:Nat):Int)),(10,.slice AX X.length cX),(11,.int .i64 ((ea.v.v.right:Nat):Int)),(12,.slice AY Y.length cY)] (fun hJ3=>?elA3) (fun a hF=>?flA3)
     case elA3 =>
      rcases tf ((aI .eql (((ea.v.v.right:Nat):Int)) (0)) && (aI .eql (X.length) (0))) with hg3 | hg3
      ·refine aJ hF O O O O (ak hg3) ae _ (aV O O) (fun a hF=>?_)
       refine aJ hF O O O O (ak hg3) ae _ (aF O O O O O) (fun a hF=>?_)
       refine vR hF<|vV O (bu hg3 rfl rfl rfl) fun a hF=>?_
       exact hJ3 _ ((hF.keep [96,0,1,5,6,7,8,9,10,11,12] (F':=[(96,_),(0,_),(1,_),(5,_),(6,_),(7,_),(8,_),(9,_),(10,_),(11,_),(12,_)]) O).bool (by rw [hg3]; rfl))
      ·refine az hF O O O O O (aB hg3) ae (fun a hF=>?_)
       refine az hF O O O O O (aB hg3) ae (fun a hF=>?_)
       refine vR hF<|vV O (bF hg3 rfl rfl rfl) fun a hF=>?_
       exact hJ3 _ ((hF.keep [96,0,1,5,6,7,8,9,10,11,12] (F':=[(96,_),(0,_),(1,_),(5,_),(6,_),(7,_),(8,_),(9,_),(10,_),(11,_),(12,_)]) O).bool (by rw [hg3]; rfl))
     refine vR hF<|vX O fun a hF=>?_
     refine bK (l2:=?lA4) hF [(101,.bool ((((aI .eql (((ea.v.v.right:Nat):Int)) (0)) && (aI .eql (X.length) (0))) || (aI .neq (0) (0))) || (aI .neq (Y.length) (89)))),(0,.slice (some ⟨be,oe,none⟩) es.length c1),(1,.slice P ps.length cP),(5,.pointer (some ⟨b1,0,none⟩)),(6,.pointer (some ⟨b4,0,none⟩)),(7,.pointer (some ⟨b7,0,none⟩)),(8,.int .i64 ((i:Nat):Int)),(9,.int .i64 ((j:Nat):Int)),(10,.slice AX X.length cX),(11,.int .i64 ((ea.v.v.right:Nat):Int)),(12,.slice AY Y.length cY)] (fun hJ4=>?elA4) (fun a hF=>?flA4)
     case elA4 =>
      rcases tf (((aI .eql (((ea.v.v.right:Nat):Int)) (0)) && (aI .eql (X.length) (0))) || (aI .neq (0) (0))) with hg4 | hg4
      ·refine aJ hF O O O O (ak hg4) ae _ (aV O O) (fun a hF=>?_)
       refine aJ hF O O O O (ak hg4) ae _ (aT O Nq O O) (fun a hF=>?_)
       refine aJ hF O O O O (ak hg4) ae _ (aF O O O O O) (fun a hF=>?_)
       refine vR hF<|vV O (bu hg4 rfl rfl rfl) fun a hF=>?_
       exact hJ4 _ ((hF.keep [101,0,1,5,6,7,8,9,10,11,12] (F':=[(101,_),(0,_),(1,_),(5,_),(6,_),(7,_),(8,_),(9,_),(10,_),(11,_),(12,_)]) O).bool (by rw [hg4]; rfl))
      ·refine az hF O O O O O (aB hg4) ae (fun a hF=>?_)
       refine az hF O O O O O (aB hg4) ae (fun a hF=>?_)
       refine az hF O O O O O (aB hg4) ae (fun a hF=>?_)
       refine vR hF<|vV O (bF hg4 rfl rfl rfl) fun a hF=>?_
       exact hJ4 _ ((hF.keep [101,0,1,5,6,7,8,9,10,11,12] (F':=[(101,_),(0,_),(1,_),(5,_),(6,_),(7,_),(8,_),(9,_),(10,_),(11,_),(12,_)]) O).bool (by rw [hg4]; rfl))
     refine aH<|hK21 _ _ ?_
     have hXp:ea.v.v.right=0→0<X.length:=fun h=>by rw [hX,LV (ca:=lkC _ ea.v) rfl rfl h,List.length_append,oZ]; omega
     refine au hF O (J6 hXp hYl) ?_
     apply wp_skip
     refine hK20 _ _ ?_
     refine wS hF fun K22 hK22=>vX O<|vX O fun a hF=>?_
     have hA39:Hp w0 (ZX::[row b1 66 [lvB,wvB,.int .i64 hdB,.bool false]]::YB::ZY::[row b4 70 [lvS,wvS,.int .i64 hdS,.bool false]]::YS::[row b7 74 [lvA,wvA,.int .i64 hdA,.bool false]]::YA::MM::[]) x:=hpO 9 [1,2,3,0,4,5,6,7,8] hA rfl
     refine ax O (fun K hK=>ay hF O ae kJ rfl rfl ?_)
     with_reducible refine (iD w0 _ (ZY::[row b4 70 [lvS,wvS,.int .i64 hdS,.bool false]]::YS::[row b7 74 [lvA,wvA,.int .i64 hdA,.bool false]]::YA::MM::[]) b1 ksB YB ZX (.slice AX X.length cX) X hbB (by rw [← lV]; exact hZX) (fun _ _=>rfl) ag ag hA39).mono ?_
     rintro e' w40 ⟨ksB,lvB,wvB,hdB,YB,DD1,rfl,hbB,hin1,hDD1,hA41⟩
     refine ⟨_,rfl,fun a hF=>hK _ _ ?_⟩
     replace hA41:Hp w0 ([row b1 66 [lvB,wvB,.int .i64 hdB,.bool false]]::YB::DD1::ZY::[row b4 70 [lvS,wvS,.int .i64 hdS,.bool false]]::YS::[row b7 74 [lvA,wvA,.int .i64 hdA,.bool false]]::YA::MM::[]) w40:=hA41
     refine aH<|hK22 _ _ ?_
     refine wS hF fun K23 hK23=>vX O<|vX O fun a hF=>?_
     have hA42:Hp w0 (ZY::[row b1 66 [lvB,wvB,.int .i64 hdB,.bool false]]::YB::DD1::[row b4 70 [lvS,wvS,.int .i64 hdS,.bool false]]::YS::[row b7 74 [lvA,wvA,.int .i64 hdA,.bool false]]::YA::MM::[]) w40:=hpO 9 [3,0,1,2,4,5,6,7,8] hA41 rfl
     refine ax O (fun K hK=>ay hF O ae kJ rfl rfl ?_)
     with_reducible refine (iD w0 _ (DD1::[row b4 70 [lvS,wvS,.int .i64 hdS,.bool false]]::YS::[row b7 74 [lvA,wvA,.int .i64 hdA,.bool false]]::YA::MM::[]) b1 ksB YB ZY (.slice AY Y.length cY) Y hbB (by rw [← lV]; exact hZY) (fun _ _=>rfl) ag ag hA42).mono ?_
     rintro e' w43 ⟨ksB,lvB,wvB,hdB,YB,DD2,rfl,hbB,hin2,hDD2,hA44⟩
     refine ⟨_,rfl,fun a hF=>hK _ _ ?_⟩
     replace hA44:Hp w0 ([row b1 66 [lvB,wvB,.int .i64 hdB,.bool false]]::YB::DD2::DD1::[row b4 70 [lvS,wvS,.int .i64 hdS,.bool false]]::YS::[row b7 74 [lvA,wvA,.int .i64 hdA,.bool false]]::YA::MM::[]) w43:=hA44
     refine aH<|hK23 _ _ ?_
     refine wS hF fun K24 hK24=>vX O fun a hF=>?_
     have hZX2:∀ r∈ZX,r∈aS ksB∨r∈DD2:=fun r hr=>hDD2 r (hin1 hr)
     refine ax O (fun K hK=>ay hF O ae Jf rfl rfl ?_)
     with_reducible refine (Au w0 _ ([row b1 66 [lvB,wvB,.int .i64 hdB,.bool false]]::YB::DD2::DD1::[row b4 70 [lvS,wvS,.int .i64 hdS,.bool false]]::YS::[row b7 74 [lvA,wvA,.int .i64 hdA,.bool false]]::YA::MM::[]) AX X cX (qN hRX (JA hZX2 (iV (oI hbB) (Nw _ ((Nu ..)))) (iV (List.Subset.refl _) (Nw _ (Nw _ ((Nu ..))))))) hA44 ag).mono ?_
     rintro e' w45 ⟨rb,AR,cR,XR,rfl,hOR,hA46⟩
     refine ⟨_,rfl,fun a hF=>hK _ _ ?_⟩
     replace hA46:Hp w0 ([row rb 152 [.slice AR X.length cR,.int .i64 (0:Nat),.int .i64 (0:Nat)]]::XR::[row b1 66 [lvB,wvB,.int .i64 hdB,.bool false]]::YB::DD2::DD1::[row b4 70 [lvS,wvS,.int .i64 hdS,.bool false]]::YS::[row b7 74 [lvA,wvA,.int .i64 hdA,.bool false]]::YA::MM::[]) w45:=hA46
     refine vR hF<|vX O<|vE hK24<|wT fun K25 hK25=>vX O fun a hF=>?_
     refine ax O (fun K hK=>ay hF O ae Je rfl rfl ?_)
     with_reducible refine (nT w0 _ ([row b1 66 [lvB,wvB,.int .i64 hdB,.bool false]]::YB::DD2::DD1::[row b4 70 [lvS,wvS,.int .i64 hdS,.bool false]]::YS::[row b7 74 [lvA,wvA,.int .i64 hdA,.bool false]]::YA::MM::[]) rb AR X cR 0 0 XR hOR hA46 (Nl _) ag).mono ?_
     rintro e' w47 ⟨k1,p1,y1,rfl,hg1,hp1,_,hA48⟩
     refine ⟨_,rfl,fun a hF=>hK _ _ ?_⟩
     replace hA48:Hp w0 ([row rb 152 [.slice AR X.length cR,.int .i64 (p1:Nat),.int .i64 (y1:Nat)]]::XR::[row b1 66 [lvB,wvB,.int .i64 hdB,.bool false]]::YB::DD2::DD1::[row b4 70 [lvS,wvS,.int .i64 hdS,.bool false]]::YS::[row b7 74 [lvA,wvA,.int .i64 hdA,.bool false]]::YA::MM::[]) w47:=hA48
     refine aH<|hK25 _ _ ?_
     refine wS hF fun K26 hK26=>vX O fun a hF=>?_
     refine ax O (fun K hK=>ay hF O ae FD rfl rfl ?_)
     with_reducible refine (CB w0 _ ([row b1 66 [lvB,wvB,.int .i64 hdB,.bool false]]::YB::DD2::DD1::[row b4 70 [lvS,wvS,.int .i64 hdS,.bool false]]::YS::[row b7 74 [lvA,wvA,.int .i64 hdA,.bool false]]::YA::MM::[]) rb AR X cR p1 y1 XR hOR hA48 hp1 ag).mono ?_
     rintro e' w49 ⟨k2,p2,y2,rfl,hg2,hp2,hA50⟩
     refine ⟨_,rfl,fun a hF=>hK _ _ ?_⟩
     replace hA50:Hp w0 ([row rb 152 [.slice AR X.length cR,.int .i64 (p2:Nat),.int .i64 (y2:Nat)]]::XR::[row b1 66 [lvB,wvB,.int .i64 hdB,.bool false]]::YB::DD2::DD1::[row b4 70 [lvS,wvS,.int .i64 hdS,.bool false]]::YS::[row b7 74 [lvA,wvA,.int .i64 hdA,.bool false]]::YA::MM::[]) w49:=hA50
     refine aH<|hK26 _ _ ?_
     refine wS hF fun K27 hK27=>vX O fun a hF=>?_
     refine ax O (fun K hK=>ay hF O ae Bf rfl rfl ?_)
     with_reducible refine (EL w0 _ ([row b1 66 [lvB,wvB,.int .i64 hdB,.bool false]]::YB::DD2::DD1::[row b4 70 [lvS,wvS,.int .i64 hdS,.bool false]]::YS::[row b7 74 [lvA,wvA,.int .i64 hdA,.bool false]]::YA::MM::[]) rb AR X cR p2 y2 XR hOR hA50 hp2 ag).mono ?_
     rintro e' w51 ⟨qvR0,ZR,d3,p3,y3,rfl,hg3,hp3,hA52⟩
     refine ⟨_,rfl,fun a hF=>hK _ _ ?_⟩
     replace hA52:Hp w0 (ZR::[row rb 152 [.slice AR X.length cR,.int .i64 (p3:Nat),.int .i64 (y3:Nat)]]::XR::[row b1 66 [lvB,wvB,.int .i64 hdB,.bool false]]::YB::DD2::DD1::[row b4 70 [lvS,wvS,.int .i64 hdS,.bool false]]::YS::[row b7 74 [lvA,wvA,.int .i64 hdA,.bool false]]::YA::MM::[]) w51:=hA52
     refine aH<|hK27 _ _ ?_
     refine wS hF fun K28 hK28=>vX O fun a hF=>?_
     have hA53:Hp w0 ([row rb 152 [.slice AR X.length cR,.int .i64 (p3:Nat),.int .i64 (y3:Nat)]]::XR::ZR::[row b1 66 [lvB,wvB,.int .i64 hdB,.bool false]]::YB::DD2::DD1::[row b4 70 [lvS,wvS,.int .i64 hdS,.bool false]]::YS::[row b7 74 [lvA,wvA,.int .i64 hdA,.bool false]]::YA::MM::[]) w51:=hpO 12 [1,2,0,3,4,5,6,7,8,9,10,11] hA52 af
     refine ax O (fun K hK=>ay hF O ae Be rfl rfl ?_)
     with_reducible refine (rJ w0 _ (ZR::[row b1 66 [lvB,wvB,.int .i64 hdB,.bool false]]::YB::DD2::DD1::[row b4 70 [lvS,wvS,.int .i64 hdS,.bool false]]::YS::[row b7 74 [lvA,wvA,.int .i64 hdA,.bool false]]::YA::MM::[]) rb AR X cR p3 y3 XR hOR hA53 hp3 ag).mono ?_
     rintro e' w54 ⟨va,ZV,rfl,hva,hvo,hpt,hA55⟩
     refine ⟨_,rfl,fun a hF=>hK _ _ ?_⟩
     refine vR hF<|vX O<|vV O (aN (v:= .agg ([.int .i64 va.v.k,.int .i64 va.v.n,aj va.v.t,.slice va.sA va.v.s.length va.sC]).toArray) rfl rfl rfl)<|vV O (aN (v:= .int .i64 ((cu X p3 y3).y:Nat)) O O O) fun a hF=>?_
     refine ax O (fun K hK=>dC hF O ae rfl hA55 (zQ) (fun b56 w57 a hb56 hF hA58=>hK _ _ ?_))
     refine ax O (fun K hK=>bG (new:=[.int .i64 va.v.k,.int .i64 va.v.n,aj va.v.t,.slice va.sA va.v.s.length va.sC]) hF O O hA58 O O 0 O O (qE va) nD (fun w59 hA60=>hK _ _ ?_))
     replace hA60:Hp w0 ([row b56 25 [.int .i64 va.v.k,.int .i64 va.v.n,aj va.v.t,.slice va.sA va.v.s.length va.sC]]::ZV::[row rb 152 [.slice AR X.length cR,.int .i64 ((cu X p3 y3).p:Nat),.int .i64 ((cu X p3 y3).y:Nat)]]::XR::ZR::[row b1 66 [lvB,wvB,.int .i64 hdB,.bool false]]::YB::DD2::DD1::[row b4 70 [lvS,wvS,.int .i64 hdS,.bool false]]::YS::[row b7 74 [lvA,wvA,.int .i64 hdA,.bool false]]::YA::MM::[]) w59:=hA60
     refine vR hF<|vX O<|vE hK28<|wQ fun K29 hK29=>wQ fun K30 hK30 a hF=>?_
     have hvs:va.v.s.length≤64:=by rw [hva]; exact vJ
     have hvB:Buf 9 1 ZV (.slice va.sA va.v.s.length va.sC) va.v.s.length (va.v.s.map aj):=hvo.2
     have hA61:Hp w0 ([row b56 25 [.int .i64 va.v.k,.int .i64 va.v.n,aj va.v.t,.slice va.sA va.v.s.length va.sC]]::ZV::[row b1 66 [lvB,wvB,.int .i64 hdB,.bool false]]::YB::[row b4 70 [lvS,wvS,.int .i64 hdS,.bool false]]::YS::[row b7 74 [lvA,wvA,.int .i64 hdA,.bool false]]::YA::MM::[]) w59:=hpS 14 [0,1,5,6,9,10,11,12,13] [2,3,4,7,8] hA60 af
     have hJ2:∀ (a:Act) (x:World),Fr 286 [(0,.slice (some ⟨be,oe,none⟩) es.length c1),(1,.slice P ps.length cP),(5,.pointer (some ⟨b1,0,none⟩)),(6,.pointer (some ⟨b4,0,none⟩)),(7,.pointer (some ⟨b7,0,none⟩)),(8,.int .i64 ((i:Nat):Int)),(9,.int .i64 ((j:Nat):Int)),(15,.pointer (some ⟨b56,0,none⟩)),(136,.bool false)] a→Hp w0 ([row b56 25 [.int .i64 va.v.k,.int .i64 va.v.n,aj va.v.t,.slice va.sA va.v.s.length va.sC]]::ZV::[row b1 66 [lvB,wvB,.int .i64 hdB,.bool false]]::YB::[row b4 70 [lvS,wvS,.int .i64 hdS,.bool false]]::YS::[row b7 74 [lvA,wvA,.int .i64 hdA,.bool false]]::YA::MM::[]) x→K30 a x:=by
      clear hF
      intro a x hF hA
      refine hK30 _ _ ?_
      refine dn hF O ?_
      apply wp_skip
      refine hK29 _ _ ?_
      refine wp_region_lit ?_
      refine vR hF<|vX O<|vV O (yf 3 O ND O mf O)<|vV O (aU O hA.q O 0 O O mi) fun a hF=>?_
      have hA62:Hp w0 (ZV::[row b4 70 [lvS,wvS,.int .i64 hdS,.bool false]]::YS::[row b56 25 [.int .i64 va.v.k,.int .i64 va.v.n,aj va.v.t,.slice va.sA va.v.s.length va.sC]]::[row b1 66 [lvB,wvB,.int .i64 hdB,.bool false]]::YB::[row b7 74 [lvA,wvA,.int .i64 hdA,.bool false]]::YA::MM::[]) x:=hpO 9 [1,4,5,0,2,3,6,7,8] hA rfl
      refine ax O (fun K hK=>ay hF O ae lU rfl rfl ?_)
      with_reducible refine (iy w0 _ ([row b56 25 [.int .i64 va.v.k,.int .i64 va.v.n,aj va.v.t,.slice va.sA va.v.s.length va.sC]]::[row b1 66 [lvB,wvB,.int .i64 hdB,.bool false]]::YB::[row b7 74 [lvA,wvA,.int .i64 hdA,.bool false]]::YA::MM::[]) b4 ksS YS ZV (.slice va.sA va.v.s.length va.sC) va.v.s hbS (by rw [← jw]; exact hvB) (fun _ _=>rfl) ag ag hA62).mono ?_
      rintro e' w63 ⟨ksS,lvS,wvS,hdS,YS,DS,rfl,hbS,hinS,hDS,hA64⟩
      refine ⟨_,rfl,fun a hF=>hK _ _ ?_⟩
      replace hA64:Hp w0 ([row b4 70 [lvS,wvS,.int .i64 hdS,.bool false]]::YS::DS::[row b56 25 [.int .i64 va.v.k,.int .i64 va.v.n,aj va.v.t,.slice va.sA va.v.s.length va.sC]]::[row b1 66 [lvB,wvB,.int .i64 hdB,.bool false]]::YB::[row b7 74 [lvA,wvA,.int .i64 hdA,.bool false]]::YA::MM::[]) w63:=hA64
      replace hrA:=hrA.mono (o5 hDS)
      have hA65:Hp w0 (DS::MM::[row b4 70 [lvS,wvS,.int .i64 hdS,.bool false]]::YS::[row b56 25 [.int .i64 va.v.k,.int .i64 va.v.n,aj va.v.t,.slice va.sA va.v.s.length va.sC]]::[row b1 66 [lvB,wvB,.int .i64 hdB,.bool false]]::YB::[row b7 74 [lvA,wvA,.int .i64 hdA,.bool false]]::YA::[]) w63:=hpO 9 [2,8,0,1,3,4,5,6,7] hA64 rfl
      have hA66:Hp w0 ((DS++MM)::[row b4 70 [lvS,wvS,.int .i64 hdS,.bool false]]::YS::[row b56 25 [.int .i64 va.v.k,.int .i64 va.v.n,aj va.v.t,.slice va.sA va.v.s.length va.sC]]::[row b1 66 [lvB,wvB,.int .i64 hdB,.bool false]]::YB::[row b7 74 [lvA,wvA,.int .i64 hdA,.bool false]]::YA::[]) w63:=Hp.join hA65
      obtain ⟨M2,hM2⟩:∃ q:Seg,q=DS++MM:=⟨_,rfl⟩
      rw [← hM2] at hrA hA66
      clear hM2
      refine aH<|hK17 _ _ ?_
      refine wp_region_lit ?_
      refine vR hF<|vX O<|vV O (bT O O O (Np _ ag))<|vX O fun a hF=>?_
      refine aH ?_
      have hA67:Hp w0 ([row b1 66 [lvB,wvB,.int .i64 hdB,.bool false]]::YB::[row b4 70 [lvS,wvS,.int .i64 hdS,.bool false]]::YS::[row b7 74 [lvA,wvA,.int .i64 hdA,.bool false]]::YA::M2::[]) w63:=hpS 8 [4,5,1,2,6,7,0] [3] hA66 rfl
      exact ⟨j+1,ag,_,_,_,_,_,_,_,_,_,_,_,ag,hbB,hbS,hrA,hF.keep [9,0,1,5,6,7,8] rfl,hA67⟩
     by_cases hk0:ea.v.v.right=0
     ·obtain ⟨q,hq⟩:=Ie heV.v.i hk0 (by rw [hX]; exact LV rfl rfl hk0) hg1 hg2 hg3
      have hy0:(cu X p3 y3).y=0:=by rw [hq]
      rw [hy0] at hF
      replace hva:va.v=ea.v.v:=by rw [hva,hq]
      refine aQ 15 [12,15] [0,1,2,3,4,5,6,7,8,9,10,11,12,13,14,15] _ af af (Hq.drew hA61.q) ?_
      have hA68:=Hl.drew hA61
      refine pR hF<|pX O O<|pW O O (fun _=>aF O O O O (fF ag))<|pX O O<|pG O O (fun _=>aV O O)<|pG O O (fun _=>aF O O O O (fK rfl))<|pG O O (fun _=>aV O O) fun a hF=>?_
      refine dD hF O O O O O O O ae _ (fun x hx=>cZ (new:=[.int .i64 va.v.k,.int .i64 va.v.n,aj va.v.t,.slice va.sA va.v.s.length va.sC]) O hx O 0 O Ho ai rfl) (fun a hF=>?_)
      refine pR hF<|pG O O (fun _=>aV O O)<|pG O O (fun _=>aV O O)<|pG O O (fun _=>aY O NV kV rfl rfl i rfl hlt rfl)<|pG O O (fun _=>jR O NE O nD ae rfl (rfl:(⟨_,oe+i*44+6,none⟩:Addr)=⟨_,oe+i*44+6,none⟩)) fun a hF=>?_
      refine dD hF O O O O O O O ae _ (fun x hx=>dK (new:=ea.v.cells) rfl (Hq.sub hx (List.nil_subset _)) O hcce (i*44+6) (by show i*44+6+4≤_; omega) (by rw [Nat.add_assoc]) (rG (k:=6) (m:=4) hte ae) Ho) (fun a hF=>?_)
      refine kW hF O O O O O O (fun K hK=>ay hF O ae Bg rfl rfl ?_)
      with_reducible refine (lS va ea.v _ hvo.1 (List.cons_subset.2 ⟨(Nw _ ((Nu ..))),List.nil_subset _⟩) heV.v (List.nil_subset _) hA68).mono ?_
      rintro e' w69 ⟨rfl,hA70⟩
      refine ⟨_,rfl,fun a hF=>hK _ _ (fun _=>?_) ?_⟩
      ·exact hA70.q
      replace hA70:Hp w0 ([row b56 25 [.int .i64 va.v.k,.int .i64 va.v.n,aj va.v.t,.slice va.sA va.v.s.length va.sC]]::ZV::[row b1 66 [lvB,wvB,.int .i64 hdB,.bool false]]::YB::[row b4 70 [lvS,wvS,.int .i64 hdS,.bool false]]::YS::[row b7 74 [lvA,wvA,.int .i64 hdA,.bool false]]::YA::MM::[]) w69:=hA70
      rw [decide_eq_true hva] at hF
      refine pR hF<|pG O O (fun _=>dm O O O)<|pG O O (fun _=>bP O O O) fun a hF=>?_
      refine dG hF O O O O ae _ (bP O O O) (fun h=>absurd h ae) (fun a hF=>?_)
      refine bI ?_
      exact hJ2 _ _ (hF.keep [0,1,5,6,7,8,9,15,136] rfl) hA70
     ·refine aQ 15 [12,15] [0,1,2,3,4,5,6,7,8,9,10,11,12,13,14,15] _ af af (Hq.drew hA61.q) ?_
      have hA71:=Hl.drew hA61
      refine pR hF<|pX O O<|pW O O (fun _=>aF O O O O (bU ag))<|pX O O<|pS O O<|pS O O<|pS O O fun a hF=>?_
      refine fV hF O O O O O O O ae (fun a hF=>?_)
      refine fV hF O O O O O O O ae (fun a hF=>?_)
      refine fV hF O O O O O O O ae (fun a hF=>?_)
      refine fV hF O O O O O O O ae (fun a hF=>?_)
      refine fV hF O O O O O O O ae (fun a hF=>?_)
      refine fV hF O O O O O O O ae (fun a hF=>?_)
      refine tu hF O O O O O O O ae (hA71.q) (fun a hF=>?_)
      refine fV hF O O O O O O O ae (fun a hF=>?_)
      refine pR hF<|pS O O fun a hF=>?_
      refine dG hF O O O O ae _ (bP O O O) (fun h=>absurd h ae) (fun a hF=>?_)
      refine bI ?_
      exact hJ2 _ _ (hF.keep [0,1,5,6,7,8,9,15,136] rfl) hA71
    refine qB 19 [7,13,14,19] (.op 0 (.op 1 (.op 2 (.op 3 (.op 4 (.op 5 (.op 6 (.op 8 (.op 9 (.op 10 (.op 11 (.op 12 (.fork 7 13 (.op 13 (.op 14 (.op 15 (.op 16 (.op 17 (.op 18 (.op 19 .done))))))) (.op 7 (.op 14 (.op 15 (.op 16 (.op 17 (.op 18 (.op 19 .done)))))))))))))))))))) (fun x=>Hq w0 (ZX::[row b1 66 [lvB,wvB,.int .i64 hdB,.bool false]]::YB::[row b4 70 [lvS,wvS,.int .i64 hdS,.bool false]]::YS::[row b7 74 [lvA,wvA,.int .i64 hdA,.bool false]]::YA::MM::[]) x) af af (Hq.drew (hA38.q)) ?_
    have hA72:=Hl.drew hA38
    refine kD hF O O O O ae _ (fun x hx=>aV O O) (fun a hF=>?_)
    refine kD hF O O O O ae _ (fun x hx=>fM (qs := #[(0,.int .i64 ((i:Nat):Int))]) O O (Jv _)) (fun a hF=>?_)
    refine kD hF O O O O ae _ (fun x hx=>aV O O) (fun a hF=>?_)
    refine kD hF O O O O ae _ (fun x hx=>aV O O) (fun a hF=>?_)
    refine kD hF O O O O ae _ (fun x hx=>aY O NV kV rfl rfl i rfl hlt rfl) (fun a hF=>?_)
    refine kD hF O O O O ae _ (fun x hx=>jR O NE O gZ ae rfl (rfl:(⟨_,oe+i*44+2,none⟩:Addr)=⟨_,oe+i*44+2,none⟩)) (fun a hF=>?_)
    refine kD hF O O O O ae _ (fun x hx=>bV (u:= .int .i64 ea.clk) rfl (Hq.sub hx (List.nil_subset _)) O hcce (i*44+2) ag (by rw [Nat.add_assoc]) (mF (k:=2) hte (by rw [List.length_append,aW,he32]; show 2<12+32; decide)) jZ) (fun a hF=>?_)
    refine kD hF O O O O ae _ (fun x hx=>aV O O) (fun a hF=>?_)
    refine kD hF O O O O ae _ (fun x hx=>aV O O) (fun a hF=>?_)
    refine kD hF O O O O ae _ (fun x hx=>aY O NV kV rfl rfl i rfl hlt rfl) (fun a hF=>?_)
    refine kD hF O O O O ae _ (fun x hx=>jR O NE O zV ae rfl (rfl:(⟨_,oe+i*44+12,none⟩:Addr)=⟨_,oe+i*44+12,none⟩)) (fun a hF=>?_)
    refine kD hF O O O O ae _ (fun x hx=>dK (new:=dc ea.eff) rfl (Hq.sub hx (List.nil_subset _)) O hcce (i*44+12) ag (by rw [Nat.add_assoc]) ((rG (k:=12) (m:=32) hte ae).trans (by show (dc ea.eff).take 32=_; exact Ny (by rw [aW,he32]; exact Nv _))) Hm) (fun a hF=>?_)
    refine GU O O O O (fun K hK=>?_) (fun K hK=>?_)
    ·refine jL hF O ae rfl hA72 O (rE lkT) (fun b73 w74 a hb73 hF hA75=>hK _ _ ?_ ?_)
     ·exact (qT hA75)
     refine GR O O O (fun K hK=>kG (qs := #[(0,.agg (dc ea.eff).toArray)]) (cells:=(dc ea.eff).toArray) hF O ae rfl hA75 O (ny he32) (fun b76 w77 a hb76 hF hA78=>hK _ _ (fun _=>?_) ?_))
     ·exact Hp.qp [[row b76 29 (dc ea.eff)],[row b73 9 [aj lkT]],ZX,[row b1 66 [lvB,wvB,.int .i64 hdB,.bool false]],YB,[row b4 70 [lvS,wvS,.int .i64 hdS,.bool false]],YS,[row b7 74 [lvA,wvA,.int .i64 hdA,.bool false]],YA,MM] [] [2,3,4,5,6,7,8,9] hA78
     refine GR O O O (fun K hK=>ay hF O ae Jg rfl rfl ?_)
     with_reducible refine (um (G:=[[row b73 9 [aj lkT]],[row b76 29 (dc ea.eff)]]) ((i:Nat):Int) ea.clk (some ⟨b73,0,none⟩) (some ⟨b76,0,none⟩) ea.eff _ hT he32 (Rc.ofRow (i:=0) (off:=0) rfl rfl) (Rc.ofRow (i:=1) (off:=0) rfl (by rw [List.drop_zero]; exact List.take_length ..)) (List.cons_subset.2 ⟨(Nw _ ((Nu ..))),List.cons_subset.2 ⟨((Nu ..)),List.nil_subset _⟩⟩) hA78).mono ?_
     rintro e' w79 ⟨vY,ZY,Y,rfl,hYl,hZY,hA80⟩
     refine ⟨_,rfl,fun a hF=>hK _ _ (fun _=>?_) ?_⟩
     ·exact Hp.qp [ZY,[row b76 29 (dc ea.eff)],[row b73 9 [aj lkT]],ZX,[row b1 66 [lvB,wvB,.int .i64 hdB,.bool false]],YB,[row b4 70 [lvS,wvS,.int .i64 hdS,.bool false]],YS,[row b7 74 [lvA,wvA,.int .i64 hdA,.bool false]],YA,MM] [] [3,4,5,6,7,8,9,10] hA80
     replace hA80:Hp w0 (ZY::[row b76 29 (dc ea.eff)]::[row b73 9 [aj lkT]]::ZX::[row b1 66 [lvB,wvB,.int .i64 hdB,.bool false]]::YB::[row b4 70 [lvS,wvS,.int .i64 hdS,.bool false]]::YS::[row b7 74 [lvA,wvA,.int .i64 hdA,.bool false]]::YA::MM::[]) w79:=hA80
     refine kD hF O O O O ae _ (fun x hx=>aV O O) (fun a hF=>?_)
     refine kD hF O O O O ae _ (fun x hx=>aN (v:=vY) rfl rfl rfl) (fun a hF=>?_)
     refine kD hF O O O O ae _ (fun x hx=>aN (v:= .int .i64 0) rfl rfl rfl) (fun a hF=>?_)
     refine kD hF O O O O ae _ (fun x hx=>fO O O) (fun a hF=>?_)
     refine Jr hF O O O O ae _ (fO O O) (fun h=>absurd h ae) (fun a hF=>?_)
     refine Ea ?_
     have hA81:Hp w0 (ZY::ZX::[row b1 66 [lvB,wvB,.int .i64 hdB,.bool false]]::YB::[row b4 70 [lvS,wvS,.int .i64 hdS,.bool false]]::YS::[row b7 74 [lvA,wvA,.int .i64 hdA,.bool false]]::YA::MM::[]) w79:=hpS 11 [0,3,4,5,6,7,8,9,10] [1,2] hA80 af
     exact hJ _ _ _ _ _ hYl hZY (hF.keep [0,1,5,6,7,8,9,10,11,12,13] rfl) hA81
    ·refine kG (qs := #[(0,.agg (dc ea.eff).toArray)]) (cells:=(dc ea.eff).toArray) hF O ae rfl hA72 O (ny he32) (fun b82 w83 a hb82 hF hA84=>hK _ _ ?_ ?_)
     ·exact (qT hA84)
     refine GR O O O (fun K hK=>jL hF O ae rfl hA84 O (rE lkT) (fun b85 w86 a hb85 hF hA87=>hK _ _ (fun _=>?_) ?_))
     ·exact Hp.qp [[row b85 9 [aj lkT]],[row b82 29 (dc ea.eff)],ZX,[row b1 66 [lvB,wvB,.int .i64 hdB,.bool false]],YB,[row b4 70 [lvS,wvS,.int .i64 hdS,.bool false]],YS,[row b7 74 [lvA,wvA,.int .i64 hdA,.bool false]],YA,MM] [] [2,3,4,5,6,7,8,9] hA87
     refine GR O O O (fun K hK=>ay hF O ae Jg rfl rfl ?_)
     with_reducible refine (um (G:=[[row b85 9 [aj lkT]],[row b82 29 (dc ea.eff)]]) ((i:Nat):Int) ea.clk (some ⟨b85,0,none⟩) (some ⟨b82,0,none⟩) ea.eff _ hT he32 (Rc.ofRow (i:=0) (off:=0) rfl rfl) (Rc.ofRow (i:=1) (off:=0) rfl (by rw [List.drop_zero]; exact List.take_length ..)) (List.cons_subset.2 ⟨((Nu ..)),List.cons_subset.2 ⟨(Nw _ ((Nu ..))),List.nil_subset _⟩⟩) hA87).mono ?_
     rintro e' w88 ⟨vY,ZY,Y,rfl,hYl,hZY,hA89⟩
     refine ⟨_,rfl,fun a hF=>hK _ _ (fun _=>?_) ?_⟩
     ·exact Hp.qp [ZY,[row b85 9 [aj lkT]],[row b82 29 (dc ea.eff)],ZX,[row b1 66 [lvB,wvB,.int .i64 hdB,.bool false]],YB,[row b4 70 [lvS,wvS,.int .i64 hdS,.bool false]],YS,[row b7 74 [lvA,wvA,.int .i64 hdA,.bool false]],YA,MM] [] [3,4,5,6,7,8,9,10] hA89
     replace hA89:Hp w0 (ZY::[row b85 9 [aj lkT]]::[row b82 29 (dc ea.eff)]::ZX::[row b1 66 [lvB,wvB,.int .i64 hdB,.bool false]]::YB::[row b4 70 [lvS,wvS,.int .i64 hdS,.bool false]]::YS::[row b7 74 [lvA,wvA,.int .i64 hdA,.bool false]]::YA::MM::[]) w88:=hA89
     refine kD hF O O O O ae _ (fun x hx=>aV O O) (fun a hF=>?_)
     refine kD hF O O O O ae _ (fun x hx=>aN (v:=vY) rfl rfl rfl) (fun a hF=>?_)
     refine kD hF O O O O ae _ (fun x hx=>aN (v:= .int .i64 0) rfl rfl rfl) (fun a hF=>?_)
     refine kD hF O O O O ae _ (fun x hx=>fO O O) (fun a hF=>?_)
     refine Jr hF O O O O ae _ (fO O O) (fun h=>absurd h ae) (fun a hF=>?_)
     refine Ea ?_
     have hA90:Hp w0 (ZY::ZX::[row b1 66 [lvB,wvB,.int .i64 hdB,.bool false]]::YB::[row b4 70 [lvS,wvS,.int .i64 hdS,.bool false]]::YS::[row b7 74 [lvA,wvA,.int .i64 hdA,.bool false]]::YA::MM::[]) w88:=hpS 11 [0,3,4,5,6,7,8,9,10] [1,2] hA89 af
     exact hJ _ _ _ _ _ hYl hZY (hF.keep [0,1,5,6,7,8,9,10,11,12,13] rfl) hA90
   ·refine au hF O (dE ag) ?_
    have hEl:=Ig ea.ev
    apply wp_exit
    refine hK13 _ _ ?_
    refine wS hF fun K31 hK31=>vX O<|vX O<|vV O (aY O NV kV rfl rfl i rfl hlt rfl)<|vV O (dK (new:=ea.cells) rfl (Hq.sub hA28.q (List.nil_subset _)) O hcce (i*44) hlee rfl hte Hg) fun a hF=>?_
    refine ax O (fun K hK=>ay hF O ae Jk rfl rfl ?_)
    with_reducible refine (iY ea _ hT heV (List.nil_subset _) hA28).mono ?_
    rintro e' w91 ⟨vE1,ZE1,rfl,hZE1,hA92⟩
    refine ⟨_,rfl,fun a hF=>hK _ _ ?_⟩
    replace hA92:Hp w0 (ZE1::[row b1 66 [lvB,wvB,.int .i64 hdB,.bool false]]::YB::[row b4 70 [lvS,wvS,.int .i64 hdS,.bool false]]::YS::[row b7 74 [lvA,wvA,.int .i64 hdA,.bool false]]::YA::MM::[]) w91:=hA92
    obtain ⟨_,AE1,cE1,rfl,hcE1,hRE1⟩:=hZE1.rd (w0:=w0) (R:=[ZE1]) (Nu ..)
    obtain ⟨_,_,_,hle1,hlf1⟩:=hZE1.cap
    refine vR hF<|vX O<|vV O (aN (v:= .slice AE1 ((dV ea.ev).length) cE1) rfl rfl rfl)<|vV O (aN (v:= .int .i64 ((eY ea.ev:Nat):Int)) O O O)<|vX O<|vX O<|vE hK31<|wT fun K32 hK32=>vX O<|vX O<|vV O (aY O NV kV rfl rfl i rfl hlt rfl)<|vV O (dK (new:=ea.cells) rfl (Hq.sub hA92.q (List.nil_subset _)) O hcce (i*44) hlee rfl hte Hg) fun a hF=>?_
    refine ax O (fun K hK=>ay hF O ae Jk rfl rfl ?_)
    with_reducible refine (iY ea _ hT heV (List.nil_subset _) hA92).mono ?_
    rintro e' w93 ⟨vE2,ZE2,rfl,hZE2,hA94⟩
    refine ⟨_,rfl,fun a hF=>hK _ _ ?_⟩
    replace hA94:Hp w0 (ZE2::ZE1::[row b1 66 [lvB,wvB,.int .i64 hdB,.bool false]]::YB::[row b4 70 [lvS,wvS,.int .i64 hdS,.bool false]]::YS::[row b7 74 [lvA,wvA,.int .i64 hdA,.bool false]]::YA::MM::[]) w93:=hA94
    obtain ⟨_,AE2,cE2,rfl,hcE2,hRE2⟩:=hZE2.rd (w0:=w0) (R:=[ZE2]) (Nu ..)
    obtain ⟨_,_,_,hle2,hlf2⟩:=hZE2.cap
    refine vR hF<|vX O<|vV O (aN (v:= .slice AE2 ((dV ea.ev).length) cE2) rfl rfl rfl)<|vV O (aN (v:= .int .i64 ((eY ea.ev:Nat):Int)) O O O)<|vX O<|vX O<|vE hK32<|wT fun K33 hK33=>vX O<|vX O fun a hF=>?_
    have hA95:Hp w0 (ZE1::[row b1 66 [lvB,wvB,.int .i64 hdB,.bool false]]::YB::ZE2::[row b4 70 [lvS,wvS,.int .i64 hdS,.bool false]]::YS::[row b7 74 [lvA,wvA,.int .i64 hdA,.bool false]]::YA::MM::[]) w93:=hpO 9 [1,2,3,0,4,5,6,7,8] hA94 rfl
    refine ax O (fun K hK=>ay hF O ae kJ rfl rfl ?_)
    with_reducible refine (iD w0 _ (ZE2::[row b4 70 [lvS,wvS,.int .i64 hdS,.bool false]]::YS::[row b7 74 [lvA,wvA,.int .i64 hdA,.bool false]]::YA::MM::[]) b1 ksB YB ZE1 (.slice AE1 (dV ea.ev).length cE1) (dV ea.ev) hbB (by rw [← lV]; exact hZE1) (fun _ _=>rfl) ag ag hA95).mono ?_
    rintro e' w96 ⟨ksB,lvB,wvB,hdB,YB,DD3,rfl,hbB,hin3,hDD3,hA97⟩
    refine ⟨_,rfl,fun a hF=>hK _ _ ?_⟩
    replace hA97:Hp w0 ([row b1 66 [lvB,wvB,.int .i64 hdB,.bool false]]::YB::DD3::ZE2::[row b4 70 [lvS,wvS,.int .i64 hdS,.bool false]]::YS::[row b7 74 [lvA,wvA,.int .i64 hdA,.bool false]]::YA::MM::[]) w96:=hA97
    refine aH<|hK33 _ _ ?_
    refine wS hF fun K34 hK34=>vX O fun a hF=>?_
    have hA98:Hp w0 (([]:Seg)::[row b1 66 [lvB,wvB,.int .i64 hdB,.bool false]]::YB::DD3::ZE2::[row b4 70 [lvS,wvS,.int .i64 hdS,.bool false]]::YS::[row b7 74 [lvA,wvA,.int .i64 hdA,.bool false]]::YA::MM::[]) w96:=Hp.nil hA97
    refine ax O (fun K hK=>cO hF O ae rfl hA98 0 O (Buf.nil 5 1) Nq gQ rfl rfl (Rc.src hRE2 (Hq.sub hA98.q (List.cons_subset.2 ⟨(Nw _ (Nw _ (Nw _ (Nw _ ((Nu ..)))))),List.nil_subset _⟩)) Nq) ag ae (fun vR0 XR0 w99 a hR0 hF hA100=>hK _ _ ?_))
    replace hA100:Hp w0 (XR0::[row b1 66 [lvB,wvB,.int .i64 hdB,.bool false]]::YB::DD3::ZE2::[row b4 70 [lvS,wvS,.int .i64 hdS,.bool false]]::YS::[row b7 74 [lvA,wvA,.int .i64 hdA,.bool false]]::YA::MM::[]) w99:=hA100
    rw [List.nil_append,Nat.zero_add] at hR0
    refine vR hF<|vX O<|vE hK34<|wQ fun K35 hK35=>wT fun K36 hK36=>vX O<|vV O (aF O O O O O)<|vX O fun a hF=>?_
    refine bK (l2:=?lA5) hF [(169,.bool ((aI .neq (((eY ea.ev:Nat):Int)) (0)) && (aI .lss (((i:Nat):Int)) (ps.length)))),(0,.slice (some ⟨be,oe,none⟩) es.length c1),(1,.slice P ps.length cP),(5,.pointer (some ⟨b1,0,none⟩)),(6,.pointer (some ⟨b4,0,none⟩)),(7,.pointer (some ⟨b7,0,none⟩)),(8,.int .i64 ((i:Nat):Int)),(9,.int .i64 ((j:Nat):Int)),(49,.int .i64 ((j:Nat):Int)),(50,.bool (aI .lss (((j:Nat):Int)) (2))),(142,.slice (some ⟨be,oe,none⟩) es.length c1),(143,.int .i64 ((i:Nat):Int)),(145,.agg (ea.cells).toArray),(146,.tuple #[.slice AE1 ((dV ea.ev).length) cE1,.int .i64 ((eY ea.ev:Nat):Int)]),(141,.tuple #[.slice AE1 ((dV ea.ev).length) cE1,.int .i64 ((eY ea.ev:Nat):Int)]),(147,.slice AE1 ((dV ea.ev).length) cE1),(148,.int .i64 ((eY ea.ev:Nat):Int)),(17,.slice AE1 ((dV ea.ev).length) cE1),(18,.int .i64 ((eY ea.ev:Nat):Int)),(150,.slice (some ⟨be,oe,none⟩) es.length c1),(151,.int .i64 ((i:Nat):Int)),(153,.agg (ea.cells).toArray),(154,.tuple #[.slice AE2 ((dV ea.ev).length) cE2,.int .i64 ((eY ea.ev:Nat):Int)]),(149,.tuple #[.slice AE2 ((dV ea.ev).length) cE2,.int .i64 ((eY ea.ev:Nat):Int)]),(155,.slice AE2 ((dV ea.ev).length) cE2),(156,.int .i64 ((eY ea.ev:Nat):Int)),(19,.slice AE2 ((dV ea.ev).length) cE2),(157,.pointer (some ⟨b1,0,none⟩)),(158,.slice AE1 ((dV ea.ev).length) cE1),(160,.slice AE2 ((dV ea.ev).length) cE2),(161,vR0),(21,vR0)] (fun hJ5=>?elA5) (fun a hF=>?flA5)
    case elA5 =>
     rcases tf (aI .neq (((eY ea.ev:Nat):Int)) (0)) with hg5 | hg5
     ·refine az hF O O O O O (aB hg5) ae (fun a hF=>?_)
      refine az hF O O O O O (aB hg5) ae (fun a hF=>?_)
      refine az hF O O O O O (aB hg5) ae (fun a hF=>?_)
      refine az hF O O O O O (aB hg5) ae (fun a hF=>?_)
      refine vR hF<|vV O (bu hg5 rfl rfl rfl) fun a hF=>?_
      exact hJ5 _ ((hF.keep [169,0,1,5,6,7,8,9,49,50,142,143,145,146,141,147,148,17,18,150,151,153,154,149,155,156,19,157,158,160,161,21] (F':=[(169,_),(0,_),(1,_),(5,_),(6,_),(7,_),(8,_),(9,_),(49,_),(50,_),(142,_),(143,_),(145,_),(146,_),(141,_),(147,_),(148,_),(17,_),(18,_),(150,_),(151,_),(153,_),(154,_),(149,_),(155,_),(156,_),(19,_),(157,_),(158,_),(160,_),(161,_),(21,_)]) O).bool (by rw [hg5]; rfl))
     ·refine aJ hF O O O O (ak hg5) ae _ (aV O O) (fun a hF=>?_)
      refine aJ hF O O O O (ak hg5) ae _ (aV O O) (fun a hF=>?_)
      refine aJ hF O O O O (ak hg5) ae _ (aT O NQ O O) (fun a hF=>?_)
      refine aJ hF O O O O (ak hg5) ae _ (aF O O O O O) (fun a hF=>?_)
      refine vR hF<|vV O (bF hg5 rfl rfl rfl) fun a hF=>?_
      exact hJ5 _ ((hF.keep [169,0,1,5,6,7,8,9,49,50,142,143,145,146,141,147,148,17,18,150,151,153,154,149,155,156,19,157,158,160,161,21] (F':=[(169,_),(0,_),(1,_),(5,_),(6,_),(7,_),(8,_),(9,_),(49,_),(50,_),(142,_),(143,_),(145,_),(146,_),(141,_),(147,_),(148,_),(17,_),(18,_),(150,_),(151,_),(153,_),(154,_),(149,_),(155,_),(156,_),(19,_),(157,_),(158,_),(160,_),(161,_),(21,_)]) O).bool (by rw [hg5]; rfl))
    refine aH<|hK36 _ _ ?_
    have hJ3:∀ (a:Act) (x:World) (rx:List UInt8) (qvR0:Value) (XR:Seg),Buf 5 1 XR qvR0 rx.length (dc rx)→(eY ea.ev=0→rx=dV ea.ev)→rx.length≤140737488351232→Fr 286 [(0,.slice (some ⟨be,oe,none⟩) es.length c1),(1,.slice P ps.length cP),(5,.pointer (some ⟨b1,0,none⟩)),(6,.pointer (some ⟨b4,0,none⟩)),(7,.pointer (some ⟨b7,0,none⟩)),(8,.int .i64 ((i:Nat):Int)),(18,.int .i64 ((eY ea.ev:Nat):Int)),(19,.slice AE2 ((dV ea.ev).length) cE2),(21,qvR0)] a→Hp w0 (XR::ZE2::[row b1 66 [lvB,wvB,.int .i64 hdB,.bool false]]::YB::[row b4 70 [lvS,wvS,.int .i64 hdS,.bool false]]::YS::[row b7 74 [lvA,wvA,.int .i64 hdA,.bool false]]::YA::MM::[]) x→K35 a x:=by
     clear hF
     intro a x rx qvR0 XR hRB hrx hrl hF hA
     obtain ⟨_,AW,cW,rfl,hcW,hRW⟩:=hRB.rd (w0:=w0) (R:=[XR]) (Nu ..)
     refine hK35 _ _ ?_
     refine wS hF fun K37 hK37=>vX O fun a hF=>?_
     refine ax O (fun K hK=>ay hF O ae Jj rfl rfl ?_)
     with_reducible refine (ni AW rx cW _ hT hRW (List.cons_subset.2 ⟨((Nu ..)),List.nil_subset _⟩) ag hA).mono ?_
     rintro e' w101 ⟨ez,ZD1,rfl,hevz,⟨hOkz,hOwz⟩,hA102⟩
     refine ⟨_,rfl,fun a hF=>hK _ _ ?_⟩
     replace hA102:Hp w0 (ZD1::XR::ZE2::[row b1 66 [lvB,wvB,.int .i64 hdB,.bool false]]::YB::[row b4 70 [lvS,wvS,.int .i64 hdS,.bool false]]::YS::[row b7 74 [lvA,wvA,.int .i64 hdA,.bool false]]::YA::MM::[]) w101:=hA102
     have hz32:ez.eff.length=32:=hOkz.i.2.2.2.2.2
     refine vR hF<|vX O<|vV O (aN (v:= .agg (ez.cells).toArray) rfl rfl rfl)<|vV O (aN (v:= .int .i64 ((og rx:Nat):Int)) O O O) fun a hF=>?_
     refine ax O (fun K hK=>dC hF O ae rfl hA102 yc (fun b103 w104 a hb103 hF hA105=>hK _ _ ?_))
     refine ax O (fun K hK=>bG (new:=ez.cells) hF O O hA105 O O 0 O (by rw [List.length_append,aW,hz32]; rfl) (fun v hv=>jv (e:=ez) hv) kV (fun w106 hA107=>hK _ _ ?_))
     replace hA107:Hp w0 ([row b103 31 ([.int .i64 ez.op,.int .i64 ez.num,.int .i64 ez.clk,aj ez.typ,aj ez.cas,aj ez.nam,.int .i64 ez.v.v.k,.int .i64 ez.v.v.n,aj ez.v.v.t,.slice ez.v.sA ez.v.v.s.length ez.v.sC,.slice ez.aA ez.args.length ez.aC,.slice ez.bA ez.src.length ez.bC]++dc ez.eff)]::ZD1::XR::ZE2::[row b1 66 [lvB,wvB,.int .i64 hdB,.bool false]]::YB::[row b4 70 [lvS,wvS,.int .i64 hdS,.bool false]]::YS::[row b7 74 [lvA,wvA,.int .i64 hdA,.bool false]]::YA::MM::[]) w106:=hA107
     refine vR hF<|vX O<|vE hK37<|wT fun K38 hK38=>vX O fun a hF=>?_
     refine ax O (fun K hK=>ay hF O ae Jj rfl rfl ?_)
     with_reducible refine (ni AW rx cW _ hT hRW (List.cons_subset.2 ⟨(Nw _ (Nw _ ((Nu ..)))),List.nil_subset _⟩) ag hA107).mono ?_
     rintro e' w108 ⟨ew,ZD2,rfl,hevw,⟨hOkw,hOww⟩,hA109⟩
     refine ⟨_,rfl,fun a hF=>hK _ _ ?_⟩
     replace hA109:Hp w0 (ZD2::[row b103 31 ([.int .i64 ez.op,.int .i64 ez.num,.int .i64 ez.clk,aj ez.typ,aj ez.cas,aj ez.nam,.int .i64 ez.v.v.k,.int .i64 ez.v.v.n,aj ez.v.v.t,.slice ez.v.sA ez.v.v.s.length ez.v.sC,.slice ez.aA ez.args.length ez.aC,.slice ez.bA ez.src.length ez.bC]++dc ez.eff)]::ZD1::XR::ZE2::[row b1 66 [lvB,wvB,.int .i64 hdB,.bool false]]::YB::[row b4 70 [lvS,wvS,.int .i64 hdS,.bool false]]::YS::[row b7 74 [lvA,wvA,.int .i64 hdA,.bool false]]::YA::MM::[]) w108:=hA109
     have hw32:ew.eff.length=32:=hOkw.i.2.2.2.2.2
     refine vR hF<|vX O<|vV O (aN (v:= .agg (ew.cells).toArray) rfl rfl rfl)<|vV O (aN (v:= .int .i64 ((og rx:Nat):Int)) O O O) fun a hF=>?_
     refine ax O (fun K hK=>dC hF O ae rfl hA109 yc (fun b110 w111 a hb110 hF hA112=>hK _ _ ?_))
     refine ax O (fun K hK=>bG (new:=ew.cells) hF O O hA112 O O 0 O (by rw [List.length_append,aW,hw32]; rfl) (fun v hv=>jv (e:=ew) hv) kV (fun w113 hA114=>hK _ _ ?_))
     replace hA114:Hp w0 ([row b110 31 ([.int .i64 ew.op,.int .i64 ew.num,.int .i64 ew.clk,aj ew.typ,aj ew.cas,aj ew.nam,.int .i64 ew.v.v.k,.int .i64 ew.v.v.n,aj ew.v.v.t,.slice ew.v.sA ew.v.v.s.length ew.v.sC,.slice ew.aA ew.args.length ew.aC,.slice ew.bA ew.src.length ew.bC]++dc ew.eff)]::ZD2::[row b103 31 ([.int .i64 ez.op,.int .i64 ez.num,.int .i64 ez.clk,aj ez.typ,aj ez.cas,aj ez.nam,.int .i64 ez.v.v.k,.int .i64 ez.v.v.n,aj ez.v.v.t,.slice ez.v.sA ez.v.v.s.length ez.v.sC,.slice ez.aA ez.args.length ez.aC,.slice ez.bA ez.src.length ez.bC]++dc ez.eff)]::ZD1::XR::ZE2::[row b1 66 [lvB,wvB,.int .i64 hdB,.bool false]]::YB::[row b4 70 [lvS,wvS,.int .i64 hdS,.bool false]]::YS::[row b7 74 [lvA,wvA,.int .i64 hdA,.bool false]]::YA::MM::[]) w113:=hA114
     refine vR hF<|vX O<|vE hK38<|wQ fun K39 hK39=>wT fun K40 hK40=>vX O<|vE hK40<|wBk fun a hF=>?_
     have hA115:Hp w0 (XR::[row b103 31 ([.int .i64 ez.op,.int .i64 ez.num,.int .i64 ez.clk,aj ez.typ,aj ez.cas,aj ez.nam,.int .i64 ez.v.v.k,.int .i64 ez.v.v.n,aj ez.v.v.t,.slice ez.v.sA ez.v.v.s.length ez.v.sC,.slice ez.aA ez.args.length ez.aC,.slice ez.bA ez.src.length ez.bC]++dc ez.eff)]::[row b110 31 ([.int .i64 ew.op,.int .i64 ew.num,.int .i64 ew.clk,aj ew.typ,aj ew.cas,aj ew.nam,.int .i64 ew.v.v.k,.int .i64 ew.v.v.n,aj ew.v.v.t,.slice ew.v.sA ew.v.v.s.length ew.v.sC,.slice ew.aA ew.args.length ew.aC,.slice ew.bA ew.src.length ew.bC]++dc ew.eff)]::ZD1::ZD2::ZE2::[row b1 66 [lvB,wvB,.int .i64 hdB,.bool false]]::YB::[row b4 70 [lvS,wvS,.int .i64 hdS,.bool false]]::YS::[row b7 74 [lvA,wvA,.int .i64 hdA,.bool false]]::YA::MM::[]) w113:=hpO 13 [4,2,0,3,1,5,6,7,8,9,10,11,12] hA114 af
     refine bH (G:=Nat) (fun j a x=>∃ (Wb:List Value) (Zb:Seg),j≤rx.length∧Buf 5 1 Zb (.slice AW rx.length cW) rx.length Wb∧Wb.length=rx.length∧Fr 286 [(26,.int .i64 ((j:Nat):Int)),(0,.slice (some ⟨be,oe,none⟩) es.length c1),(1,.slice P ps.length cP),(5,.pointer (some ⟨b1,0,none⟩)),(6,.pointer (some ⟨b4,0,none⟩)),(7,.pointer (some ⟨b7,0,none⟩)),(8,.int .i64 ((i:Nat):Int)),(18,.int .i64 ((eY ea.ev:Nat):Int)),(19,.slice AE2 ((dV ea.ev).length) cE2),(21,.slice AW rx.length cW),(22,.pointer (some ⟨b103,0,none⟩)),(23,.int .i64 ((og rx:Nat):Int)),(24,.pointer (some ⟨b110,0,none⟩)),(25,.int .i64 ((og rx:Nat):Int))] a∧Hp w0 (Zb::[row b103 31 ([.int .i64 ez.op,.int .i64 ez.num,.int .i64 ez.clk,aj ez.typ,aj ez.cas,aj ez.nam,.int .i64 ez.v.v.k,.int .i64 ez.v.v.n,aj ez.v.v.t,.slice ez.v.sA ez.v.v.s.length ez.v.sC,.slice ez.aA ez.args.length ez.aC,.slice ez.bA ez.src.length ez.bC]++dc ez.eff)]::[row b110 31 ([.int .i64 ew.op,.int .i64 ew.num,.int .i64 ew.clk,aj ew.typ,aj ew.cas,aj ew.nam,.int .i64 ew.v.v.k,.int .i64 ew.v.v.n,aj ew.v.v.t,.slice ew.v.sA ew.v.v.s.length ew.v.sC,.slice ew.aA ew.args.length ew.aC,.slice ew.bA ew.src.length ew.bC]++dc ew.eff)]::ZD1::ZD2::ZE2::[row b1 66 [lvB,wvB,.int .i64 hdB,.bool false]]::YB::[row b4 70 [lvS,wvS,.int .i64 hdS,.bool false]]::YS::[row b7 74 [lvA,wvA,.int .i64 hdA,.bool false]]::YA::MM::[]) x) (fun j=>rx.length-j) 0 (⟨_,_,Nl _,hRB,(aW rx),hF.keep [26,0,1,5,6,7,8,18,19,21,22,23,24,25] rfl,hA115⟩) ?_
     clear hF
     rintro j a w117 ⟨Wb,Zb,hj,hZb,hWl,hF,hA116⟩
     apply wp_seq_k; intro K41 hK41
     refine wS hF fun K42 hK42=>vX O<|vX O<|vV O (aT O Nq O O)<|vV O (aF O O O O O)<|vE hK42 fun a hF=>?_
     by_cases hlt2:j<rx.length
     ·refine aG hF O (dF ag) ?_
      obtain ⟨gv,BV,ZV_,cv,hvv,rfl,_,hO3⟩:=Jm hZb hlt2 (.int .u8 7)
      injection hvv with hv1 hv2 hv3
      have hFn:=hF
      subst hv1 hv3
      have hF:=hFn
      clear hFn
      apply wp_skip
      refine hK41 _ _ ?_
      apply wp_seq_k; intro K43 hK43
      apply wp_block
      refine wp_region_lit ?_
      refine vR hF<|vX O<|vX O<|vV O (aY O Nq uD O O j rfl hlt2 (ad2 _ _ _)) fun a hF=>?_
      refine ax O (fun K hK=>aX hF O O hA116 O O 0 O (by rw [List.length_append,List.length_append,hWl]; omega) rfl uD (fun w118 hA119=>hK _ _ ?_))
      replace hA119:Hp w0 ([row gv 5 ((BV++Wb++ZV_).set (BV.length+j) (.int .u8 7))]::[row b103 31 ([.int .i64 ez.op,.int .i64 ez.num,.int .i64 ez.clk,aj ez.typ,aj ez.cas,aj ez.nam,.int .i64 ez.v.v.k,.int .i64 ez.v.v.n,aj ez.v.v.t,.slice ez.v.sA ez.v.v.s.length ez.v.sC,.slice ez.aA ez.args.length ez.aC,.slice ez.bA ez.src.length ez.bC]++dc ez.eff)]::[row b110 31 ([.int .i64 ew.op,.int .i64 ew.num,.int .i64 ew.clk,aj ew.typ,aj ew.cas,aj ew.nam,.int .i64 ew.v.v.k,.int .i64 ew.v.v.n,aj ew.v.v.t,.slice ew.v.sA ew.v.v.s.length ew.v.sC,.slice ew.aA ew.args.length ew.aC,.slice ew.bA ew.src.length ew.bC]++dc ew.eff)]::ZD1::ZD2::ZE2::[row b1 66 [lvB,wvB,.int .i64 hdB,.bool false]]::YB::[row b4 70 [lvS,wvS,.int .i64 hdS,.bool false]]::YS::[row b7 74 [lvA,wvA,.int .i64 hdA,.bool false]]::YA::MM::[]) w118:=hA119
      refine aH<|hK43 _ _ ?_
      refine wp_region_lit ?_
      refine vR hF<|vX O<|vV O (bT O O O (Np _ ag))<|vX O fun a hF=>?_
      refine aH ?_
      exact ⟨j+1,ag,_,_,ag,hO3,(by rw [List.length_set]; exact hWl),hF.keep [26,0,1,5,6,7,8,18,19,21,22,23,24,25] rfl,hA119⟩
     ·refine au hF O (dE ag) ?_
      apply wp_exit
      refine hK39 _ _ ?_
      apply wp_seq_k; intro K44 hK44
      apply wp_seq_k; intro K45 hK45
      have hA120:Hp w0 ([row b103 31 ([.int .i64 ez.op,.int .i64 ez.num,.int .i64 ez.clk,aj ez.typ,aj ez.cas,aj ez.nam,.int .i64 ez.v.v.k,.int .i64 ez.v.v.n,aj ez.v.v.t,.slice ez.v.sA ez.v.v.s.length ez.v.sC,.slice ez.aA ez.args.length ez.aC,.slice ez.bA ez.src.length ez.bC]++dc ez.eff)]::[row b110 31 ([.int .i64 ew.op,.int .i64 ew.num,.int .i64 ew.clk,aj ew.typ,aj ew.cas,aj ew.nam,.int .i64 ew.v.v.k,.int .i64 ew.v.v.n,aj ew.v.v.t,.slice ew.v.sA ew.v.v.s.length ew.v.sC,.slice ew.aA ew.args.length ew.aC,.slice ew.bA ew.src.length ew.bC]++dc ew.eff)]::ZD1::ZD2::ZE2::[row b1 66 [lvB,wvB,.int .i64 hdB,.bool false]]::YB::[row b4 70 [lvS,wvS,.int .i64 hdS,.bool false]]::YS::[row b7 74 [lvA,wvA,.int .i64 hdA,.bool false]]::YA::MM::[]) w117:=hpS 13 [1,2,3,4,5,6,7,8,9,10,11,12] [0] hA116 af
      have hzw:ez.ev=ew.ev:=by rw [hevz,hevw]
      have hJ4:∀ (a:Act) (x:World),Fr 286 [(0,.slice (some ⟨be,oe,none⟩) es.length c1),(1,.slice P ps.length cP),(5,.pointer (some ⟨b1,0,none⟩)),(6,.pointer (some ⟨b4,0,none⟩)),(7,.pointer (some ⟨b7,0,none⟩)),(8,.int .i64 ((i:Nat):Int)),(19,.slice AE2 ((dV ea.ev).length) cE2),(22,.pointer (some ⟨b103,0,none⟩)),(24,.pointer (some ⟨b110,0,none⟩)),(214,.bool false)] a→Hp w0 ([row b103 31 ([.int .i64 ez.op,.int .i64 ez.num,.int .i64 ez.clk,aj ez.typ,aj ez.cas,aj ez.nam,.int .i64 ez.v.v.k,.int .i64 ez.v.v.n,aj ez.v.v.t,.slice ez.v.sA ez.v.v.s.length ez.v.sC,.slice ez.aA ez.args.length ez.aC,.slice ez.bA ez.src.length ez.bC]++dc ez.eff)]::[row b110 31 ([.int .i64 ew.op,.int .i64 ew.num,.int .i64 ew.clk,aj ew.typ,aj ew.cas,aj ew.nam,.int .i64 ew.v.v.k,.int .i64 ew.v.v.n,aj ew.v.v.t,.slice ew.v.sA ew.v.v.s.length ew.v.sC,.slice ew.aA ew.args.length ew.aC,.slice ew.bA ew.src.length ew.bC]++dc ew.eff)]::ZD1::ZD2::ZE2::[row b1 66 [lvB,wvB,.int .i64 hdB,.bool false]]::YB::[row b4 70 [lvS,wvS,.int .i64 hdS,.bool false]]::YS::[row b7 74 [lvA,wvA,.int .i64 hdA,.bool false]]::YA::MM::[]) x→K45 a x:=by
       clear hF
       intro a x hF hA
       refine hK45 _ _ ?_
       refine dn hF O ?_
       apply wp_skip
       refine hK44 _ _ ?_
       apply wp_seq_k; intro K46 hK46
       have hSz:=xI hevz
       have hSw:=xI hevw
       have hoz:=hOkz.args
       have how:=hOkw.args
       obtain ⟨ZS1,ZV1,ZA1,ZM1,hzq,hS1,hV1,hA1_,hM1⟩:=hOwz
       obtain ⟨ZS2,ZV2,ZA2,ZM2,hwq,hS2,hV2,hA2_,hM2_⟩:=hOww
       have hlen:ew.args.length=ez.args.length:=by have h9:=congrArg (fun e:Ev=>e.args.length) hzw; simp only [EA.ev,List.length_map] at h9; exact h9.symm
       have hV1b:Buf 9 1 ZV1 (.slice ez.v.sA ez.v.v.s.length ez.v.sC) ez.v.v.s.length (ez.v.v.s.map aj):=hV1
       have hV2b:Buf 9 1 ZV2 (.slice ew.v.sA ew.v.v.s.length ew.v.sC) ew.v.v.s.length (ew.v.v.s.map aj):=hV2
       have hA1b:Buf 25 4 ZA1 (.slice ez.aA ez.args.length ez.aC) ez.args.length (cel VA.cells ez.args):=hA1_
       have hA2b:Buf 25 4 ZA2 (.slice ew.aA ew.args.length ew.aC) ew.args.length (cel VA.cells ew.args):=hA2_
       have hzo1:=hM1.ok hoz
       have hwo1:=hM2_.ok how
       obtain ⟨_,_,e91,_,hRz1⟩:=hA1b.rc (w0:=w0) (R:=[ZA1]) (Nu ..)
       injection e91 with e91 _ _
       subst e91
       obtain ⟨_,_,e92,_,hRw1⟩:=hA2b.rc (w0:=w0) (R:=[ZA2]) (Nu ..)
       injection e92 with e92 _ _
       subst e92
       have hSv1:∀ a∈ez.args,a.v.s.length<8796093022000:=fun a ha=>Nat.lt_of_le_of_lt (hSz.2.2.1 a ha) ae
       have hvw:ez.args.map VA.v=ew.args.map VA.v:=by have h9:=congrArg Ev.args hzw; exact h9
       rw [hzq,hwq] at hA
       have hA121:Hp w0 ([row b103 31 ([.int .i64 ez.op,.int .i64 ez.num,.int .i64 ez.clk,aj ez.typ,aj ez.cas,aj ez.nam,.int .i64 ez.v.v.k,.int .i64 ez.v.v.n,aj ez.v.v.t,.slice ez.v.sA ez.v.v.s.length ez.v.sC,.slice ez.aA ez.args.length ez.aC,.slice ez.bA ez.src.length ez.bC]++dc ez.eff)]::[row b110 31 ([.int .i64 ew.op,.int .i64 ew.num,.int .i64 ew.clk,aj ew.typ,aj ew.cas,aj ew.nam,.int .i64 ew.v.v.k,.int .i64 ew.v.v.n,aj ew.v.v.t,.slice ew.v.sA ew.v.v.s.length ew.v.sC,.slice ew.aA ew.args.length ew.aC,.slice ew.bA ew.src.length ew.bC]++dc ew.eff)]::ZS1::ZV1::ZA1::ZM1::(ZS2++(ZV2++(ZA2++ZM2)))::ZE2::[row b1 66 [lvB,wvB,.int .i64 hdB,.bool false]]::YB::[row b4 70 [lvS,wvS,.int .i64 hdS,.bool false]]::YS::[row b7 74 [lvA,wvA,.int .i64 hdA,.bool false]]::YA::MM::[]) x:=hA.cast (by simp [List.append_assoc])
       have hA122:Hp w0 ([row b103 31 ([.int .i64 ez.op,.int .i64 ez.num,.int .i64 ez.clk,aj ez.typ,aj ez.cas,aj ez.nam,.int .i64 ez.v.v.k,.int .i64 ez.v.v.n,aj ez.v.v.t,.slice ez.v.sA ez.v.v.s.length ez.v.sC,.slice ez.aA ez.args.length ez.aC,.slice ez.bA ez.src.length ez.bC]++dc ez.eff)]::[row b110 31 ([.int .i64 ew.op,.int .i64 ew.num,.int .i64 ew.clk,aj ew.typ,aj ew.cas,aj ew.nam,.int .i64 ew.v.v.k,.int .i64 ew.v.v.n,aj ew.v.v.t,.slice ew.v.sA ew.v.v.s.length ew.v.sC,.slice ew.aA ew.args.length ew.aC,.slice ew.bA ew.src.length ew.bC]++dc ew.eff)]::ZS1::ZV1::ZA1::ZM1::ZS2::ZV2::ZA2::ZM2::ZE2::[row b1 66 [lvB,wvB,.int .i64 hdB,.bool false]]::YB::[row b4 70 [lvS,wvS,.int .i64 hdS,.bool false]]::YS::[row b7 74 [lvA,wvA,.int .i64 hdA,.bool false]]::YA::MM::[]) x:=hA121.cast (by simp [List.append_assoc])
       obtain ⟨hSz1,hSz2,hSz3,hSz4⟩:=hSz
       obtain ⟨hSw1,hSw2,hSw3,hSw4⟩:=hSw
       refine wp_region_lit ?_
       refine vR hF<|vX O<|vX O fun a hF=>?_
       have hA123:Hp w0 (ZE2::[row b1 66 [lvB,wvB,.int .i64 hdB,.bool false]]::YB::[row b103 31 ([.int .i64 ez.op,.int .i64 ez.num,.int .i64 ez.clk,aj ez.typ,aj ez.cas,aj ez.nam,.int .i64 ez.v.v.k,.int .i64 ez.v.v.n,aj ez.v.v.t,.slice ez.v.sA ez.v.v.s.length ez.v.sC,.slice ez.aA ez.args.length ez.aC,.slice ez.bA ez.src.length ez.bC]++dc ez.eff)]::[row b110 31 ([.int .i64 ew.op,.int .i64 ew.num,.int .i64 ew.clk,aj ew.typ,aj ew.cas,aj ew.nam,.int .i64 ew.v.v.k,.int .i64 ew.v.v.n,aj ew.v.v.t,.slice ew.v.sA ew.v.v.s.length ew.v.sC,.slice ew.aA ew.args.length ew.aC,.slice ew.bA ew.src.length ew.bC]++dc ew.eff)]::ZS1::ZV1::ZA1::ZM1::ZS2::ZV2::ZA2::ZM2::[row b4 70 [lvS,wvS,.int .i64 hdS,.bool false]]::YS::[row b7 74 [lvA,wvA,.int .i64 hdA,.bool false]]::YA::MM::[]) x:=hpO 18 [10,11,12,0,1,2,3,4,5,6,7,8,9,13,14,15,16,17] hA122 af
       refine ax O (fun K hK=>ay hF O ae kJ rfl rfl ?_)
       with_reducible refine (iD w0 _ ([row b103 31 ([.int .i64 ez.op,.int .i64 ez.num,.int .i64 ez.clk,aj ez.typ,aj ez.cas,aj ez.nam,.int .i64 ez.v.v.k,.int .i64 ez.v.v.n,aj ez.v.v.t,.slice ez.v.sA ez.v.v.s.length ez.v.sC,.slice ez.aA ez.args.length ez.aC,.slice ez.bA ez.src.length ez.bC]++dc ez.eff)]::[row b110 31 ([.int .i64 ew.op,.int .i64 ew.num,.int .i64 ew.clk,aj ew.typ,aj ew.cas,aj ew.nam,.int .i64 ew.v.v.k,.int .i64 ew.v.v.n,aj ew.v.v.t,.slice ew.v.sA ew.v.v.s.length ew.v.sC,.slice ew.aA ew.args.length ew.aC,.slice ew.bA ew.src.length ew.bC]++dc ew.eff)]::ZS1::ZV1::ZA1::ZM1::ZS2::ZV2::ZA2::ZM2::[row b4 70 [lvS,wvS,.int .i64 hdS,.bool false]]::YS::[row b7 74 [lvA,wvA,.int .i64 hdA,.bool false]]::YA::MM::[]) b1 ksB YB ZE2 (.slice AE2 (dV ea.ev).length cE2) (dV ea.ev) hbB (by rw [← lV]; exact hZE2) (fun _ _=>rfl) ag ag hA123).mono ?_
       rintro e' w124 ⟨ksB,lvB,wvB,hdB,YB,DD4,rfl,hbB,hin4,hDD4,hA125⟩
       refine ⟨_,rfl,fun a hF=>hK _ _ ?_⟩
       replace hA125:Hp w0 ([row b1 66 [lvB,wvB,.int .i64 hdB,.bool false]]::YB::DD4::[row b103 31 ([.int .i64 ez.op,.int .i64 ez.num,.int .i64 ez.clk,aj ez.typ,aj ez.cas,aj ez.nam,.int .i64 ez.v.v.k,.int .i64 ez.v.v.n,aj ez.v.v.t,.slice ez.v.sA ez.v.v.s.length ez.v.sC,.slice ez.aA ez.args.length ez.aC,.slice ez.bA ez.src.length ez.bC]++dc ez.eff)]::[row b110 31 ([.int .i64 ew.op,.int .i64 ew.num,.int .i64 ew.clk,aj ew.typ,aj ew.cas,aj ew.nam,.int .i64 ew.v.v.k,.int .i64 ew.v.v.n,aj ew.v.v.t,.slice ew.v.sA ew.v.v.s.length ew.v.sC,.slice ew.aA ew.args.length ew.aC,.slice ew.bA ew.src.length ew.bC]++dc ew.eff)]::ZS1::ZV1::ZA1::ZM1::ZS2::ZV2::ZA2::ZM2::[row b4 70 [lvS,wvS,.int .i64 hdS,.bool false]]::YS::[row b7 74 [lvA,wvA,.int .i64 hdA,.bool false]]::YA::MM::[]) w124:=hA125
       refine aH<|hK46 _ _ ?_
       refine wS hF fun K47 hK47=>vX O<|vV O (yf 11 rfl NE O dP O)<|vV O (aU O hA125.q O 3 O O jr) fun a hF=>?_
       have hA126:Hp w0 (ZS1::[row b1 66 [lvB,wvB,.int .i64 hdB,.bool false]]::YB::DD4::[row b103 31 ([.int .i64 ez.op,.int .i64 ez.num,.int .i64 ez.clk,aj ez.typ,aj ez.cas,aj ez.nam,.int .i64 ez.v.v.k,.int .i64 ez.v.v.n,aj ez.v.v.t,.slice ez.v.sA ez.v.v.s.length ez.v.sC,.slice ez.aA ez.args.length ez.aC,.slice ez.bA ez.src.length ez.bC]++dc ez.eff)]::[row b110 31 ([.int .i64 ew.op,.int .i64 ew.num,.int .i64 ew.clk,aj ew.typ,aj ew.cas,aj ew.nam,.int .i64 ew.v.v.k,.int .i64 ew.v.v.n,aj ew.v.v.t,.slice ew.v.sA ew.v.v.s.length ew.v.sC,.slice ew.aA ew.args.length ew.aC,.slice ew.bA ew.src.length ew.bC]++dc ew.eff)]::ZV1::ZA1::ZM1::ZS2::ZV2::ZA2::ZM2::[row b4 70 [lvS,wvS,.int .i64 hdS,.bool false]]::YS::[row b7 74 [lvA,wvA,.int .i64 hdA,.bool false]]::YA::MM::[]) w124:=hpO 18 [5,0,1,2,3,4,6,7,8,9,10,11,12,13,14,15,16,17] hA125 af
       refine ax O (fun K hK=>ay hF O ae kJ rfl rfl ?_)
       with_reducible refine (iD w0 _ (DD4::[row b103 31 ([.int .i64 ez.op,.int .i64 ez.num,.int .i64 ez.clk,aj ez.typ,aj ez.cas,aj ez.nam,.int .i64 ez.v.v.k,.int .i64 ez.v.v.n,aj ez.v.v.t,.slice ez.v.sA ez.v.v.s.length ez.v.sC,.slice ez.aA ez.args.length ez.aC,.slice ez.bA ez.src.length ez.bC]++dc ez.eff)]::[row b110 31 ([.int .i64 ew.op,.int .i64 ew.num,.int .i64 ew.clk,aj ew.typ,aj ew.cas,aj ew.nam,.int .i64 ew.v.v.k,.int .i64 ew.v.v.n,aj ew.v.v.t,.slice ew.v.sA ew.v.v.s.length ew.v.sC,.slice ew.aA ew.args.length ew.aC,.slice ew.bA ew.src.length ew.bC]++dc ew.eff)]::ZV1::ZA1::ZM1::ZS2::ZV2::ZA2::ZM2::[row b4 70 [lvS,wvS,.int .i64 hdS,.bool false]]::YS::[row b7 74 [lvA,wvA,.int .i64 hdA,.bool false]]::YA::MM::[]) b1 ksB YB ZS1 (.slice ez.bA ez.src.length ez.bC) ez.src hbB (by rw [← lV]; exact hS1) (fun _ _=>rfl) ag ag hA126).mono ?_
       rintro e' w127 ⟨ksB,lvB,wvB,hdB,YB,DD5,rfl,hbB,hin5,hDD5,hA128⟩
       refine ⟨_,rfl,fun a hF=>hK _ _ ?_⟩
       replace hA128:Hp w0 ([row b1 66 [lvB,wvB,.int .i64 hdB,.bool false]]::YB::DD5::DD4::[row b103 31 ([.int .i64 ez.op,.int .i64 ez.num,.int .i64 ez.clk,aj ez.typ,aj ez.cas,aj ez.nam,.int .i64 ez.v.v.k,.int .i64 ez.v.v.n,aj ez.v.v.t,.slice ez.v.sA ez.v.v.s.length ez.v.sC,.slice ez.aA ez.args.length ez.aC,.slice ez.bA ez.src.length ez.bC]++dc ez.eff)]::[row b110 31 ([.int .i64 ew.op,.int .i64 ew.num,.int .i64 ew.clk,aj ew.typ,aj ew.cas,aj ew.nam,.int .i64 ew.v.v.k,.int .i64 ew.v.v.n,aj ew.v.v.t,.slice ew.v.sA ew.v.v.s.length ew.v.sC,.slice ew.aA ew.args.length ew.aC,.slice ew.bA ew.src.length ew.bC]++dc ew.eff)]::ZV1::ZA1::ZM1::ZS2::ZV2::ZA2::ZM2::[row b4 70 [lvS,wvS,.int .i64 hdS,.bool false]]::YS::[row b7 74 [lvA,wvA,.int .i64 hdA,.bool false]]::YA::MM::[]) w127:=hA128
       refine aH<|hK47 _ _ ?_
       refine wS hF fun K48 hK48=>vX O<|vV O (yf 11 rfl NE O dP O)<|vV O (aU O hA128.q O 5 O O jr) fun a hF=>?_
       have hA129:Hp w0 (ZS2::[row b1 66 [lvB,wvB,.int .i64 hdB,.bool false]]::YB::DD5::DD4::[row b103 31 ([.int .i64 ez.op,.int .i64 ez.num,.int .i64 ez.clk,aj ez.typ,aj ez.cas,aj ez.nam,.int .i64 ez.v.v.k,.int .i64 ez.v.v.n,aj ez.v.v.t,.slice ez.v.sA ez.v.v.s.length ez.v.sC,.slice ez.aA ez.args.length ez.aC,.slice ez.bA ez.src.length ez.bC]++dc ez.eff)]::[row b110 31 ([.int .i64 ew.op,.int .i64 ew.num,.int .i64 ew.clk,aj ew.typ,aj ew.cas,aj ew.nam,.int .i64 ew.v.v.k,.int .i64 ew.v.v.n,aj ew.v.v.t,.slice ew.v.sA ew.v.v.s.length ew.v.sC,.slice ew.aA ew.args.length ew.aC,.slice ew.bA ew.src.length ew.bC]++dc ew.eff)]::ZV1::ZA1::ZM1::ZV2::ZA2::ZM2::[row b4 70 [lvS,wvS,.int .i64 hdS,.bool false]]::YS::[row b7 74 [lvA,wvA,.int .i64 hdA,.bool false]]::YA::MM::[]) w127:=hpO 18 [9,0,1,2,3,4,5,6,7,8,10,11,12,13,14,15,16,17] hA128 af
       refine ax O (fun K hK=>ay hF O ae kJ rfl rfl ?_)
       with_reducible refine (iD w0 _ (DD5::DD4::[row b103 31 ([.int .i64 ez.op,.int .i64 ez.num,.int .i64 ez.clk,aj ez.typ,aj ez.cas,aj ez.nam,.int .i64 ez.v.v.k,.int .i64 ez.v.v.n,aj ez.v.v.t,.slice ez.v.sA ez.v.v.s.length ez.v.sC,.slice ez.aA ez.args.length ez.aC,.slice ez.bA ez.src.length ez.bC]++dc ez.eff)]::[row b110 31 ([.int .i64 ew.op,.int .i64 ew.num,.int .i64 ew.clk,aj ew.typ,aj ew.cas,aj ew.nam,.int .i64 ew.v.v.k,.int .i64 ew.v.v.n,aj ew.v.v.t,.slice ew.v.sA ew.v.v.s.length ew.v.sC,.slice ew.aA ew.args.length ew.aC,.slice ew.bA ew.src.length ew.bC]++dc ew.eff)]::ZV1::ZA1::ZM1::ZV2::ZA2::ZM2::[row b4 70 [lvS,wvS,.int .i64 hdS,.bool false]]::YS::[row b7 74 [lvA,wvA,.int .i64 hdA,.bool false]]::YA::MM::[]) b1 ksB YB ZS2 (.slice ew.bA ew.src.length ew.bC) ew.src hbB (by rw [← lV]; exact hS2) (fun _ _=>rfl) ag ag hA129).mono ?_
       rintro e' w130 ⟨ksB,lvB,wvB,hdB,YB,DD6,rfl,hbB,hin6,hDD6,hA131⟩
       refine ⟨_,rfl,fun a hF=>hK _ _ ?_⟩
       replace hA131:Hp w0 ([row b1 66 [lvB,wvB,.int .i64 hdB,.bool false]]::YB::DD6::DD5::DD4::[row b103 31 ([.int .i64 ez.op,.int .i64 ez.num,.int .i64 ez.clk,aj ez.typ,aj ez.cas,aj ez.nam,.int .i64 ez.v.v.k,.int .i64 ez.v.v.n,aj ez.v.v.t,.slice ez.v.sA ez.v.v.s.length ez.v.sC,.slice ez.aA ez.args.length ez.aC,.slice ez.bA ez.src.length ez.bC]++dc ez.eff)]::[row b110 31 ([.int .i64 ew.op,.int .i64 ew.num,.int .i64 ew.clk,aj ew.typ,aj ew.cas,aj ew.nam,.int .i64 ew.v.v.k,.int .i64 ew.v.v.n,aj ew.v.v.t,.slice ew.v.sA ew.v.v.s.length ew.v.sC,.slice ew.aA ew.args.length ew.aC,.slice ew.bA ew.src.length ew.bC]++dc ew.eff)]::ZV1::ZA1::ZM1::ZV2::ZA2::ZM2::[row b4 70 [lvS,wvS,.int .i64 hdS,.bool false]]::YS::[row b7 74 [lvA,wvA,.int .i64 hdA,.bool false]]::YA::MM::[]) w130:=hA131
       refine aH<|hK48 _ _ ?_
       refine wS hF fun K49 hK49=>vX O<|vV O (yf 6 O NE O nD O)<|vV O (yf 9 O ND O mf O)<|vV O (aU O hA131.q O 5 O O mi) fun a hF=>?_
       have hA132:Hp w0 (ZV1::[row b4 70 [lvS,wvS,.int .i64 hdS,.bool false]]::YS::[row b1 66 [lvB,wvB,.int .i64 hdB,.bool false]]::YB::DD6::DD5::DD4::[row b103 31 ([.int .i64 ez.op,.int .i64 ez.num,.int .i64 ez.clk,aj ez.typ,aj ez.cas,aj ez.nam,.int .i64 ez.v.v.k,.int .i64 ez.v.v.n,aj ez.v.v.t,.slice ez.v.sA ez.v.v.s.length ez.v.sC,.slice ez.aA ez.args.length ez.aC,.slice ez.bA ez.src.length ez.bC]++dc ez.eff)]::[row b110 31 ([.int .i64 ew.op,.int .i64 ew.num,.int .i64 ew.clk,aj ew.typ,aj ew.cas,aj ew.nam,.int .i64 ew.v.v.k,.int .i64 ew.v.v.n,aj ew.v.v.t,.slice ew.v.sA ew.v.v.s.length ew.v.sC,.slice ew.aA ew.args.length ew.aC,.slice ew.bA ew.src.length ew.bC]++dc ew.eff)]::ZA1::ZM1::ZV2::ZA2::ZM2::[row b7 74 [lvA,wvA,.int .i64 hdA,.bool false]]::YA::MM::[]) w130:=hpO 18 [7,13,14,0,1,2,3,4,5,6,8,9,10,11,12,15,16,17] hA131 af
       refine ax O (fun K hK=>ay hF O ae lU rfl rfl ?_)
       with_reducible refine (iy w0 _ ([row b1 66 [lvB,wvB,.int .i64 hdB,.bool false]]::YB::DD6::DD5::DD4::[row b103 31 ([.int .i64 ez.op,.int .i64 ez.num,.int .i64 ez.clk,aj ez.typ,aj ez.cas,aj ez.nam,.int .i64 ez.v.v.k,.int .i64 ez.v.v.n,aj ez.v.v.t,.slice ez.v.sA ez.v.v.s.length ez.v.sC,.slice ez.aA ez.args.length ez.aC,.slice ez.bA ez.src.length ez.bC]++dc ez.eff)]::[row b110 31 ([.int .i64 ew.op,.int .i64 ew.num,.int .i64 ew.clk,aj ew.typ,aj ew.cas,aj ew.nam,.int .i64 ew.v.v.k,.int .i64 ew.v.v.n,aj ew.v.v.t,.slice ew.v.sA ew.v.v.s.length ew.v.sC,.slice ew.aA ew.args.length ew.aC,.slice ew.bA ew.src.length ew.bC]++dc ew.eff)]::ZA1::ZM1::ZV2::ZA2::ZM2::[row b7 74 [lvA,wvA,.int .i64 hdA,.bool false]]::YA::MM::[]) b4 ksS YS ZV1 (.slice ez.v.sA ez.v.v.s.length ez.v.sC) ez.v.v.s hbS (by rw [← jw]; exact hV1b) (fun _ _=>rfl) ag ag hA132).mono ?_
       rintro e' w133 ⟨ksS,lvS,wvS,hdS,YS,DS,rfl,hbS,hinS,hDS,hA134⟩
       refine ⟨_,rfl,fun a hF=>hK _ _ ?_⟩
       replace hA134:Hp w0 ([row b4 70 [lvS,wvS,.int .i64 hdS,.bool false]]::YS::DS::[row b1 66 [lvB,wvB,.int .i64 hdB,.bool false]]::YB::DD6::DD5::DD4::[row b103 31 ([.int .i64 ez.op,.int .i64 ez.num,.int .i64 ez.clk,aj ez.typ,aj ez.cas,aj ez.nam,.int .i64 ez.v.v.k,.int .i64 ez.v.v.n,aj ez.v.v.t,.slice ez.v.sA ez.v.v.s.length ez.v.sC,.slice ez.aA ez.args.length ez.aC,.slice ez.bA ez.src.length ez.bC]++dc ez.eff)]::[row b110 31 ([.int .i64 ew.op,.int .i64 ew.num,.int .i64 ew.clk,aj ew.typ,aj ew.cas,aj ew.nam,.int .i64 ew.v.v.k,.int .i64 ew.v.v.n,aj ew.v.v.t,.slice ew.v.sA ew.v.v.s.length ew.v.sC,.slice ew.aA ew.args.length ew.aC,.slice ew.bA ew.src.length ew.bC]++dc ew.eff)]::ZA1::ZM1::ZV2::ZA2::ZM2::[row b7 74 [lvA,wvA,.int .i64 hdA,.bool false]]::YA::MM::[]) w133:=hA134
       replace hrA:=hrA.mono (o5 hDS)
       have hA135:Hp w0 (DS::MM::[row b4 70 [lvS,wvS,.int .i64 hdS,.bool false]]::YS::[row b1 66 [lvB,wvB,.int .i64 hdB,.bool false]]::YB::DD6::DD5::DD4::[row b103 31 ([.int .i64 ez.op,.int .i64 ez.num,.int .i64 ez.clk,aj ez.typ,aj ez.cas,aj ez.nam,.int .i64 ez.v.v.k,.int .i64 ez.v.v.n,aj ez.v.v.t,.slice ez.v.sA ez.v.v.s.length ez.v.sC,.slice ez.aA ez.args.length ez.aC,.slice ez.bA ez.src.length ez.bC]++dc ez.eff)]::[row b110 31 ([.int .i64 ew.op,.int .i64 ew.num,.int .i64 ew.clk,aj ew.typ,aj ew.cas,aj ew.nam,.int .i64 ew.v.v.k,.int .i64 ew.v.v.n,aj ew.v.v.t,.slice ew.v.sA ew.v.v.s.length ew.v.sC,.slice ew.aA ew.args.length ew.aC,.slice ew.bA ew.src.length ew.bC]++dc ew.eff)]::ZA1::ZM1::ZV2::ZA2::ZM2::[row b7 74 [lvA,wvA,.int .i64 hdA,.bool false]]::YA::[]) w133:=hpO 18 [2,17,0,1,3,4,5,6,7,8,9,10,11,12,13,14,15,16] hA134 af
       have hA136:Hp w0 ((DS++MM)::[row b4 70 [lvS,wvS,.int .i64 hdS,.bool false]]::YS::[row b1 66 [lvB,wvB,.int .i64 hdB,.bool false]]::YB::DD6::DD5::DD4::[row b103 31 ([.int .i64 ez.op,.int .i64 ez.num,.int .i64 ez.clk,aj ez.typ,aj ez.cas,aj ez.nam,.int .i64 ez.v.v.k,.int .i64 ez.v.v.n,aj ez.v.v.t,.slice ez.v.sA ez.v.v.s.length ez.v.sC,.slice ez.aA ez.args.length ez.aC,.slice ez.bA ez.src.length ez.bC]++dc ez.eff)]::[row b110 31 ([.int .i64 ew.op,.int .i64 ew.num,.int .i64 ew.clk,aj ew.typ,aj ew.cas,aj ew.nam,.int .i64 ew.v.v.k,.int .i64 ew.v.v.n,aj ew.v.v.t,.slice ew.v.sA ew.v.v.s.length ew.v.sC,.slice ew.aA ew.args.length ew.aC,.slice ew.bA ew.src.length ew.bC]++dc ew.eff)]::ZA1::ZM1::ZV2::ZA2::ZM2::[row b7 74 [lvA,wvA,.int .i64 hdA,.bool false]]::YA::[]) w133:=Hp.join hA135
       obtain ⟨M2,hM2⟩:∃ q:Seg,q=DS++MM:=⟨_,rfl⟩
       rw [← hM2] at hrA hA136
       clear hM2
       refine aH<|hK49 _ _ ?_
       refine wS hF fun K50 hK50=>vX O<|vV O (yf 6 O NE O nD O)<|vV O (yf 9 O ND O mf O)<|vV O (aU O hA136.q O 9 O O mi) fun a hF=>?_
       have hA137:Hp w0 (ZV2::[row b4 70 [lvS,wvS,.int .i64 hdS,.bool false]]::YS::M2::[row b1 66 [lvB,wvB,.int .i64 hdB,.bool false]]::YB::DD6::DD5::DD4::[row b103 31 ([.int .i64 ez.op,.int .i64 ez.num,.int .i64 ez.clk,aj ez.typ,aj ez.cas,aj ez.nam,.int .i64 ez.v.v.k,.int .i64 ez.v.v.n,aj ez.v.v.t,.slice ez.v.sA ez.v.v.s.length ez.v.sC,.slice ez.aA ez.args.length ez.aC,.slice ez.bA ez.src.length ez.bC]++dc ez.eff)]::[row b110 31 ([.int .i64 ew.op,.int .i64 ew.num,.int .i64 ew.clk,aj ew.typ,aj ew.cas,aj ew.nam,.int .i64 ew.v.v.k,.int .i64 ew.v.v.n,aj ew.v.v.t,.slice ew.v.sA ew.v.v.s.length ew.v.sC,.slice ew.aA ew.args.length ew.aC,.slice ew.bA ew.src.length ew.bC]++dc ew.eff)]::ZA1::ZM1::ZA2::ZM2::[row b7 74 [lvA,wvA,.int .i64 hdA,.bool false]]::YA::[]) w133:=hpO 17 [12,1,2,0,3,4,5,6,7,8,9,10,11,13,14,15,16] hA136 af
       refine ax O (fun K hK=>ay hF O ae lU rfl rfl ?_)
       with_reducible refine (iy w0 _ (M2::[row b1 66 [lvB,wvB,.int .i64 hdB,.bool false]]::YB::DD6::DD5::DD4::[row b103 31 ([.int .i64 ez.op,.int .i64 ez.num,.int .i64 ez.clk,aj ez.typ,aj ez.cas,aj ez.nam,.int .i64 ez.v.v.k,.int .i64 ez.v.v.n,aj ez.v.v.t,.slice ez.v.sA ez.v.v.s.length ez.v.sC,.slice ez.aA ez.args.length ez.aC,.slice ez.bA ez.src.length ez.bC]++dc ez.eff)]::[row b110 31 ([.int .i64 ew.op,.int .i64 ew.num,.int .i64 ew.clk,aj ew.typ,aj ew.cas,aj ew.nam,.int .i64 ew.v.v.k,.int .i64 ew.v.v.n,aj ew.v.v.t,.slice ew.v.sA ew.v.v.s.length ew.v.sC,.slice ew.aA ew.args.length ew.aC,.slice ew.bA ew.src.length ew.bC]++dc ew.eff)]::ZA1::ZM1::ZA2::ZM2::[row b7 74 [lvA,wvA,.int .i64 hdA,.bool false]]::YA::[]) b4 ksS YS ZV2 (.slice ew.v.sA ew.v.v.s.length ew.v.sC) ew.v.v.s hbS (by rw [← jw]; exact hV2b) (fun _ _=>rfl) ag ag hA137).mono ?_
       rintro e' w138 ⟨ksS,lvS,wvS,hdS,YS,DS,rfl,hbS,hinS,hDS,hA139⟩
       refine ⟨_,rfl,fun a hF=>hK _ _ ?_⟩
       replace hA139:Hp w0 ([row b4 70 [lvS,wvS,.int .i64 hdS,.bool false]]::YS::DS::M2::[row b1 66 [lvB,wvB,.int .i64 hdB,.bool false]]::YB::DD6::DD5::DD4::[row b103 31 ([.int .i64 ez.op,.int .i64 ez.num,.int .i64 ez.clk,aj ez.typ,aj ez.cas,aj ez.nam,.int .i64 ez.v.v.k,.int .i64 ez.v.v.n,aj ez.v.v.t,.slice ez.v.sA ez.v.v.s.length ez.v.sC,.slice ez.aA ez.args.length ez.aC,.slice ez.bA ez.src.length ez.bC]++dc ez.eff)]::[row b110 31 ([.int .i64 ew.op,.int .i64 ew.num,.int .i64 ew.clk,aj ew.typ,aj ew.cas,aj ew.nam,.int .i64 ew.v.v.k,.int .i64 ew.v.v.n,aj ew.v.v.t,.slice ew.v.sA ew.v.v.s.length ew.v.sC,.slice ew.aA ew.args.length ew.aC,.slice ew.bA ew.src.length ew.bC]++dc ew.eff)]::ZA1::ZM1::ZA2::ZM2::[row b7 74 [lvA,wvA,.int .i64 hdA,.bool false]]::YA::[]) w138:=hA139
       replace hrA:=hrA.mono (o5 hDS)
       have hA140:Hp w0 (DS::M2::[row b4 70 [lvS,wvS,.int .i64 hdS,.bool false]]::YS::[row b1 66 [lvB,wvB,.int .i64 hdB,.bool false]]::YB::DD6::DD5::DD4::[row b103 31 ([.int .i64 ez.op,.int .i64 ez.num,.int .i64 ez.clk,aj ez.typ,aj ez.cas,aj ez.nam,.int .i64 ez.v.v.k,.int .i64 ez.v.v.n,aj ez.v.v.t,.slice ez.v.sA ez.v.v.s.length ez.v.sC,.slice ez.aA ez.args.length ez.aC,.slice ez.bA ez.src.length ez.bC]++dc ez.eff)]::[row b110 31 ([.int .i64 ew.op,.int .i64 ew.num,.int .i64 ew.clk,aj ew.typ,aj ew.cas,aj ew.nam,.int .i64 ew.v.v.k,.int .i64 ew.v.v.n,aj ew.v.v.t,.slice ew.v.sA ew.v.v.s.length ew.v.sC,.slice ew.aA ew.args.length ew.aC,.slice ew.bA ew.src.length ew.bC]++dc ew.eff)]::ZA1::ZM1::ZA2::ZM2::[row b7 74 [lvA,wvA,.int .i64 hdA,.bool false]]::YA::[]) w138:=hpO 17 [2,3,0,1,4,5,6,7,8,9,10,11,12,13,14,15,16] hA139 af
       have hA141:Hp w0 ((DS++M2)::[row b4 70 [lvS,wvS,.int .i64 hdS,.bool false]]::YS::[row b1 66 [lvB,wvB,.int .i64 hdB,.bool false]]::YB::DD6::DD5::DD4::[row b103 31 ([.int .i64 ez.op,.int .i64 ez.num,.int .i64 ez.clk,aj ez.typ,aj ez.cas,aj ez.nam,.int .i64 ez.v.v.k,.int .i64 ez.v.v.n,aj ez.v.v.t,.slice ez.v.sA ez.v.v.s.length ez.v.sC,.slice ez.aA ez.args.length ez.aC,.slice ez.bA ez.src.length ez.bC]++dc ez.eff)]::[row b110 31 ([.int .i64 ew.op,.int .i64 ew.num,.int .i64 ew.clk,aj ew.typ,aj ew.cas,aj ew.nam,.int .i64 ew.v.v.k,.int .i64 ew.v.v.n,aj ew.v.v.t,.slice ew.v.sA ew.v.v.s.length ew.v.sC,.slice ew.aA ew.args.length ew.aC,.slice ew.bA ew.src.length ew.bC]++dc ew.eff)]::ZA1::ZM1::ZA2::ZM2::[row b7 74 [lvA,wvA,.int .i64 hdA,.bool false]]::YA::[]) w138:=Hp.join hA140
       obtain ⟨M2,hM2⟩:∃ q:Seg,q=DS++M2:=⟨_,rfl⟩
       rw [← hM2] at hrA hA141
       clear hM2
       refine aH<|hK50 _ _ ?_
       apply wp_seq_k; intro K51 hK51
       have hA142:Hp w0 ([row b103 31 ([.int .i64 ez.op,.int .i64 ez.num,.int .i64 ez.clk,aj ez.typ,aj ez.cas,aj ez.nam,.int .i64 ez.v.v.k,.int .i64 ez.v.v.n,aj ez.v.v.t,.slice ez.v.sA ez.v.v.s.length ez.v.sC,.slice ez.aA ez.args.length ez.aC,.slice ez.bA ez.src.length ez.bC]++dc ez.eff)]::[row b110 31 ([.int .i64 ew.op,.int .i64 ew.num,.int .i64 ew.clk,aj ew.typ,aj ew.cas,aj ew.nam,.int .i64 ew.v.v.k,.int .i64 ew.v.v.n,aj ew.v.v.t,.slice ew.v.sA ew.v.v.s.length ew.v.sC,.slice ew.aA ew.args.length ew.aC,.slice ew.bA ew.src.length ew.bC]++dc ew.eff)]::ZA1::ZM1::ZA2::ZM2::[row b1 66 [lvB,wvB,.int .i64 hdB,.bool false]]::YB::[row b4 70 [lvS,wvS,.int .i64 hdS,.bool false]]::YS::[row b7 74 [lvA,wvA,.int .i64 hdA,.bool false]]::YA::M2::[]) w138:=hpS 16 [8,9,10,11,12,13,3,4,1,2,14,15,0] [5,6,7] hA141 af
       refine aQ 6 [5,6] [0,1,2,3,4,5,6] _ af af (Hq.drew hA142.q) ?_
       have hA143:=Hl.drew hA142
       refine pR hF<|pX O O<|pW O O (fun _=>yf 10 rfl NE O uF O)<|pV O O (fun x hx=>aU O hx O 0 O O uY)<|pW O O (fun _=>yf 10 rfl NE O uF O)<|pV O O (fun x hx=>aU O hx O 0 O O uY) fun a hF=>?_
       refine fG O O O (fun K hK=>ay hF O ae yz rfl rfl ?_)
       with_reducible refine (ug (R:=([row b103 31 ([.int .i64 ez.op,.int .i64 ez.num,.int .i64 ez.clk,aj ez.typ,aj ez.cas,aj ez.nam,.int .i64 ez.v.v.k,.int .i64 ez.v.v.n,aj ez.v.v.t,.slice ez.v.sA ez.v.v.s.length ez.v.sC,.slice ez.aA ez.args.length ez.aC,.slice ez.bA ez.src.length ez.bC]++dc ez.eff)]::[row b110 31 ([.int .i64 ew.op,.int .i64 ew.num,.int .i64 ew.clk,aj ew.typ,aj ew.cas,aj ew.nam,.int .i64 ew.v.v.k,.int .i64 ew.v.v.n,aj ew.v.v.t,.slice ew.v.sA ew.v.v.s.length ew.v.sC,.slice ew.aA ew.args.length ew.aC,.slice ew.bA ew.src.length ew.bC]++dc ew.eff)]::ZA1::ZM1::ZA2::ZM2::[row b1 66 [lvB,wvB,.int .i64 hdB,.bool false]]::YB::[row b4 70 [lvS,wvS,.int .i64 hdS,.bool false]]::YS::[row b7 74 [lvA,wvA,.int .i64 hdA,.bool false]]::YA::M2::[])) (G:=([row b103 31 ([.int .i64 ez.op,.int .i64 ez.num,.int .i64 ez.clk,aj ez.typ,aj ez.cas,aj ez.nam,.int .i64 ez.v.v.k,.int .i64 ez.v.v.n,aj ez.v.v.t,.slice ez.v.sA ez.v.v.s.length ez.v.sC,.slice ez.aA ez.args.length ez.aC,.slice ez.bA ez.src.length ez.bC]++dc ez.eff)]::[row b110 31 ([.int .i64 ew.op,.int .i64 ew.num,.int .i64 ew.clk,aj ew.typ,aj ew.cas,aj ew.nam,.int .i64 ew.v.v.k,.int .i64 ew.v.v.n,aj ew.v.v.t,.slice ew.v.sA ew.v.v.s.length ew.v.sC,.slice ew.aA ew.args.length ew.aC,.slice ew.bA ew.src.length ew.bC]++dc ew.eff)]::ZA1::ZM1::ZA2::ZM2::[row b1 66 [lvB,wvB,.int .i64 hdB,.bool false]]::YB::[row b4 70 [lvS,wvS,.int .i64 hdS,.bool false]]::YS::[row b7 74 [lvA,wvA,.int .i64 hdA,.bool false]]::YA::M2::[])) ez.aA ez.args ez.aC _ (qN hRz1 (iV (List.Subset.refl _) (Nw _ (Nw _ ((Nu ..)))))) (List.Subset.refl _) (fun a ha=>(hzo1 a ha).mono (List.cons_subset.2 ⟨(Nw _ (Nw _ (Nw _ ((Nu ..))))),List.nil_subset _⟩)) hSv1 ag hA143).mono ?_
       rintro e' w144 ⟨Am1,m1,cm1,Zm1,Mm1,rfl,hZm1,hmo1,hmv1,hA145⟩
       refine ⟨_,rfl,fun a hF=>hK _ _ (fun _=>?_) ?_⟩
       ·exact Hp.qp [Zm1,Mm1,[row b103 31 ([.int .i64 ez.op,.int .i64 ez.num,.int .i64 ez.clk,aj ez.typ,aj ez.cas,aj ez.nam,.int .i64 ez.v.v.k,.int .i64 ez.v.v.n,aj ez.v.v.t,.slice ez.v.sA ez.v.v.s.length ez.v.sC,.slice ez.aA ez.args.length ez.aC,.slice ez.bA ez.src.length ez.bC]++dc ez.eff)],[row b110 31 ([.int .i64 ew.op,.int .i64 ew.num,.int .i64 ew.clk,aj ew.typ,aj ew.cas,aj ew.nam,.int .i64 ew.v.v.k,.int .i64 ew.v.v.n,aj ew.v.v.t,.slice ew.v.sA ew.v.v.s.length ew.v.sC,.slice ew.aA ew.args.length ew.aC,.slice ew.bA ew.src.length ew.bC]++dc ew.eff)],ZA1,ZM1,ZA2,ZM2,[row b1 66 [lvB,wvB,.int .i64 hdB,.bool false]],YB,[row b4 70 [lvS,wvS,.int .i64 hdS,.bool false]],YS,[row b7 74 [lvA,wvA,.int .i64 hdA,.bool false]],YA,M2] [] [2,3,4,5,6,7,8,9,10,11,12,13,14] hA145
       replace hA145:Hp w0 (Zm1::Mm1::[row b103 31 ([.int .i64 ez.op,.int .i64 ez.num,.int .i64 ez.clk,aj ez.typ,aj ez.cas,aj ez.nam,.int .i64 ez.v.v.k,.int .i64 ez.v.v.n,aj ez.v.v.t,.slice ez.v.sA ez.v.v.s.length ez.v.sC,.slice ez.aA ez.args.length ez.aC,.slice ez.bA ez.src.length ez.bC]++dc ez.eff)]::[row b110 31 ([.int .i64 ew.op,.int .i64 ew.num,.int .i64 ew.clk,aj ew.typ,aj ew.cas,aj ew.nam,.int .i64 ew.v.v.k,.int .i64 ew.v.v.n,aj ew.v.v.t,.slice ew.v.sA ew.v.v.s.length ew.v.sC,.slice ew.aA ew.args.length ew.aC,.slice ew.bA ew.src.length ew.bC]++dc ew.eff)]::ZA1::ZM1::ZA2::ZM2::[row b1 66 [lvB,wvB,.int .i64 hdB,.bool false]]::YB::[row b4 70 [lvS,wvS,.int .i64 hdS,.bool false]]::YS::[row b7 74 [lvA,wvA,.int .i64 hdA,.bool false]]::YA::M2::[]) w144:=hA145
       have hA146:Hp w0 ([row b7 74 [lvA,wvA,.int .i64 hdA,.bool false]]::ZA1::Zm1::YA::Mm1::[row b103 31 ([.int .i64 ez.op,.int .i64 ez.num,.int .i64 ez.clk,aj ez.typ,aj ez.cas,aj ez.nam,.int .i64 ez.v.v.k,.int .i64 ez.v.v.n,aj ez.v.v.t,.slice ez.v.sA ez.v.v.s.length ez.v.sC,.slice ez.aA ez.args.length ez.aC,.slice ez.bA ez.src.length ez.bC]++dc ez.eff)]::[row b110 31 ([.int .i64 ew.op,.int .i64 ew.num,.int .i64 ew.clk,aj ew.typ,aj ew.cas,aj ew.nam,.int .i64 ew.v.v.k,.int .i64 ew.v.v.n,aj ew.v.v.t,.slice ew.v.sA ew.v.v.s.length ew.v.sC,.slice ew.aA ew.args.length ew.aC,.slice ew.bA ew.src.length ew.bC]++dc ew.eff)]::ZM1::ZA2::ZM2::[row b1 66 [lvB,wvB,.int .i64 hdB,.bool false]]::YB::[row b4 70 [lvS,wvS,.int .i64 hdS,.bool false]]::YS::M2::[]) w144:=hpO 15 [12,4,0,13,1,2,3,5,6,7,8,9,10,11,14] hA145 af
       refine fG O O O (fun K hK=>ay hF O ae yA rfl rfl ?_)
       with_reducible refine (Aj w0 _ (Mm1::[row b103 31 ([.int .i64 ez.op,.int .i64 ez.num,.int .i64 ez.clk,aj ez.typ,aj ez.cas,aj ez.nam,.int .i64 ez.v.v.k,.int .i64 ez.v.v.n,aj ez.v.v.t,.slice ez.v.sA ez.v.v.s.length ez.v.sC,.slice ez.aA ez.args.length ez.aC,.slice ez.bA ez.src.length ez.bC]++dc ez.eff)]::[row b110 31 ([.int .i64 ew.op,.int .i64 ew.num,.int .i64 ew.clk,aj ew.typ,aj ew.cas,aj ew.nam,.int .i64 ew.v.v.k,.int .i64 ew.v.v.n,aj ew.v.v.t,.slice ew.v.sA ew.v.v.s.length ew.v.sC,.slice ew.aA ew.args.length ew.aC,.slice ew.bA ew.src.length ew.bC]++dc ew.eff)]::ZM1::ZA2::ZM2::[row b1 66 [lvB,wvB,.int .i64 hdB,.bool false]]::YB::[row b4 70 [lvS,wvS,.int .i64 hdS,.bool false]]::YS::M2::[]) b7 ksA YA ZA1 Zm1 ez.aA ez.args ez.aC Am1 m1 cm1 hbA ag hA1b hZm1 hmv1.symm ag (hrA.inR (vK (iV (oI hbS) (Nw _ (Nw _ (Nw _ (Nw _ (Nw _ (Nw _ (Nw _ (Nw _ (Nw _ ((Nu ..)))))))))))) (iV (List.Subset.refl _) (Nw _ (Nw _ (Nw _ (Nw _ (Nw _ (Nw _ (Nw _ (Nw _ (Nw _ (Nw _ ((Nu ..))))))))))))))) ⟨fun a ha=>(hzo1 a ha).mono (List.cons_subset.2 ⟨(Nw _ (Nw _ (Nw _ ((Nu ..))))),List.nil_subset _⟩),fun a ha=>(hmo1 a ha).mono (List.cons_subset.2 ⟨((Nu ..)),List.nil_subset _⟩)⟩ hA146).mono ?_
       rintro e' w147 ⟨ksA,lvA,wvA,hdA,YA,DA1,rfl,hbA,hkl1,hkin1,hXin1,_,hDA1,hA148⟩
       refine ⟨_,rfl,fun a hF=>hK _ _ (fun h=>absurd h ae) ?_⟩
       replace hA148:Hp w0 ([row b7 74 [lvA,wvA,.int .i64 hdA,.bool false]]::YA::DA1::Mm1::[row b103 31 ([.int .i64 ez.op,.int .i64 ez.num,.int .i64 ez.clk,aj ez.typ,aj ez.cas,aj ez.nam,.int .i64 ez.v.v.k,.int .i64 ez.v.v.n,aj ez.v.v.t,.slice ez.v.sA ez.v.v.s.length ez.v.sC,.slice ez.aA ez.args.length ez.aC,.slice ez.bA ez.src.length ez.bC]++dc ez.eff)]::[row b110 31 ([.int .i64 ew.op,.int .i64 ew.num,.int .i64 ew.clk,aj ew.typ,aj ew.cas,aj ew.nam,.int .i64 ew.v.v.k,.int .i64 ew.v.v.n,aj ew.v.v.t,.slice ew.v.sA ew.v.v.s.length ew.v.sC,.slice ew.aA ew.args.length ew.aC,.slice ew.bA ew.src.length ew.bC]++dc ew.eff)]::ZM1::ZA2::ZM2::[row b1 66 [lvB,wvB,.int .i64 hdB,.bool false]]::YB::[row b4 70 [lvS,wvS,.int .i64 hdS,.bool false]]::YS::M2::[]) w147:=hA148
       replace hrA:=zX hrA hkin1 hzo1 hmo1
       have hA149:Hp w0 (Mm1::M2::[row b7 74 [lvA,wvA,.int .i64 hdA,.bool false]]::YA::DA1::[row b103 31 ([.int .i64 ez.op,.int .i64 ez.num,.int .i64 ez.clk,aj ez.typ,aj ez.cas,aj ez.nam,.int .i64 ez.v.v.k,.int .i64 ez.v.v.n,aj ez.v.v.t,.slice ez.v.sA ez.v.v.s.length ez.v.sC,.slice ez.aA ez.args.length ez.aC,.slice ez.bA ez.src.length ez.bC]++dc ez.eff)]::[row b110 31 ([.int .i64 ew.op,.int .i64 ew.num,.int .i64 ew.clk,aj ew.typ,aj ew.cas,aj ew.nam,.int .i64 ew.v.v.k,.int .i64 ew.v.v.n,aj ew.v.v.t,.slice ew.v.sA ew.v.v.s.length ew.v.sC,.slice ew.aA ew.args.length ew.aC,.slice ew.bA ew.src.length ew.bC]++dc ew.eff)]::ZM1::ZA2::ZM2::[row b1 66 [lvB,wvB,.int .i64 hdB,.bool false]]::YB::[row b4 70 [lvS,wvS,.int .i64 hdS,.bool false]]::YS::[]) w147:=hpO 14 [3,13,0,1,2,4,5,6,7,8,9,10,11,12] hA148 af
       have hA150:Hp w0 ((Mm1++M2)::[row b7 74 [lvA,wvA,.int .i64 hdA,.bool false]]::YA::DA1::[row b103 31 ([.int .i64 ez.op,.int .i64 ez.num,.int .i64 ez.clk,aj ez.typ,aj ez.cas,aj ez.nam,.int .i64 ez.v.v.k,.int .i64 ez.v.v.n,aj ez.v.v.t,.slice ez.v.sA ez.v.v.s.length ez.v.sC,.slice ez.aA ez.args.length ez.aC,.slice ez.bA ez.src.length ez.bC]++dc ez.eff)]::[row b110 31 ([.int .i64 ew.op,.int .i64 ew.num,.int .i64 ew.clk,aj ew.typ,aj ew.cas,aj ew.nam,.int .i64 ew.v.v.k,.int .i64 ew.v.v.n,aj ew.v.v.t,.slice ew.v.sA ew.v.v.s.length ew.v.sC,.slice ew.aA ew.args.length ew.aC,.slice ew.bA ew.src.length ew.bC]++dc ew.eff)]::ZM1::ZA2::ZM2::[row b1 66 [lvB,wvB,.int .i64 hdB,.bool false]]::YB::[row b4 70 [lvS,wvS,.int .i64 hdS,.bool false]]::YS::[]) w147:=Hp.join hA149
       obtain ⟨M2,hM2⟩:∃ q:Seg,q=Mm1++M2:=⟨_,rfl⟩
       replace hrA:RRdF w0 (aS ksS++(M2++ZM1)) ksA:=hrA.mono (fun r hr=>by rw [hM2]; simp only [List.mem_append] at hr ⊢; rcases hr with (hr | hr) | hr | hr <;> simp [hr])
       have hZA1:ZA1⊆YA:=List.Subset.trans hXin1 (RowsV.sub hbA)
       have hXin1k:=hXin1
       rw [← hM2] at hA150
       clear hM2
       refine bI ?_
       refine hK51 _ _ ?_
       apply wp_seq_k; intro K52 hK52
       refine aQ 6 [5,6] [0,1,2,3,4,5,6] _ af af (Hq.drew hA150.q) ?_
       have hA151:=Hl.drew hA150
       refine pR hF<|pX O O<|pW O O (fun _=>yf 10 rfl NE O uF O)<|pV O O (fun x hx=>aU O hx O 5 O O uY)<|pW O O (fun _=>yf 10 rfl NE O uF O)<|pV O O (fun x hx=>aU O hx O 4 O O uY) fun a hF=>?_
       refine fG O O O (fun K hK=>ay hF O ae yz rfl rfl ?_)
       with_reducible refine (ug (R:=(M2::[row b7 74 [lvA,wvA,.int .i64 hdA,.bool false]]::YA::DA1::[row b103 31 ([.int .i64 ez.op,.int .i64 ez.num,.int .i64 ez.clk,aj ez.typ,aj ez.cas,aj ez.nam,.int .i64 ez.v.v.k,.int .i64 ez.v.v.n,aj ez.v.v.t,.slice ez.v.sA ez.v.v.s.length ez.v.sC,.slice ez.aA ez.args.length ez.aC,.slice ez.bA ez.src.length ez.bC]++dc ez.eff)]::[row b110 31 ([.int .i64 ew.op,.int .i64 ew.num,.int .i64 ew.clk,aj ew.typ,aj ew.cas,aj ew.nam,.int .i64 ew.v.v.k,.int .i64 ew.v.v.n,aj ew.v.v.t,.slice ew.v.sA ew.v.v.s.length ew.v.sC,.slice ew.aA ew.args.length ew.aC,.slice ew.bA ew.src.length ew.bC]++dc ew.eff)]::ZM1::ZA2::ZM2::[row b1 66 [lvB,wvB,.int .i64 hdB,.bool false]]::YB::[row b4 70 [lvS,wvS,.int .i64 hdS,.bool false]]::YS::[])) (G:=(M2::[row b7 74 [lvA,wvA,.int .i64 hdA,.bool false]]::YA::DA1::[row b103 31 ([.int .i64 ez.op,.int .i64 ez.num,.int .i64 ez.clk,aj ez.typ,aj ez.cas,aj ez.nam,.int .i64 ez.v.v.k,.int .i64 ez.v.v.n,aj ez.v.v.t,.slice ez.v.sA ez.v.v.s.length ez.v.sC,.slice ez.aA ez.args.length ez.aC,.slice ez.bA ez.src.length ez.bC]++dc ez.eff)]::[row b110 31 ([.int .i64 ew.op,.int .i64 ew.num,.int .i64 ew.clk,aj ew.typ,aj ew.cas,aj ew.nam,.int .i64 ew.v.v.k,.int .i64 ew.v.v.n,aj ew.v.v.t,.slice ew.v.sA ew.v.v.s.length ew.v.sC,.slice ew.aA ew.args.length ew.aC,.slice ew.bA ew.src.length ew.bC]++dc ew.eff)]::ZM1::ZA2::ZM2::[row b1 66 [lvB,wvB,.int .i64 hdB,.bool false]]::YB::[row b4 70 [lvS,wvS,.int .i64 hdS,.bool false]]::YS::[])) ez.aA ez.args ez.aC _ (qN hRz1 (iV hZA1 (Nw _ (Nw _ ((Nu ..)))))) (List.Subset.refl _) (fun a ha=>(hzo1 a ha).mono (List.cons_subset.2 ⟨(Nw _ (Nw _ (Nw _ (Nw _ (Nw _ (Nw _ ((Nu ..)))))))),List.nil_subset _⟩)) hSv1 ag hA151).mono ?_
       rintro e' w152 ⟨Am2,m2,cm2,Zm2,Mm2,rfl,hZm2,hmo2,hmv2,hA153⟩
       refine ⟨_,rfl,fun a hF=>hK _ _ (fun _=>?_) ?_⟩
       ·exact Hp.qp [Zm2,Mm2,M2,[row b7 74 [lvA,wvA,.int .i64 hdA,.bool false]],YA,DA1,[row b103 31 ([.int .i64 ez.op,.int .i64 ez.num,.int .i64 ez.clk,aj ez.typ,aj ez.cas,aj ez.nam,.int .i64 ez.v.v.k,.int .i64 ez.v.v.n,aj ez.v.v.t,.slice ez.v.sA ez.v.v.s.length ez.v.sC,.slice ez.aA ez.args.length ez.aC,.slice ez.bA ez.src.length ez.bC]++dc ez.eff)],[row b110 31 ([.int .i64 ew.op,.int .i64 ew.num,.int .i64 ew.clk,aj ew.typ,aj ew.cas,aj ew.nam,.int .i64 ew.v.v.k,.int .i64 ew.v.v.n,aj ew.v.v.t,.slice ew.v.sA ew.v.v.s.length ew.v.sC,.slice ew.aA ew.args.length ew.aC,.slice ew.bA ew.src.length ew.bC]++dc ew.eff)],ZM1,ZA2,ZM2,[row b1 66 [lvB,wvB,.int .i64 hdB,.bool false]],YB,[row b4 70 [lvS,wvS,.int .i64 hdS,.bool false]],YS] [] [2,3,4,5,6,7,8,9,10,11,12,13,14] hA153
       replace hA153:Hp w0 (Zm2::Mm2::M2::[row b7 74 [lvA,wvA,.int .i64 hdA,.bool false]]::YA::DA1::[row b103 31 ([.int .i64 ez.op,.int .i64 ez.num,.int .i64 ez.clk,aj ez.typ,aj ez.cas,aj ez.nam,.int .i64 ez.v.v.k,.int .i64 ez.v.v.n,aj ez.v.v.t,.slice ez.v.sA ez.v.v.s.length ez.v.sC,.slice ez.aA ez.args.length ez.aC,.slice ez.bA ez.src.length ez.bC]++dc ez.eff)]::[row b110 31 ([.int .i64 ew.op,.int .i64 ew.num,.int .i64 ew.clk,aj ew.typ,aj ew.cas,aj ew.nam,.int .i64 ew.v.v.k,.int .i64 ew.v.v.n,aj ew.v.v.t,.slice ew.v.sA ew.v.v.s.length ew.v.sC,.slice ew.aA ew.args.length ew.aC,.slice ew.bA ew.src.length ew.bC]++dc ew.eff)]::ZM1::ZA2::ZM2::[row b1 66 [lvB,wvB,.int .i64 hdB,.bool false]]::YB::[row b4 70 [lvS,wvS,.int .i64 hdS,.bool false]]::YS::[]) w152:=hA153
       have hA154:Hp w0 ([row b7 74 [lvA,wvA,.int .i64 hdA,.bool false]]::ZA2::Zm2::YA::Mm2::M2::DA1::[row b103 31 ([.int .i64 ez.op,.int .i64 ez.num,.int .i64 ez.clk,aj ez.typ,aj ez.cas,aj ez.nam,.int .i64 ez.v.v.k,.int .i64 ez.v.v.n,aj ez.v.v.t,.slice ez.v.sA ez.v.v.s.length ez.v.sC,.slice ez.aA ez.args.length ez.aC,.slice ez.bA ez.src.length ez.bC]++dc ez.eff)]::[row b110 31 ([.int .i64 ew.op,.int .i64 ew.num,.int .i64 ew.clk,aj ew.typ,aj ew.cas,aj ew.nam,.int .i64 ew.v.v.k,.int .i64 ew.v.v.n,aj ew.v.v.t,.slice ew.v.sA ew.v.v.s.length ew.v.sC,.slice ew.aA ew.args.length ew.aC,.slice ew.bA ew.src.length ew.bC]++dc ew.eff)]::ZM1::ZM2::[row b1 66 [lvB,wvB,.int .i64 hdB,.bool false]]::YB::[row b4 70 [lvS,wvS,.int .i64 hdS,.bool false]]::YS::[]) w152:=hpO 15 [3,9,0,4,1,2,5,6,7,8,10,11,12,13,14] hA153 af
       refine fG O O O (fun K hK=>ay hF O ae yA rfl rfl ?_)
       with_reducible refine (Aj w0 _ (Mm2::M2::DA1::[row b103 31 ([.int .i64 ez.op,.int .i64 ez.num,.int .i64 ez.clk,aj ez.typ,aj ez.cas,aj ez.nam,.int .i64 ez.v.v.k,.int .i64 ez.v.v.n,aj ez.v.v.t,.slice ez.v.sA ez.v.v.s.length ez.v.sC,.slice ez.aA ez.args.length ez.aC,.slice ez.bA ez.src.length ez.bC]++dc ez.eff)]::[row b110 31 ([.int .i64 ew.op,.int .i64 ew.num,.int .i64 ew.clk,aj ew.typ,aj ew.cas,aj ew.nam,.int .i64 ew.v.v.k,.int .i64 ew.v.v.n,aj ew.v.v.t,.slice ew.v.sA ew.v.v.s.length ew.v.sC,.slice ew.aA ew.args.length ew.aC,.slice ew.bA ew.src.length ew.bC]++dc ew.eff)]::ZM1::ZM2::[row b1 66 [lvB,wvB,.int .i64 hdB,.bool false]]::YB::[row b4 70 [lvS,wvS,.int .i64 hdS,.bool false]]::YS::[]) b7 ksA YA ZA2 Zm2 ew.aA ew.args ew.aC Am2 m2 cm2 hbA ag hA2b hZm2 (hvw.symm.trans hmv2.symm) ag (hrA.inR (vK (iV (oI hbS) (Nw _ (Nw _ (Nw _ (Nw _ (Nw _ (Nw _ (Nw _ (Nw _ (Nw _ (Nw _ ((Nu ..))))))))))))) (vK (iV (List.Subset.refl _) (Nw _ ((Nu ..)))) (iV (List.Subset.refl _) (Nw _ (Nw _ (Nw _ (Nw _ (Nw _ ((Nu ..))))))))))) ⟨fun a ha=>(hwo1 a ha).mono (List.cons_subset.2 ⟨(Nw _ (Nw _ (Nw _ (Nw _ (Nw _ (Nw _ ((Nu ..)))))))),List.nil_subset _⟩),fun a ha=>(hmo2 a ha).mono (List.cons_subset.2 ⟨((Nu ..)),List.nil_subset _⟩)⟩ hA154).mono ?_
       rintro e' w155 ⟨ksA,lvA,wvA,hdA,YA,DA2,rfl,hbA,hkl2,hkin2,hXin2,_,hDA2,hA156⟩
       refine ⟨_,rfl,fun a hF=>hK _ _ (fun h=>absurd h ae) ?_⟩
       replace hA156:Hp w0 ([row b7 74 [lvA,wvA,.int .i64 hdA,.bool false]]::YA::DA2::Mm2::M2::DA1::[row b103 31 ([.int .i64 ez.op,.int .i64 ez.num,.int .i64 ez.clk,aj ez.typ,aj ez.cas,aj ez.nam,.int .i64 ez.v.v.k,.int .i64 ez.v.v.n,aj ez.v.v.t,.slice ez.v.sA ez.v.v.s.length ez.v.sC,.slice ez.aA ez.args.length ez.aC,.slice ez.bA ez.src.length ez.bC]++dc ez.eff)]::[row b110 31 ([.int .i64 ew.op,.int .i64 ew.num,.int .i64 ew.clk,aj ew.typ,aj ew.cas,aj ew.nam,.int .i64 ew.v.v.k,.int .i64 ew.v.v.n,aj ew.v.v.t,.slice ew.v.sA ew.v.v.s.length ew.v.sC,.slice ew.aA ew.args.length ew.aC,.slice ew.bA ew.src.length ew.bC]++dc ew.eff)]::ZM1::ZM2::[row b1 66 [lvB,wvB,.int .i64 hdB,.bool false]]::YB::[row b4 70 [lvS,wvS,.int .i64 hdS,.bool false]]::YS::[]) w155:=hA156
       replace hrA:=zX hrA hkin2 hwo1 hmo2
       have hA157:Hp w0 (Mm2::M2::[row b7 74 [lvA,wvA,.int .i64 hdA,.bool false]]::YA::DA2::DA1::[row b103 31 ([.int .i64 ez.op,.int .i64 ez.num,.int .i64 ez.clk,aj ez.typ,aj ez.cas,aj ez.nam,.int .i64 ez.v.v.k,.int .i64 ez.v.v.n,aj ez.v.v.t,.slice ez.v.sA ez.v.v.s.length ez.v.sC,.slice ez.aA ez.args.length ez.aC,.slice ez.bA ez.src.length ez.bC]++dc ez.eff)]::[row b110 31 ([.int .i64 ew.op,.int .i64 ew.num,.int .i64 ew.clk,aj ew.typ,aj ew.cas,aj ew.nam,.int .i64 ew.v.v.k,.int .i64 ew.v.v.n,aj ew.v.v.t,.slice ew.v.sA ew.v.v.s.length ew.v.sC,.slice ew.aA ew.args.length ew.aC,.slice ew.bA ew.src.length ew.bC]++dc ew.eff)]::ZM1::ZM2::[row b1 66 [lvB,wvB,.int .i64 hdB,.bool false]]::YB::[row b4 70 [lvS,wvS,.int .i64 hdS,.bool false]]::YS::[]) w155:=hpO 14 [3,4,0,1,2,5,6,7,8,9,10,11,12,13] hA156 af
       have hA158:Hp w0 ((Mm2++M2)::[row b7 74 [lvA,wvA,.int .i64 hdA,.bool false]]::YA::DA2::DA1::[row b103 31 ([.int .i64 ez.op,.int .i64 ez.num,.int .i64 ez.clk,aj ez.typ,aj ez.cas,aj ez.nam,.int .i64 ez.v.v.k,.int .i64 ez.v.v.n,aj ez.v.v.t,.slice ez.v.sA ez.v.v.s.length ez.v.sC,.slice ez.aA ez.args.length ez.aC,.slice ez.bA ez.src.length ez.bC]++dc ez.eff)]::[row b110 31 ([.int .i64 ew.op,.int .i64 ew.num,.int .i64 ew.clk,aj ew.typ,aj ew.cas,aj ew.nam,.int .i64 ew.v.v.k,.int .i64 ew.v.v.n,aj ew.v.v.t,.slice ew.v.sA ew.v.v.s.length ew.v.sC,.slice ew.aA ew.args.length ew.aC,.slice ew.bA ew.src.length ew.bC]++dc ew.eff)]::ZM1::ZM2::[row b1 66 [lvB,wvB,.int .i64 hdB,.bool false]]::YB::[row b4 70 [lvS,wvS,.int .i64 hdS,.bool false]]::YS::[]) w155:=Hp.join hA157
       obtain ⟨M2,hM2⟩:∃ q:Seg,q=Mm2++M2:=⟨_,rfl⟩
       replace hrA:RRdF w0 (aS ksS++(M2++(ZM1++ZM2))) ksA:=hrA.mono (fun r hr=>by rw [hM2]; simp only [List.mem_append] at hr ⊢; rcases hr with (hr | hr | hr) | hr | hr <;> simp [hr])
       rw [← hM2] at hA158
       clear hM2
       refine bI ?_
       refine hK52 _ _ ?_
       apply wp_seq_k; intro K53 hK53
       have hzA_:∀ r∈ZA1,r∈aS (ksA.map (·.x))∨r∈DA2:=fun r hr=>hDA2 r (hXin1k hr)
       have hRzF:Rc w0 [YA,DA2] ez.aA (cel VA.cells ez.args):=qN hRz1 (JA hzA_ (iV (RowsV.sub hbA) (Nu ..)) (iV (List.Subset.refl _) (Nw _ (Nu ..))))
       have hRwF:Rc w0 [YA,DA2] ew.aA (cel VA.cells ew.args):=qN hRw1 (iV (List.Subset.trans hXin2 (RowsV.sub hbA)) (Nu ..))
       refine wp_region_lit ?_
       refine vR hF<|vX O<|vE hK53<|wBk fun a hF=>?_
       have hA159:Hp w0 ([row b103 31 ([.int .i64 ez.op,.int .i64 ez.num,.int .i64 ez.clk,aj ez.typ,aj ez.cas,aj ez.nam,.int .i64 ez.v.v.k,.int .i64 ez.v.v.n,aj ez.v.v.t,.slice ez.v.sA ez.v.v.s.length ez.v.sC,.slice ez.aA ez.args.length ez.aC,.slice ez.bA ez.src.length ez.bC]++dc ez.eff)]::[row b110 31 ([.int .i64 ew.op,.int .i64 ew.num,.int .i64 ew.clk,aj ew.typ,aj ew.cas,aj ew.nam,.int .i64 ew.v.v.k,.int .i64 ew.v.v.n,aj ew.v.v.t,.slice ew.v.sA ew.v.v.s.length ew.v.sC,.slice ew.aA ew.args.length ew.aC,.slice ew.bA ew.src.length ew.bC]++dc ew.eff)]::ZM1::ZM2::DA2::[row b1 66 [lvB,wvB,.int .i64 hdB,.bool false]]::YB::[row b4 70 [lvS,wvS,.int .i64 hdS,.bool false]]::YS::[row b7 74 [lvA,wvA,.int .i64 hdA,.bool false]]::YA::M2::[]) w155:=hpS 13 [5,6,7,8,3,9,10,11,12,1,2,0] [4] hA158 af
       refine bH (G:=Nat) (fun j a x=>∃ (M1:Seg) (M2q:Seg) (ksS:List (KeptX (List UInt8))) (lvS:Value) (wvS:Value) (hdS:Int) (YS:Seg) (MM:Seg),j≤ez.args.length∧OwnL (ez.args.drop j) M1∧OwnL (ew.args.drop j) M2q∧BookV cS 23 9 1 ksS lvS wvS YS∧RRdF w0 (aS ksS++(MM++(M1++M2q))) ksA∧Fr 286 [(27,.int .i64 ((j:Nat):Int)),(0,.slice (some ⟨be,oe,none⟩) es.length c1),(1,.slice P ps.length cP),(5,.pointer (some ⟨b1,0,none⟩)),(6,.pointer (some ⟨b4,0,none⟩)),(7,.pointer (some ⟨b7,0,none⟩)),(8,.int .i64 ((i:Nat):Int)),(22,.pointer (some ⟨b103,0,none⟩)),(24,.pointer (some ⟨b110,0,none⟩))] a∧Hp w0 ([row b103 31 ([.int .i64 ez.op,.int .i64 ez.num,.int .i64 ez.clk,aj ez.typ,aj ez.cas,aj ez.nam,.int .i64 ez.v.v.k,.int .i64 ez.v.v.n,aj ez.v.v.t,.slice ez.v.sA ez.v.v.s.length ez.v.sC,.slice ez.aA ez.args.length ez.aC,.slice ez.bA ez.src.length ez.bC]++dc ez.eff)]::[row b110 31 ([.int .i64 ew.op,.int .i64 ew.num,.int .i64 ew.clk,aj ew.typ,aj ew.cas,aj ew.nam,.int .i64 ew.v.v.k,.int .i64 ew.v.v.n,aj ew.v.v.t,.slice ew.v.sA ew.v.v.s.length ew.v.sC,.slice ew.aA ew.args.length ew.aC,.slice ew.bA ew.src.length ew.bC]++dc ew.eff)]::M1::M2q::DA2::[row b1 66 [lvB,wvB,.int .i64 hdB,.bool false]]::YB::[row b4 70 [lvS,wvS,.int .i64 hdS,.bool false]]::YS::[row b7 74 [lvA,wvA,.int .i64 hdA,.bool false]]::YA::MM::[]) x) (fun j=>ez.args.length-j) 0 (⟨_,_,_,_,_,_,_,_,Nl _,hM1,hM2_,hbS,hrA,hF.keep [27,0,1,5,6,7,8,22,24] rfl,hA159⟩) ?_
       clear hF
       rintro j a w161 ⟨M1,M2q,ksS,lvS,wvS,hdS,YS,MM,hj,hO1,hO2,hbS,hrA,hF,hA160⟩
       apply wp_seq_k; intro K54 hK54
       refine wS hF fun K55 hK55=>vX O<|vV O (yf 10 rfl NE O uF O)<|vV O (aU O hA160.q O 0 O O uY)<|vV O (aT O NG O O)<|vV O (aF O O O O O)<|vE hK55 fun a hF=>?_
       by_cases hltj:j<ez.args.length
       ·refine aG hF O (dF ag) ?_
        obtain ⟨va,hpa⟩:∃ q,ez.args[j]? = some q:=⟨_,List.getElem?_eq_getElem hltj⟩
        obtain ⟨vb,hpb⟩:∃ q,ew.args[j]? = some q:=⟨_,List.getElem?_eq_getElem ag⟩
        have hdz:ez.args.drop j=va::ez.args.drop (j+1):=by rw [List.drop_eq_getElem_cons hltj,(List.getElem?_eq_some_iff.1 hpa).2]
        have hdw:ew.args.drop j=vb::ew.args.drop (j+1):=by rw [List.drop_eq_getElem_cons ag,(List.getElem?_eq_some_iff.1 hpb).2]
        rw [hdz] at hO1
        rw [hdw] at hO2
        obtain ⟨Zj1,N1,rfl,hOj1,hO1n⟩:=hO1.uncons
        obtain ⟨Zj2,N2,rfl,hOj2,hO2n⟩:=hO2.uncons
        have hBj1:Buf 9 1 Zj1 (.slice va.sA va.v.s.length va.sC) va.v.s.length (va.v.s.map aj):=hOj1
        have hBj2:Buf 9 1 Zj2 (.slice vb.sA vb.v.s.length vb.sC) vb.v.s.length (vb.v.s.map aj):=hOj2
        have hva64:=hSz3 va (List.mem_of_getElem? hpa)
        have hvb64:=hSw3 vb (List.mem_of_getElem? hpb)
        obtain ⟨hatz,hlez⟩:=lW (C:=VA.cells) (sz:=4) (fun _ _=>rfl) hpa
        obtain ⟨hatw,hlew⟩:=lW (C:=VA.cells) (sz:=4) (fun _ _=>rfl) hpb
        obtain ⟨bz,oz,hzA,hccz⟩:=hRzF.ne (i:=j*4) ag
        obtain ⟨bw,ow,hwA,hccw⟩:=hRwF.ne (i:=j*4) ag
        have hA162:Hp w0 ([row b103 31 ([.int .i64 ez.op,.int .i64 ez.num,.int .i64 ez.clk,aj ez.typ,aj ez.cas,aj ez.nam,.int .i64 ez.v.v.k,.int .i64 ez.v.v.n,aj ez.v.v.t,.slice ez.v.sA ez.v.v.s.length ez.v.sC,.slice ez.aA ez.args.length ez.aC,.slice ez.bA ez.src.length ez.bC]++dc ez.eff)]::[row b110 31 ([.int .i64 ew.op,.int .i64 ew.num,.int .i64 ew.clk,aj ew.typ,aj ew.cas,aj ew.nam,.int .i64 ew.v.v.k,.int .i64 ew.v.v.n,aj ew.v.v.t,.slice ew.v.sA ew.v.v.s.length ew.v.sC,.slice ew.aA ew.args.length ew.aC,.slice ew.bA ew.src.length ew.bC]++dc ew.eff)]::Zj1::N1::(Zj2++N2)::DA2::[row b1 66 [lvB,wvB,.int .i64 hdB,.bool false]]::YB::[row b4 70 [lvS,wvS,.int .i64 hdS,.bool false]]::YS::[row b7 74 [lvA,wvA,.int .i64 hdA,.bool false]]::YA::MM::[]) w161:=hA160.cast (by simp [List.append_assoc])
        have hA163:Hp w0 ([row b103 31 ([.int .i64 ez.op,.int .i64 ez.num,.int .i64 ez.clk,aj ez.typ,aj ez.cas,aj ez.nam,.int .i64 ez.v.v.k,.int .i64 ez.v.v.n,aj ez.v.v.t,.slice ez.v.sA ez.v.v.s.length ez.v.sC,.slice ez.aA ez.args.length ez.aC,.slice ez.bA ez.src.length ez.bC]++dc ez.eff)]::[row b110 31 ([.int .i64 ew.op,.int .i64 ew.num,.int .i64 ew.clk,aj ew.typ,aj ew.cas,aj ew.nam,.int .i64 ew.v.v.k,.int .i64 ew.v.v.n,aj ew.v.v.t,.slice ew.v.sA ew.v.v.s.length ew.v.sC,.slice ew.aA ew.args.length ew.aC,.slice ew.bA ew.src.length ew.bC]++dc ew.eff)]::Zj1::N1::Zj2::N2::DA2::[row b1 66 [lvB,wvB,.int .i64 hdB,.bool false]]::YB::[row b4 70 [lvS,wvS,.int .i64 hdS,.bool false]]::YS::[row b7 74 [lvA,wvA,.int .i64 hdA,.bool false]]::YA::MM::[]) w161:=hA162.cast (by simp [List.append_assoc])
        apply wp_skip
        refine hK54 _ _ ?_
        apply wp_seq_k; intro K56 hK56
        apply wp_block
        refine wS hF fun K57 hK57=>vX O<|vV O (yf 10 rfl NE O uF O)<|vV O (aU (u:= .slice (some ⟨bz,oz,none⟩) ez.args.length ez.aC) rfl hA163.q O 0 O (by rw [← hzA]; rfl) uY) fun a hF=>?_
        refine vR hF<|vX O<|vV O (aY O NG nD O O j rfl ag rfl)<|vV O (jR O ND O mf ae rfl rfl)<|vV O (bV (u:= .slice va.sA va.v.s.length va.sC) rfl (Hq.sub hA163.q (List.cons_subset.2 ⟨(Nw _ (Nw _ (Nw _ (Nw _ (Nw _ (Nw _ (Nw _ (Nw _ (Nw _ (Nw _ (Nw _ (Nw _ ((Nu ..)))))))))))))),List.cons_subset.2 ⟨(Nw _ (Nw _ (Nw _ (Nw _ (Nw _ (Nw _ ((Nu ..)))))))),List.nil_subset _⟩⟩)) O hccz (j*4+3) ag rfl (mF (k:=3) hatz (by show 3<4; decide)) mi) fun a hF=>?_
        have hA164:Hp w0 (Zj1::[row b4 70 [lvS,wvS,.int .i64 hdS,.bool false]]::YS::[row b103 31 ([.int .i64 ez.op,.int .i64 ez.num,.int .i64 ez.clk,aj ez.typ,aj ez.cas,aj ez.nam,.int .i64 ez.v.v.k,.int .i64 ez.v.v.n,aj ez.v.v.t,.slice ez.v.sA ez.v.v.s.length ez.v.sC,.slice ez.aA ez.args.length ez.aC,.slice ez.bA ez.src.length ez.bC]++dc ez.eff)]::[row b110 31 ([.int .i64 ew.op,.int .i64 ew.num,.int .i64 ew.clk,aj ew.typ,aj ew.cas,aj ew.nam,.int .i64 ew.v.v.k,.int .i64 ew.v.v.n,aj ew.v.v.t,.slice ew.v.sA ew.v.v.s.length ew.v.sC,.slice ew.aA ew.args.length ew.aC,.slice ew.bA ew.src.length ew.bC]++dc ew.eff)]::N1::Zj2::N2::DA2::[row b1 66 [lvB,wvB,.int .i64 hdB,.bool false]]::YB::[row b7 74 [lvA,wvA,.int .i64 hdA,.bool false]]::YA::MM::[]) w161:=hpO 14 [2,9,10,0,1,3,4,5,6,7,8,11,12,13] hA163 af
        refine ax O (fun K hK=>ay hF O ae lU rfl rfl ?_)
        with_reducible refine (iy w0 _ ([row b103 31 ([.int .i64 ez.op,.int .i64 ez.num,.int .i64 ez.clk,aj ez.typ,aj ez.cas,aj ez.nam,.int .i64 ez.v.v.k,.int .i64 ez.v.v.n,aj ez.v.v.t,.slice ez.v.sA ez.v.v.s.length ez.v.sC,.slice ez.aA ez.args.length ez.aC,.slice ez.bA ez.src.length ez.bC]++dc ez.eff)]::[row b110 31 ([.int .i64 ew.op,.int .i64 ew.num,.int .i64 ew.clk,aj ew.typ,aj ew.cas,aj ew.nam,.int .i64 ew.v.v.k,.int .i64 ew.v.v.n,aj ew.v.v.t,.slice ew.v.sA ew.v.v.s.length ew.v.sC,.slice ew.aA ew.args.length ew.aC,.slice ew.bA ew.src.length ew.bC]++dc ew.eff)]::N1::Zj2::N2::DA2::[row b1 66 [lvB,wvB,.int .i64 hdB,.bool false]]::YB::[row b7 74 [lvA,wvA,.int .i64 hdA,.bool false]]::YA::MM::[]) b4 ksS YS Zj1 (.slice va.sA va.v.s.length va.sC) va.v.s hbS (by rw [← jw]; exact hBj1) (fun _ _=>rfl) ag ag hA164).mono ?_
        rintro e' w165 ⟨ksS,lvS,wvS,hdS,YS,DS,rfl,hbS,hinS,hDS,hA166⟩
        refine ⟨_,rfl,fun a hF=>hK _ _ ?_⟩
        replace hA166:Hp w0 ([row b4 70 [lvS,wvS,.int .i64 hdS,.bool false]]::YS::DS::[row b103 31 ([.int .i64 ez.op,.int .i64 ez.num,.int .i64 ez.clk,aj ez.typ,aj ez.cas,aj ez.nam,.int .i64 ez.v.v.k,.int .i64 ez.v.v.n,aj ez.v.v.t,.slice ez.v.sA ez.v.v.s.length ez.v.sC,.slice ez.aA ez.args.length ez.aC,.slice ez.bA ez.src.length ez.bC]++dc ez.eff)]::[row b110 31 ([.int .i64 ew.op,.int .i64 ew.num,.int .i64 ew.clk,aj ew.typ,aj ew.cas,aj ew.nam,.int .i64 ew.v.v.k,.int .i64 ew.v.v.n,aj ew.v.v.t,.slice ew.v.sA ew.v.v.s.length ew.v.sC,.slice ew.aA ew.args.length ew.aC,.slice ew.bA ew.src.length ew.bC]++dc ew.eff)]::N1::Zj2::N2::DA2::[row b1 66 [lvB,wvB,.int .i64 hdB,.bool false]]::YB::[row b7 74 [lvA,wvA,.int .i64 hdA,.bool false]]::YA::MM::[]) w165:=hA166
        replace hrA:=hrA.mono (Ik hDS hinS)
        have hA167:Hp w0 (DS::MM::[row b4 70 [lvS,wvS,.int .i64 hdS,.bool false]]::YS::[row b103 31 ([.int .i64 ez.op,.int .i64 ez.num,.int .i64 ez.clk,aj ez.typ,aj ez.cas,aj ez.nam,.int .i64 ez.v.v.k,.int .i64 ez.v.v.n,aj ez.v.v.t,.slice ez.v.sA ez.v.v.s.length ez.v.sC,.slice ez.aA ez.args.length ez.aC,.slice ez.bA ez.src.length ez.bC]++dc ez.eff)]::[row b110 31 ([.int .i64 ew.op,.int .i64 ew.num,.int .i64 ew.clk,aj ew.typ,aj ew.cas,aj ew.nam,.int .i64 ew.v.v.k,.int .i64 ew.v.v.n,aj ew.v.v.t,.slice ew.v.sA ew.v.v.s.length ew.v.sC,.slice ew.aA ew.args.length ew.aC,.slice ew.bA ew.src.length ew.bC]++dc ew.eff)]::N1::Zj2::N2::DA2::[row b1 66 [lvB,wvB,.int .i64 hdB,.bool false]]::YB::[row b7 74 [lvA,wvA,.int .i64 hdA,.bool false]]::YA::[]) w165:=hpO 14 [2,13,0,1,3,4,5,6,7,8,9,10,11,12] hA166 af
        have hA168:Hp w0 ((DS++MM)::[row b4 70 [lvS,wvS,.int .i64 hdS,.bool false]]::YS::[row b103 31 ([.int .i64 ez.op,.int .i64 ez.num,.int .i64 ez.clk,aj ez.typ,aj ez.cas,aj ez.nam,.int .i64 ez.v.v.k,.int .i64 ez.v.v.n,aj ez.v.v.t,.slice ez.v.sA ez.v.v.s.length ez.v.sC,.slice ez.aA ez.args.length ez.aC,.slice ez.bA ez.src.length ez.bC]++dc ez.eff)]::[row b110 31 ([.int .i64 ew.op,.int .i64 ew.num,.int .i64 ew.clk,aj ew.typ,aj ew.cas,aj ew.nam,.int .i64 ew.v.v.k,.int .i64 ew.v.v.n,aj ew.v.v.t,.slice ew.v.sA ew.v.v.s.length ew.v.sC,.slice ew.aA ew.args.length ew.aC,.slice ew.bA ew.src.length ew.bC]++dc ew.eff)]::N1::Zj2::N2::DA2::[row b1 66 [lvB,wvB,.int .i64 hdB,.bool false]]::YB::[row b7 74 [lvA,wvA,.int .i64 hdA,.bool false]]::YA::[]) w165:=Hp.join hA167
        obtain ⟨M2,hM2⟩:∃ q:Seg,q=DS++MM:=⟨_,rfl⟩
        rw [← hM2] at hrA hA168
        clear hM2
        refine aH<|hK57 _ _ ?_
        refine wp_region_lit ?_
        refine vR hF<|vX O<|vV O (yf 10 rfl NE O uF O)<|vV O (aU (u:= .slice (some ⟨bw,ow,none⟩) ew.args.length ew.aC) rfl hA168.q O 4 O (by rw [← hwA]; rfl) uY) fun a hF=>?_
        refine vR hF<|vX O<|vV O (aY O NG nD O O j rfl ag rfl)<|vV O (jR O ND O mf ae rfl rfl)<|vV O (bV (u:= .slice vb.sA vb.v.s.length vb.sC) rfl (Hq.sub hA168.q (List.cons_subset.2 ⟨(Nw _ (Nw _ (Nw _ (Nw _ (Nw _ (Nw _ (Nw _ (Nw _ (Nw _ (Nw _ (Nw _ (Nw _ ((Nu ..)))))))))))))),List.cons_subset.2 ⟨(Nw _ (Nw _ (Nw _ (Nw _ (Nw _ (Nw _ (Nw _ (Nw _ ((Nu ..)))))))))),List.nil_subset _⟩⟩)) O hccw (j*4+3) ag rfl (mF (k:=3) hatw (by show 3<4; decide)) mi) fun a hF=>?_
        have hA169:Hp w0 (Zj2::[row b4 70 [lvS,wvS,.int .i64 hdS,.bool false]]::YS::M2::[row b103 31 ([.int .i64 ez.op,.int .i64 ez.num,.int .i64 ez.clk,aj ez.typ,aj ez.cas,aj ez.nam,.int .i64 ez.v.v.k,.int .i64 ez.v.v.n,aj ez.v.v.t,.slice ez.v.sA ez.v.v.s.length ez.v.sC,.slice ez.aA ez.args.length ez.aC,.slice ez.bA ez.src.length ez.bC]++dc ez.eff)]::[row b110 31 ([.int .i64 ew.op,.int .i64 ew.num,.int .i64 ew.clk,aj ew.typ,aj ew.cas,aj ew.nam,.int .i64 ew.v.v.k,.int .i64 ew.v.v.n,aj ew.v.v.t,.slice ew.v.sA ew.v.v.s.length ew.v.sC,.slice ew.aA ew.args.length ew.aC,.slice ew.bA ew.src.length ew.bC]++dc ew.eff)]::N1::N2::DA2::[row b1 66 [lvB,wvB,.int .i64 hdB,.bool false]]::YB::[row b7 74 [lvA,wvA,.int .i64 hdA,.bool false]]::YA::[]) w165:=hpO 13 [6,1,2,0,3,4,5,7,8,9,10,11,12] hA168 af
        refine ax O (fun K hK=>ay hF O ae lU rfl rfl ?_)
        with_reducible refine (iy w0 _ (M2::[row b103 31 ([.int .i64 ez.op,.int .i64 ez.num,.int .i64 ez.clk,aj ez.typ,aj ez.cas,aj ez.nam,.int .i64 ez.v.v.k,.int .i64 ez.v.v.n,aj ez.v.v.t,.slice ez.v.sA ez.v.v.s.length ez.v.sC,.slice ez.aA ez.args.length ez.aC,.slice ez.bA ez.src.length ez.bC]++dc ez.eff)]::[row b110 31 ([.int .i64 ew.op,.int .i64 ew.num,.int .i64 ew.clk,aj ew.typ,aj ew.cas,aj ew.nam,.int .i64 ew.v.v.k,.int .i64 ew.v.v.n,aj ew.v.v.t,.slice ew.v.sA ew.v.v.s.length ew.v.sC,.slice ew.aA ew.args.length ew.aC,.slice ew.bA ew.src.length ew.bC]++dc ew.eff)]::N1::N2::DA2::[row b1 66 [lvB,wvB,.int .i64 hdB,.bool false]]::YB::[row b7 74 [lvA,wvA,.int .i64 hdA,.bool false]]::YA::[]) b4 ksS YS Zj2 (.slice vb.sA vb.v.s.length vb.sC) vb.v.s hbS (by rw [← jw]; exact hBj2) (fun _ _=>rfl) ag ag hA169).mono ?_
        rintro e' w170 ⟨ksS,lvS,wvS,hdS,YS,DS,rfl,hbS,hinS,hDS,hA171⟩
        refine ⟨_,rfl,fun a hF=>hK _ _ ?_⟩
        replace hA171:Hp w0 ([row b4 70 [lvS,wvS,.int .i64 hdS,.bool false]]::YS::DS::M2::[row b103 31 ([.int .i64 ez.op,.int .i64 ez.num,.int .i64 ez.clk,aj ez.typ,aj ez.cas,aj ez.nam,.int .i64 ez.v.v.k,.int .i64 ez.v.v.n,aj ez.v.v.t,.slice ez.v.sA ez.v.v.s.length ez.v.sC,.slice ez.aA ez.args.length ez.aC,.slice ez.bA ez.src.length ez.bC]++dc ez.eff)]::[row b110 31 ([.int .i64 ew.op,.int .i64 ew.num,.int .i64 ew.clk,aj ew.typ,aj ew.cas,aj ew.nam,.int .i64 ew.v.v.k,.int .i64 ew.v.v.n,aj ew.v.v.t,.slice ew.v.sA ew.v.v.s.length ew.v.sC,.slice ew.aA ew.args.length ew.aC,.slice ew.bA ew.src.length ew.bC]++dc ew.eff)]::N1::N2::DA2::[row b1 66 [lvB,wvB,.int .i64 hdB,.bool false]]::YB::[row b7 74 [lvA,wvA,.int .i64 hdA,.bool false]]::YA::[]) w170:=hA171
        replace hrA:=hrA.mono (Ij hDS hinS)
        have hA172:Hp w0 (DS::M2::[row b4 70 [lvS,wvS,.int .i64 hdS,.bool false]]::YS::[row b103 31 ([.int .i64 ez.op,.int .i64 ez.num,.int .i64 ez.clk,aj ez.typ,aj ez.cas,aj ez.nam,.int .i64 ez.v.v.k,.int .i64 ez.v.v.n,aj ez.v.v.t,.slice ez.v.sA ez.v.v.s.length ez.v.sC,.slice ez.aA ez.args.length ez.aC,.slice ez.bA ez.src.length ez.bC]++dc ez.eff)]::[row b110 31 ([.int .i64 ew.op,.int .i64 ew.num,.int .i64 ew.clk,aj ew.typ,aj ew.cas,aj ew.nam,.int .i64 ew.v.v.k,.int .i64 ew.v.v.n,aj ew.v.v.t,.slice ew.v.sA ew.v.v.s.length ew.v.sC,.slice ew.aA ew.args.length ew.aC,.slice ew.bA ew.src.length ew.bC]++dc ew.eff)]::N1::N2::DA2::[row b1 66 [lvB,wvB,.int .i64 hdB,.bool false]]::YB::[row b7 74 [lvA,wvA,.int .i64 hdA,.bool false]]::YA::[]) w170:=hpO 13 [2,3,0,1,4,5,6,7,8,9,10,11,12] hA171 af
        have hA173:Hp w0 ((DS++M2)::[row b4 70 [lvS,wvS,.int .i64 hdS,.bool false]]::YS::[row b103 31 ([.int .i64 ez.op,.int .i64 ez.num,.int .i64 ez.clk,aj ez.typ,aj ez.cas,aj ez.nam,.int .i64 ez.v.v.k,.int .i64 ez.v.v.n,aj ez.v.v.t,.slice ez.v.sA ez.v.v.s.length ez.v.sC,.slice ez.aA ez.args.length ez.aC,.slice ez.bA ez.src.length ez.bC]++dc ez.eff)]::[row b110 31 ([.int .i64 ew.op,.int .i64 ew.num,.int .i64 ew.clk,aj ew.typ,aj ew.cas,aj ew.nam,.int .i64 ew.v.v.k,.int .i64 ew.v.v.n,aj ew.v.v.t,.slice ew.v.sA ew.v.v.s.length ew.v.sC,.slice ew.aA ew.args.length ew.aC,.slice ew.bA ew.src.length ew.bC]++dc ew.eff)]::N1::N2::DA2::[row b1 66 [lvB,wvB,.int .i64 hdB,.bool false]]::YB::[row b7 74 [lvA,wvA,.int .i64 hdA,.bool false]]::YA::[]) w170:=Hp.join hA172
        obtain ⟨M2,hM2⟩:∃ q:Seg,q=DS++M2:=⟨_,rfl⟩
        rw [← hM2] at hrA hA173
        clear hM2
        refine aH<|hK56 _ _ ?_
        refine wp_region_lit ?_
        refine vR hF<|vX O<|vV O (bT O O O (Np _ ag))<|vX O fun a hF=>?_
        refine aH ?_
        have hA174:Hp w0 ([row b103 31 ([.int .i64 ez.op,.int .i64 ez.num,.int .i64 ez.clk,aj ez.typ,aj ez.cas,aj ez.nam,.int .i64 ez.v.v.k,.int .i64 ez.v.v.n,aj ez.v.v.t,.slice ez.v.sA ez.v.v.s.length ez.v.sC,.slice ez.aA ez.args.length ez.aC,.slice ez.bA ez.src.length ez.bC]++dc ez.eff)]::[row b110 31 ([.int .i64 ew.op,.int .i64 ew.num,.int .i64 ew.clk,aj ew.typ,aj ew.cas,aj ew.nam,.int .i64 ew.v.v.k,.int .i64 ew.v.v.n,aj ew.v.v.t,.slice ew.v.sA ew.v.v.s.length ew.v.sC,.slice ew.aA ew.args.length ew.aC,.slice ew.bA ew.src.length ew.bC]++dc ew.eff)]::N1::N2::DA2::[row b1 66 [lvB,wvB,.int .i64 hdB,.bool false]]::YB::[row b4 70 [lvS,wvS,.int .i64 hdS,.bool false]]::YS::[row b7 74 [lvA,wvA,.int .i64 hdA,.bool false]]::YA::M2::[]) w170:=hpO 12 [3,4,5,6,7,8,9,1,2,10,11,0] hA173 af
        exact ⟨j+1,ag,_,_,_,_,_,_,_,_,ag,hO1n,hO2n,hbS,hrA,hF.keep [27,0,1,5,6,7,8,22,24] rfl,hA174⟩
       ·refine au hF O (dE ag) ?_
        have hA175:Hp w0 (MM::M1::M2q::[row b103 31 ([.int .i64 ez.op,.int .i64 ez.num,.int .i64 ez.clk,aj ez.typ,aj ez.cas,aj ez.nam,.int .i64 ez.v.v.k,.int .i64 ez.v.v.n,aj ez.v.v.t,.slice ez.v.sA ez.v.v.s.length ez.v.sC,.slice ez.aA ez.args.length ez.aC,.slice ez.bA ez.src.length ez.bC]++dc ez.eff)]::[row b110 31 ([.int .i64 ew.op,.int .i64 ew.num,.int .i64 ew.clk,aj ew.typ,aj ew.cas,aj ew.nam,.int .i64 ew.v.v.k,.int .i64 ew.v.v.n,aj ew.v.v.t,.slice ew.v.sA ew.v.v.s.length ew.v.sC,.slice ew.aA ew.args.length ew.aC,.slice ew.bA ew.src.length ew.bC]++dc ew.eff)]::DA2::[row b1 66 [lvB,wvB,.int .i64 hdB,.bool false]]::YB::[row b4 70 [lvS,wvS,.int .i64 hdS,.bool false]]::YS::[row b7 74 [lvA,wvA,.int .i64 hdA,.bool false]]::YA::[]) w161:=hpO 12 [11,2,3,0,1,4,5,6,7,8,9,10] hA160 af
        have hA176:Hp w0 ((MM++(M1++M2q))::[row b103 31 ([.int .i64 ez.op,.int .i64 ez.num,.int .i64 ez.clk,aj ez.typ,aj ez.cas,aj ez.nam,.int .i64 ez.v.v.k,.int .i64 ez.v.v.n,aj ez.v.v.t,.slice ez.v.sA ez.v.v.s.length ez.v.sC,.slice ez.aA ez.args.length ez.aC,.slice ez.bA ez.src.length ez.bC]++dc ez.eff)]::[row b110 31 ([.int .i64 ew.op,.int .i64 ew.num,.int .i64 ew.clk,aj ew.typ,aj ew.cas,aj ew.nam,.int .i64 ew.v.v.k,.int .i64 ew.v.v.n,aj ew.v.v.t,.slice ew.v.sA ew.v.v.s.length ew.v.sC,.slice ew.aA ew.args.length ew.aC,.slice ew.bA ew.src.length ew.bC]++dc ew.eff)]::DA2::[row b1 66 [lvB,wvB,.int .i64 hdB,.bool false]]::YB::[row b4 70 [lvS,wvS,.int .i64 hdS,.bool false]]::YS::[row b7 74 [lvA,wvA,.int .i64 hdA,.bool false]]::YA::[]) w161:=hA175.cast (by simp [List.append_assoc])
        apply wp_exit
        refine hK10 _ _ ?_
        refine wp_region_lit ?_
        refine vR hF<|vX O<|vV O (bT O O O (Np _ ag))<|vX O fun a hF=>?_
        refine aH ?_
        rw [← hse] at hF
        have hA177:Hp w0 ([row b1 66 [lvB,wvB,.int .i64 hdB,.bool false]]::YB::[row b4 70 [lvS,wvS,.int .i64 hdS,.bool false]]::YS::[row b7 74 [lvA,wvA,.int .i64 hdA,.bool false]]::YA::(MM++(M1++M2q))::[]) w161:=hpS 10 [4,5,6,7,8,9,0] [1,2,3] hA176 rfl
        exact ⟨i+1,ag,_,_,_,_,_,_,_,_,_,_,_,_,_,_,_,_,ag,hbB,hbS,hbA,hrA,ag,hF.keep [8,0,1,5,6,7] rfl,hA177⟩
      by_cases hk0:eY ea.ev=0
      ·obtain ⟨hd1,hd2⟩:=AC heV.i hk0
       have hrx0:=hrx hk0
       have hde0:og rx=0:=by rw [hrx0]; exact hd1
       have hze:ez.ev=ea.ev:=by rw [hevz,hrx0]; exact hd2
       rw [hde0] at hF
       refine aQ 20 [11,18,20] [0,1,2,3,4,5,6,7,8,9,10,11,12,13,14,15,16,17,18,19,20] _ af af (Hq.drew hA120.q) ?_
       have hA178:=Hl.drew hA120
       refine pR hF<|pX O O<|pW O O (fun _=>aF O O O O (fF ag))<|pX O O<|pG O O (fun _=>aV O O)<|pG O O (fun _=>aF O O O O (fK rfl))<|pG O O (fun _=>aV O O) fun a hF=>?_
       refine dD hF O O O O O O O ae _ (fun x hx=>cZ (new:=[.int .i64 ez.op,.int .i64 ez.num,.int .i64 ez.clk,aj ez.typ,aj ez.cas,aj ez.nam,.int .i64 ez.v.v.k,.int .i64 ez.v.v.n,aj ez.v.v.t,.slice ez.v.sA ez.v.v.s.length ez.v.sC,.slice ez.aA ez.args.length ez.aC,.slice ez.bA ez.src.length ez.bC]++dc ez.eff) rfl hx O 0 O Hg (by rw [List.length_append,aW,hz32]; exact Nat.le_of_ble_eq_true rfl) (by rw [List.drop_zero]; exact Ny (by rw [List.length_append,aW,hz32]; exact Nat.le_of_ble_eq_true rfl))) (fun a hF=>?_)
       refine pR hF<|pG O O (fun _=>aV O O)<|pG O O (fun _=>aV O O)<|pG O O (fun _=>aY O NV kV rfl rfl i rfl hlt rfl) fun a hF=>?_
       refine dD hF O O O O O O O ae _ (fun x hx=>dK (new:=ea.cells) rfl (Hq.sub hx (List.nil_subset _)) O hcce (i*44) hlee rfl hte Hg) (fun a hF=>?_)
       refine kW hF O O O O O O (fun K hK=>ay hF O ae rV rfl rfl ?_)
       with_reducible refine (rM ez ea _ hOkz (List.cons_subset.2 ⟨(Nw _ (Nw _ ((Nu ..)))),List.nil_subset _⟩) heV (List.nil_subset _) hA178).mono ?_
       rintro e' w179 ⟨rfl,hA180⟩
       refine ⟨_,rfl,fun a hF=>hK _ _ (fun _=>?_) ?_⟩
       ·exact hA180.q
       replace hA180:Hp w0 ([row b103 31 ([.int .i64 ez.op,.int .i64 ez.num,.int .i64 ez.clk,aj ez.typ,aj ez.cas,aj ez.nam,.int .i64 ez.v.v.k,.int .i64 ez.v.v.n,aj ez.v.v.t,.slice ez.v.sA ez.v.v.s.length ez.v.sC,.slice ez.aA ez.args.length ez.aC,.slice ez.bA ez.src.length ez.bC]++dc ez.eff)]::[row b110 31 ([.int .i64 ew.op,.int .i64 ew.num,.int .i64 ew.clk,aj ew.typ,aj ew.cas,aj ew.nam,.int .i64 ew.v.v.k,.int .i64 ew.v.v.n,aj ew.v.v.t,.slice ew.v.sA ew.v.v.s.length ew.v.sC,.slice ew.aA ew.args.length ew.aC,.slice ew.bA ew.src.length ew.bC]++dc ew.eff)]::ZD1::ZD2::ZE2::[row b1 66 [lvB,wvB,.int .i64 hdB,.bool false]]::YB::[row b4 70 [lvS,wvS,.int .i64 hdS,.bool false]]::YS::[row b7 74 [lvA,wvA,.int .i64 hdA,.bool false]]::YA::MM::[]) w179:=hA180
       rw [decide_eq_true hze] at hF
       refine pR hF<|pG O O (fun _=>dm O O O)<|pG O O (fun _=>bP O O O)<|pW O O (fun _=>bP O O O)<|pX O O fun a hF=>?_
       refine dD hF O O O O O O O ae _ (fun x hx=>cZ (new:=[.int .i64 ez.op,.int .i64 ez.num,.int .i64 ez.clk,aj ez.typ,aj ez.cas,aj ez.nam,.int .i64 ez.v.v.k,.int .i64 ez.v.v.n,aj ez.v.v.t,.slice ez.v.sA ez.v.v.s.length ez.v.sC,.slice ez.aA ez.args.length ez.aC,.slice ez.bA ez.src.length ez.bC]++dc ez.eff) rfl hx O 0 O Hg (by rw [List.length_append,aW,hz32]; exact Nat.le_of_ble_eq_true rfl) (by rw [List.drop_zero]; exact Ny (by rw [List.length_append,aW,hz32]; exact Nat.le_of_ble_eq_true rfl))) (fun a hF=>?_)
       refine dD hF O O O O O O O ae _ (fun x hx=>cZ (new:=[.int .i64 ew.op,.int .i64 ew.num,.int .i64 ew.clk,aj ew.typ,aj ew.cas,aj ew.nam,.int .i64 ew.v.v.k,.int .i64 ew.v.v.n,aj ew.v.v.t,.slice ew.v.sA ew.v.v.s.length ew.v.sC,.slice ew.aA ew.args.length ew.aC,.slice ew.bA ew.src.length ew.bC]++dc ew.eff) rfl hx O 1 O Hg (by rw [List.length_append,aW,hw32]; exact Nat.le_of_ble_eq_true rfl) (by rw [List.drop_zero]; exact Ny (by rw [List.length_append,aW,hw32]; exact Nat.le_of_ble_eq_true rfl))) (fun a hF=>?_)
       refine kW hF O O O O O O (fun K hK=>ay hF O ae rV rfl rfl ?_)
       with_reducible refine (rM ez ew _ hOkz (List.cons_subset.2 ⟨(Nw _ (Nw _ ((Nu ..)))),List.nil_subset _⟩) hOkw (List.cons_subset.2 ⟨(Nw _ (Nw _ (Nw _ ((Nu ..))))),List.nil_subset _⟩) hA180).mono ?_
       rintro e' w181 ⟨rfl,hA182⟩
       refine ⟨_,rfl,fun a hF=>hK _ _ (fun _=>?_) ?_⟩
       ·exact hA182.q
       replace hA182:Hp w0 ([row b103 31 ([.int .i64 ez.op,.int .i64 ez.num,.int .i64 ez.clk,aj ez.typ,aj ez.cas,aj ez.nam,.int .i64 ez.v.v.k,.int .i64 ez.v.v.n,aj ez.v.v.t,.slice ez.v.sA ez.v.v.s.length ez.v.sC,.slice ez.aA ez.args.length ez.aC,.slice ez.bA ez.src.length ez.bC]++dc ez.eff)]::[row b110 31 ([.int .i64 ew.op,.int .i64 ew.num,.int .i64 ew.clk,aj ew.typ,aj ew.cas,aj ew.nam,.int .i64 ew.v.v.k,.int .i64 ew.v.v.n,aj ew.v.v.t,.slice ew.v.sA ew.v.v.s.length ew.v.sC,.slice ew.aA ew.args.length ew.aC,.slice ew.bA ew.src.length ew.bC]++dc ew.eff)]::ZD1::ZD2::ZE2::[row b1 66 [lvB,wvB,.int .i64 hdB,.bool false]]::YB::[row b4 70 [lvS,wvS,.int .i64 hdS,.bool false]]::YS::[row b7 74 [lvA,wvA,.int .i64 hdA,.bool false]]::YA::MM::[]) w181:=hA182
       rw [decide_eq_true hzw] at hF
       refine pR hF<|pG O O (fun _=>dm O O O) fun a hF=>?_
       refine dG hF O O O O ae _ (bP O O O) (fun h=>absurd h ae) (fun a hF=>?_)
       refine bI ?_
       exact hJ4 _ _ (hF.keep [0,1,5,6,7,8,19,22,24,214] rfl) hA182
      ·refine aQ 20 [11,18,20] [0,1,2,3,4,5,6,7,8,9,10,11,12,13,14,15,16,17,18,19,20] _ af af (Hq.drew hA120.q) ?_
       have hA183:=Hl.drew hA120
       refine pR hF<|pX O O<|pW O O (fun _=>aF O O O O (bU ag))<|pX O O<|pS O O<|pS O O<|pS O O fun a hF=>?_
       refine fV hF O O O O O O O ae (fun a hF=>?_)
       refine fV hF O O O O O O O ae (fun a hF=>?_)
       refine fV hF O O O O O O O ae (fun a hF=>?_)
       refine fV hF O O O O O O O ae (fun a hF=>?_)
       refine fV hF O O O O O O O ae (fun a hF=>?_)
       refine tu hF O O O O O O O ae (hA183.q) (fun a hF=>?_)
       refine fV hF O O O O O O O ae (fun a hF=>?_)
       refine pR hF<|pS O O<|pW O O (fun _=>bP O O O)<|pX O O fun a hF=>?_
       refine dD hF O O O O O O O ae _ (fun x hx=>cZ (new:=[.int .i64 ez.op,.int .i64 ez.num,.int .i64 ez.clk,aj ez.typ,aj ez.cas,aj ez.nam,.int .i64 ez.v.v.k,.int .i64 ez.v.v.n,aj ez.v.v.t,.slice ez.v.sA ez.v.v.s.length ez.v.sC,.slice ez.aA ez.args.length ez.aC,.slice ez.bA ez.src.length ez.bC]++dc ez.eff) rfl hx O 0 O Hg (by rw [List.length_append,aW,hz32]; exact Nat.le_of_ble_eq_true rfl) (by rw [List.drop_zero]; exact Ny (by rw [List.length_append,aW,hz32]; exact Nat.le_of_ble_eq_true rfl))) (fun a hF=>?_)
       refine dD hF O O O O O O O ae _ (fun x hx=>cZ (new:=[.int .i64 ew.op,.int .i64 ew.num,.int .i64 ew.clk,aj ew.typ,aj ew.cas,aj ew.nam,.int .i64 ew.v.v.k,.int .i64 ew.v.v.n,aj ew.v.v.t,.slice ew.v.sA ew.v.v.s.length ew.v.sC,.slice ew.aA ew.args.length ew.aC,.slice ew.bA ew.src.length ew.bC]++dc ew.eff) rfl hx O 1 O Hg (by rw [List.length_append,aW,hw32]; exact Nat.le_of_ble_eq_true rfl) (by rw [List.drop_zero]; exact Ny (by rw [List.length_append,aW,hw32]; exact Nat.le_of_ble_eq_true rfl))) (fun a hF=>?_)
       refine kW hF O O O O O O (fun K hK=>ay hF O ae rV rfl rfl ?_)
       with_reducible refine (rM ez ew _ hOkz (List.cons_subset.2 ⟨(Nw _ (Nw _ ((Nu ..)))),List.nil_subset _⟩) hOkw (List.cons_subset.2 ⟨(Nw _ (Nw _ (Nw _ ((Nu ..))))),List.nil_subset _⟩) hA183).mono ?_
       rintro e' w184 ⟨rfl,hA185⟩
       refine ⟨_,rfl,fun a hF=>hK _ _ (fun _=>?_) ?_⟩
       ·exact hA185.q
       replace hA185:Hp w0 ([row b103 31 ([.int .i64 ez.op,.int .i64 ez.num,.int .i64 ez.clk,aj ez.typ,aj ez.cas,aj ez.nam,.int .i64 ez.v.v.k,.int .i64 ez.v.v.n,aj ez.v.v.t,.slice ez.v.sA ez.v.v.s.length ez.v.sC,.slice ez.aA ez.args.length ez.aC,.slice ez.bA ez.src.length ez.bC]++dc ez.eff)]::[row b110 31 ([.int .i64 ew.op,.int .i64 ew.num,.int .i64 ew.clk,aj ew.typ,aj ew.cas,aj ew.nam,.int .i64 ew.v.v.k,.int .i64 ew.v.v.n,aj ew.v.v.t,.slice ew.v.sA ew.v.v.s.length ew.v.sC,.slice ew.aA ew.args.length ew.aC,.slice ew.bA ew.src.length ew.bC]++dc ew.eff)]::ZD1::ZD2::ZE2::[row b1 66 [lvB,wvB,.int .i64 hdB,.bool false]]::YB::[row b4 70 [lvS,wvS,.int .i64 hdS,.bool false]]::YS::[row b7 74 [lvA,wvA,.int .i64 hdA,.bool false]]::YA::MM::[]) w184:=hA185
       rw [decide_eq_true hzw] at hF
       refine pR hF<|pG O O (fun _=>dm O O O) fun a hF=>?_
       refine dG hF O O O O ae _ (bP O O O) (fun h=>absurd h ae) (fun a hF=>?_)
       refine bI ?_
       exact hJ4 _ _ (hF.keep [0,1,5,6,7,8,19,22,24,214] rfl) hA185
    rcases tf ((aI .neq (((eY ea.ev:Nat):Int)) (0)) && (aI .lss (((i:Nat):Int)) (ps.length))) with hc9 | hc9
    ·refine au hF O hc9 ?_
     apply wp_skip
     have hA186:Hp w0 (XR0::ZE2::[row b1 66 [lvB,wvB,.int .i64 hdB,.bool false]]::YB::[row b4 70 [lvS,wvS,.int .i64 hdS,.bool false]]::YS::[row b7 74 [lvA,wvA,.int .i64 hdA,.bool false]]::YA::MM::[]) w99:=hpS 10 [0,4,1,2,5,6,7,8,9] [3] hA100 rfl
     exact hJ3 _ _ _ vR0 _ hR0 (fun _=>rfl) ag (hF.keep [0,1,5,6,7,8,18,19,21] rfl) hA186
    ·refine aG hF O hc9 ?_
     obtain ⟨hne9,hps9⟩:=J4 hc9
     obtain ⟨⟨XP,cp,lp⟩,hpp⟩:∃ q,ps[i]? = some q:=⟨_,List.getElem?_eq_getElem hps9⟩
     obtain ⟨bp,op_,hsP,hccp⟩:=hP1.ne (i:=i) (by rw [List.length_map]; exact hps9)
     have hRP:Rd w0 [] XP lp:=(hP.2 _ (List.mem_of_getElem? hpp)).2
     have hlp:lp.length≤140737488351232:=hpz _ (List.mem_of_getElem? hpp)
     rw [hsP] at hF
     refine wp_region_lit ?_
     refine vR hF<|vX O<|vX O<|vV O (aY O NQ dP O O i rfl hps9 (ad2 _ _ _))<|vV O (bV (u:= .slice XP lp.length cp) rfl (Hq.sub hA100.q (List.nil_subset _)) O hccp i (by rw [List.length_map]; exact hps9) rfl (by rw [List.getElem?_map,hpp]; rfl) jr) fun a hF=>?_
     have hA187:Hp w0 (([]:Seg)::XR0::[row b1 66 [lvB,wvB,.int .i64 hdB,.bool false]]::YB::DD3::ZE2::[row b4 70 [lvS,wvS,.int .i64 hdS,.bool false]]::YS::[row b7 74 [lvA,wvA,.int .i64 hdA,.bool false]]::YA::MM::[]) w99:=Hp.nil hA100
     refine ax O (fun K hK=>cO hF O ae rfl hA187 0 O (Buf.nil 5 1) Nq gQ rfl rfl (Rc.src hRP (Hq.sub hA187.q (List.nil_subset _)) Nq) ag ae (fun vR9 XR9 w188 a hR9 hF hA189=>hK _ _ ?_))
     replace hA189:Hp w0 (XR9::XR0::[row b1 66 [lvB,wvB,.int .i64 hdB,.bool false]]::YB::DD3::ZE2::[row b4 70 [lvS,wvS,.int .i64 hdS,.bool false]]::YS::[row b7 74 [lvA,wvA,.int .i64 hdA,.bool false]]::YA::MM::[]) w188:=hA189
     rw [List.nil_append,Nat.zero_add] at hR9
     refine vR hF<|vX O fun a hF=>?_
     refine aH ?_
     rw [← hsP] at hF
     have hA190:Hp w0 (XR9::ZE2::[row b1 66 [lvB,wvB,.int .i64 hdB,.bool false]]::YB::[row b4 70 [lvS,wvS,.int .i64 hdS,.bool false]]::YS::[row b7 74 [lvA,wvA,.int .i64 hdA,.bool false]]::YA::MM::[]) w188:=hpS 11 [0,5,2,3,6,7,8,9,10] [1,4] hA189 af
     exact hJ3 _ _ lp vR9 _ hR9 (fun h9=>absurd h9 hne9) ag (hF.keep [0,1,5,6,7,8,18,19,21] rfl) hA190
  ·refine aG hF O hb ?_
   apply wp_exit
   refine hK10 _ _ ?_
   refine wp_region_lit ?_
   refine vR hF<|vX O<|vV O (bT O O O (Np _ ag))<|vX O fun a hF=>?_
   refine aH ?_
   rw [← hse] at hF
   exact ⟨i+1,ag,_,_,_,_,_,_,_,_,_,_,_,_,_,_,_,_,ag,hbB,hbS,hbA,hrA,ag,hF.keep [8,0,1,5,6,7] rfl,hA27⟩
end Go.Proofs.YtepbmdlgdaedpaaGreatDoor
