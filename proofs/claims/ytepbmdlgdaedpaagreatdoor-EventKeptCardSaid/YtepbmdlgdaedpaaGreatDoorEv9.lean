/- What is known of some closed events, and of nothing. -/
import Derived.Test.YtepbmdlgdaedpaaGreatDoorEv8
/- What is known of some closed events, and of nothing. -/
namespace Go.Proofs.YtepbmdlgdaedpaaGreatDoor
open Go.RowKit Go.Dk
theorem Jj:aK Tryz.prog 21:=⟨_,Tryz.func21,af,af⟩
theorem Jh:aK Tryz.prog 24:=⟨_,Tryz.func24,af,af⟩
theorem Jg:aK Tryz.prog 29:=⟨_,Tryz.func29,af,af⟩
set_option maxRecDepth 100000 in
set_option maxHeartbeats 8000000 in
theorem zy {w0:World} {R:List Seg} (zk zn:Int) (zt:List UInt8) (sv:Value) (w:World) (hA:Hp w0 R w):Calls Tryz.prog 48 #[.pointer none,.agg ([.int .i64 zk,.int .i64 zn,aj zt,sv]:List Value).toArray] w fun e w'=>e= .returned (.int .i64 1)∧Hp w0 R w':=by
 refine aP Tryz.func48 O Tryz.ntmps48 ai (fun a hF=>?_)
 refine wp_seq_k fun K1 hK1=>wp_region_lit ?_
 refine ax O (fun K hK=>ed (cs:=[.int .i64 zk,.int .i64 zn,aj zt,sv]) hF O ae rfl hA O (fun b1 w2 a hb1 hF hA3=>hK _ _ ?_))
 refine vR hF<|vX O<|vE hK1<|wQ fun K2 hK2=>wT fun K3 hK3=>vX O<|vV O (wK O af rfl rfl)<|vE hK3<|vT1 O<|wT fun K4 hK4=>vX O<|vE hK4 fun a hF=>?_
 apply wp_ret
 simp only [Exit.then]
 refine aO hF Tryz.results48 O ?_
 have hA4:Hp w0 (R) w2:=hpS 1 [] [0] hA3 rfl
 exact ⟨rfl,hA4⟩
set_option maxRecDepth 100000 in
set_option maxHeartbeats 8000000 in
theorem yg {w0:World} {R:List Seg} (w:World) (hA:Hp w0 R w):Calls Tryz.prog 35 #[.pointer none] w fun e w'=>e= .returned (.tuple #[.agg ([.int .i64 0,.int .i64 0,aj [],.slice none 0 0]:List Value).toArray,.int .i64 1])∧Hp w0 R w':=by
 refine aP Tryz.func35 O Tryz.ntmps35 ai (fun a hF=>?_)
 refine wp_seq_k fun K1 hK1=>wp_region_lit ?_
 refine ax O (fun K hK=>dC hF O ae rfl hA (zQ) (fun b1 w2 a hb1 hF hA3=>hK _ _ ?_))
 refine vR hF<|vX O<|vE hK1<|wQ fun K2 hK2=>wT fun K3 hK3=>vX O<|vV O (wK O af rfl rfl)<|vE hK3<|vT1 O<|wT fun K4 hK4=>vV O (eX O vO) fun a hF=>?_
 refine ax O (fun K hK=>bG (new:=[.int .i64 0,.int .i64 0,aj [],.slice none 0 0]) hF O O hA3 O O 0 O O (by simp [Value.oneCell']) nD (fun w4 hA5=>hK _ _ ?_))
 replace hA5:Hp w0 ([row b1 25 [.int .i64 0,.int .i64 0,aj [],.slice none 0 0]]::R) w4:=hA5
 refine vR hF<|vX O<|vE hK4 fun a hF=>?_
 apply wp_ret
 simp only [Exit.then]
 refine fH hF Tryz.results35 hA5.q O O 0 O Ho ?_
 have hA6:Hp w0 (R) w4:=hpS 1 [] [0] hA5 rfl
 exact ⟨rfl,hA6⟩
set_option maxRecDepth 100000 in
set_option maxHeartbeats 8000000 in
theorem yj {w0:World} {R:List Seg} (n:Int) (ch cn ct:List UInt8) (cc:List Value) (s1 s2 s3:Value) (w:World) (hT:mO w0) (hct:bY ct=false) (hA:Hp w0 R w):Calls Tryz.prog 24 #[.agg (.int .i64 n::dc ch).toArray,.agg (aj cn::aj ct::cc).toArray,s1,s2,s3] w fun e w'=>e= .returned (.tuple #[.slice none 0 0,.int .i64 34])∧Hp w0 R w':=by
 refine aP Tryz.func24 O Tryz.ntmps24 ai (fun a hF=>?_)
 refine wp_seq_k fun K1 hK1=>wp_region_lit ?_
 refine ax O (fun K hK=>ed (cs:=(.int .i64 n::dc ch)) hF O ae rfl hA O (fun b1 w2 a hb1 hF hA3=>hK _ _ ?_))
 refine ax O (fun K hK=>ed (cs:=aj cn::aj ct::cc) hF O ae rfl hA3 O (fun b4 w5 a hb4 hF hA6=>hK _ _ ?_))
 refine vR hF<|vX O<|vX O<|vE hK1<|wQ fun K2 hK2=>wT fun K3 hK3=>vV O (yf 1 O NL O uC O)<|vV O (aU O hA6.q O 0 O O uV) fun a hF=>?_
 refine ax O (fun K hK=>ay hF O ae AV rfl rfl ?_)
 with_reducible refine (lT ct _ hT hA6).mono ?_
 rintro e' w9 ⟨rfl,rfl⟩
 refine ⟨_,rfl,fun a hF=>hK _ _ ?_⟩
 refine vR hF<|vV O (dm O O O)<|vE hK3 fun a hF=>?_
 refine aG hF O (by rw [hct]; rfl) ?_
 refine wS hF fun K4 hK4=>vX O<|vX O<|vE hK4 fun a hF=>?_
 apply wp_ret
 simp only [Exit.then]
 refine gG hF Tryz.results24 O O ?_
 have hA10:Hp w0 (R) w5:=hpS 2 [] [0,1] hA6 rfl
 exact ⟨rfl,hA10⟩
set_option maxRecDepth 100000 in
set_option maxHeartbeats 8000000 in
theorem yh {w0:World} {R:List Seg} (n z:Int) (ch:List UInt8) (A1:Option Addr) (c1:Nat) (w:World) (hA:Hp w0 R w):Calls Tryz.prog 29 #[.agg (.int .i64 n::dc ch).toArray,.int .i64 z,.slice A1 1 c1,.slice none 0 0] w fun e w'=>e= .returned (.tuple #[.slice none 0 0,.int .i64 1])∧Hp w0 R w':=by
 refine aP Tryz.func29 O Tryz.ntmps29 ai (fun a hF=>?_)
 refine wp_seq_k fun K1 hK1=>wp_region_lit ?_
 refine ax O (fun K hK=>ed (cs:=(.int .i64 n::dc ch)) hF O ae rfl hA O (fun b1 w2 a hb1 hF hA3=>hK _ _ ?_))
 refine ax O (fun K hK=>Ar hF O ae rfl hA3 O O (fun b4 w5 a hb4 hF hA6=>hK _ _ ?_))
 refine vR hF<|vX O<|vX O<|vE hK1<|wQ fun K2 hK2=>wT fun K3 hK3=>vV O (aU O hA6.q O 0 O O mi)<|vV O (aT O Nk O O)<|vX O<|vV O (aT O NM O O)<|vV O (aF (c:=true) rfl rfl rfl rfl rfl)<|vE hK3<|vT1 O<|wT fun K4 hK4=>vX O<|vX O<|vE hK4 fun a hF=>?_
 apply wp_ret
 simp only [Exit.then]
 refine gG hF Tryz.results29 O O ?_
 have hA7:Hp w0 (R) w5:=hpS 2 [] [0,1] hA6 rfl
 exact ⟨rfl,hA7⟩
def kE1:EA:=⟨5,258,9,[],[],[],⟨noVal,none,0⟩,[],none,0,[],none,0,List.replicate 32 0⟩
theorem kO1 {w0:World} {G:List Seg}:kE1.Ok w0 G:=⟨⟨Rc.nil,Nl _,⟨ ae,ae⟩⟩,fun _ h=>absurd h (List.not_mem_nil),Rc.nil,Nl _,Rc.nil,Nl _,⟨ ae,ae,ae,⟨ ae,ae⟩,fun _ h=>absurd h (List.not_mem_nil),rfl⟩⟩
theorem kn1:eY kE1.ev=0:=by decide +kernel
theorem ke1:((eY kE1.ev:Nat):Int)=0:=by rw [kn1]; rfl
theorem kl1:(dV kE1.ev).length=49:=by decide +kernel
theorem kb1:dV kE1.ev=[5,0,0,0,0,0,0,1,2,0,0,0,0,0,0,0,9,0,0,0,0,0,0,0,0,0,0,0,0,0,0,0,0,0,0,0,0,0,0,0,0,0,0,0,0,0,0,0,0]:=by decide +kernel
def kE2:EA:=⟨3,0,0,[],[99,45,49],[102,101,101],⟨⟨1,4,[],[]⟩,none,0⟩,[],none,0,[],none,0,List.replicate 32 0⟩
theorem kO2 {w0:World} {G:List Seg}:kE2.Ok w0 G:=⟨⟨Rc.nil,Nl _,⟨ ae,ae⟩⟩,fun _ h=>absurd h (List.not_mem_nil),Rc.nil,Nl _,Rc.nil,Nl _,⟨ ae,ae,ae,⟨ ae,ae⟩,fun _ h=>absurd h (List.not_mem_nil),rfl⟩⟩
theorem kn2:eY kE2.ev=0:=by decide +kernel
theorem ke2:((eY kE2.ev:Nat):Int)=0:=by rw [kn2]; rfl
theorem kl2:(dV kE2.ev).length=68:=by decide +kernel
theorem kb2:dV kE2.ev=[3,0,0,0,0,0,0,0,0,0,0,0,0,0,0,0,0,0,3,99,45,49,0,3,102,101,101,1,0,0,0,0,0,0,0,4,0,0,0,0,0,0,0,0,0,0,0,0,0,0,0,0,0,0,0,0,0,0,0,0,0,0,0,0,0,0,0,0]:=by decide +kernel
def kE3:EA:=⟨5,-1,0,[],[99,45,49],[],⟨noVal,none,0⟩,[],none,0,[],none,0,List.replicate 32 0⟩
theorem kO3 {w0:World} {G:List Seg}:kE3.Ok w0 G:=⟨⟨Rc.nil,Nl _,⟨ ae,ae⟩⟩,fun _ h=>absurd h (List.not_mem_nil),Rc.nil,Nl _,Rc.nil,Nl _,⟨ ae,ae,ae,⟨ ae,ae⟩,fun _ h=>absurd h (List.not_mem_nil),rfl⟩⟩
theorem kn3:eY kE3.ev=8:=by decide +kernel
theorem ke3:((eY kE3.ev:Nat):Int)=8:=by rw [kn3]; rfl
theorem kl3:(dV kE3.ev).length=0:=by decide +kernel
def kE4:EA:=⟨2,-1,0,[116],[67],[],⟨noVal,none,0⟩,[],none,0,[],none,0,List.replicate 32 0⟩
theorem kO4 {w0:World} {G:List Seg}:kE4.Ok w0 G:=⟨⟨Rc.nil,Nl _,⟨ ae,ae⟩⟩,fun _ h=>absurd h (List.not_mem_nil),Rc.nil,Nl _,Rc.nil,Nl _,⟨ ae,ae,ae,⟨ ae,ae⟩,fun _ h=>absurd h (List.not_mem_nil),rfl⟩⟩
theorem kn4:eY kE4.ev=34:=by decide +kernel
theorem ke4:((eY kE4.ev:Nat):Int)=34:=by rw [kn4]; rfl
theorem kl4:(dV kE4.ev).length=0:=by decide +kernel
theorem MR (w:World):(Instr.build 31 #[(0,.int .i64 5),(1,.int .i64 258),(2,.int .i64 9)]).run Tryz.prog w= .ok (.agg kE1.cells.toArray) w:=af
theorem ML (w:World):(Instr.build 25 #[(0,.int .i64 1),(1,.int .i64 4)]).run Tryz.prog w= .ok (.agg ([.int .i64 1,.int .i64 4,aj [],.slice none 0 0]:List Value).toArray) w:=af
theorem MQ (w:World):(Instr.build 31 #[(0,.int .i64 3),(4,aj [99,45,49]),(5,aj [102,101,101]),(6,.agg ([.int .i64 1,.int .i64 4,aj [],.slice none 0 0]:List Value).toArray)]).run Tryz.prog w= .ok (.agg kE2.cells.toArray) w:=af
theorem MP (w:World):(Instr.build 31 #[(0,.int .i64 5),(4,aj [99,45,49]),(1,.int .i64 (-1))]).run Tryz.prog w= .ok (.agg kE3.cells.toArray) w:=af
theorem MO (w:World):(Instr.build 31 #[(0,.int .i64 2),(4,aj [67]),(3,aj [116]),(1,.int .i64 (-1))]).run Tryz.prog w= .ok (.agg kE4.cells.toArray) w:=af
theorem LX (w:World):(Instr.build 49 #[]).run Tryz.prog w= .ok (.agg (.int .i64 0::dc (List.replicate 32 0)).toArray) w:=af
def kCC:List Value:= .int .i64 0::(dc (List.replicate 32 0)++[.slice none 0 0,.slice none 0 0,.slice none 0 0,.slice none 0 0])
theorem MN (w:World):(Instr.build 52 #[(1,aj [105,110])]).run Tryz.prog w= .ok (.agg (aj []::aj [105,110]::kCC).toArray) w:=af
theorem MJ:(Tryz.prog.info? 9).map (fun i=>(i.zero.map (fun z=>z.cells.toList),i.size,i.bytes))=some (some (List.replicate 1 (aj [])),1,16):=af
theorem MK (w:World):(Instr.buildSlice 23 1 #[(0,aj [105,110])]).run Tryz.prog w= .ok (.slice (some ⟨w.heap.size,0,none⟩) 1 1) (w.alloc (.cells #[aj [105,110]] 9)):=af
theorem zB {w0:World} {R:List Seg} {G:List Seg} (A:Option Addr) (raw:List UInt8) (n c:Nat) (w:World) (hn:raw.length=n) (hT:mO w0) (hR:Rd w0 G A raw) (hG:G⊆R) (hl:raw.length≤9223372036854775807) (hA:Hp w0 R w):Calls Tryz.prog 21 #[.slice A n c] w fun e w'=>∃ (ea:EA) (Z:Seg),e= .returned (.tuple #[.agg ea.cells.toArray,.int .i64 (og raw:Nat)])∧ea.ev=mJ raw∧ea.Ok w0 [Z]∧Hp w0 (Z::R) w':=by
 subst hn
 exact CY A raw c w hT hR hG hl hA
set_option maxRecDepth 100000 in
set_option maxHeartbeats 8000000 in
theorem EY {w0:World} {R:List Seg} (w:World) (hT:mO w0) (hA:Hp w0 R w):Calls Tryz.prog 15 #[] w fun e w'=>e= .returned (.bool true)∧Hp w0 R w':=by
 refine aP Tryz.func15 O Tryz.ntmps15 ai (fun a hF=>?_)
 refine wS hF fun K1 hK1=>vX O<|vE hK1<|wT fun K2 hK2=>vV O (fM (v:= .agg kE1.cells.toArray) (qs := #[(0,.int .i64 5),(1,.int .i64 258),(2,.int .i64 9)]) O O (MR)) fun a hF=>?_
 refine ax O (fun K hK=>ay hF O ae Jk rfl rfl ?_)
 with_reducible refine (iY kE1 _ hT (kO1 (G:=[])) (List.nil_subset _) hA).mono ?_
 rintro e' w1 ⟨vE1,ZE1,rfl,hZE1,hA2⟩
 refine ⟨_,rfl,fun a hF=>hK _ _ ?_⟩
 replace hA2:Hp w0 (ZE1::R) w1:=hA2
 obtain ⟨_,AE1,cE1,rfl,_,hRE1⟩:=hZE1.rd (w0:=w0) (R:=[ZE1]) (Nu ..)
 rw [ke1,kl1] at hF
 obtain ⟨bq1,oq1,rfl,hq1⟩:=hRE1.ne (i:=0) (by rw [aW,kl1]; decide)
 rw [kb1] at hq1
 refine vR hF<|vX O<|vV O (aN (v:= .slice (some ⟨bq1,oq1,none⟩) 49 cE1) rfl rfl rfl)<|vV O (aN (v:= .int .i64 0) rfl rfl rfl)<|vX O<|vX O<|vE hK2<|wQ fun K3 hK3=>wT fun K4 hK4=>vX O<|vV O (aF (c:=false) rfl rfl rfl rfl rfl)<|vX O fun a hF=>?_
 refine aJ hF O O O O (ak rfl) ae _ (aV O O) (fun a hF=>?_)
 refine aJ hF O O O O (ak rfl) ae _ (aT O Nq O O) (fun a hF=>?_)
 refine aJ hF O O O O (ak rfl) ae _ (aF (c:=false) rfl rfl rfl rfl rfl) (fun a hF=>?_)
 refine vR hF<|vV O (bu O O O O)<|vX O fun a hF=>?_
 refine aJ hF O O O O (ak rfl) ae _ (aV O O) (fun a hF=>?_)
 refine aJ hF O O O O (ak rfl) ae _ (aY O Nq uD O O 0 O ae (ad2 _ _ _)) (fun a hF=>?_)
 refine aJ hF O O O O (ak rfl) ae _ (bV (u:= .int .u8 5) rfl (Hq.sub hA2.q (List.cons_subset.2 ⟨((Nu ..)),List.nil_subset _⟩)) O hq1 0 ae rfl rfl uX) (fun a hF=>?_)
 refine aJ hF O O O O (ak rfl) ae _ (aF (c:=false) rfl rfl rfl rfl rfl) (fun a hF=>?_)
 refine vR hF<|vV O (bu O O O O)<|vX O fun a hF=>?_
 refine aJ hF O O O O (ak rfl) ae _ (aV O O) (fun a hF=>?_)
 refine aJ hF O O O O (ak rfl) ae _ (aY O Nq uD O O 7 O ae (ad2 _ _ _)) (fun a hF=>?_)
 refine aJ hF O O O O (ak rfl) ae _ (bV (u:= .int .u8 1) rfl (Hq.sub hA2.q (List.cons_subset.2 ⟨((Nu ..)),List.nil_subset _⟩)) O hq1 7 ae rfl rfl uX) (fun a hF=>?_)
 refine aJ hF O O O O (ak rfl) ae _ (aF (c:=false) rfl rfl rfl rfl rfl) (fun a hF=>?_)
 refine vR hF<|vV O (bu O O O O)<|vX O fun a hF=>?_
 refine aJ hF O O O O (ak rfl) ae _ (aV O O) (fun a hF=>?_)
 refine aJ hF O O O O (ak rfl) ae _ (aY O Nq uD O O 8 O ae (ad2 _ _ _)) (fun a hF=>?_)
 refine aJ hF O O O O (ak rfl) ae _ (bV (u:= .int .u8 2) rfl (Hq.sub hA2.q (List.cons_subset.2 ⟨((Nu ..)),List.nil_subset _⟩)) O hq1 8 ae rfl rfl uX) (fun a hF=>?_)
 refine aJ hF O O O O (ak rfl) ae _ (aF (c:=false) rfl rfl rfl rfl rfl) (fun a hF=>?_)
 refine vR hF<|vV O (bu O O O O)<|vX O fun a hF=>?_
 refine aJ hF O O O O (ak rfl) ae _ (aV O O) (fun a hF=>?_)
 refine aJ hF O O O O (ak rfl) ae _ (aY O Nq uD O O 16 rfl ae (ad2 _ _ _)) (fun a hF=>?_)
 refine aJ hF O O O O (ak rfl) ae _ (bV (u:= .int .u8 9) rfl (Hq.sub hA2.q (List.cons_subset.2 ⟨((Nu ..)),List.nil_subset _⟩)) O hq1 16 ae rfl rfl uX) (fun a hF=>?_)
 refine aJ hF O O O O (ak rfl) ae _ (aF (c:=false) rfl rfl rfl rfl rfl) (fun a hF=>?_)
 refine vR hF<|vV O (bu O O O O)<|vE hK4 fun a hF=>?_
 refine au hF O O ?_
 apply wp_skip
 refine hK3 _ _ ?_
 refine wS hF fun K5 hK5=>vV O (fM (v:= .agg ([.int .i64 1,.int .i64 4,aj [],.slice none 0 0]:List Value).toArray) (qs := #[(0,.int .i64 1),(1,.int .i64 4)]) O O ML)<|vV O (fM (v:= .agg kE2.cells.toArray) (qs := #[(0,.int .i64 3),(4,aj [99,45,49]),(5,aj [102,101,101]),(6,.agg ([.int .i64 1,.int .i64 4,aj [],.slice none 0 0]:List Value).toArray)]) O O (MQ)) fun a hF=>?_
 refine ax O (fun K hK=>ay hF O ae Jk rfl rfl ?_)
 with_reducible refine (iY kE2 _ hT (kO2 (G:=[])) (List.nil_subset _) hA2).mono ?_
 rintro e' w3 ⟨vE2,ZE2,rfl,hZE2,hA4⟩
 refine ⟨_,rfl,fun a hF=>hK _ _ ?_⟩
 replace hA4:Hp w0 (ZE2::ZE1::R) w3:=hA4
 obtain ⟨_,AE2,cE2,rfl,_,hRE2⟩:=hZE2.rd (w0:=w0) (R:=[ZE2]) (Nu ..)
 rw [ke2,kl2] at hF
 obtain ⟨bq2,oq2,rfl,hq2⟩:=hRE2.ne (i:=0) (by rw [aW,kl2]; decide)
 rw [kb2] at hq2
 refine vR hF<|vX O<|vV O (aN (v:= .slice (some ⟨bq2,oq2,none⟩) 68 cE2) rfl rfl rfl)<|vV O (aN (v:= .int .i64 0) rfl rfl rfl)<|vX O<|vX O<|vE hK5<|wQ fun K6 hK6=>wT fun K7 hK7=>vX O<|vV O (aF (c:=false) rfl rfl rfl rfl rfl)<|vX O fun a hF=>?_
 refine aJ hF O O O O (ak rfl) ae _ (aV O O) (fun a hF=>?_)
 refine aJ hF O O O O (ak rfl) ae _ (aT O Nq O O) (fun a hF=>?_)
 refine aJ hF O O O O (ak rfl) ae _ (aF (c:=false) rfl rfl rfl rfl rfl) (fun a hF=>?_)
 refine vR hF<|vV O (bu O O O O)<|vX O fun a hF=>?_
 refine aJ hF O O O O (ak rfl) ae _ (aV O O) (fun a hF=>?_)
 refine aJ hF O O O O (ak rfl) ae _ (aY O Nq uD O O 17 rfl ae (ad2 _ _ _)) (fun a hF=>?_)
 refine aJ hF O O O O (ak rfl) ae _ (bV (u:= .int .u8 0) rfl (Hq.sub hA4.q (List.cons_subset.2 ⟨((Nu ..)),List.nil_subset _⟩)) O hq2 17 ae rfl rfl uX) (fun a hF=>?_)
 refine aJ hF O O O O (ak rfl) ae _ (aF (c:=false) rfl rfl rfl rfl rfl) (fun a hF=>?_)
 refine vR hF<|vV O (bu O O O O)<|vX O fun a hF=>?_
 refine aJ hF O O O O (ak rfl) ae _ (aV O O) (fun a hF=>?_)
 refine aJ hF O O O O (ak rfl) ae _ (aY O Nq uD O O 18 rfl ae (ad2 _ _ _)) (fun a hF=>?_)
 refine aJ hF O O O O (ak rfl) ae _ (bV (u:= .int .u8 3) rfl (Hq.sub hA4.q (List.cons_subset.2 ⟨((Nu ..)),List.nil_subset _⟩)) O hq2 18 ae rfl rfl uX) (fun a hF=>?_)
 refine aJ hF O O O O (ak rfl) ae _ (aF (c:=false) rfl rfl rfl rfl rfl) (fun a hF=>?_)
 refine vR hF<|vV O (bu O O O O)<|vX O fun a hF=>?_
 refine aJ hF O O O O (ak rfl) ae _ (aV O O) (fun a hF=>?_)
 refine aJ hF O O O O (ak rfl) ae _ (aY O Nq uD O O 19 rfl ae (ad2 _ _ _)) (fun a hF=>?_)
 refine aJ hF O O O O (ak rfl) ae _ (bV (u:= .int .u8 99) rfl (Hq.sub hA4.q (List.cons_subset.2 ⟨((Nu ..)),List.nil_subset _⟩)) O hq2 19 ae rfl rfl uX) (fun a hF=>?_)
 refine aJ hF O O O O (ak rfl) ae _ (aF (c:=false) rfl rfl rfl rfl rfl) (fun a hF=>?_)
 refine vR hF<|vV O (bu O O O O)<|vX O fun a hF=>?_
 refine aJ hF O O O O (ak rfl) ae _ (aV O O) (fun a hF=>?_)
 refine aJ hF O O O O (ak rfl) ae _ (aY O Nq uD O O 27 rfl ae (ad2 _ _ _)) (fun a hF=>?_)
 refine aJ hF O O O O (ak rfl) ae _ (bV (u:= .int .u8 1) rfl (Hq.sub hA4.q (List.cons_subset.2 ⟨((Nu ..)),List.nil_subset _⟩)) O hq2 27 ae rfl rfl uX) (fun a hF=>?_)
 refine aJ hF O O O O (ak rfl) ae _ (aF (c:=false) rfl rfl rfl rfl rfl) (fun a hF=>?_)
 refine vR hF<|vV O (bu O O O O)<|vE hK7 fun a hF=>?_
 refine au hF O O ?_
 apply wp_skip
 refine hK6 _ _ ?_
 refine wS hF fun K8 hK8=>vX O fun a hF=>?_
 refine ax O (fun K hK=>ay hF O ae Jj rfl rfl ?_)
 with_reducible refine (zB (G:=[ZE2]) (some ⟨bq2,oq2,none⟩) (dV kE2.ev) 68 cE2 _ kl2 hT hRE2 (List.cons_subset.2 ⟨((Nu ..)),List.nil_subset _⟩) (by rw [kl2]; decide) hA4).mono ?_
 rintro e' w5 ⟨ea,ZD,rfl,hev,hEo,hA6⟩
 refine ⟨_,rfl,fun a hF=>hK _ _ ?_⟩
 replace hA6:Hp w0 (ZD::ZE2::ZE1::R) w5:=hA6
 obtain ⟨hd1,hd2⟩:=AC (kO2 (w0:=w0) (G:=[])).i kn2
 rw [hd1] at hF
 rw [hd2] at hev
 have hop:ea.op=3:=congrArg Go.Proofs.YtepbmdlgdaedpaaGreatDoor.Ev.op hev
 have hnam:ea.nam=[102,101,101]:=congrArg Go.Proofs.YtepbmdlgdaedpaaGreatDoor.Ev.nam hev
 have hvn:ea.v.v.n=4:=congrArg (fun e=>(Go.Proofs.YtepbmdlgdaedpaaGreatDoor.Ev.v e).n) hev
 have he32:ea.eff.length=32:=hEo.i.2.2.2.2.2
 refine vR hF<|vX O<|vV O (aN (v:= .agg (ea.cells).toArray) rfl rfl rfl)<|vV O (aN (v:= .int .i64 ((0:Nat):Int)) O O O) fun a hF=>?_
 refine ax O (fun K hK=>dC hF O ae rfl hA6 yc (fun b7 w8 a hb7 hF hA9=>hK _ _ ?_))
 refine ax O (fun K hK=>bG (new:=ea.cells) hF O O hA9 O O 0 O (by rw [List.length_append,aW,he32]; rfl) (fun v hv=>jv (e:=ea) hv) kV (fun w10 hA11=>hK _ _ ?_))
 replace hA11:Hp w0 ([row b7 31 ea.cells]::ZD::ZE2::ZE1::R) w10:=hA11
 refine vR hF<|vX O<|vE hK8<|wQ fun K9 hK9=>wT fun K10 hK10=>vX O<|vV O (aF (c:=false) rfl rfl rfl rfl rfl)<|vX O fun a hF=>?_
 refine aJ hF O O O O (ak rfl) ae _ (yf 0 O NE O gZ O) (fun a hF=>?_)
 refine aJ hF O O O O (ak rfl) ae _ (aU O hA11.q O 0 O O jZ) (fun a hF=>?_)
 refine aJ hF O O O O (ak rfl) ae _ (aF O O O O (fK ag)) (fun a hF=>?_)
 refine vR hF<|vV O (bu O O O O)<|vX O fun a hF=>?_
 refine aJ hF O O O O (ak rfl) ae _ (yf 5 O NE O uC O) (fun a hF=>?_)
 refine aJ hF O O O O (ak rfl) ae _ (aU O hA11.q O 0 O O uV) (fun a hF=>?_)
 refine aJ hF O O O O (ak rfl) ae _ (fA O O O O (by rw [hnam] <;> rfl)) (fun a hF=>?_)
 refine vR hF<|vV O (bu O O O O)<|vX O fun a hF=>?_
 refine aJ hF O O O O (ak rfl) ae _ (yf 6 O NE O nD O) (fun a hF=>?_)
 refine aJ hF O O O O (ak rfl) ae _ (yf 7 O ND O gZ O) (fun a hF=>?_)
 refine aJ hF O O O O (ak rfl) ae _ (aU O hA11.q O 0 O O jZ) (fun a hF=>?_)
 refine aJ hF O O O O (ak rfl) ae _ (aF O O O O (fK ag)) (fun a hF=>?_)
 refine vR hF<|vV O (bu O O O O)<|vE hK10 fun a hF=>?_
 refine au hF O O ?_
 apply wp_skip
 refine hK9 _ _ ?_
 refine wS hF fun K11 hK11=>vV O (fM (v:= .agg kE3.cells.toArray) (qs := #[(0,.int .i64 5),(4,aj [99,45,49]),(1,.int .i64 (-1))]) O O (MP)) fun a hF=>?_
 refine ax O (fun K hK=>ay hF O ae Jk rfl rfl ?_)
 with_reducible refine (iY kE3 _ hT (kO3 (G:=[])) (List.nil_subset _) hA11).mono ?_
 rintro e' w12 ⟨vE3,ZE3,rfl,hZE3,hA13⟩
 refine ⟨_,rfl,fun a hF=>hK _ _ ?_⟩
 replace hA13:Hp w0 (ZE3::[row b7 31 ([.int .i64 ea.op,.int .i64 ea.num,.int .i64 ea.clk,aj ea.typ,aj ea.cas,aj ea.nam,.int .i64 ea.v.v.k,.int .i64 ea.v.v.n,aj ea.v.v.t,.slice ea.v.sA ea.v.v.s.length ea.v.sC,.slice ea.aA ea.args.length ea.aC,.slice ea.bA ea.src.length ea.bC]++dc ea.eff)]::ZD::ZE2::ZE1::R) w12:=hA13
 obtain ⟨_,AE3,cE3,rfl,_,hRE3⟩:=hZE3.rd (w0:=w0) (R:=[ZE3]) (Nu ..)
 rw [ke3,kl3] at hF
 refine vR hF<|vX O<|vV O (aN (v:= .slice AE3 0 cE3) rfl rfl rfl)<|vV O (aN (v:= .int .i64 8) rfl rfl rfl)<|vX O<|vX O<|vE hK11<|wQ fun K12 hK12=>wT fun K13 hK13=>vX O<|vV O (aF (c:=false) rfl rfl rfl rfl rfl)<|vX O fun a hF=>?_
 refine aJ hF O O O O (ak rfl) ae _ (aV O O) (fun a hF=>?_)
 refine aJ hF O O O O (ak rfl) ae _ (aT O Nq O O) (fun a hF=>?_)
 refine aJ hF O O O O (ak rfl) ae _ (aF (c:=false) rfl rfl rfl rfl rfl) (fun a hF=>?_)
 refine vR hF<|vV O (bu O O O O)<|vE hK13 fun a hF=>?_
 refine au hF O O ?_
 apply wp_skip
 refine hK12 _ _ ?_
 refine wS hF fun K14 hK14=>vV O (fM (v:= .agg kE4.cells.toArray) (qs := #[(0,.int .i64 2),(4,aj [67]),(3,aj [116]),(1,.int .i64 (-1))]) O O (MO)) fun a hF=>?_
 refine ax O (fun K hK=>ay hF O ae Jk rfl rfl ?_)
 with_reducible refine (iY kE4 _ hT (kO4 (G:=[])) (List.nil_subset _) hA13).mono ?_
 rintro e' w14 ⟨vE4,ZE4,rfl,hZE4,hA15⟩
 refine ⟨_,rfl,fun a hF=>hK _ _ ?_⟩
 replace hA15:Hp w0 (ZE4::ZE3::[row b7 31 ([.int .i64 ea.op,.int .i64 ea.num,.int .i64 ea.clk,aj ea.typ,aj ea.cas,aj ea.nam,.int .i64 ea.v.v.k,.int .i64 ea.v.v.n,aj ea.v.v.t,.slice ea.v.sA ea.v.v.s.length ea.v.sC,.slice ea.aA ea.args.length ea.aC,.slice ea.bA ea.src.length ea.bC]++dc ea.eff)]::ZD::ZE2::ZE1::R) w14:=hA15
 obtain ⟨_,AE4,cE4,rfl,_,hRE4⟩:=hZE4.rd (w0:=w0) (R:=[ZE4]) (Nu ..)
 rw [ke4,kl4] at hF
 refine vR hF<|vX O<|vV O (aN (v:= .slice AE4 0 cE4) rfl rfl rfl)<|vV O (aN (v:= .int .i64 34) rfl rfl rfl)<|vX O<|vX O<|vE hK14<|wQ fun K15 hK15=>wT fun K16 hK16=>vX O<|vV O (aF (c:=false) rfl rfl rfl rfl rfl)<|vX O fun a hF=>?_
 refine aJ hF O O O O (ak rfl) ae _ (aV O O) (fun a hF=>?_)
 refine aJ hF O O O O (ak rfl) ae _ (aT O Nq O O) (fun a hF=>?_)
 refine aJ hF O O O O (ak rfl) ae _ (aF (c:=false) rfl rfl rfl rfl rfl) (fun a hF=>?_)
 refine vR hF<|vV O (bu O O O O)<|vX O fun a hF=>?_
 refine aJ hF O O O O (ak rfl) ae _ (fM (v:= .agg ([.int .i64 9,.int .i64 0,aj [],.slice none 0 0]:List Value).toArray) (qs := #[(0,.int .i64 9)]) O O (JB 9)) (fun a hF=>?_)
 refine gI hF O O O (ak rfl) (fun K hK=>ay hF O ae Bd rfl rfl ?_)
 with_reducible refine (zy 9 0 [] (.slice none 0 0) _ hA15).mono ?_
 rintro e' w16 ⟨rfl,hA17⟩
 refine ⟨_,rfl,fun a hF=>hK _ _ ?_⟩
 replace hA17:Hp w0 (ZE4::ZE3::[row b7 31 ([.int .i64 ea.op,.int .i64 ea.num,.int .i64 ea.clk,aj ea.typ,aj ea.cas,aj ea.nam,.int .i64 ea.v.v.k,.int .i64 ea.v.v.n,aj ea.v.v.t,.slice ea.v.sA ea.v.v.s.length ea.v.sC,.slice ea.aA ea.args.length ea.aC,.slice ea.bA ea.src.length ea.bC]++dc ea.eff)]::ZD::ZE2::ZE1::R) w16:=hA17
 refine aJ hF O O O O (ak rfl) ae _ (aF (c:=false) rfl rfl rfl rfl rfl) (fun a hF=>?_)
 refine vR hF<|vV O (bu O O O O)<|vE hK16 fun a hF=>?_
 refine au hF O O ?_
 apply wp_skip
 refine hK15 _ _ ?_
 refine wp_seq_k fun K17 hK17=>wp_region_lit ?_
 refine ax O (fun K hK=>ay hF O ae Be rfl rfl ?_)
 with_reducible refine (yg _ hA17).mono ?_
 rintro e' w18 ⟨rfl,hA19⟩
 refine ⟨_,rfl,fun a hF=>hK _ _ ?_⟩
 refine vR hF<|vX O<|vV O (aN (v:= .agg ([.int .i64 0,.int .i64 0,aj [],.slice none 0 0]).toArray) rfl rfl rfl)<|vV O (aN (v:= .int .i64 1) rfl rfl rfl) fun a hF=>?_
 refine ax O (fun K hK=>dC hF O ae rfl hA19 (zQ) (fun b20 w21 a hb20 hF hA22=>hK _ _ ?_))
 refine ax O (fun K hK=>bG (new:=[.int .i64 0,.int .i64 0,aj [],.slice none 0 0]) hF O O hA22 O O 0 O O (by simp [Value.oneCell']) nD (fun w23 hA24=>hK _ _ ?_))
 replace hA24:Hp w0 ([row b20 25 [.int .i64 0,.int .i64 0,aj [],.slice none 0 0]]::ZE4::ZE3::[row b7 31 ([.int .i64 ea.op,.int .i64 ea.num,.int .i64 ea.clk,aj ea.typ,aj ea.cas,aj ea.nam,.int .i64 ea.v.v.k,.int .i64 ea.v.v.n,aj ea.v.v.t,.slice ea.v.sA ea.v.v.s.length ea.v.sC,.slice ea.aA ea.args.length ea.aC,.slice ea.bA ea.src.length ea.bC]++dc ea.eff)]::ZD::ZE2::ZE1::R) w23:=hA24
 refine vR hF<|vX O<|vE hK17<|wT fun K18 hK18=>vV O (eX O LX)<|vV O (fM (qs := #[(1,aj [105,110])]) O O MN) fun a hF=>?_
 refine ax O (fun K hK=>xO hF O ae rfl hA24 Nk MJ ae 65 rfl rfl rfl rfl ae ae (fun b25 w26 a hb25 hF hA27=>hK _ _ ?_))
 refine ax O (fun K hK=>ay hF O ae Jh rfl rfl ?_)
 with_reducible refine (yj 0 (List.replicate 32 0) [] [105,110] kCC _ _ _ _ hT ae hA27).mono ?_
 rintro e' w28 ⟨rfl,hA29⟩
 refine ⟨_,rfl,fun a hF=>hK _ _ ?_⟩
 replace hA29:Hp w0 ([row b25 9 (List.replicate (65*1) (aj []))]::[row b20 25 [.int .i64 0,.int .i64 0,aj [],.slice none 0 0]]::ZE4::ZE3::[row b7 31 ([.int .i64 ea.op,.int .i64 ea.num,.int .i64 ea.clk,aj ea.typ,aj ea.cas,aj ea.nam,.int .i64 ea.v.v.k,.int .i64 ea.v.v.n,aj ea.v.v.t,.slice ea.v.sA ea.v.v.s.length ea.v.sC,.slice ea.aA ea.args.length ea.aC,.slice ea.bA ea.src.length ea.bC]++dc ea.eff)]::ZD::ZE2::ZE1::R) w28:=hA29
 refine vR hF<|vX O<|vV O (aN (v:= .slice none 0 0) rfl rfl rfl)<|vV O (aN (v:= .int .i64 34) rfl rfl rfl)<|vX O<|vX O<|vE hK18<|wT fun K19 hK19=>vV O (eX O LX) fun a hF=>?_
 refine ax O (fun K hK=>kG (qs := #[(0,aj [105,110])]) (cells := #[aj [105,110]]) hF O ae rfl hA29 O MK (fun b30 w31 a hb30 hF hA32=>hK _ _ ?_))
 refine ax O (fun K hK=>ay hF O ae Jg rfl rfl ?_)
 with_reducible refine (yh 0 0 (List.replicate 32 0) (some ⟨b30,0,none⟩) 1 _ hA32).mono ?_
 rintro e' w33 ⟨rfl,hA34⟩
 refine ⟨_,rfl,fun a hF=>hK _ _ ?_⟩
 replace hA34:Hp w0 ([row b30 9 [aj [105,110]]]::[row b25 9 (List.replicate (65*1) (aj []))]::[row b20 25 [.int .i64 0,.int .i64 0,aj [],.slice none 0 0]]::ZE4::ZE3::[row b7 31 ([.int .i64 ea.op,.int .i64 ea.num,.int .i64 ea.clk,aj ea.typ,aj ea.cas,aj ea.nam,.int .i64 ea.v.v.k,.int .i64 ea.v.v.n,aj ea.v.v.t,.slice ea.v.sA ea.v.v.s.length ea.v.sC,.slice ea.aA ea.args.length ea.aC,.slice ea.bA ea.src.length ea.bC]++dc ea.eff)]::ZD::ZE2::ZE1::R) w33:=hA34
 refine vR hF<|vX O<|vV O (aN (v:= .slice none 0 0) rfl rfl rfl)<|vV O (aN (v:= .int .i64 1) rfl rfl rfl)<|vX O<|vX O<|vE hK19<|wT fun K20 hK20=>vX O<|vV O (aF (c:=true) rfl rfl rfl rfl rfl)<|vX O fun a hF=>?_
 refine aJ hF O O O O (ak rfl) ae _ (yf 0 O ND O iZ O) (fun a hF=>?_)
 refine aJ hF O O O O (ak rfl) ae _ (aU O hA34.q O 2 O O ja) (fun a hF=>?_)
 refine aJ hF O O O O (ak rfl) ae _ (aF (c:=true) rfl rfl rfl rfl rfl) (fun a hF=>?_)
 refine vR hF<|vV O (bF O O O O)<|vX O fun a hF=>?_
 refine aJ hF O O O O (ak rfl) ae _ (aV O O) (fun a hF=>?_)
 refine aJ hF O O O O (ak rfl) ae _ (aF (c:=true) rfl rfl rfl rfl rfl) (fun a hF=>?_)
 refine vR hF<|vV O (bF O O O O)<|vX O fun a hF=>?_
 refine aJ hF O O O O (ak rfl) ae _ (aV O O) (fun a hF=>?_)
 refine aJ hF O O O O (ak rfl) ae _ (aT O Nq O O) (fun a hF=>?_)
 refine aJ hF O O O O (ak rfl) ae _ (aF (c:=true) rfl rfl rfl rfl rfl) (fun a hF=>?_)
 refine vR hF<|vV O (bF O O O O)<|vX O fun a hF=>?_
 refine aJ hF O O O O (ak rfl) ae _ (aV O O) (fun a hF=>?_)
 refine aJ hF O O O O (ak rfl) ae _ (aF (c:=true) rfl rfl rfl rfl rfl) (fun a hF=>?_)
 refine vR hF<|vV O (bF O O O O)<|vX O fun a hF=>?_
 refine aJ hF O O O O (ak rfl) ae _ (aV O O) (fun a hF=>?_)
 refine aJ hF O O O O (ak rfl) ae _ (aT O Nq O O) (fun a hF=>?_)
 refine aJ hF O O O O (ak rfl) ae _ (aF (c:=true) rfl rfl rfl rfl rfl) (fun a hF=>?_)
 refine vR hF<|vV O (bF O O O O)<|vX O<|vE hK20 fun a hF=>?_
 apply wp_ret
 refine aO hF Tryz.results15 O ?_
 have hA35:Hp w0 (R) w33:=hpS 9 [] [0,1,2,3,4,5,6,7,8] hA34 rfl
 exact ⟨rfl,hA35⟩
end Go.Proofs.YtepbmdlgdaedpaaGreatDoor
