/- What a Table is: the walk. -/
import Derived.Test.YtepbmdlgdaedpaaGreatDoorTbS
/- What a Table is: the walk. -/
namespace Go.Proofs.YtepbmdlgdaedpaaGreatDoor
open Go.RowKit Go.Dk
theorem BO:(Tryz.prog.info? 146).map (·.size)=some 1:=af
theorem Fj:aK Tryz.prog 93:=⟨_,Tryz.func93,af,af⟩
theorem BC:dB Tryz.prog 146 (.slice none 0 0):=by unfold dB; kernel_rfl
theorem JI:(Tryz.prog.info? 3).map (fun i=>(i.zero.map (fun z=>z.cells.toList),i.size,i.bytes))=some (some (List.replicate 1 (.int .i64 0)),1,8):=af
theorem BG {P:Program} {w:World} {n:Nat} {F:List (Nat × Value)} {o:Oper} {t e:TypeId} {x:Operand} {v:Value} (ho:o.op= .makeInterface t x) (hu:P.underlying t=some (.slice e)) (hx:ev F x=some v):Yd P n F o w (.iface t v):=fun a hF=>by
 unfold execOp
 simp only [ho,hF.ev hx,Instr.makeInterface,Sem.run_bind,run_underlying hu,Result.andThen_ok,Sem.run_pure]
theorem BH {P:Program} {w:World} {n:Nat} {F:List (Nat × Value)} {o:Oper} {f:FuncId} {x y:Operand} {v u:Value} (ho:o.op= .makeFunc (.func f) #[] #[x,y]) (hx:ev F x=some v) (hy:ev F y=some u):Yd P n F o w (.func (.func f) #[] #[v,u]):=fun a hF=>by
 unfold execOp
 simp [ho,Instr.makeFunc,hF.ev hx,hF.ev hy]
theorem H9 {i n:Nat} (h:i<n):(oc (List.range i)++List.replicate (n-i) (Value.int .i64 0)).set (0+i) (.int .i64 ((i:Nat):Int))=oc (List.range (i+1))++List.replicate (n-(i+1)) (Value.int .i64 0):=by
 obtain ⟨k,rfl⟩:∃ k,n=i+1+k:=⟨n-(i+1),ag⟩
 have hl:(oc (List.range i)).length=i:=by rw [List.length_map,List.length_range]
 rw [show i+1+k-i=k+1 by omega,show i+1+k-(i+1)=k by omega,Nat.zero_add,List.set_append_right _ _ ag,hl,Nat.sub_self,List.replicate_succ,List.set_cons_zero,List.range_succ]
 simp [oc]
theorem KG {ds:List (List UInt8)} (h:∀ d∈ds,d.length=32) {k:Nat} {d:List UInt8} (hk:ds[k]? = some d):((vU ds).drop (k*32)).take 32=dc d∧k*32+32≤(vU ds).length :=
 Go.Dk.flat_at (z:=32) (Ws:=ds.map dc) (V:=dc d) (i:=k) (fun V hV=>by obtain ⟨u,hu,rfl⟩:=List.mem_map.1 hV; rw [aW]; exact h u hu) (by rw [List.getElem?_map,hk]; rfl)
theorem Ef {ns:List (List UInt8)} {os:List Nat} (hs:os.Pairwise fun a b=>¬ dM ns b<dM ns a) (hn:os.Nodup) {i j c k:Nat} (hij:i<j) (hc:os[i]? = some c) (hk:os[j]? = some k):c≠k∧¬ dM ns k<dM ns c:=by
 obtain ⟨hi,ei⟩:=List.getElem?_eq_some_iff.1 hc
 obtain ⟨hj,ej⟩:=List.getElem?_eq_some_iff.1 hk
 have h1:=List.pairwise_iff_getElem.1 hs i j hi hj hij
 have h2:=List.pairwise_iff_getElem.1 hn i j hi hj hij
 rw [ei,ej] at h1 h2
 exact ⟨h2,h1⟩
set_option maxRecDepth 100000 in
set_option maxHeartbeats 8000000 in
theorem EU {w0:World} {R:List Seg} {G:List Seg} (n:Int) (ch:List UInt8) (clk:Int) (A1:Option Addr) (ns:List (List UInt8)) (c1:Nat) (A2:Option Addr) (ds:List (List UInt8)) (c2:Nat) (w:World) (hT:mO w0) (hch:ch.length=32) (h1:Rc w0 G A1 (ns.map aj)) (h2:Rc w0 G A2 (vU ds)) (hds:∀ d∈ds,d.length=32) (hG:G⊆R) (hA:Hp w0 R w):Calls Tryz.prog 29 #[.agg (.int .i64 n::dc ch:List Value).toArray,.int .i64 clk,.slice A1 ns.length c1,.slice A2 ds.length c2] w fun e w'=>∃ v Z out,e= .returned (.tuple #[v,.int .i64 (tbE ns ds.length:Nat)])∧TbB n ch clk ns ds out∧Buf 5 1 Z v out.length (dc out)∧Hp w0 (Z::R) w':=by
 refine aP Tryz.func29 O Tryz.ntmps29 ai (fun a hF=>?_)
 refine wp_seq_k fun K1 hK1=>wp_region_lit ?_
 refine ax O (fun K hK=>ed (cs:= .int .i64 n::dc ch) hF O ae rfl hA O (fun b1 w2 a hb1 hF hA3=>hK _ _ ?_))
 refine ax O (fun K hK=>Ar hF O ae rfl hA3 O O (fun b4 w5 a hb4 hF hA6=>hK _ _ ?_))
 refine vR hF<|vX O<|vX O<|vE hK1<|wQ fun K2 hK2=>wT fun K3 hK3=>vV O (aU O hA6.q O 0 O O mi)<|vV O (aT O Nk O O)<|vX O<|vV O (aT O NM O O)<|vV O (aF O O O O O)<|vE hK3 fun a hF=>?_
 by_cases hl:ns.length≠ds.length
 ·refine aG hF O (iF ag) ?_
  refine wS hF fun K4 hK4=>vX O<|vX O<|vE hK4 fun a hF=>?_
  apply wp_ret
  simp only [Exit.then]
  refine gG hF Tryz.results29 O O ?_
  have hA7:Hp w0 (R) w5:=hpS 2 [] [0,1] hA6 rfl
  have e0:tbE ns ds.length=1:=if_pos hl
  rw [e0]
  exact ⟨_,[],[],rfl,TbB.no (by rw [e0]; decide),Buf.nil _ _,Hp.nil hA7⟩
 ·refine au hF O (fK ag) ?_
  replace hl:ns.length=ds.length:=Classical.not_not.1 hl
  apply wp_skip
  refine hK2 _ _ ?_
  apply wp_seq_k; intro K5 hK5
  refine wS hF fun K6 hK6=>vV O (aU O hA6.q O 0 O O mi)<|vV O (aT O Nk O O)<|vV O (aF O O O O O)<|vE hK6 fun a hF=>?_
  by_cases hb:1000<ns.length
  ·refine aG hF O (dY ag) ?_
   refine wS hF fun K7 hK7=>vX O<|vX O<|vE hK7 fun a hF=>?_
   apply wp_ret
   simp only [Exit.then]
   refine gG hF Tryz.results29 O O ?_
   have hA8:Hp w0 (R) w5:=hpS 2 [] [0,1] hA6 rfl
   have e0:tbE ns ds.length=7:=(if_neg (by simp [hl])).trans (if_pos hb)
   rw [e0]
   exact ⟨_,[],[],rfl,TbB.no (by rw [e0]; decide),Buf.nil _ _,Hp.nil hA8⟩
  ·refine au hF O (fE ag) ?_
   have hb1:ns.length≤1000:=by omega
   apply wp_skip
   refine hK5 _ _ ?_
   refine wS hF fun K8 hK8=>vV O (aU O hA6.q O 0 O O mi)<|vV O (aT O Nk O O) fun a hF=>?_
   refine ax O (fun K hK=>xO (size:=1) (bytes:=8) (u:= .int .i64 0) hF O ae rfl hA6 N9 JI ae ns.length rfl rfl rfl rfl ag ag (fun g w9 a hg hF hA10=>hK _ _ ?_))
   have hA11:Hp w0 ([row g 3 (oc (List.range 0)++List.replicate (ns.length-0) (Value.int .i64 0))]::[row b4 23 [.slice A1 ns.length c1]]::[row b1 49 (.int .i64 n::dc ch)]::R) w9:=(by have h9:=hA10; rw [Nat.mul_one] at h9; exact h9)
   refine ax O (fun K hK=>Cj hF O ae rfl hA11 (BC) rfl (fun b12 w13 a hb12 hF hA14=>hK _ _ ?_))
   refine ax O (fun K hK=>aX hF O O hA14 O O 0 O (by simp) rfl BO (fun w15 hA16=>hK _ _ ?_))
   replace hA16:Hp w0 ([row b12 146 [.slice (some ⟨g,0,none⟩) ns.length ns.length]]::[row g 3 (oc (List.range 0)++List.replicate (ns.length-0) (Value.int .i64 0))]::[row b4 23 [.slice A1 ns.length c1]]::[row b1 49 (.int .i64 n::dc ch)]::R) w15:=hA16
   refine aH<|hK8 _ _ ?_
   apply wp_seq_k; intro K9 hK9
   refine wS hF fun K10 hK10=>vV O (aU O hA16.q O 2 O O mi)<|vV O (aT O Nk O O)<|vX O<|vE hK10<|wBk fun a hF=>?_
   have hA17:Hp w0 ([row g 3 (oc (List.range 0)++List.replicate (ns.length-0) (Value.int .i64 0))]::[row b12 146 [.slice (some ⟨g,0,none⟩) ns.length ns.length]]::[row b4 23 [.slice A1 ns.length c1]]::[row b1 49 (.int .i64 n::dc ch)]::R) w15:=hpO 4 [1,0,2,3] hA16 rfl
   refine bH (G:=Nat) (fun i a x=>i≤ns.length∧(ns.take i).all bY=true∧Fr 108 [(29,.int .i64 ((i:Nat):Int)),(1,.int .i64 clk),(3,.slice A2 ds.length c2),(4,.pointer (some ⟨b1,0,none⟩)),(6,.pointer (some ⟨b4,0,none⟩)),(10,.pointer (some ⟨b12,0,none⟩)),(27,.slice A1 ns.length c1),(28,.int .i64 ns.length)] a∧Hp w0 ([row g 3 (oc (List.range i)++List.replicate (ns.length-i) (Value.int .i64 0))]::[row b12 146 [.slice (some ⟨g,0,none⟩) ns.length ns.length]]::[row b4 23 [.slice A1 ns.length c1]]::[row b1 49 (.int .i64 n::dc ch)]::R) x) (fun i=>ns.length-i) 0 (⟨Nl _,rfl,hF.keep [29,1,3,4,6,10,27,28] rfl,hA17⟩) ?_
   clear hF
   rintro i a w19 ⟨hi,hlg,hF,hA18⟩
   refine wS hF fun K11 hK11=>vV O (aF O O O O O)<|vE hK11<|wQ fun K12 hK12 a hF=>?_
   by_cases hlt:i<ns.length
   ·refine aG hF O (dF ag) ?_
    obtain ⟨q,hpq⟩:∃ q,ns[i]? = some q:=⟨_,List.getElem?_eq_getElem hlt⟩
    obtain ⟨bq,oq,hsq,hcq⟩:=h1.ne (i:=i) (by rw [List.length_map]; exact hlt)
    rw [hsq] at hF
    apply wp_skip
    refine hK12 _ _ ?_
    apply wp_seq_k; intro K13 hK13
    apply wp_block
    refine wS hF fun K14 hK14=>vX O<|vV O (aY O Nk uC O O i rfl hlt (ad2 _ _ _))<|vV O (bV (u:=aj q) rfl (Hq.sub hA18.q (List.Subset.trans hG (bM (bM (bM (bM (dR))))))) O hcq i (by rw [List.length_map]; exact hlt) rfl (by rw [List.getElem?_map,hpq]; rfl) uV) fun a hF=>?_
    refine vR hF<|vX O<|vX O<|vE hK14<|wQ fun K15 hK15=>wT fun K16 hK16=>vX O fun a hF=>?_
    refine ax O (fun K hK=>ay hF O ae AV rfl rfl ?_)
    with_reducible refine (lT q _ hT hA18).mono ?_
    rintro e' w22 ⟨rfl,rfl⟩
    refine ⟨_,rfl,fun a hF=>hK _ _ ?_⟩
    refine vR hF<|vV O (dm O O O)<|vE hK16 fun a hF=>?_
    rcases tf (bY q) with hq | hq
    ·refine aG hF O (by rw [hq]; rfl) ?_
     refine wS hF fun K17 hK17=>vX O<|vX O<|vE hK17 fun a hF=>?_
     apply wp_ret
     simp only [Exit.then,Exit.inBlock]
     refine gG hF Tryz.results29 O O ?_
     have hA23:Hp w0 (R) w19:=hpS 4 [] [0,1,2,3] hA18 rfl
     have e0:tbE ns ds.length=34:=Lc hl hb1 hpq hq
     rw [e0]
     exact ⟨_,[],[],rfl,TbB.no (by rw [e0]; decide),Buf.nil _ _,Hp.nil hA23⟩
    ·refine au hF O (by rw [hq]; rfl) ?_
     apply wp_skip
     refine hK15 _ _ ?_
     refine wp_region_lit ?_
     refine vR hF<|vV O (aU O hA18.q O 1 O O tZ)<|vX O<|vX O<|vV O (aY O N9 gZ O O i rfl hlt (ad2 _ _ _)) fun a hF=>?_
     refine ax O (fun K hK=>aX hF O O hA18 O O 0 O (by rw [List.length_append,List.length_map,List.length_range,List.length_replicate]; omega) rfl gZ (fun w24 hA25=>hK _ _ ?_))
     replace hA25:Hp w0 ([row g 3 ((oc (List.range i)++List.replicate (ns.length-i) (Value.int .i64 0)).set (0+i) (.int .i64 ((i:Nat):Int)))]::[row b12 146 [.slice (some ⟨g,0,none⟩) ns.length ns.length]]::[row b4 23 [.slice A1 ns.length c1]]::[row b1 49 (.int .i64 n::dc ch)]::R) w24:=hA25
     have hA26:Hp w0 ([row g 3 (oc (List.range (i+1))++List.replicate (ns.length-(i+1)) (Value.int .i64 0))]::[row b12 146 [.slice (some ⟨g,0,none⟩) ns.length ns.length]]::[row b4 23 [.slice A1 ns.length c1]]::[row b1 49 (.int .i64 n::dc ch)]::R) w24:=(by rw [← H9 hlt]; exact hA25)
     refine aH<|hK13 _ _ ?_
     refine wp_region_lit ?_
     refine vR hF<|vV O (bT O O O (Np _ ag))<|vX O fun a hF=>?_
     refine aH ?_
     rw [← hsq] at hF
     exact ⟨i+1,ag,ag,Gy hlg hpq hq,hF.keep [29,1,3,4,6,10,27,28] rfl,hA26⟩
   ·refine au hF O (dE ag) ?_
    obtain rfl:i=ns.length:=by omega
    rw [List.take_length] at hlg
    have hlg1:∀ q∈ns,q.length≤64:=fun q hq=>dZ (List.all_eq_true.1 hlg q hq)
    have hA27:Hp w0 ([row g 3 (oc (List.range ns.length))]::[row b12 146 [.slice (some ⟨g,0,none⟩) ns.length ns.length]]::[row b4 23 [.slice A1 ns.length c1]]::[row b1 49 (.int .i64 n::dc ch)]::R) w19:=(by have h9:=hA18; rw [Nat.sub_self,List.replicate_zero,List.append_nil] at h9; exact h9)
    apply wp_exit
    refine hK9 _ _ ?_
    refine wS hF fun K18 hK18=>vV O (aU O hA27.q O 1 O O tZ)<|vV O (BG O N9 O)<|vV O (BH O O O) fun a hF=>?_
    refine ax O (fun K hK=>ay hF O ae Fj rfl rfl ?_)
    with_reducible refine (GZ (R:=([row b1 49 (.int .i64 n::dc ch)]::R)) g b12 b4 ns.length A1 ns c1 _ O ag h1 (List.Subset.trans hG (bM (dR))) hA27).mono ?_
    rintro e' w28 ⟨rfl,os,hop,hos,hA29⟩
    refine ⟨_,rfl,fun a hF=>hK _ _ ?_⟩
    replace hA29:Hp w0 ([row g 3 (oc os)]::[row b12 146 [.slice (some ⟨g,0,none⟩) ns.length ns.length]]::[row b4 23 [.slice A1 ns.length c1]]::[row b1 49 (.int .i64 n::dc ch)]::R) w28:=hA29
    refine aH<|hK18 _ _ ?_
    refine wp_seq_k fun K19 hK19=>wp_region_lit ?_
    refine ax O (fun K hK=>ay hF O ae Jd rfl rfl ?_)
    with_reducible refine (zl w0 _ _ hA29).mono ?_
    rintro e' w30 ⟨wb,Y0,rfl,hY,hA31⟩
    refine ⟨_,rfl,fun a hF=>hK _ _ ?_⟩
    replace hA31:Hp w0 (Y0::[row g 3 (oc os)]::[row b12 146 [.slice (some ⟨g,0,none⟩) ns.length ns.length]]::[row b4 23 [.slice A1 ns.length c1]]::[row b1 49 (.int .i64 n::dc ch)]::R) w30:=hA31
    refine vR hF<|vX O<|vE hK19<|wT fun K20 hK20=>vX O fun a hF=>?_
    refine ax O (fun K hK=>ay hF O ae AU rfl rfl ?_)
    with_reducible refine (gX w0 _ ([row g 3 (oc os)]::[row b12 146 [.slice (some ⟨g,0,none⟩) ns.length ns.length]]::[row b4 23 [.slice A1 ns.length c1]]::[row b1 49 (.int .i64 n::dc ch)]::R) wb _ _ 0 ae 0 O hY hA31 (by rw [List.length_nil]; omega)).mono ?_
    rintro e' w32 ⟨Y1,rfl,hY,hA33⟩
    refine ⟨_,rfl,fun a hF=>hK _ _ ?_⟩
    replace hA33:Hp w0 (Y1::[row g 3 (oc os)]::[row b12 146 [.slice (some ⟨g,0,none⟩) ns.length ns.length]]::[row b4 23 [.slice A1 ns.length c1]]::[row b1 49 (.int .i64 n::dc ch)]::R) w32:=hA33
    rw [List.nil_append] at hY
    refine aH<|hK20 _ _ ?_
    refine wS hF fun K21 hK21=>vX O<|vV O (yf 0 O N8 O gZ O)<|vV O (aU (u:= .int .i64 n) rfl hA33.q O 4 O O jZ)<|vV O (bW O NC NJ O (jE _)) fun a hF=>?_
    refine ax O (fun K hK=>ay hF O ae A7 rfl rfl ?_)
    with_reducible refine (fU w0 _ ([row g 3 (oc os)]::[row b12 146 [.slice (some ⟨g,0,none⟩) ns.length ns.length]]::[row b4 23 [.slice A1 ns.length c1]]::[row b1 49 (.int .i64 n::dc ch)]::R) wb _ _ (u64 n) (iQ _) _ O hY hA33 (by simp only [List.length_append,bf,hch]; omega)).mono ?_
    rintro e' w34 ⟨Y2,rfl,hY,hA35⟩
    refine ⟨_,rfl,fun a hF=>hK _ _ ?_⟩
    replace hA35:Hp w0 (Y2::[row g 3 (oc os)]::[row b12 146 [.slice (some ⟨g,0,none⟩) ns.length ns.length]]::[row b4 23 [.slice A1 ns.length c1]]::[row b1 49 (.int .i64 n::dc ch)]::R) w34:=hA35
    refine aH<|hK21 _ _ ?_
    refine wS hF fun K22 hK22=>vX O<|vV O (yf 1 O N8 O zV O)<|vV O (cZ (new:=dc ch) rfl hA35.q O 4 O Hm (by rw [Fg hch]; exact Nat.le_of_ble_eq_true rfl) (by show (dc ch).take 32=_; exact Ny (by rw [aW,hch]; exact Nv _))) fun a hF=>?_
    refine ax O (fun K hK=>kG (qs := #[(0,.agg (dc ch).toArray)]) (cells:=(dc ch).toArray) hF O ae rfl hA35 O (ny hch) (fun b36 w37 a hb36 hF hA38=>hK _ _ ?_))
    have hA39:Hp w0 (Y2::[row b36 29 (dc ch)]::[row g 3 (oc os)]::[row b12 146 [.slice (some ⟨g,0,none⟩) ns.length ns.length]]::[row b4 23 [.slice A1 ns.length c1]]::[row b1 49 (.int .i64 n::dc ch)]::R) w37:=hpO 6 [1,0,2,3,4,5] hA38 rfl
    refine ax O (fun K hK=>ay hF O ae I8 rfl rfl ?_)
    with_reducible refine (jO w0 _ ([row b36 29 (dc ch)]::[row g 3 (oc os)]::[row b12 146 [.slice (some ⟨g,0,none⟩) ns.length ns.length]]::[row b4 23 [.slice A1 ns.length c1]]::[row b1 49 (.int .i64 n::dc ch)]::R) wb _ _ (some ⟨b36,0,none⟩) ch hch (nZ (Rc.ofRow (i:=0) (off:=0) rfl (by rw [List.drop_zero]; exact List.take_length ..))) hY hA39 (by simp only [List.length_append,bf,hch]; omega)).mono ?_
    rintro e' w40 ⟨Y3,rfl,hY,hA41⟩
    refine ⟨_,rfl,fun a hF=>hK _ _ ?_⟩
    replace hA41:Hp w0 (Y3::[row b36 29 (dc ch)]::[row g 3 (oc os)]::[row b12 146 [.slice (some ⟨g,0,none⟩) ns.length ns.length]]::[row b4 23 [.slice A1 ns.length c1]]::[row b1 49 (.int .i64 n::dc ch)]::R) w40:=hA41
    refine aH<|hK22 _ _ ?_
    refine wS hF fun K23 hK23=>vX O<|vX O<|vV O (bW O NC NJ O (jE _)) fun a hF=>?_
    refine ax O (fun K hK=>ay hF O ae A7 rfl rfl ?_)
    with_reducible refine (fU w0 _ ([row b36 29 (dc ch)]::[row g 3 (oc os)]::[row b12 146 [.slice (some ⟨g,0,none⟩) ns.length ns.length]]::[row b4 23 [.slice A1 ns.length c1]]::[row b1 49 (.int .i64 n::dc ch)]::R) wb _ _ (u64 clk) (iQ _) _ O hY hA41 (by simp only [List.length_append,bf,hch]; omega)).mono ?_
    rintro e' w42 ⟨Y4,rfl,hY,hA43⟩
    refine ⟨_,rfl,fun a hF=>hK _ _ ?_⟩
    replace hA43:Hp w0 (Y4::[row b36 29 (dc ch)]::[row g 3 (oc os)]::[row b12 146 [.slice (some ⟨g,0,none⟩) ns.length ns.length]]::[row b4 23 [.slice A1 ns.length c1]]::[row b1 49 (.int .i64 n::dc ch)]::R) w42:=hA43
    refine aH<|hK23 _ _ ?_
    refine wS hF fun K24 hK24=>vX O<|vV O (aU O hA43.q O 4 O O mi)<|vV O (aT O Nk O O)<|vV O (bW O NC NZ O (show IntKind.u32.wrap ((ns.length:Nat):Int)=((ns.length:Nat):Int) by rw [IntKind.wrap_u32]; omega)) fun a hF=>?_
    refine ax O (fun K hK=>ay hF O ae IR rfl rfl ?_)
    with_reducible refine (mQ w0 _ ([row b36 29 (dc ch)]::[row g 3 (oc os)]::[row b12 146 [.slice (some ⟨g,0,none⟩) ns.length ns.length]]::[row b4 23 [.slice A1 ns.length c1]]::[row b1 49 (.int .i64 n::dc ch)]::R) wb _ _ ns.length (by show ns.length<4294967296; omega) _ O hY hA43 (by simp only [List.length_append,bf,hch]; omega)).mono ?_
    rintro e' w44 ⟨Y5,rfl,hY,hA45⟩
    refine ⟨_,rfl,fun a hF=>hK _ _ ?_⟩
    replace hA45:Hp w0 (Y5::[row b36 29 (dc ch)]::[row g 3 (oc os)]::[row b12 146 [.slice (some ⟨g,0,none⟩) ns.length ns.length]]::[row b4 23 [.slice A1 ns.length c1]]::[row b1 49 (.int .i64 n::dc ch)]::R) w44:=hA45
    refine aH<|hK24 _ _ ?_
    apply wp_seq_k; intro K25 hK25
    refine wS hF fun K26 hK26=>vV O (aU O hA45.q O 3 O O tZ)<|vV O (aT O N9 O O)<|vX O<|vE hK26<|wBk fun a hF=>?_
    obtain ⟨m1,hm1⟩:∃ m1,m1=sO n ch clk ns.length:=⟨_,rfl⟩
    replace hY:WrS wb m1 Y5:=by rw [hm1]; exact hY
    have hml:m1.length=54:=by rw [hm1]; unfold sO; simp only [List.length_append,bf,hch]
    have hol:os.length=ns.length:=by rw [hop.length_eq,List.length_range]
    have hon:os.Nodup:=(hop.nodup_iff).2 List.nodup_range
    have hoi:∀ k∈os,k<ns.length:=fun k hk=>List.mem_range.1 (hop.subset hk)
    have hA46:Hp w0 (Y5::[row g 3 (oc os)]::[row b12 146 [.slice (some ⟨g,0,none⟩) ns.length ns.length]]::[row b4 23 [.slice A1 ns.length c1]]::R) w44:=hpS 6 [0,2,3,4] [1,5] hA45 rfl
    refine bH (G:=Nat) (fun i a x=>∃ (YV:Seg),i≤ns.length∧zO ns (os.take i)∧WrS wb (m1++((os.take i).map (ng ns ds)).flatMap rowB) YV∧Fr 108 [(70,.int .i64 ((i:Nat):Int)),(3,.slice A2 ds.length c2),(6,.pointer (some ⟨b4,0,none⟩)),(10,.pointer (some ⟨b12,0,none⟩)),(13,.pointer (some ⟨wb,0,none⟩)),(68,.slice (some ⟨g,0,none⟩) ns.length ns.length),(69,.int .i64 ns.length)] a∧Hp w0 (YV::[row g 3 (oc os)]::[row b12 146 [.slice (some ⟨g,0,none⟩) ns.length ns.length]]::[row b4 23 [.slice A1 ns.length c1]]::R) x) (fun i=>ns.length-i) 0 (⟨_,Nl _,List.Pairwise.nil,(hY.same (List.append_nil _).symm),hF.keep [70,3,6,10,13,68,69] rfl,hA46⟩) ?_
    clear hF
    rintro i a w48 ⟨YV,hi,hri,hY,hF,hA47⟩
    refine wS hF fun K27 hK27=>vV O (aF O O O O O)<|vE hK27<|wQ fun K28 hK28 a hF=>?_
    have hrl:(((os.take i).map (ng ns ds)).flatMap rowB).length≤98000:=by
     have q1:=DW (ps:=(os.take i).map (ng ns ds)) (fun p hp=>by
      obtain ⟨k,hk,rfl⟩:=List.mem_map.1 hp
      have hkl:=hoi k (List.mem_of_mem_take hk)
      exact ⟨hlg1 _ (List.mem_of_getElem? (dH hkl)),hds _ (List.mem_of_getElem? (dH (ns:=ds) ag))⟩)
     rw [List.length_map,List.length_take] at q1
     omega
    by_cases hlt:i<ns.length
    ·refine aG hF O (dF ag) ?_
     obtain ⟨k,hk⟩:∃ k,os[i]? = some k:=⟨_,List.getElem?_eq_getElem ag⟩
     have hkl:=hoi k (List.mem_of_getElem? hk)
     obtain ⟨bq,oq,hsA,hcq⟩:=h1.ne (i:=k) (by rw [List.length_map]; exact hkl)
     have hdl:k<ds.length:=by omega
     obtain ⟨d,hd⟩:∃ d,ds[k]? = some d:=⟨_,List.getElem?_eq_getElem hdl⟩
     have hd32:=hds d (List.mem_of_getElem? hd)
     have hde:ds.getD k []=d:=by rw [List.getD_eq_getElem?_getD,hd]; rfl
     obtain ⟨hatd,hled⟩:=KG hds hd
     obtain ⟨bd,od,hsD,hcd⟩:=h2.ne (i:=k*32) ag
     by_cases hi0:0<i
     ·obtain ⟨c,hc⟩:∃ c,os[i-1]? = some c:=⟨_,List.getElem?_eq_getElem ag⟩
      have hcl:=hoi c (List.mem_of_getElem? hc)
      obtain ⟨hck,hcn⟩:=Ef hos hon (show i-1<i by omega) hc hk
      have htk:os.take i=os.take (i-1)++[c]:=by have:=l9 hc; rwa [show i-1+1=i by omega] at this
      apply wp_skip
      refine hK28 _ _ ?_
      apply wp_seq_k; intro K29 hK29
      apply wp_block
      refine wS hF fun K30 hK30=>vX O<|vV O (aY O N9 gZ O O i rfl hlt (ad2 _ _ _))<|vV O (aU (u:= .int .i64 ((k:Nat):Int)) O hA47.q O 1 O (xC hk) jZ)<|vX O<|vX O<|vE hK30<|wQ fun K31 hK31=>wQ fun K32 hK32 a hF=>?_
      refine aQ 16 [16] [0,1,2,3,4,5,6,7,8,9,10,11,12,13,14,15,16] _ af af (Hq.drew hA47.q) ?_
      have hA49:=Hl.drew hA47
      refine pR hF<|pX O O<|pW O O (fun _=>aF O O O O (dY ag))<|pX O O fun a hF=>?_
      refine dD hF O O O O O O O ae _ (fun x hx=>aU (u:= .slice (some ⟨bq,oq,none⟩) ns.length c1) rfl hx O 3 O (by rw [← hsA]; rfl) mi) (fun a hF=>?_)
      refine dD hF O O O O O O O ae _ (fun x hx=>aU O hx O 2 O O tZ) (fun a hF=>?_)
      refine pR hF<|pG O O (fun _=>aV O O)<|pG O O (fun _=>eu O O O (show IntKind.i64.wrap (((i:Nat):Int)-1)=((i-1:Nat):Int) by rw [Np _ ag]; omega)) fun a hF=>?_
      refine pR hF<|pG O O (fun _=>aY O N9 gZ O O (i-1) rfl ag (ad2 _ _ _)) fun a hF=>?_
      refine dD hF O O O O O O O ae _ (fun x hx=>aU (u:= .int .i64 ((c:Nat):Int)) O hx O 1 O (xC hc) jZ) (fun a hF=>?_)
      refine pR hF<|pG O O (fun _=>aY O Nk uC O O c rfl hcl (ad2 _ _ _)) fun a hF=>?_
      refine dD hF O O O O O O O ae _ (fun x hx=>bV (u:=aj (dM ns c)) O (Hq.sub hx (List.Subset.trans hG (bM (bM (bM (bM (dR))))))) O hcq c (by rw [List.length_map]; exact hcl) rfl (by rw [List.getElem?_map,dH hcl]; rfl) uV) (fun a hF=>?_)
      refine dD hF O O O O O O O ae _ (fun x hx=>aU (u:= .slice (some ⟨bq,oq,none⟩) ns.length c1) rfl hx O 3 O (by rw [← hsA]; rfl) mi) (fun a hF=>?_)
      refine pR hF<|pG O O (fun _=>aV O O)<|pG O O (fun _=>aY O Nk uC O O k rfl hkl (ad2 _ _ _)) fun a hF=>?_
      refine dD hF O O O O O O O ae _ (fun x hx=>bV (u:=aj (dM ns k)) O (Hq.sub hx (List.Subset.trans hG (bM (bM (bM (bM (dR))))))) O hcq k (by rw [List.length_map]; exact hkl) rfl (by rw [List.getElem?_map,dH hkl]; rfl) uV) (fun a hF=>?_)
      refine pR hF<|pG O O (fun _=>fA O O O O O) fun a hF=>?_
      refine dG hF O O O O ae _ (bP O O O) (fun h=>absurd h ae) (fun a hF=>?_)
      refine bI ?_
      refine hK32 _ _ ?_
      rcases tf (bJ .eql (dM ns c) (dM ns k)) with he | he
      ·refine au hF O he ?_
       have hlt2:=uf hcn (yN he)
       have hrs:zO ns (os.take (i+1)):=by rw [l9 hk]; exact tV hri (by rw [htk] at hri ⊢; exact tX hri hlt2)
       apply wp_skip
       refine hK31 _ _ ?_
       refine wS hF fun K33 hK33=>vX O<|vV O (aU (u:= .slice (some ⟨bq,oq,none⟩) ns.length c1) rfl hA49.q O 3 O (by rw [← hsA]; rfl) mi) fun a hF=>?_
       refine vR hF<|vX O<|vV O (aY O Nk uC O O k rfl hkl (ad2 _ _ _))<|vV O (bV (u:=aj (dM ns k)) O (Hq.sub hA49.q (List.Subset.trans hG (bM (bM (bM (bM (dR))))))) O hcq k (by rw [List.length_map]; exact hkl) rfl (by rw [List.getElem?_map,dH hkl]; rfl) uV) fun a hF=>?_
       refine ax O (fun K hK=>ay hF O ae Ja rfl rfl ?_)
       with_reducible refine (jY w0 _ ([row g 3 (oc os)]::[row b12 146 [.slice (some ⟨g,0,none⟩) ns.length ns.length]]::[row b4 23 [.slice A1 ns.length c1]]::R) wb _ _ (dM ns k) 64 hY hA49 (by rw [List.length_append]; have:=hlg1 _ (List.mem_of_getElem? (dH hkl)); omega)).mono ?_
       rintro e' w50 ⟨Y6,rfl,hY,hA51⟩
       refine ⟨_,rfl,fun a hF=>hK _ _ ?_⟩
       replace hA51:Hp w0 (Y6::[row g 3 (oc os)]::[row b12 146 [.slice (some ⟨g,0,none⟩) ns.length ns.length]]::[row b4 23 [.slice A1 ns.length c1]]::R) w50:=hA51
       rw [iq ae ae (by have:=hlg1 _ (List.mem_of_getElem? (dH hkl)); omega)] at hY
       refine aH<|hK33 _ _ ?_
       rw [hsD] at hF
       refine wp_region_lit ?_
       refine vR hF<|vX O<|vX O<|vX O<|vV O (aY O NM zV O O k rfl hdl rfl)<|vV O (dK (new:=dc d) rfl (Hq.sub hA51.q (List.Subset.trans hG (bM (bM (bM (bM (dR))))))) O hcd (k*32) hled rfl hatd Hm) fun a hF=>?_
       refine ax O (fun K hK=>kG (qs := #[(0,.agg (dc d).toArray)]) (cells:=(dc d).toArray) hF O ae rfl hA51 O (ny hd32) (fun b52 w53 a hb52 hF hA54=>hK _ _ ?_))
       have hA55:Hp w0 (Y6::[row b52 29 (dc d)]::[row g 3 (oc os)]::[row b12 146 [.slice (some ⟨g,0,none⟩) ns.length ns.length]]::[row b4 23 [.slice A1 ns.length c1]]::R) w53:=hpO 5 [1,0,2,3,4] hA54 rfl
       refine ax O (fun K hK=>ay hF O ae I8 rfl rfl ?_)
       with_reducible refine (jO w0 _ ([row b52 29 (dc d)]::[row g 3 (oc os)]::[row b12 146 [.slice (some ⟨g,0,none⟩) ns.length ns.length]]::[row b4 23 [.slice A1 ns.length c1]]::R) wb _ _ (some ⟨b52,0,none⟩) d hd32 (nZ (Rc.ofRow (i:=0) (off:=0) rfl (by rw [List.drop_zero]; exact List.take_length ..))) hY hA55 (by have:=hlg1 _ (List.mem_of_getElem? (dH hkl)); simp only [List.length_append,gq,hml,hd32]; omega)).mono ?_
       rintro e' w56 ⟨Y7,rfl,hY,hA57⟩
       refine ⟨_,rfl,fun a hF=>hK _ _ ?_⟩
       replace hA57:Hp w0 (Y7::[row b52 29 (dc d)]::[row g 3 (oc os)]::[row b12 146 [.slice (some ⟨g,0,none⟩) ns.length ns.length]]::[row b4 23 [.slice A1 ns.length c1]]::R) w56:=hA57
       refine aH<|hK29 _ _ ?_
       refine wp_region_lit ?_
       refine vR hF<|vV O (bT O O O (Np _ ag))<|vX O fun a hF=>?_
       refine aH ?_
       rw [← hsD] at hF
       have hA58:Hp w0 (Y7::[row g 3 (oc os)]::[row b12 146 [.slice (some ⟨g,0,none⟩) ns.length ns.length]]::[row b4 23 [.slice A1 ns.length c1]]::R) w56:=hpS 5 [0,2,3,4] [1] hA57 rfl
       exact ⟨i+1,ag,_,ag,hrs,hY.same (by rw [tK hk,show rowB (ng ns ds k)=nameB (dM ns k)++d by unfold rowB ng; rw [hde]]; simp only [List.append_assoc]),hF.keep [70,3,6,10,13,68,69] rfl,hA58⟩
      ·refine aG hF O he ?_
       refine wS hF fun K34 hK34=>vX O<|vX O<|vE hK34 fun a hF=>?_
       apply wp_ret
       simp only [Exit.then,Exit.inBlock]
       refine gG hF Tryz.results29 O O ?_
       have hA59:Hp w0 (R) w48.drew:=hpS 4 [] [0,1,2,3] hA49 rfl
       have e0:tbE ns ds.length=92:=La hl hb1 hlg (Fh hcl hkl hck (yL he))
       rw [e0]
       exact ⟨_,[],[],rfl,TbB.no (by rw [e0]; decide),Buf.nil _ _,Hp.nil hA59⟩
     ·have hz0:i=0:=by omega
      have hrs:zO ns (os.take (i+1)):=by rw [l9 hk,hz0]; exact List.pairwise_singleton ..
      apply wp_skip
      refine hK28 _ _ ?_
      apply wp_seq_k; intro K35 hK35
      apply wp_block
      refine wS hF fun K36 hK36=>vX O<|vV O (aY O N9 gZ O O i rfl hlt (ad2 _ _ _))<|vV O (aU (u:= .int .i64 ((k:Nat):Int)) O hA47.q O 1 O (xC hk) jZ)<|vX O<|vX O<|vE hK36<|wQ fun K37 hK37=>wQ fun K38 hK38 a hF=>?_
      refine aQ 16 [16] [0,1,2,3,4,5,6,7,8,9,10,11,12,13,14,15,16] _ af af (Hq.drew hA47.q) ?_
      have hA60:=Hl.drew hA47
      refine pR hF<|pX O O<|pW O O (fun _=>aF O O O O (fE ag))<|pX O O<|pS O O<|pS O O<|pS O O<|pS O O<|pS O O<|pS O O<|pS O O<|pS O O<|pS O O<|pS O O<|pS O O<|pS O O<|pS O O fun a hF=>?_
      refine dG hF O O O O ae _ (bP O O O) (fun h=>absurd h ae) (fun a hF=>?_)
      refine bI ?_
      refine hK38 _ _ ?_
      refine dn hF O ?_
      apply wp_skip
      refine hK37 _ _ ?_
      refine wS hF fun K39 hK39=>vX O<|vV O (aU (u:= .slice (some ⟨bq,oq,none⟩) ns.length c1) rfl hA60.q O 3 O (by rw [← hsA]; rfl) mi) fun a hF=>?_
      refine vR hF<|vX O<|vV O (aY O Nk uC O O k rfl hkl (ad2 _ _ _))<|vV O (bV (u:=aj (dM ns k)) O (Hq.sub hA60.q (List.Subset.trans hG (bM (bM (bM (bM (dR))))))) O hcq k (by rw [List.length_map]; exact hkl) rfl (by rw [List.getElem?_map,dH hkl]; rfl) uV) fun a hF=>?_
      refine ax O (fun K hK=>ay hF O ae Ja rfl rfl ?_)
      with_reducible refine (jY w0 _ ([row g 3 (oc os)]::[row b12 146 [.slice (some ⟨g,0,none⟩) ns.length ns.length]]::[row b4 23 [.slice A1 ns.length c1]]::R) wb _ _ (dM ns k) 64 hY hA60 (by rw [List.length_append]; have:=hlg1 _ (List.mem_of_getElem? (dH hkl)); omega)).mono ?_
      rintro e' w61 ⟨Y6,rfl,hY,hA62⟩
      refine ⟨_,rfl,fun a hF=>hK _ _ ?_⟩
      replace hA62:Hp w0 (Y6::[row g 3 (oc os)]::[row b12 146 [.slice (some ⟨g,0,none⟩) ns.length ns.length]]::[row b4 23 [.slice A1 ns.length c1]]::R) w61:=hA62
      rw [iq ae ae (by have:=hlg1 _ (List.mem_of_getElem? (dH hkl)); omega)] at hY
      refine aH<|hK39 _ _ ?_
      rw [hsD] at hF
      refine wp_region_lit ?_
      refine vR hF<|vX O<|vX O<|vX O<|vV O (aY O NM zV O O k rfl hdl rfl)<|vV O (dK (new:=dc d) rfl (Hq.sub hA62.q (List.Subset.trans hG (bM (bM (bM (bM (dR))))))) O hcd (k*32) hled rfl hatd Hm) fun a hF=>?_
      refine ax O (fun K hK=>kG (qs := #[(0,.agg (dc d).toArray)]) (cells:=(dc d).toArray) hF O ae rfl hA62 O (ny hd32) (fun b63 w64 a hb63 hF hA65=>hK _ _ ?_))
      have hA66:Hp w0 (Y6::[row b63 29 (dc d)]::[row g 3 (oc os)]::[row b12 146 [.slice (some ⟨g,0,none⟩) ns.length ns.length]]::[row b4 23 [.slice A1 ns.length c1]]::R) w64:=hpO 5 [1,0,2,3,4] hA65 rfl
      refine ax O (fun K hK=>ay hF O ae I8 rfl rfl ?_)
      with_reducible refine (jO w0 _ ([row b63 29 (dc d)]::[row g 3 (oc os)]::[row b12 146 [.slice (some ⟨g,0,none⟩) ns.length ns.length]]::[row b4 23 [.slice A1 ns.length c1]]::R) wb _ _ (some ⟨b63,0,none⟩) d hd32 (nZ (Rc.ofRow (i:=0) (off:=0) rfl (by rw [List.drop_zero]; exact List.take_length ..))) hY hA66 (by have:=hlg1 _ (List.mem_of_getElem? (dH hkl)); simp only [List.length_append,gq,hml,hd32]; omega)).mono ?_
      rintro e' w67 ⟨Y7,rfl,hY,hA68⟩
      refine ⟨_,rfl,fun a hF=>hK _ _ ?_⟩
      replace hA68:Hp w0 (Y7::[row b63 29 (dc d)]::[row g 3 (oc os)]::[row b12 146 [.slice (some ⟨g,0,none⟩) ns.length ns.length]]::[row b4 23 [.slice A1 ns.length c1]]::R) w67:=hA68
      refine aH<|hK35 _ _ ?_
      refine wp_region_lit ?_
      refine vR hF<|vV O (bT O O O (Np _ ag))<|vX O fun a hF=>?_
      refine aH ?_
      rw [← hsD] at hF
      have hA69:Hp w0 (Y7::[row g 3 (oc os)]::[row b12 146 [.slice (some ⟨g,0,none⟩) ns.length ns.length]]::[row b4 23 [.slice A1 ns.length c1]]::R) w67:=hpS 5 [0,2,3,4] [1] hA68 rfl
      exact ⟨i+1,ag,_,ag,hrs,hY.same (by rw [tK hk,show rowB (ng ns ds k)=nameB (dM ns k)++d by unfold rowB ng; rw [hde]]; simp only [List.append_assoc]),hF.keep [70,3,6,10,13,68,69] rfl,hA69⟩
    ·refine au hF O (dE ag) ?_
     obtain rfl:i=ns.length:=by omega
     rw [← hol,List.take_length] at hri hY hrl
     apply wp_exit
     refine hK25 _ _ ?_
     refine wS hF fun K40 hK40=>vX O fun a hF=>?_
     refine ax O (fun K hK=>ay hF O ae Jc rfl rfl ?_)
     with_reducible refine (zq w0 _ ([row g 3 (oc os)]::[row b12 146 [.slice (some ⟨g,0,none⟩) ns.length ns.length]]::[row b4 23 [.slice A1 ns.length c1]]::R) wb _ _ hY hA47 (by rw [List.length_append]; omega)).mono ?_
     rintro e' w70 ⟨vA,ZA,YE,rfl,hZ,hY,hA71⟩
     refine ⟨_,rfl,fun a hF=>hK _ _ ?_⟩
     replace hA71:Hp w0 (ZA::YE::[row g 3 (oc os)]::[row b12 146 [.slice (some ⟨g,0,none⟩) ns.length ns.length]]::[row b4 23 [.slice A1 ns.length c1]]::R) w70:=hA71
     refine vR hF<|vX O<|vX O<|vE hK40 fun a hF=>?_
     apply wp_ret
     refine gG hF Tryz.results29 O O ?_
     have hA72:Hp w0 (ZA::R) w70:=hpS 5 [0] [1,2,3,4] hA71 rfl
     obtain ⟨e0,hTb⟩:=KZ (n:=n) (ch:=ch) (clk:=clk) hl hb1 hlg hop hri
     rw [e0]
     rw [hm1] at hZ
     exact ⟨_,ZA,_,rfl,hTb,hZ,hA72⟩
end Go.Proofs.YtepbmdlgdaedpaaGreatDoor
