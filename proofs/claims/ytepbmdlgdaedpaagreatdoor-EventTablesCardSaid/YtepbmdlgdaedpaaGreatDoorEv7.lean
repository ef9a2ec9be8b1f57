/- Bytes held against bytes; what bytes tell of an event: Decode. -/
import Derived.Test.YtepbmdlgdaedpaaGreatDoorEv6
/- Bytes held against bytes; what bytes tell of an event: Decode. -/
namespace Go.Proofs.YtepbmdlgdaedpaaGreatDoor
open Go.RowKit Go.Dk
theorem Mc:aP Tryz.prog 20:=⟨_,Tryz.func20,af,af⟩
theorem LZ:aP Tryz.prog 31:=⟨_,Tryz.func31,af,af⟩
theorem DJ:aP Tryz.prog 35:=⟨_,Tryz.func35,af,af⟩
theorem LD:aP Tryz.prog 82:=⟨_,Tryz.func82,af,af⟩
theorem LC:aP Tryz.prog 83:=⟨_,Tryz.func83,af,af⟩
theorem Lu:aP Tryz.prog 84:=⟨_,Tryz.func84,af,af⟩
theorem Lt:aP Tryz.prog 85:=⟨_,Tryz.func85,af,af⟩
set_option maxRecDepth 100000 in
set_option maxHeartbeats 8000000 in
theorem KU {w0:World} {R:List Seg} {A1 A2:Option Addr} {l1 l2:List UInt8} {c1 c2:Nat} (w:World) (hR1:Rd w0 R A1 l1) (hR2:Rd w0 R A2 l2) (hA:Hp w0 R w):Calls Tryz.prog 85 #[.slice A1 l1.length c1,.slice A2 l2.length c2] w fun e w'=>e= .returned (.bool (l1 == l2))∧w=w':=by
 refine aQ Tryz.func85 O Tryz.ntmps85 ai (fun a hF=>?_)
 refine wS hF fun K1 hK1=>vX O<|vE hK1<|wT fun K2 hK2=>vX O<|vV O (pK O PZ PW P9 O O (Rc.bts hR1 hA.q))<|vX O<|vV O (pK O PZ PW P9 O O (Rc.bts hR2 hA.q))<|vV O (fJ O O O O O)<|vX O<|vE hK2 fun a hF=>?_
 apply wp_ret
 refine aO hF Tryz.results85 O ?_
 exact ⟨rfl,rfl⟩
def noEA:EA:=⟨0,0,0,[],[],[],⟨iD,none,0⟩,[],none,0,[],none,0,List.replicate 32 0⟩
theorem Ig:bQ Tryz.prog 31 (.agg noEA.cells.toArray):=by unfold bQ; kernel_rfl
theorem xG (w:World):(Instr.build 31 #[]).run Tryz.prog w= .ok (.agg noEA.cells.toArray) w:=af
theorem Oe (a b c:Int) (w:World):(Instr.build 31 #[(0,.int .i64 a),(1,.int .i64 b),(2,.int .i64 c)]).run Tryz.prog w= .ok (.agg ([.int .i64 a,.int .i64 b,.int .i64 c,ak [],ak [],ak [],.int .i64 0,.int .i64 0,ak [],.slice none 0 0,.slice none 0 0,.slice none 0 0]++dc (List.replicate 32 0)).toArray) w:=af
theorem xC:isRow Tryz.prog 31 noEA.cells.length=true:=JS
theorem rM {w0:World} {G:List Seg}:noEA.Ok w0 G:=⟨oO,fun _ h=>absurd h (List.not_mem_nil),Rc.nil,PU _,Rc.nil,PU _,⟨ ae,ae,ae,⟨ ae,ae⟩,fun _ h=>absurd h (List.not_mem_nil),rfl⟩⟩
theorem N7 {n:Nat} (h:aN .gtr (n:Int) 65536=false):n≤65536:=by simp [aN] at h; omega
theorem N8 {n:Nat} (h:aN .gtr (n:Int) 65536=true):¬ n≤65536:=by simp [aN] at h; omega
theorem Oj {raw:List UInt8} {k p1 y1:Nat} (h:got (gz 1) 0 raw 0 0=⟨k,p1,y1⟩):(jd raw).v.op=((k:Nat):Int):=by
 have e:(jd raw).v.op=(((got (gz 1) 0 raw 0 0).v:Nat):Int):=rfl
 rw [e,h]
theorem Np (a:VA):∀ v∈a.cells,v.oneCell'=true:=fun v hv=>by
 simp only [List.mem_cons,List.not_mem_nil,or_false] at hv
 rcases hv with rfl | rfl | rfl | rfl <;> rfl
theorem FP (l:List VA) (a:VA):rf (l++[a])=rf l++a.cells:=by
 unfold rf
 rw [List.map_append,List.flatten_append]
 simp
theorem VA.Ok.monoF {w0:World} {G H:List Seg} {a:VA} (h:a.Ok w0 G) (hs:G.flatten⊆H.flatten):a.Ok w0 H:=⟨h.rc.monoF hs,h.n,h.i⟩
theorem GL {w0:World} {l:List VA} {a:VA} {X Y:Seg} (h:∀ b∈l,b.Ok w0 [X]) (ha:a.Ok w0 [Y]):∀ b∈l++[a],b.Ok w0 [X++Y]:=fun b hb=>by
 rcases List.mem_append.1 hb with hb | hb
 ·exact (h b hb).monoF (fun x hx=>by simp at hx ⊢; simp [hx])
 ·rw [List.mem_singleton.1 hb]; exact ha.monoF (fun x hx=>by simp at hx ⊢; simp [hx])
theorem xA {l:List UInt8} {m p:Nat}:fH l (m+1) p 0=⟨(dh l p 0).v::(fH l m (dh l p 0).p (dh l p 0).y).v,(fH l m (dh l p 0).p (dh l p 0).y).p,(fH l m (dh l p 0).p (dh l p 0).y).y⟩:=rfl
theorem xy {l:List UInt8} {m p y:Nat} (h:¬ y=0):fH l m p y=⟨[],p,y⟩:=by
 cases m with
 | zero=>rfl
 | succ m=>exact if_neg h
theorem Az {s t u:List Value} {n:Nat} (hn:s.length=n) (h:u.length=t.length):splice (s++t) n u=s++u:=by
 unfold splice
 rw [List.take_left' hn,List.drop_of_length_le (by rw [List.length_append]; omega),List.append_nil]
theorem Lc {p y n:Nat} (hp:p≤n) (h:aN .neq ((if y=0∧p<n then 8 else y:Nat):Int) 0=false):y=0∧p=n:=by
 have h1:=qg h
 split at h1
 ·exact absurd h1 ae
 ·rename_i h2
  exact ⟨h1,by have:¬ p<n:=fun hh=>h2 ⟨h1,hh⟩; omega⟩
theorem Ld {raw:List UInt8} {p y:Nat} (hG:(jd raw).p=p∧(jd raw).y=y) (h:aN .neq ((if y=0∧p<raw.length then 8 else y:Nat):Int) 0=true):¬ lD raw:=fun hd=>by
 obtain ⟨_,_,h3,h4,_,_⟩:=hd
 rw [hG.2] at h3
 rw [hG.1] at h4
 subst h3 h4
 exact kT h (by rw [if_neg (fun hh=>Nat.lt_irrefl _ hh.2)])
theorem Iu {e:Ev} {raw:List UInt8} (h:(aN .neq ((iH e:Nat):Int) 0 || !(iq e == raw))=false):iH e=0∧iq e=raw:=by
 rw [Bool.or_eq_false_iff] at h
 exact ⟨qg h.1,by simpa using h.2⟩
theorem Ol {raw:List UInt8} {ea:EA} {k p:Nat} (hl:raw.length≤65536) (hop:kJ ((k:Nat):Int)) (hG:jd raw=⟨ea.ev,p,0⟩) (hp:p=raw.length) (he:iH ea.ev=0) (hb:iq ea.ev=raw):lD raw:=by
 unfold lD
 rw [hG]
 exact ⟨hl,(Ev.rt he).1.op,rfl,hp,he,hb⟩
theorem BQ {raw:List UInt8} {e:Ev} {p:Nat} (hG:jd raw=⟨e,p,0⟩) (h:(aN .neq ((iH e:Nat):Int) 0 || !(iq e == raw))=true):¬ lD raw:=fun hd=>by
 obtain ⟨_,_,_,_,h5,h6⟩:=hd
 rw [hG] at h5 h6
 rw [Bool.or_eq_true] at h
 rcases h with h | h
 ·exact kT h h5
 ·rw [show iq e=raw from h6] at h; simp at h
theorem Ir {w0:World} {k n cl:Nat} {typ cas nam src dg:List UInt8} {vb:VA} {vs:List VA} {aA bA:Option Addr} {aC bC:Nat} {ZS ZV ZA ZM:Seg} (hk:k<256) (hn:n<18446744073709551616) (hcl:cl<18446744073709551616) (hvb:vb.Ok w0 [ZV]) (hvs:∀ a∈vs,a.Ok w0 [ZM]) (hRv:Rc w0 [ZA] aA (rf vs)) (hvl:vs.length≤9223372036854775807) (hRs:Rd w0 [ZS] bA src) (hsl:src.length≤9223372036854775807) (hd:dg.length=32) :
  EA.Ok w0 [ZS++(ZV++(ZA++ZM))] ⟨((k:Nat):Int),i64 n,i64 cl,typ,cas,nam,vb,vs,aA,aC,src,bA,bC,dg⟩:=by
 refine ⟨hvb.monoF (fun x hx=>by simp at hx ⊢; simp [hx]),fun a ha=>(hvs a ha).monoF (fun x hx=>by simp at hx ⊢; simp [hx]),hRv.monoF (fun x hx=>by simp at hx ⊢; simp [hx]),hvl,hRs.monoF (fun x hx=>by simp at hx ⊢; simp [hx]),hsl,⟨⟨?_,?_⟩,i64_in hn,i64_in hcl,hvb.i,?_,hd⟩⟩
 ·show (_:Int)≤(k:Int); omega
 ·show (k:Int)≤_; omega
 ·intro v hv
  obtain ⟨a,ha,rfl⟩:=List.mem_map.1 hv
  exact (hvs a ha).i
theorem oh:(Tryz.prog.info? 31).map (·.size)=some 44:=af
theorem lU {e:EA}:∀ {v:Value},v∈e.cells→v.oneCell'=true:=fun {v} hv=>by
 rcases List.mem_append.1 hv with hv | hv
 ·simp only [List.mem_cons,List.not_mem_nil,or_false] at hv
  rcases hv with rfl | rfl | rfl | rfl | rfl | rfl | rfl | rfl | rfl | rfl | rfl | rfl <;> rfl
 ·exact iw _ v hv
set_option maxRecDepth 100000 in
set_option maxHeartbeats 8000000 in
theorem E5 {w0:World} {R:List Seg} {G:List Seg} (A:Option Addr) (raw:List UInt8) (c:Nat) (w:World) (hT:rq w0) (hR:Rd w0 G A raw) (hG:G⊆R) (hl:raw.length≤9223372036854775807) (hA:Hp w0 R w):Calls Tryz.prog 21 #[.slice A raw.length c] w fun e w'=>∃ (ea:EA) (Z:Seg),e= .returned (.tuple #[.agg ea.cells.toArray,.int .i64 (zI raw:Nat)])∧ea.ev=xJ raw∧ea.Ok w0 [Z]∧Hp w0 (Z::R) w':=by
 refine aQ Tryz.func21 O Tryz.ntmps21 ai (fun a hF=>?_)
 refine wp_seq_k fun K1 hK1=>wp_region_lit ?_
 refine az O (fun K hK=>dG hF O ae rfl hA Ig (fun b1 w2 a hb1 hF hA3=>hK _ _ ?_))
 refine vR hF<|vX O<|vE hK1<|wQ fun K2 hK2=>wT fun K3 hK3=>vX O<|vV O (aU O PZ O O)<|vV O (aB O O O O O)<|vE hK3 fun a hF=>?_
 rcases tf (aN .gtr (raw.length) (65536)) with h0 | h0
 ·refine au hF O h0 ?_
  have hlen:raw.length≤65536:=N7 h0
  apply wp_skip
  refine hK2 _ _ ?_
  refine wS hF fun K4 hK4=>vX O fun a hF=>?_
  refine az O (fun K hK=>ay hF O ae LZ rfl rfl ?_)
  with_reducible refine (KO w0 _ _ A raw c (hR.mono (List.Subset.trans hG (bW (fD)))) hA3 ag).mono ?_
  rintro e' w4 ⟨rb,A0,c0,X,rfl,hO,hA5⟩
  refine ⟨_,rfl,fun a hF=>hK _ _ ?_⟩
  replace hA5:Hp w0 ([row rb 152 [.slice A0 raw.length c0,.int .i64 (0:Nat),.int .i64 (0:Nat)]]::X::[row b1 31 noEA.cells]::R) w4:=hA5
  refine vR hF<|vX O<|vE hK4<|wT fun K5 hK5=>vX O fun a hF=>?_
  refine az O (fun K hK=>ay hF O ae LY rfl rfl ?_)
  with_reducible refine (tY w0 _ ([row b1 31 noEA.cells]::R) rb A0 raw c0 0 0 X hO hA5 (PU _) ag).mono ?_
  rintro e' w6 ⟨k,p1,y1,rfl,hg1,hp1,hk,hA7⟩
  refine ⟨_,rfl,fun a hF=>hK _ _ ?_⟩
  replace hA7:Hp w0 ([row rb 152 [.slice A0 raw.length c0,.int .i64 (p1:Nat),.int .i64 (y1:Nat)]]::X::[row b1 31 noEA.cells]::R) w6:=hA7
  replace hk:k<256:=hk
  refine vR hF<|vV O (bJ O PW Qb O (PX _ ag))<|vX O fun a hF=>?_
  refine az O (fun K hK=>ay hF O ae Dy rfl rfl ?_)
  with_reducible refine (nI w0 _ ([row b1 31 noEA.cells]::R) rb A0 raw c0 p1 y1 X hO hA7 hp1 ag).mono ?_
  rintro e' w8 ⟨n,p2,y2,rfl,hg2,hp2,hn,hA9⟩
  refine ⟨_,rfl,fun a hF=>hK _ _ ?_⟩
  replace hA9:Hp w0 ([row rb 152 [.slice A0 raw.length c0,.int .i64 (p2:Nat),.int .i64 (y2:Nat)]]::X::[row b1 31 noEA.cells]::R) w8:=hA9
  replace hn:n<18446744073709551616:=hn
  refine vR hF<|vV O (bJ O Qh Qb O (oU hn))<|vX O fun a hF=>?_
  refine az O (fun K hK=>ay hF O ae Dy rfl rfl ?_)
  with_reducible refine (nI w0 _ ([row b1 31 noEA.cells]::R) rb A0 raw c0 p2 y2 X hO hA9 hp2 ag).mono ?_
  rintro e' w10 ⟨cl,p3,y3,rfl,hg3,hp3,hcl,hA11⟩
  refine ⟨_,rfl,fun a hF=>hK _ _ ?_⟩
  replace hA11:Hp w0 ([row rb 152 [.slice A0 raw.length c0,.int .i64 (p3:Nat),.int .i64 (y3:Nat)]]::X::[row b1 31 noEA.cells]::R) w10:=hA11
  replace hcl:cl<18446744073709551616:=hcl
  refine vR hF<|vV O (bJ O Qh Qb O (oU hcl))<|vV O (fV (v:= .agg ([.int .i64 ((k:Nat):Int),.int .i64 (i64 n),.int .i64 (i64 cl),ak [],ak [],ak [],.int .i64 0,.int .i64 0,ak [],.slice none 0 0,.slice none 0 0,.slice none 0 0]++dc (List.replicate 32 0)).toArray) (qs := #[(0,.int .i64 ((k:Nat):Int)),(1,.int .i64 (i64 n)),(2,.int .i64 (i64 cl))]) O O (Oe _ _ _)) fun a hF=>?_
  refine az O (fun K hK=>dG hF O ae rfl hA11 Ig (fun b12 w13 a hb12 hF hA14=>hK _ _ ?_))
  refine az O (fun K hK=>bz (new:=[.int .i64 ((k:Nat):Int),.int .i64 (i64 n),.int .i64 (i64 cl),ak [],ak [],ak [],.int .i64 0,.int .i64 0,ak [],.slice none 0 0,.slice none 0 0,.slice none 0 0]++dc (List.replicate 32 0)) hF O O hA14 O O 0 O O (fun v hv=>lU (e:=⟨((k:Nat):Int),i64 n,i64 cl,[],[],[],⟨iD,none,0⟩,[],none,0,[],none,0,List.replicate 32 0⟩) hv) oh (fun w15 hA16=>hK _ _ ?_))
  replace hA16:Hp w0 ([row b12 31 ([.int .i64 ((k:Nat):Int),.int .i64 (i64 n),.int .i64 (i64 cl),ak [],ak [],ak [],.int .i64 0,.int .i64 0,ak [],.slice none 0 0,.slice none 0 0,.slice none 0 0]++dc (List.replicate 32 0))]::[row rb 152 [.slice A0 raw.length c0,.int .i64 (p3:Nat),.int .i64 (y3:Nat)]]::X::[row b1 31 noEA.cells]::R) w15:=hA16
  refine aG<|hK5 _ _ ?_
  apply wp_seq_k; intro K6 hK6
  by_cases hop:kJ ((k:Nat):Int)
  ·obtain ⟨f,hf⟩:∃ f,f=gI ((k:Nat):Int):=⟨_,rfl⟩
   refine wp_region_lit ?_
   refine vR hF<|vV O (yf 0 O Qd O jl O)<|vV O (bi O hA16.q O 0 O O mV) fun a hF=>?_
   refine az O (fun K hK=>ay hF O ae DD rfl rfl ?_)
   with_reducible refine (o5 ((k:Nat):Int) f hf hop _ hA16).mono ?_
   rintro e' w17 ⟨rfl,hA18⟩
   refine ⟨_,rfl,fun a hF=>hK _ _ ?_⟩
   refine vR hF<|vX O<|vV O (aS (v:= .agg ([.bool f.typed,.bool f.cased,.bool f.named,.bool f.valued,.bool f.args,.bool f.source]).toArray) rfl rfl rfl)<|vV O (aS (v:= .bool true) rfl rfl rfl) fun a hF=>?_
   refine az O (fun K hK=>dG hF O ae rfl hA18 (FQ) (fun b19 w20 a hb19 hF hA21=>hK _ _ ?_))
   refine az O (fun K hK=>bz (new:=[.bool f.typed,.bool f.cased,.bool f.named,.bool f.valued,.bool f.args,.bool f.source]) hF O O hA21 O O 0 O O (by simp [Value.oneCell']) lh (fun w22 hA23=>hK _ _ ?_))
   replace hA23:Hp w0 ([row b19 129 [.bool f.typed,.bool f.cased,.bool f.named,.bool f.valued,.bool f.args,.bool f.source]]::[row b12 31 ([.int .i64 ((k:Nat):Int),.int .i64 (i64 n),.int .i64 (i64 cl),ak [],ak [],ak [],.int .i64 0,.int .i64 0,ak [],.slice none 0 0,.slice none 0 0,.slice none 0 0]++dc (List.replicate 32 0))]::[row rb 152 [.slice A0 raw.length c0,.int .i64 (p3:Nat),.int .i64 (y3:Nat)]]::X::[row b1 31 noEA.cells]::R) w22:=hA23
   refine vR hF<|vX O<|vE hK6<|wQ fun K7 hK7=>wT fun K8 hK8=>vX O<|vV O (dK O O O)<|vE hK8<|vF1 O<|wKp hK7<|wQ fun K9 hK9=>wT fun K10 hK10=>vV O (yf 1 O Qe O lL O)<|vV O (bi O hA23.q O 0 O O lQ)<|vE hK10 fun a hF=>?_
   have hJ0:∀ (a:Act) (x:World) (cas:List UInt8) (p4 y4:Nat),kM f.cased [] p3 y3 (got (dW · 64) [] raw p3 y3)=⟨cas,p4,y4⟩→p4≤raw.length→Fr 112 [(0,.slice A raw.length c),(2,.pointer (some ⟨b1,0,none⟩)),(4,.pointer (some ⟨rb,0,none⟩)),(5,.pointer (some ⟨b12,0,none⟩)),(6,.pointer (some ⟨b19,0,none⟩))] a→Hp w0 ([row b19 129 [.bool f.typed,.bool f.cased,.bool f.named,.bool f.valued,.bool f.args,.bool f.source]]::[row b12 31 ([.int .i64 ((k:Nat):Int),.int .i64 (i64 n),.int .i64 (i64 cl),ak [],ak cas,ak [],.int .i64 0,.int .i64 0,ak [],.slice none 0 0,.slice none 0 0,.slice none 0 0]++dc (List.replicate 32 0))]::[row rb 152 [.slice A0 raw.length c0,.int .i64 (p4:Nat),.int .i64 (y4:Nat)]]::X::[row b1 31 noEA.cells]::R) x→K9 a x:=by
    clear hF
    intro a x cas p4 y4 hgi0 hp4 hF hA
    refine hK9 _ _ ?_
    apply wp_seq_k; intro K11 hK11
    refine wS hF fun K12 hK12=>vV O (yf 0 O Qe O lL O)<|vV O (bi O hA.q O 0 O O lQ)<|vE hK12 fun a hF=>?_
    have hJ1:∀ (a:Act) (x:World) (typ:List UInt8) (p5 y5:Nat),kM f.typed [] p4 y4 (got (dW · 64) [] raw p4 y4)=⟨typ,p5,y5⟩→p5≤raw.length→Fr 112 [(0,.slice A raw.length c),(2,.pointer (some ⟨b1,0,none⟩)),(4,.pointer (some ⟨rb,0,none⟩)),(5,.pointer (some ⟨b12,0,none⟩)),(6,.pointer (some ⟨b19,0,none⟩))] a→Hp w0 ([row b19 129 [.bool f.typed,.bool f.cased,.bool f.named,.bool f.valued,.bool f.args,.bool f.source]]::[row b12 31 ([.int .i64 ((k:Nat):Int),.int .i64 (i64 n),.int .i64 (i64 cl),ak typ,ak cas,ak [],.int .i64 0,.int .i64 0,ak [],.slice none 0 0,.slice none 0 0,.slice none 0 0]++dc (List.replicate 32 0))]::[row rb 152 [.slice A0 raw.length c0,.int .i64 (p5:Nat),.int .i64 (y5:Nat)]]::X::[row b1 31 noEA.cells]::R) x→K11 a x:=by
     clear hF
     intro a x typ p5 y5 hgi1 hp5 hF hA
     refine hK11 _ _ ?_
     apply wp_seq_k; intro K13 hK13
     refine wS hF fun K14 hK14=>vV O (yf 2 O Qe O lL O)<|vV O (bi O hA.q O 0 O O lQ)<|vE hK14 fun a hF=>?_
     have hJ2:∀ (a:Act) (x:World) (nam:List UInt8) (p6 y6:Nat),kM f.named [] p5 y5 (got (dW · 64) [] raw p5 y5)=⟨nam,p6,y6⟩→p6≤raw.length→Fr 112 [(0,.slice A raw.length c),(2,.pointer (some ⟨b1,0,none⟩)),(4,.pointer (some ⟨rb,0,none⟩)),(5,.pointer (some ⟨b12,0,none⟩)),(6,.pointer (some ⟨b19,0,none⟩))] a→Hp w0 ([row b19 129 [.bool f.typed,.bool f.cased,.bool f.named,.bool f.valued,.bool f.args,.bool f.source]]::[row b12 31 ([.int .i64 ((k:Nat):Int),.int .i64 (i64 n),.int .i64 (i64 cl),ak typ,ak cas,ak nam,.int .i64 0,.int .i64 0,ak [],.slice none 0 0,.slice none 0 0,.slice none 0 0]++dc (List.replicate 32 0))]::[row rb 152 [.slice A0 raw.length c0,.int .i64 (p6:Nat),.int .i64 (y6:Nat)]]::X::[row b1 31 noEA.cells]::R) x→K13 a x:=by
      clear hF
      intro a x nam p6 y6 hgi2 hp6 hF hA
      refine hK13 _ _ ?_
      apply wp_seq_k; intro K15 hK15
      refine wS hF fun K16 hK16=>vV O (yf 5 O Qe O lL O)<|vV O (bi O hA.q O 0 O O lQ)<|vE hK16 fun a hF=>?_
      have hJ3:∀ (a:Act) (x:World) (src:List UInt8) (bA:Option Addr) (bC:Nat) (ZS:Seg) (p7 y7:Nat),kM f.source [] p6 y6 (got (iY · 60000) [] raw p6 y6)=⟨src,p7,y7⟩→Rd w0 [ZS] bA src→src.length≤9223372036854775807→p7≤raw.length→Fr 112 [(0,.slice A raw.length c),(2,.pointer (some ⟨b1,0,none⟩)),(4,.pointer (some ⟨rb,0,none⟩)),(5,.pointer (some ⟨b12,0,none⟩)),(6,.pointer (some ⟨b19,0,none⟩))] a→Hp w0 (ZS::[row b19 129 [.bool f.typed,.bool f.cased,.bool f.named,.bool f.valued,.bool f.args,.bool f.source]]::[row b12 31 ([.int .i64 ((k:Nat):Int),.int .i64 (i64 n),.int .i64 (i64 cl),ak typ,ak cas,ak nam,.int .i64 0,.int .i64 0,ak [],.slice none 0 0,.slice none 0 0,.slice bA src.length bC]++dc (List.replicate 32 0))]::[row rb 152 [.slice A0 raw.length c0,.int .i64 (p7:Nat),.int .i64 (y7:Nat)]]::X::[row b1 31 noEA.cells]::R) x→K15 a x:=by
       clear hF
       intro a x src bA bC ZS p7 y7 hgi3 hRs hsl hp7 hF hA
       refine hK15 _ _ ?_
       apply wp_seq_k; intro K17 hK17
       refine wS hF fun K18 hK18=>vV O (yf 3 O Qe O lL O)<|vV O (bi O hA.q O 1 O O lQ)<|vE hK18 fun a hF=>?_
       have hJ4:∀ (a:Act) (x:World) (vb:VA) (ZV:Seg) (p8 y8:Nat),kM f.valued iD p7 y7 (dh raw p7 y7)=⟨vb.v,p8,y8⟩→vb.Ok w0 [ZV]→p8≤raw.length→Fr 112 [(0,.slice A raw.length c),(2,.pointer (some ⟨b1,0,none⟩)),(4,.pointer (some ⟨rb,0,none⟩)),(5,.pointer (some ⟨b12,0,none⟩)),(6,.pointer (some ⟨b19,0,none⟩))] a→Hp w0 (ZV::ZS::[row b19 129 [.bool f.typed,.bool f.cased,.bool f.named,.bool f.valued,.bool f.args,.bool f.source]]::[row b12 31 ([.int .i64 ((k:Nat):Int),.int .i64 (i64 n),.int .i64 (i64 cl),ak typ,ak cas,ak nam,.int .i64 vb.v.k,.int .i64 vb.v.n,ak vb.v.t,.slice vb.sA vb.v.s.length vb.sC,.slice none 0 0,.slice bA src.length bC]++dc (List.replicate 32 0))]::[row rb 152 [.slice A0 raw.length c0,.int .i64 (p8:Nat),.int .i64 (y8:Nat)]]::X::[row b1 31 noEA.cells]::R) x→K17 a x:=by
        clear hF
        intro a x vb ZV p8 y8 hgi4 hvb hp8 hF hA
        refine hK17 _ _ ?_
        apply wp_seq_k; intro K19 hK19
        refine wS hF fun K20 hK20=>vV O (yf 4 O Qe O lL O)<|vV O (bi O hA.q O 2 O O lQ)<|vE hK20 fun a hF=>?_
        have hJ5:∀ (a:Act) (x:World) (vs:List VA) (aA:Option Addr) (aC:Nat) (ZA ZM:Seg) (n1 q1 z1:Nat) (p9 y9:Nat),kM f.args 0 p8 y8 (got (gz 1) 0 raw p8 y8)=⟨n1,q1,z1⟩→fH raw n1 q1 z1=⟨vs.map VA.v,p9,y9⟩→Rc w0 [ZA] aA (rf vs)→(∀ a∈vs,a.Ok w0 [ZM])→vs.length≤9223372036854775807→p9≤raw.length→Fr 112 [(0,.slice A raw.length c),(2,.pointer (some ⟨b1,0,none⟩)),(4,.pointer (some ⟨rb,0,none⟩)),(5,.pointer (some ⟨b12,0,none⟩)),(6,.pointer (some ⟨b19,0,none⟩))] a→Hp w0 (ZA::ZM::ZV::ZS::[row b19 129 [.bool f.typed,.bool f.cased,.bool f.named,.bool f.valued,.bool f.args,.bool f.source]]::[row b12 31 ([.int .i64 ((k:Nat):Int),.int .i64 (i64 n),.int .i64 (i64 cl),ak typ,ak cas,ak nam,.int .i64 vb.v.k,.int .i64 vb.v.n,ak vb.v.t,.slice vb.sA vb.v.s.length vb.sC,.slice aA vs.length aC,.slice bA src.length bC]++dc (List.replicate 32 0))]::[row rb 152 [.slice A0 raw.length c0,.int .i64 (p9:Nat),.int .i64 (y9:Nat)]]::X::[row b1 31 noEA.cells]::R) x→K19 a x:=by
         clear hF
         intro a x vs aA aC ZA ZM n1 q1 z1 p9 y9 hgi5 hgv hRv hvs hvl hp9 hF hA
         refine hK19 _ _ ?_
         refine wS hF fun K21 hK21=>vX O fun a hF=>?_
         have hA24:Hp w0 ([row rb 152 [.slice A0 raw.length c0,.int .i64 (p9:Nat),.int .i64 (y9:Nat)]]::X::ZA::ZM::ZV::ZS::[row b19 129 [.bool f.typed,.bool f.cased,.bool f.named,.bool f.valued,.bool f.args,.bool f.source]]::[row b12 31 ([.int .i64 ((k:Nat):Int),.int .i64 (i64 n),.int .i64 (i64 cl),ak typ,ak cas,ak nam,.int .i64 vb.v.k,.int .i64 vb.v.n,ak vb.v.t,.slice vb.sA vb.v.s.length vb.sC,.slice aA vs.length aC,.slice bA src.length bC]++dc (List.replicate 32 0))]::[row b1 31 noEA.cells]::R) x:=hpO 9 [6,7,0,1,2,3,4,5,8] hA rfl
         refine az O (fun K hK=>ay hF O ae LC rfl rfl ?_)
         with_reducible refine (EP w0 _ (ZA::ZM::ZV::ZS::[row b19 129 [.bool f.typed,.bool f.cased,.bool f.named,.bool f.valued,.bool f.args,.bool f.source]]::[row b12 31 ([.int .i64 ((k:Nat):Int),.int .i64 (i64 n),.int .i64 (i64 cl),ak typ,ak cas,ak nam,.int .i64 vb.v.k,.int .i64 vb.v.n,ak vb.v.t,.slice vb.sA vb.v.s.length vb.sC,.slice aA vs.length aC,.slice bA src.length bC]++dc (List.replicate 32 0))]::[row b1 31 noEA.cells]::R) rb A0 raw c0 p9 y9 X hO hA24 hp9 ag).mono ?_
         rintro e' w25 ⟨dg,p10,y10,rfl,hgd,hp10,hd32,hA26⟩
         refine ⟨_,rfl,fun a hF=>hK _ _ ?_⟩
         refine vR hF<|vV O (yf 12 rfl Qd O CJ O) fun a hF=>?_
         refine az O (fun K hK=>mX (new:=dc dg) hF O O hA26 O O 7 O (by rw [List.length_append,aI,aI,hd32]; exact Nat.le_of_ble_eq_true rfl) (iw _) (by rw [aI,hd32]; exact CJ) (fun w27 hA28=>hK _ _ ?_))
         replace hA28:Hp w0 ([row rb 152 [.slice A0 raw.length c0,.int .i64 (p10:Nat),.int .i64 (y10:Nat)]]::X::ZA::ZM::ZV::ZS::[row b19 129 [.bool f.typed,.bool f.cased,.bool f.named,.bool f.valued,.bool f.args,.bool f.source]]::[row b12 31 (splice ([.int .i64 ((k:Nat):Int),.int .i64 (i64 n),.int .i64 (i64 cl),ak typ,ak cas,ak nam,.int .i64 vb.v.k,.int .i64 vb.v.n,ak vb.v.t,.slice vb.sA vb.v.s.length vb.sC,.slice aA vs.length aC,.slice bA src.length bC]++dc (List.replicate 32 0)) 12 (dc dg))]::[row b1 31 noEA.cells]::R) w27:=hA28
         have hA29:Hp w0 ([row rb 152 [.slice A0 raw.length c0,.int .i64 (p10:Nat),.int .i64 (y10:Nat)]]::X::ZA::ZM::ZV::ZS::[row b19 129 [.bool f.typed,.bool f.cased,.bool f.named,.bool f.valued,.bool f.args,.bool f.source]]::[row b12 31 ([.int .i64 ((k:Nat):Int),.int .i64 (i64 n),.int .i64 (i64 cl),ak typ,ak cas,ak nam,.int .i64 vb.v.k,.int .i64 vb.v.n,ak vb.v.t,.slice vb.sA vb.v.s.length vb.sC,.slice aA vs.length aC,.slice bA src.length bC]++dc dg)]::[row b1 31 noEA.cells]::R) w27:=(by have h9:=hA28; rw [Az (n:=12) (s:=[.int .i64 ((k:Nat):Int),.int .i64 (i64 n),.int .i64 (i64 cl),ak typ,ak cas,ak nam,.int .i64 vb.v.k,.int .i64 vb.v.n,ak vb.v.t,.slice vb.sA vb.v.s.length vb.sC,.slice aA vs.length aC,.slice bA src.length bC]) rfl (by rw [aI,aI,hd32]; rfl)] at h9; exact h9)
         refine aG<|hK21 _ _ ?_
         apply wp_seq_k; intro K22 hK22
         refine wS hF fun K23 hK23=>vX O fun a hF=>?_
         refine az O (fun K hK=>ay hF O ae Lu rfl rfl ?_)
         with_reducible refine (KQ w0 _ (ZA::ZM::ZV::ZS::[row b19 129 [.bool f.typed,.bool f.cased,.bool f.named,.bool f.valued,.bool f.args,.bool f.source]]::[row b12 31 ([.int .i64 ((k:Nat):Int),.int .i64 (i64 n),.int .i64 (i64 cl),ak typ,ak cas,ak nam,.int .i64 vb.v.k,.int .i64 vb.v.n,ak vb.v.t,.slice vb.sA vb.v.s.length vb.sC,.slice aA vs.length aC,.slice bA src.length bC]++dc dg)]::[row b1 31 noEA.cells]::R) rb A0 raw c0 p10 y10 X hO hA29 hp10 ag).mono ?_
         rintro e' w30 ⟨rfl,hA31⟩
         refine ⟨_,rfl,fun a hF=>hK _ _ ?_⟩
         replace hA31:Hp w0 ([row rb 152 [.slice A0 raw.length c0,.int .i64 (p10:Nat),.int .i64 (y10:Nat)]]::X::ZA::ZM::ZV::ZS::[row b19 129 [.bool f.typed,.bool f.cased,.bool f.named,.bool f.valued,.bool f.args,.bool f.source]]::[row b12 31 ([.int .i64 ((k:Nat):Int),.int .i64 (i64 n),.int .i64 (i64 cl),ak typ,ak cas,ak nam,.int .i64 vb.v.k,.int .i64 vb.v.n,ak vb.v.t,.slice vb.sA vb.v.s.length vb.sC,.slice aA vs.length aC,.slice bA src.length bC]++dc dg)]::[row b1 31 noEA.cells]::R) w30:=hA31
         refine vR hF<|vV O (aB O O O O O)<|vE hK23 fun a hF=>?_
         rcases tf (aN .neq (((if y10=0∧p10<raw.length then 8 else y10:Nat):Int)) (0)) with h9 | h9
         ·refine au hF O h9 ?_
          obtain ⟨hy0,hpl⟩:=Lc hp10 h9
          subst hy0
          obtain ⟨ea,hea⟩:∃ e:EA,e=⟨((k:Nat):Int),i64 n,i64 cl,typ,cas,nam,vb,vs,aA,aC,src,bA,bC,dg⟩:=⟨_,rfl⟩
          have hA32:Hp w0 ([row rb 152 [.slice A0 raw.length c0,.int .i64 (p10:Nat),.int .i64 (0:Nat)]]::X::ZA::ZM::ZV::ZS::[row b19 129 [.bool f.typed,.bool f.cased,.bool f.named,.bool f.valued,.bool f.args,.bool f.source]]::[row b12 31 ([.int .i64 ea.op,.int .i64 ea.num,.int .i64 ea.clk,ak ea.typ,ak ea.cas,ak ea.nam,.int .i64 ea.v.v.k,.int .i64 ea.v.v.n,ak ea.v.v.t,.slice ea.v.sA ea.v.v.s.length ea.v.sC,.slice ea.aA ea.args.length ea.aC,.slice ea.bA ea.src.length ea.bC]++dc ea.eff)]::[row b1 31 noEA.cells]::R) w30:=(by rw [hea]; exact hA31)
          have hG0:jd raw=⟨ea.ev,p10,0⟩:=by
           unfold jd
           rw [hg1,cZ,hg2,cZ,hg3,cZ,← hf,hgi0,cZ,hgi1,cZ,hgi2,cZ,hgi3,cZ,hgi4,cZ,hgi5,cZ,hgv,cZ,hgd,cZ,hea]
           rfl
          have hEo:ea.Ok w0 [ZS++(ZV++(ZA++ZM))]:=by
           rw [hea]
           exact Ir hk hn hcl hvb hvs hRv hvl hRs hsl hd32
          have hA33:Hp w0 (ZS::ZV::ZA::ZM::[row rb 152 [.slice A0 raw.length c0,.int .i64 (p10:Nat),.int .i64 (0:Nat)]]::X::[row b19 129 [.bool f.typed,.bool f.cased,.bool f.named,.bool f.valued,.bool f.args,.bool f.source]]::[row b12 31 ([.int .i64 ea.op,.int .i64 ea.num,.int .i64 ea.clk,ak ea.typ,ak ea.cas,ak ea.nam,.int .i64 ea.v.v.k,.int .i64 ea.v.v.n,ak ea.v.v.t,.slice ea.v.sA ea.v.v.s.length ea.v.sC,.slice ea.aA ea.args.length ea.aC,.slice ea.bA ea.src.length ea.bC]++dc ea.eff)]::[row b1 31 noEA.cells]::R) w30:=hpO 9 [5,4,2,3,0,1,6,7,8] hA32 rfl
          have hA34:Hp w0 ((ZS++(ZV++(ZA++ZM)))::[row rb 152 [.slice A0 raw.length c0,.int .i64 (p10:Nat),.int .i64 (0:Nat)]]::X::[row b19 129 [.bool f.typed,.bool f.cased,.bool f.named,.bool f.valued,.bool f.args,.bool f.source]]::[row b12 31 ([.int .i64 ea.op,.int .i64 ea.num,.int .i64 ea.clk,ak ea.typ,ak ea.cas,ak ea.nam,.int .i64 ea.v.v.k,.int .i64 ea.v.v.n,ak ea.v.v.t,.slice ea.v.sA ea.v.v.s.length ea.v.sC,.slice ea.aA ea.args.length ea.aC,.slice ea.bA ea.src.length ea.bC]++dc ea.eff)]::[row b1 31 noEA.cells]::R) w30:=Hp.cast hA33 (by simp [List.append_assoc])
          obtain ⟨ZZ,hZZ⟩:∃ Z,Z=ZS++(ZV++(ZA++ZM)):=⟨_,rfl⟩
          rw [← hZZ] at hEo hA34
          have he32:ea.eff.length=32:=hEo.i.2.2.2.2.2
          apply wp_skip
          refine hK22 _ _ ?_
          apply wp_seq_k; intro K24 hK24
          refine wS hF fun K25 hK25=>vV O (dU (new:=[.int .i64 ea.op,.int .i64 ea.num,.int .i64 ea.clk,ak ea.typ,ak ea.cas,ak ea.nam,.int .i64 ea.v.v.k,.int .i64 ea.v.v.n,ak ea.v.v.t,.slice ea.v.sA ea.v.v.s.length ea.v.sC,.slice ea.aA ea.args.length ea.aC,.slice ea.bA ea.src.length ea.bC]++dc ea.eff) rfl hA34.q O 4 O JS (by rw [List.length_append,aI,he32]; exact Nat.le_of_ble_eq_true rfl) (by rw [List.drop_zero]; exact P8 (by rw [List.length_append,aI,he32]; exact Nat.le_of_ble_eq_true rfl))) fun a hF=>?_
          refine az O (fun K hK=>ay hF O ae Mc rfl rfl ?_)
          with_reducible refine (lC ea _ hT hEo (List.cons_subset.2 ⟨((P6 ..)),List.nil_subset _⟩) hA34).mono ?_
          rintro e' w35 ⟨qvE0,ZE,rfl,hZE,hA36⟩
          refine ⟨_,rfl,fun a hF=>hK _ _ ?_⟩
          replace hA36:Hp w0 (ZE::ZZ::[row rb 152 [.slice A0 raw.length c0,.int .i64 (p10:Nat),.int .i64 (0:Nat)]]::X::[row b19 129 [.bool f.typed,.bool f.cased,.bool f.named,.bool f.valued,.bool f.args,.bool f.source]]::[row b12 31 ([.int .i64 ea.op,.int .i64 ea.num,.int .i64 ea.clk,ak ea.typ,ak ea.cas,ak ea.nam,.int .i64 ea.v.v.k,.int .i64 ea.v.v.n,ak ea.v.v.t,.slice ea.v.sA ea.v.v.s.length ea.v.sC,.slice ea.aA ea.args.length ea.aC,.slice ea.bA ea.src.length ea.bC]++dc ea.eff)]::[row b1 31 noEA.cells]::R) w35:=hA36
          obtain ⟨_,AE,cE,rfl,_,hRE⟩:=hZE.rd (w0:=w0) (R:=[ZE]) (P6 ..)
          refine vR hF<|vX O<|vV O (aS (v:= .slice AE ((iq ea.ev).length) cE) rfl rfl rfl)<|vV O (aS (v:= .int .i64 ((iH ea.ev:Nat):Int)) O O O)<|vX O<|vX O<|vE hK25<|wT fun K26 hK26=>vX O<|vV O (aB O O O O O)<|vX O fun a hF=>?_
          refine bK (l2:=?lA1) hF [(109,.bool ((aN .neq (((iH ea.ev:Nat):Int)) (0)) || (!(iq ea.ev == raw)))),(0,.slice A raw.length c),(2,.pointer (some ⟨b1,0,none⟩)),(4,.pointer (some ⟨rb,0,none⟩)),(5,.pointer (some ⟨b12,0,none⟩)),(6,.pointer (some ⟨b19,0,none⟩)),(90,.pointer (some ⟨rb,0,none⟩)),(91,.agg (dc dg).toArray),(92,.pointer (some ⟨b12,12,none⟩)),(93,.pointer (some ⟨rb,0,none⟩)),(94,.int .i64 ((if 0=0∧p10<raw.length then 8 else 0:Nat):Int)),(95,.bool (aN .neq (((if 0=0∧p10<raw.length then 8 else 0:Nat):Int)) (0))),(98,.agg ([.int .i64 ea.op,.int .i64 ea.num,.int .i64 ea.clk,ak ea.typ,ak ea.cas,ak ea.nam,.int .i64 ea.v.v.k,.int .i64 ea.v.v.n,ak ea.v.v.t,.slice ea.v.sA ea.v.v.s.length ea.v.sC,.slice ea.aA ea.args.length ea.aC,.slice ea.bA ea.src.length ea.bC]++dc ea.eff).toArray),(99,.tuple #[.slice AE ((iq ea.ev).length) cE,.int .i64 ((iH ea.ev:Nat):Int)]),(97,.tuple #[.slice AE ((iq ea.ev).length) cE,.int .i64 ((iH ea.ev:Nat):Int)]),(100,.slice AE ((iq ea.ev).length) cE),(101,.int .i64 ((iH ea.ev:Nat):Int))] (fun hJ1=>?elA1) (fun a hF=>?flA1)
          case elA1 =>
           rcases tf (aN .neq (((iH ea.ev:Nat):Int)) (0)) with hg1 | hg1
           ·refine aK hF O O O O (aj hg1) ae _ (aV O O) (fun a hF=>?_)
            refine aK hF O O O O (aj hg1) ae _ (aV O O) (fun a hF=>?_)
            refine dY hF O O O (aj hg1) (fun K hK=>ay hF O ae Lt rfl rfl ?_)
            with_reducible refine (KU _ (hRE.mono (List.cons_subset.2 ⟨((P6 ..)),List.nil_subset _⟩)) (hR.mono (List.Subset.trans hG (bW (bW (bW (bW (bW (bW (bW (fD)))))))))) hA36).mono ?_
            rintro e' w39 ⟨rfl,rfl⟩
            refine ⟨_,rfl,fun a hF=>hK _ _ ?_⟩
            refine aK hF O O O O (aj hg1) ae _ (dK O O O) (fun a hF=>?_)
            refine vR hF<|vV O (aZ hg1 rfl rfl rfl) fun a hF=>?_
            exact hJ1 _ ((hF.keep [109,0,2,4,5,6,90,91,92,93,94,95,98,99,97,100,101] (F':=[(109,_),(0,_),(2,_),(4,_),(5,_),(6,_),(90,_),(91,_),(92,_),(93,_),(94,_),(95,_),(98,_),(99,_),(97,_),(100,_),(101,_)]) O).bool (by rw [hg1]; rfl))
           ·refine aH hF O O O O O (aJ hg1) ae (fun a hF=>?_)
            refine aH hF O O O O O (aJ hg1) ae (fun a hF=>?_)
            refine aH hF O O O O O (aJ hg1) ae (fun a hF=>?_)
            refine aH hF O O O O O (aJ hg1) ae (fun a hF=>?_)
            refine vR hF<|vV O (bD hg1 rfl rfl rfl) fun a hF=>?_
            exact hJ1 _ ((hF.keep [109,0,2,4,5,6,90,91,92,93,94,95,98,99,97,100,101] (F':=[(109,_),(0,_),(2,_),(4,_),(5,_),(6,_),(90,_),(91,_),(92,_),(93,_),(94,_),(95,_),(98,_),(99,_),(97,_),(100,_),(101,_)]) O).bool (by rw [hg1]; rfl))
          refine aG<|hK26 _ _ ?_
          rcases tf ((aN .neq (((iH ea.ev:Nat):Int)) (0)) || (!(iq ea.ev == raw))) with h8 | h8
          ·refine au hF O h8 ?_
           obtain ⟨he0,heb⟩:=Iu h8
           apply wp_skip
           refine hK24 _ _ ?_
           refine wS hF fun K27 hK27=>vV O (dU (new:=[.int .i64 ea.op,.int .i64 ea.num,.int .i64 ea.clk,ak ea.typ,ak ea.cas,ak ea.nam,.int .i64 ea.v.v.k,.int .i64 ea.v.v.n,ak ea.v.v.t,.slice ea.v.sA ea.v.v.s.length ea.v.sC,.slice ea.aA ea.args.length ea.aC,.slice ea.bA ea.src.length ea.bC]++dc ea.eff) rfl hA36.q O 5 O JS (by rw [List.length_append,aI,he32]; exact Nat.le_of_ble_eq_true rfl) (by rw [List.drop_zero]; exact P8 (by rw [List.length_append,aI,he32]; exact Nat.le_of_ble_eq_true rfl))) fun a hF=>?_
           refine az O (fun K hK=>bz (new:=[.int .i64 ea.op,.int .i64 ea.num,.int .i64 ea.clk,ak ea.typ,ak ea.cas,ak ea.nam,.int .i64 ea.v.v.k,.int .i64 ea.v.v.n,ak ea.v.v.t,.slice ea.v.sA ea.v.v.s.length ea.v.sC,.slice ea.aA ea.args.length ea.aC,.slice ea.bA ea.src.length ea.bC]++dc ea.eff) hF O O hA36 O O 6 O (by rw [List.length_append,aI,he32]; rfl) (fun v hv=>lU (e:=ea) hv) oh (fun w40 hA41=>hK _ _ ?_))
           replace hA41:Hp w0 (ZE::ZZ::[row rb 152 [.slice A0 raw.length c0,.int .i64 (p10:Nat),.int .i64 (0:Nat)]]::X::[row b19 129 [.bool f.typed,.bool f.cased,.bool f.named,.bool f.valued,.bool f.args,.bool f.source]]::[row b12 31 ([.int .i64 ea.op,.int .i64 ea.num,.int .i64 ea.clk,ak ea.typ,ak ea.cas,ak ea.nam,.int .i64 ea.v.v.k,.int .i64 ea.v.v.n,ak ea.v.v.t,.slice ea.v.sA ea.v.v.s.length ea.v.sC,.slice ea.aA ea.args.length ea.aC,.slice ea.bA ea.src.length ea.bC]++dc ea.eff)]::[row b1 31 ([.int .i64 ea.op,.int .i64 ea.num,.int .i64 ea.clk,ak ea.typ,ak ea.cas,ak ea.nam,.int .i64 ea.v.v.k,.int .i64 ea.v.v.n,ak ea.v.v.t,.slice ea.v.sA ea.v.v.s.length ea.v.sC,.slice ea.aA ea.args.length ea.aC,.slice ea.bA ea.src.length ea.bC]++dc ea.eff)]::R) w40:=hA41
           refine vR hF<|vX O<|vE hK27 fun a hF=>?_
           apply wp_ret
           refine eQ hF Tryz.results21 hA41.q O O 6 O (by rw [List.length_append,aI,he32]; exact JS) ?_
           have hA42:Hp w0 (ZZ::R) w40:=hpS 7 [1] [0,2,3,4,5,6] hA41 rfl
           have hok:lD raw:=Ol hlen hop hG0 hpl he0 heb
           exact ⟨ea,ZZ,by rw [show zI raw=0 from if_pos hok]; rfl,by rw [show xJ raw=(jd raw).v from if_pos hok,hG0],hEo,hA42⟩
          ·refine aF hF O h8 ?_
           refine wS hF fun K28 hK28=>vV O (gu O xG) fun a hF=>?_
           refine az O (fun K hK=>bz (new:=noEA.cells) hF O O hA36 O O 6 O O (fun v hv=>lU (e:=noEA) hv) oh (fun w43 hA44=>hK _ _ ?_))
           replace hA44:Hp w0 (ZE::ZZ::[row rb 152 [.slice A0 raw.length c0,.int .i64 (p10:Nat),.int .i64 (0:Nat)]]::X::[row b19 129 [.bool f.typed,.bool f.cased,.bool f.named,.bool f.valued,.bool f.args,.bool f.source]]::[row b12 31 ([.int .i64 ea.op,.int .i64 ea.num,.int .i64 ea.clk,ak ea.typ,ak ea.cas,ak ea.nam,.int .i64 ea.v.v.k,.int .i64 ea.v.v.n,ak ea.v.v.t,.slice ea.v.sA ea.v.v.s.length ea.v.sC,.slice ea.aA ea.args.length ea.aC,.slice ea.bA ea.src.length ea.bC]++dc ea.eff)]::[row b1 31 noEA.cells]::R) w43:=hA44
           refine vR hF<|vX O<|vE hK28 fun a hF=>?_
           apply wp_ret
           have hno:¬ lD raw:=BQ hG0 h8
           simp only [Exit.then]
           refine eQ hF Tryz.results21 hA44.q O O 6 O xC ?_
           have hA45:Hp w0 (R) w43:=hpS 7 [] [0,1,2,3,4,5,6] hA44 rfl
           exact ⟨noEA,[],by rw [show zI raw=8 from if_neg hno]; rfl,by rw [show xJ raw=GZ from if_neg hno]; rfl,rM,Hp.nil hA45⟩
         ·refine aF hF O h9 ?_
          refine wS hF fun K29 hK29=>vV O (gu O xG) fun a hF=>?_
          refine az O (fun K hK=>bz (new:=noEA.cells) hF O O hA31 O O 8 O O (fun v hv=>lU (e:=noEA) hv) oh (fun w46 hA47=>hK _ _ ?_))
          replace hA47:Hp w0 ([row rb 152 [.slice A0 raw.length c0,.int .i64 (p10:Nat),.int .i64 (y10:Nat)]]::X::ZA::ZM::ZV::ZS::[row b19 129 [.bool f.typed,.bool f.cased,.bool f.named,.bool f.valued,.bool f.args,.bool f.source]]::[row b12 31 ([.int .i64 ((k:Nat):Int),.int .i64 (i64 n),.int .i64 (i64 cl),ak typ,ak cas,ak nam,.int .i64 vb.v.k,.int .i64 vb.v.n,ak vb.v.t,.slice vb.sA vb.v.s.length vb.sC,.slice aA vs.length aC,.slice bA src.length bC]++dc dg)]::[row b1 31 noEA.cells]::R) w46:=hA47
          refine vR hF<|vX O<|vE hK29 fun a hF=>?_
          apply wp_ret
          have hG0:(jd raw).p=p10∧(jd raw).y=y10:=by
           unfold jd
           rw [hg1,cZ,hg2,cZ,hg3,cZ,← hf,hgi0,cZ,hgi1,cZ,hgi2,cZ,hgi3,cZ,hgi4,cZ,hgi5,cZ,hgv,cZ,hgd,cZ]
           exact ⟨rfl,rfl⟩
          have hno:¬ lD raw:=Ld hG0 h9
          simp only [Exit.then]
          refine eQ hF Tryz.results21 hA47.q O O 8 O xC ?_
          have hA48:Hp w0 (R) w46:=hpS 9 [] [0,1,2,3,4,5,6,7,8] hA47 rfl
          exact ⟨noEA,[],by rw [show zI raw=8 from if_neg hno]; rfl,by rw [show xJ raw=GZ from if_neg hno]; rfl,rM,Hp.nil hA48⟩
        rcases tf f.args with hb | hb
        ·refine au hF O hb ?_
         apply wp_skip
         exact hJ5 _ _ [] none 0 [] [] 0 p8 y8 p8 y8 (by rw [hb]; rfl) rfl Rc.nil (fun _ h=>absurd h (List.not_mem_nil)) (PU _) hp8 (hF.keep [0,2,4,5,6] rfl) (Hp.nil (Hp.nil hA))
        ·refine aF hF O hb ?_
         refine wS hF fun K30 hK30=>vX O fun a hF=>?_
         have hA49:Hp w0 ([row rb 152 [.slice A0 raw.length c0,.int .i64 (p8:Nat),.int .i64 (y8:Nat)]]::X::ZV::ZS::[row b19 129 [.bool f.typed,.bool f.cased,.bool f.named,.bool f.valued,.bool f.args,.bool f.source]]::[row b12 31 ([.int .i64 ((k:Nat):Int),.int .i64 (i64 n),.int .i64 (i64 cl),ak typ,ak cas,ak nam,.int .i64 vb.v.k,.int .i64 vb.v.n,ak vb.v.t,.slice vb.sA vb.v.s.length vb.sC,.slice none 0 0,.slice bA src.length bC]++dc (List.replicate 32 0))]::[row b1 31 noEA.cells]::R) x:=hpO 7 [4,5,0,1,2,3,6] hA rfl
         refine az O (fun K hK=>ay hF O ae LY rfl rfl ?_)
         with_reducible refine (tY w0 _ (ZV::ZS::[row b19 129 [.bool f.typed,.bool f.cased,.bool f.named,.bool f.valued,.bool f.args,.bool f.source]]::[row b12 31 ([.int .i64 ((k:Nat):Int),.int .i64 (i64 n),.int .i64 (i64 cl),ak typ,ak cas,ak nam,.int .i64 vb.v.k,.int .i64 vb.v.n,ak vb.v.t,.slice vb.sA vb.v.s.length vb.sC,.slice none 0 0,.slice bA src.length bC]++dc (List.replicate 32 0))]::[row b1 31 noEA.cells]::R) rb A0 raw c0 p8 y8 X hO hA49 hp8 ag).mono ?_
         rintro e' w50 ⟨n1,q1,z1,rfl,hgn,hq1,hn1,hA51⟩
         refine ⟨_,rfl,fun a hF=>hK _ _ ?_⟩
         replace hA51:Hp w0 ([row rb 152 [.slice A0 raw.length c0,.int .i64 (q1:Nat),.int .i64 (z1:Nat)]]::X::ZV::ZS::[row b19 129 [.bool f.typed,.bool f.cased,.bool f.named,.bool f.valued,.bool f.args,.bool f.source]]::[row b12 31 ([.int .i64 ((k:Nat):Int),.int .i64 (i64 n),.int .i64 (i64 cl),ak typ,ak cas,ak nam,.int .i64 vb.v.k,.int .i64 vb.v.n,ak vb.v.t,.slice vb.sA vb.v.s.length vb.sC,.slice none 0 0,.slice bA src.length bC]++dc (List.replicate 32 0))]::[row b1 31 noEA.cells]::R) w50:=hA51
         replace hn1:n1<256:=hn1
         refine vR hF<|vX O<|vE hK30<|wBk fun a hF=>?_
         refine bH (G:=Nat) (fun m a x=>∃ (ws:List VA) (vA:Value) (ZA:Seg) (ZM:Seg) (p:Nat) (y:Nat),fH raw n1 q1 z1=⟨ws.map VA.v++(fH raw m p y).v,(fH raw m p y).p,(fH raw m p y).y⟩∧Buf 25 4 ZA vA ws.length (rf ws)∧(∀ a∈ws,a.Ok w0 [ZM])∧p≤raw.length∧ws.length+m≤255∧Fr 112 [(8,.int .u8 ((m:Nat):Int)),(0,.slice A raw.length c),(2,.pointer (some ⟨b1,0,none⟩)),(4,.pointer (some ⟨rb,0,none⟩)),(5,.pointer (some ⟨b12,0,none⟩)),(6,.pointer (some ⟨b19,0,none⟩))] a∧Hp w0 (ZA::ZM::[row rb 152 [.slice A0 raw.length c0,.int .i64 (p:Nat),.int .i64 (y:Nat)]]::X::ZV::ZS::[row b19 129 [.bool f.typed,.bool f.cased,.bool f.named,.bool f.valued,.bool f.args,.bool f.source]]::[row b12 31 ([.int .i64 ((k:Nat):Int),.int .i64 (i64 n),.int .i64 (i64 cl),ak typ,ak cas,ak nam,.int .i64 vb.v.k,.int .i64 vb.v.n,ak vb.v.t,.slice vb.sA vb.v.s.length vb.sC,vA,.slice bA src.length bC]++dc (List.replicate 32 0))]::[row b1 31 noEA.cells]::R) x) (fun m=>m) n1 (⟨[],_,[],[],q1,z1,rfl,(Buf.nil _ _),(fun _ h=>absurd h (List.not_mem_nil)),hq1,(by show 0+n1≤255; omega),hF.keep [8,0,2,4,5,6] rfl,(Hp.nil (Hp.nil hA51))⟩) ?_
         clear hF
         rintro m a w53 ⟨ws,vA,ZA,ZM,p,y,hgv,hZ,has,hpm,hcm,hF,hA52⟩
         by_cases hm:0<m
         ·apply wp_seq_k; intro K31 hK31
          refine wS hF fun K32 hK32=>vX O<|vV O (aB O O O O ((gG ag)))<|vX O fun a hF=>?_
          refine aK hF O O O O (aj rfl) ae _ (aV O O) (fun a hF=>?_)
          have hA54:Hp w0 ([row rb 152 [.slice A0 raw.length c0,.int .i64 (p:Nat),.int .i64 (y:Nat)]]::X::ZA::ZM::ZV::ZS::[row b19 129 [.bool f.typed,.bool f.cased,.bool f.named,.bool f.valued,.bool f.args,.bool f.source]]::[row b12 31 ([.int .i64 ((k:Nat):Int),.int .i64 (i64 n),.int .i64 (i64 cl),ak typ,ak cas,ak nam,.int .i64 vb.v.k,.int .i64 vb.v.n,ak vb.v.t,.slice vb.sA vb.v.s.length vb.sC,vA,.slice bA src.length bC]++dc (List.replicate 32 0))]::[row b1 31 noEA.cells]::R) w53:=hpO 9 [2,3,0,1,4,5,6,7,8] hA52 rfl
          refine dY hF O O O (aj rfl) (fun K hK=>ay hF O ae o9 rfl rfl ?_)
          with_reducible refine (ql w0 _ (ZA::ZM::ZV::ZS::[row b19 129 [.bool f.typed,.bool f.cased,.bool f.named,.bool f.valued,.bool f.args,.bool f.source]]::[row b12 31 ([.int .i64 ((k:Nat):Int),.int .i64 (i64 n),.int .i64 (i64 cl),ak typ,ak cas,ak nam,.int .i64 vb.v.k,.int .i64 vb.v.n,ak vb.v.t,.slice vb.sA vb.v.s.length vb.sC,vA,.slice bA src.length bC]++dc (List.replicate 32 0))]::[row b1 31 noEA.cells]::R) rb A0 raw c0 p y X hO hA54).mono ?_
          rintro e' w55 ⟨rfl,hA56⟩
          refine ⟨_,rfl,fun a hF=>hK _ _ ?_⟩
          replace hA56:Hp w0 ([row rb 152 [.slice A0 raw.length c0,.int .i64 (p:Nat),.int .i64 (y:Nat)]]::X::ZA::ZM::ZV::ZS::[row b19 129 [.bool f.typed,.bool f.cased,.bool f.named,.bool f.valued,.bool f.args,.bool f.source]]::[row b12 31 ([.int .i64 ((k:Nat):Int),.int .i64 (i64 n),.int .i64 (i64 cl),ak typ,ak cas,ak nam,.int .i64 vb.v.k,.int .i64 vb.v.n,ak vb.v.t,.slice vb.sA vb.v.s.length vb.sC,vA,.slice bA src.length bC]++dc (List.replicate 32 0))]::[row b1 31 noEA.cells]::R) w55:=hA56
          refine aK hF O O O O (aj rfl) ae _ (aB O O O O O) (fun a hF=>?_)
          refine vR hF<|vV O (bD O O O O)<|vE hK32 fun a hF=>?_
          by_cases hy:y=0
          ·refine aF hF O (fE ag) ?_
           subst hy
           obtain ⟨m,rfl⟩:∃ j,m=j+1:=⟨m-1,ag⟩
           apply wp_skip
           refine hK31 _ _ ?_
           apply wp_seq_k; intro K33 hK33
           apply wp_block
           refine wS hF fun K34 hK34=>vX O fun a hF=>?_
           refine az O (fun K hK=>ay hF O ae DJ rfl rfl ?_)
           with_reducible refine (Dl w0 _ (ZA::ZM::ZV::ZS::[row b19 129 [.bool f.typed,.bool f.cased,.bool f.named,.bool f.valued,.bool f.args,.bool f.source]]::[row b12 31 ([.int .i64 ((k:Nat):Int),.int .i64 (i64 n),.int .i64 (i64 cl),ak typ,ak cas,ak nam,.int .i64 vb.v.k,.int .i64 vb.v.n,ak vb.v.t,.slice vb.sA vb.v.s.length vb.sC,vA,.slice bA src.length bC]++dc (List.replicate 32 0))]::[row b1 31 noEA.cells]::R) rb A0 raw c0 p 0 X hO hA56 hpm ag).mono ?_
           rintro e' w57 ⟨va,Zt,rfl,hva,hvo,hpt,hA58⟩
           refine ⟨_,rfl,fun a hF=>hK _ _ ?_⟩
           refine vR hF<|vX O<|vV O (aS (v:= .agg ([.int .i64 va.v.k,.int .i64 va.v.n,ak va.v.t,.slice va.sA va.v.s.length va.sC]).toArray) rfl rfl rfl)<|vV O (aS (v:= .int .i64 ((dh raw p 0).y:Nat)) O O O) fun a hF=>?_
           refine az O (fun K hK=>dG hF O ae rfl hA58 (Cf) (fun b59 w60 a hb59 hF hA61=>hK _ _ ?_))
           refine az O (fun K hK=>bz (new:=[.int .i64 va.v.k,.int .i64 va.v.n,ak va.v.t,.slice va.sA va.v.s.length va.sC]) hF O O hA61 O O 0 O O (by simp [Value.oneCell']) oJ (fun w62 hA63=>hK _ _ ?_))
           replace hA63:Hp w0 ([row b59 25 [.int .i64 va.v.k,.int .i64 va.v.n,ak va.v.t,.slice va.sA va.v.s.length va.sC]]::Zt::[row rb 152 [.slice A0 raw.length c0,.int .i64 ((dh raw p 0).p:Nat),.int .i64 ((dh raw p 0).y:Nat)]]::X::ZA::ZM::ZV::ZS::[row b19 129 [.bool f.typed,.bool f.cased,.bool f.named,.bool f.valued,.bool f.args,.bool f.source]]::[row b12 31 ([.int .i64 ((k:Nat):Int),.int .i64 (i64 n),.int .i64 (i64 cl),ak typ,ak cas,ak nam,.int .i64 vb.v.k,.int .i64 vb.v.n,ak vb.v.t,.slice vb.sA vb.v.s.length vb.sC,vA,.slice bA src.length bC]++dc (List.replicate 32 0))]::[row b1 31 noEA.cells]::R) w62:=hA63
           refine vR hF<|vX O<|vE hK34 fun a hF=>?_
           refine wp_region_lit ?_
           refine vR hF<|vV O (yf 10 rfl Qd O wO O)<|vV O (bi O hA63.q O 9 O O xh)<|vV O (dU (new:=[.int .i64 va.v.k,.int .i64 va.v.n,ak va.v.t,.slice va.sA va.v.s.length va.sC]) O hA63.q O 0 O JV ai rfl) fun a hF=>?_
           refine az O (fun K hK=>qI (qs := #[(0,.agg va.cells.toArray)]) (cells:=va.cells.toArray) hF O ae rfl hA63 O (Iq va) (fun b64 w65 a hb64 hF hA66=>hK _ _ ?_))
           refine az O (fun K hK=>dn hF O ae rfl hA66 5 O hZ Qg zF rfl rfl (Rc.srcC (W:=va.cells) (m:=1) (size:=4) (R:=[row b64 25 va.cells]::[row b59 25 [.int .i64 va.v.k,.int .i64 va.v.n,ak va.v.t,.slice va.sA va.v.s.length va.sC]]::Zt::[row rb 152 [.slice A0 raw.length c0,.int .i64 ((dh raw p 0).p:Nat),.int .i64 ((dh raw p 0).y:Nat)]]::X::ZA::ZM::ZV::ZS::[row b19 129 [.bool f.typed,.bool f.cased,.bool f.named,.bool f.valued,.bool f.args,.bool f.source]]::[row b12 31 ([.int .i64 ((k:Nat):Int),.int .i64 (i64 n),.int .i64 (i64 cl),ak typ,ak cas,ak nam,.int .i64 vb.v.k,.int .i64 vb.v.n,ak vb.v.t,.slice vb.sA vb.v.s.length vb.sC,vA,.slice bA src.length bC]++dc (List.replicate 32 0))]::[row b1 31 noEA.cells]::R) (Rc.ofRow (i:=0) (off:=0) rfl rfl) hA66.q Qg ae rfl (Np va)) ag ae (fun v2 Z2 w67 a hZ2 hF hA68=>hK _ _ ?_))
           refine vR hF<|vV O (yf 10 rfl Qd O wO O) fun a hF=>?_
           refine az O (fun K hK=>bY hF O O hA68 O O 10 rfl (by simp) hZ2.one wO (fun w69 hA70=>hK _ _ ?_))
           replace hA70:Hp w0 ([row b64 25 va.cells]::[row b59 25 [.int .i64 va.v.k,.int .i64 va.v.n,ak va.v.t,.slice va.sA va.v.s.length va.sC]]::Zt::[row rb 152 [.slice A0 raw.length c0,.int .i64 ((dh raw p 0).p:Nat),.int .i64 ((dh raw p 0).y:Nat)]]::X::Z2::ZM::ZV::ZS::[row b19 129 [.bool f.typed,.bool f.cased,.bool f.named,.bool f.valued,.bool f.args,.bool f.source]]::[row b12 31 ([.int .i64 ((k:Nat):Int),.int .i64 (i64 n),.int .i64 (i64 cl),ak typ,ak cas,ak nam,.int .i64 vb.v.k,.int .i64 vb.v.n,ak vb.v.t,.slice vb.sA vb.v.s.length vb.sC,v2,.slice bA src.length bC]++dc (List.replicate 32 0))]::[row b1 31 noEA.cells]::R) w69:=hA70
           refine aG<|hK33 _ _ ?_
           refine wp_region_lit ?_
           refine vR hF<|vX O<|vV O (dC O O O (show IntKind.u8.wrap (((m+1:Nat):Int)-1)=((m:Nat):Int) by rw [IntKind.wrap_u8]; omega)) fun a hF=>?_
           refine vR hF<|vX O fun a hF=>?_
           refine aG ?_
           have hA71:Hp w0 (Z2::ZM::Zt::[row b64 25 va.cells]::[row b59 25 [.int .i64 va.v.k,.int .i64 va.v.n,ak va.v.t,.slice va.sA va.v.s.length va.sC]]::[row rb 152 [.slice A0 raw.length c0,.int .i64 ((dh raw p 0).p:Nat),.int .i64 ((dh raw p 0).y:Nat)]]::X::ZV::ZS::[row b19 129 [.bool f.typed,.bool f.cased,.bool f.named,.bool f.valued,.bool f.args,.bool f.source]]::[row b12 31 ([.int .i64 ((k:Nat):Int),.int .i64 (i64 n),.int .i64 (i64 cl),ak typ,ak cas,ak nam,.int .i64 vb.v.k,.int .i64 vb.v.n,ak vb.v.t,.slice vb.sA vb.v.s.length vb.sC,v2,.slice bA src.length bC]++dc (List.replicate 32 0))]::[row b1 31 noEA.cells]::R) w69:=hpO 12 [5,6,2,0,1,3,4,7,8,9,10,11] hA70 af
           have hA72:Hp w0 (Z2::(ZM++Zt)::[row b64 25 va.cells]::[row b59 25 [.int .i64 va.v.k,.int .i64 va.v.n,ak va.v.t,.slice va.sA va.v.s.length va.sC]]::[row rb 152 [.slice A0 raw.length c0,.int .i64 ((dh raw p 0).p:Nat),.int .i64 ((dh raw p 0).y:Nat)]]::X::ZV::ZS::[row b19 129 [.bool f.typed,.bool f.cased,.bool f.named,.bool f.valued,.bool f.args,.bool f.source]]::[row b12 31 ([.int .i64 ((k:Nat):Int),.int .i64 (i64 n),.int .i64 (i64 cl),ak typ,ak cas,ak nam,.int .i64 vb.v.k,.int .i64 vb.v.n,ak vb.v.t,.slice vb.sA vb.v.s.length vb.sC,v2,.slice bA src.length bC]++dc (List.replicate 32 0))]::[row b1 31 noEA.cells]::R) w69:=Hp.cast hA71 (by simp [List.append_assoc])
           have hA73:Hp w0 (Z2::(ZM++Zt)::[row rb 152 [.slice A0 raw.length c0,.int .i64 ((dh raw p 0).p:Nat),.int .i64 ((dh raw p 0).y:Nat)]]::X::ZV::ZS::[row b19 129 [.bool f.typed,.bool f.cased,.bool f.named,.bool f.valued,.bool f.args,.bool f.source]]::[row b12 31 ([.int .i64 ((k:Nat):Int),.int .i64 (i64 n),.int .i64 (i64 cl),ak typ,ak cas,ak nam,.int .i64 vb.v.k,.int .i64 vb.v.n,ak vb.v.t,.slice vb.sA vb.v.s.length vb.sC,v2,.slice bA src.length bC]++dc (List.replicate 32 0))]::[row b1 31 noEA.cells]::R) w69:=hpS 11 [0,1,4,5,6,7,8,9,10] [2,3] hA72 af
           exact ⟨m,ag,ws++[va],_,_,ZM++Zt,_,_,by rw [hgv,xA]; simp [hva],by rw [FP,List.length_append]; exact hZ2,GL has hvo,hpt,by rw [List.length_append]; show ws.length+1+m≤255; omega,hF.keep [8,0,2,4,5,6] rfl,hA73⟩
          ·refine au hF O (bM ag) ?_
           apply wp_exit
           rw [xy hy] at hgv
           simp only [List.append_nil] at hgv
           obtain ⟨aA,aC,rfl,_,hRa⟩:=hZ.rc (w0:=w0) (R:=[ZA]) (P6 ..)
           have hA74:Hp w0 (ZA::ZM::ZV::ZS::[row b19 129 [.bool f.typed,.bool f.cased,.bool f.named,.bool f.valued,.bool f.args,.bool f.source]]::[row b12 31 ([.int .i64 ((k:Nat):Int),.int .i64 (i64 n),.int .i64 (i64 cl),ak typ,ak cas,ak nam,.int .i64 vb.v.k,.int .i64 vb.v.n,ak vb.v.t,.slice vb.sA vb.v.s.length vb.sC,.slice aA ws.length aC,.slice bA src.length bC]++dc (List.replicate 32 0))]::[row rb 152 [.slice A0 raw.length c0,.int .i64 (p:Nat),.int .i64 (y:Nat)]]::X::[row b1 31 noEA.cells]::R) w55:=hpO 9 [2,3,4,5,6,7,0,1,8] hA56 rfl
           exact hJ5 _ _ ws aA aC ZA ZM n1 q1 z1 p y (by rw [hb]; exact hgn) hgv hRa has ag hpm (hF.keep [0,2,4,5,6] rfl) hA74
         ·obtain rfl:m=0:=by omega
          apply wp_seq_k; intro K35 hK35
          refine wS hF fun K36 hK36=>vX O<|vV O (aB O O O O ((ik ag)))<|vX O fun a hF=>?_
          refine aH hF O O O O O (aJ rfl) ae (fun a hF=>?_)
          refine aH hF O O O O O (aJ rfl) ae (fun a hF=>?_)
          refine aH hF O O O O O (aJ rfl) ae (fun a hF=>?_)
          refine vR hF<|vV O (aZ O O O O)<|vE hK36<|vF1 O fun a hF=>?_
          apply wp_exit
          rw [show fH raw 0 p y=⟨[],p,y⟩ from rfl] at hgv
          simp only [List.append_nil] at hgv
          obtain ⟨aA,aC,rfl,_,hRa⟩:=hZ.rc (w0:=w0) (R:=[ZA]) (P6 ..)
          have hA75:Hp w0 (ZA::ZM::ZV::ZS::[row b19 129 [.bool f.typed,.bool f.cased,.bool f.named,.bool f.valued,.bool f.args,.bool f.source]]::[row b12 31 ([.int .i64 ((k:Nat):Int),.int .i64 (i64 n),.int .i64 (i64 cl),ak typ,ak cas,ak nam,.int .i64 vb.v.k,.int .i64 vb.v.n,ak vb.v.t,.slice vb.sA vb.v.s.length vb.sC,.slice aA ws.length aC,.slice bA src.length bC]++dc (List.replicate 32 0))]::[row rb 152 [.slice A0 raw.length c0,.int .i64 (p:Nat),.int .i64 (y:Nat)]]::X::[row b1 31 noEA.cells]::R) w53:=hpO 9 [0,1,4,5,6,7,2,3,8] hA52 rfl
          exact hJ5 _ _ ws aA aC ZA ZM n1 q1 z1 p y (by rw [hb]; exact hgn) hgv hRa has ag hpm (hF.keep [0,2,4,5,6] rfl) hA75
       rcases tf f.valued with hb | hb
       ·refine au hF O hb ?_
        apply wp_skip
        exact hJ4 _ _ ⟨iD,none,0⟩ [] p7 y7 (by rw [hb]; rfl) oO hp7 (hF.keep [0,2,4,5,6] rfl) (Hp.nil hA)
       ·refine aF hF O hb ?_
        refine wp_region_lit ?_
        refine vR hF<|vX O fun a hF=>?_
        have hA76:Hp w0 ([row rb 152 [.slice A0 raw.length c0,.int .i64 (p7:Nat),.int .i64 (y7:Nat)]]::X::ZS::[row b19 129 [.bool f.typed,.bool f.cased,.bool f.named,.bool f.valued,.bool f.args,.bool f.source]]::[row b12 31 ([.int .i64 ((k:Nat):Int),.int .i64 (i64 n),.int .i64 (i64 cl),ak typ,ak cas,ak nam,.int .i64 0,.int .i64 0,ak [],.slice none 0 0,.slice none 0 0,.slice bA src.length bC]++dc (List.replicate 32 0))]::[row b1 31 noEA.cells]::R) x:=hpO 6 [3,4,0,1,2,5] hA rfl
        refine az O (fun K hK=>ay hF O ae DJ rfl rfl ?_)
        with_reducible refine (Dl w0 _ (ZS::[row b19 129 [.bool f.typed,.bool f.cased,.bool f.named,.bool f.valued,.bool f.args,.bool f.source]]::[row b12 31 ([.int .i64 ((k:Nat):Int),.int .i64 (i64 n),.int .i64 (i64 cl),ak typ,ak cas,ak nam,.int .i64 0,.int .i64 0,ak [],.slice none 0 0,.slice none 0 0,.slice bA src.length bC]++dc (List.replicate 32 0))]::[row b1 31 noEA.cells]::R) rb A0 raw c0 p7 y7 X hO hA76 hp7 ag).mono ?_
        rintro e' w77 ⟨va,Zt,rfl,hva,hvo,hpt,hA78⟩
        refine ⟨_,rfl,fun a hF=>hK _ _ ?_⟩
        refine vR hF<|vX O<|vV O (aS (v:= .agg ([.int .i64 va.v.k,.int .i64 va.v.n,ak va.v.t,.slice va.sA va.v.s.length va.sC]).toArray) rfl rfl rfl)<|vV O (aS (v:= .int .i64 ((dh raw p7 y7).y:Nat)) O O O)<|vV O (yf 6 O Qd O oJ O) fun a hF=>?_
        refine az O (fun K hK=>mX (new:=[.int .i64 va.v.k,.int .i64 va.v.n,ak va.v.t,.slice va.sA va.v.s.length va.sC]) hF O O hA78 O O 5 O (by rw [List.length_append]; exact Nat.le_add_right_of_le ai) (by simp [Value.oneCell']) oJ (fun w79 hA80=>hK _ _ ?_))
        replace hA80:Hp w0 (Zt::[row rb 152 [.slice A0 raw.length c0,.int .i64 ((dh raw p7 y7).p:Nat),.int .i64 ((dh raw p7 y7).y:Nat)]]::X::ZS::[row b19 129 [.bool f.typed,.bool f.cased,.bool f.named,.bool f.valued,.bool f.args,.bool f.source]]::[row b12 31 ([.int .i64 ((k:Nat):Int),.int .i64 (i64 n),.int .i64 (i64 cl),ak typ,ak cas,ak nam,.int .i64 va.v.k,.int .i64 va.v.n,ak va.v.t,.slice va.sA va.v.s.length va.sC,.slice none 0 0,.slice bA src.length bC]++dc (List.replicate 32 0))]::[row b1 31 noEA.cells]::R) w79:=hA80
        refine aG ?_
        have hA81:Hp w0 (Zt::ZS::[row b19 129 [.bool f.typed,.bool f.cased,.bool f.named,.bool f.valued,.bool f.args,.bool f.source]]::[row b12 31 ([.int .i64 ((k:Nat):Int),.int .i64 (i64 n),.int .i64 (i64 cl),ak typ,ak cas,ak nam,.int .i64 va.v.k,.int .i64 va.v.n,ak va.v.t,.slice va.sA va.v.s.length va.sC,.slice none 0 0,.slice bA src.length bC]++dc (List.replicate 32 0))]::[row rb 152 [.slice A0 raw.length c0,.int .i64 ((dh raw p7 y7).p:Nat),.int .i64 ((dh raw p7 y7).y:Nat)]]::X::[row b1 31 noEA.cells]::R) w79:=hpO 7 [0,3,4,5,1,2,6] hA80 rfl
        exact hJ4 _ _ va Zt _ _ (by rw [hb,hva]; rfl) hvo hpt (hF.keep [0,2,4,5,6] rfl) hA81
      rcases tf f.source with hb | hb
      ·refine au hF O hb ?_
       apply wp_skip
       exact hJ3 _ _ [] none 0 [] p6 y6 (by rw [hb]; rfl) Rc.nil (PU _) hp6 (hF.keep [0,2,4,5,6] rfl) (Hp.nil hA)
      ·refine aF hF O hb ?_
       refine wp_region_lit ?_
       refine vR hF<|vX O fun a hF=>?_
       have hA82:Hp w0 ([row rb 152 [.slice A0 raw.length c0,.int .i64 (p6:Nat),.int .i64 (y6:Nat)]]::X::[row b19 129 [.bool f.typed,.bool f.cased,.bool f.named,.bool f.valued,.bool f.args,.bool f.source]]::[row b12 31 ([.int .i64 ((k:Nat):Int),.int .i64 (i64 n),.int .i64 (i64 cl),ak typ,ak cas,ak nam,.int .i64 0,.int .i64 0,ak [],.slice none 0 0,.slice none 0 0,.slice none 0 0]++dc (List.replicate 32 0))]::[row b1 31 noEA.cells]::R) x:=hpO 5 [2,3,0,1,4] hA rfl
       refine az O (fun K hK=>ay hF O ae LD rfl rfl ?_)
       with_reducible refine (H5 w0 _ ([row b19 129 [.bool f.typed,.bool f.cased,.bool f.named,.bool f.valued,.bool f.args,.bool f.source]]::[row b12 31 ([.int .i64 ((k:Nat):Int),.int .i64 (i64 n),.int .i64 (i64 cl),ak typ,ak cas,ak nam,.int .i64 0,.int .i64 0,ak [],.slice none 0 0,.slice none 0 0,.slice none 0 0]++dc (List.replicate 32 0))]::[row b1 31 noEA.cells]::R) rb A0 raw c0 p6 y6 X 60000 hO hA82 hp6 ag).mono ?_
       rintro e' w83 ⟨st,pt,yt,At,ct,Zt,rfl,hgt,hpt,hRt,hlt,hA84⟩
       refine ⟨_,rfl,fun a hF=>hK _ _ ?_⟩
       refine vR hF<|vV O (yf 11 rfl Qd O dO O) fun a hF=>?_
       refine az O (fun K hK=>bY hF O O hA84 O O 4 O (by simp) rfl dO (fun w85 hA86=>hK _ _ ?_))
       replace hA86:Hp w0 (Zt::[row rb 152 [.slice A0 raw.length c0,.int .i64 (pt:Nat),.int .i64 (yt:Nat)]]::X::[row b19 129 [.bool f.typed,.bool f.cased,.bool f.named,.bool f.valued,.bool f.args,.bool f.source]]::[row b12 31 ([.int .i64 ((k:Nat):Int),.int .i64 (i64 n),.int .i64 (i64 cl),ak typ,ak cas,ak nam,.int .i64 0,.int .i64 0,ak [],.slice none 0 0,.slice none 0 0,.slice At st.length ct]++dc (List.replicate 32 0))]::[row b1 31 noEA.cells]::R) w85:=hA86
       refine aG ?_
       have hA87:Hp w0 (Zt::[row b19 129 [.bool f.typed,.bool f.cased,.bool f.named,.bool f.valued,.bool f.args,.bool f.source]]::[row b12 31 ([.int .i64 ((k:Nat):Int),.int .i64 (i64 n),.int .i64 (i64 cl),ak typ,ak cas,ak nam,.int .i64 0,.int .i64 0,ak [],.slice none 0 0,.slice none 0 0,.slice At st.length ct]++dc (List.replicate 32 0))]::[row rb 152 [.slice A0 raw.length c0,.int .i64 (pt:Nat),.int .i64 (yt:Nat)]]::X::[row b1 31 noEA.cells]::R) w85:=hpO 6 [0,3,4,1,2,5] hA86 rfl
       exact hJ3 _ _ st At ct Zt pt yt (by rw [hb]; exact hgt) hRt hlt hpt (hF.keep [0,2,4,5,6] rfl) hA87
     rcases tf f.named with hb | hb
     ·refine au hF O hb ?_
      apply wp_skip
      exact hJ2 _ _ [] p5 y5 (by rw [hb]; rfl) hp5 (hF.keep [0,2,4,5,6] rfl) hA
     ·refine aF hF O hb ?_
      refine wp_region_lit ?_
      refine vR hF<|vX O fun a hF=>?_
      have hA88:Hp w0 ([row rb 152 [.slice A0 raw.length c0,.int .i64 (p5:Nat),.int .i64 (y5:Nat)]]::X::[row b19 129 [.bool f.typed,.bool f.cased,.bool f.named,.bool f.valued,.bool f.args,.bool f.source]]::[row b12 31 ([.int .i64 ((k:Nat):Int),.int .i64 (i64 n),.int .i64 (i64 cl),ak typ,ak cas,ak [],.int .i64 0,.int .i64 0,ak [],.slice none 0 0,.slice none 0 0,.slice none 0 0]++dc (List.replicate 32 0))]::[row b1 31 noEA.cells]::R) x:=hpO 5 [2,3,0,1,4] hA rfl
      refine az O (fun K hK=>ay hF O ae LG rfl rfl ?_)
      with_reducible refine (rP w0 _ ([row b19 129 [.bool f.typed,.bool f.cased,.bool f.named,.bool f.valued,.bool f.args,.bool f.source]]::[row b12 31 ([.int .i64 ((k:Nat):Int),.int .i64 (i64 n),.int .i64 (i64 cl),ak typ,ak cas,ak [],.int .i64 0,.int .i64 0,ak [],.slice none 0 0,.slice none 0 0,.slice none 0 0]++dc (List.replicate 32 0))]::[row b1 31 noEA.cells]::R) rb A0 raw c0 p5 y5 X 64 hO hA88 hp5 ag).mono ?_
      rintro e' w89 ⟨st,pt,yt,rfl,hgt,hpt,hA90⟩
      refine ⟨_,rfl,fun a hF=>hK _ _ ?_⟩
      refine vR hF<|vV O (yf 5 O Qd O wK O) fun a hF=>?_
      refine az O (fun K hK=>bY hF O O hA90 O O 3 O (by simp) rfl wK (fun w91 hA92=>hK _ _ ?_))
      replace hA92:Hp w0 ([row rb 152 [.slice A0 raw.length c0,.int .i64 (pt:Nat),.int .i64 (yt:Nat)]]::X::[row b19 129 [.bool f.typed,.bool f.cased,.bool f.named,.bool f.valued,.bool f.args,.bool f.source]]::[row b12 31 ([.int .i64 ((k:Nat):Int),.int .i64 (i64 n),.int .i64 (i64 cl),ak typ,ak cas,ak st,.int .i64 0,.int .i64 0,ak [],.slice none 0 0,.slice none 0 0,.slice none 0 0]++dc (List.replicate 32 0))]::[row b1 31 noEA.cells]::R) w91:=hA92
      refine aG ?_
      have hA93:Hp w0 ([row b19 129 [.bool f.typed,.bool f.cased,.bool f.named,.bool f.valued,.bool f.args,.bool f.source]]::[row b12 31 ([.int .i64 ((k:Nat):Int),.int .i64 (i64 n),.int .i64 (i64 cl),ak typ,ak cas,ak st,.int .i64 0,.int .i64 0,ak [],.slice none 0 0,.slice none 0 0,.slice none 0 0]++dc (List.replicate 32 0))]::[row rb 152 [.slice A0 raw.length c0,.int .i64 (pt:Nat),.int .i64 (yt:Nat)]]::X::[row b1 31 noEA.cells]::R) w91:=hpO 5 [2,3,0,1,4] hA92 rfl
      exact hJ2 _ _ st pt yt (by rw [hb]; exact hgt) hpt (hF.keep [0,2,4,5,6] rfl) hA93
    rcases tf f.typed with hb | hb
    ·refine au hF O hb ?_
     apply wp_skip
     exact hJ1 _ _ [] p4 y4 (by rw [hb]; rfl) hp4 (hF.keep [0,2,4,5,6] rfl) hA
    ·refine aF hF O hb ?_
     refine wp_region_lit ?_
     refine vR hF<|vX O fun a hF=>?_
     have hA94:Hp w0 ([row rb 152 [.slice A0 raw.length c0,.int .i64 (p4:Nat),.int .i64 (y4:Nat)]]::X::[row b19 129 [.bool f.typed,.bool f.cased,.bool f.named,.bool f.valued,.bool f.args,.bool f.source]]::[row b12 31 ([.int .i64 ((k:Nat):Int),.int .i64 (i64 n),.int .i64 (i64 cl),ak [],ak cas,ak [],.int .i64 0,.int .i64 0,ak [],.slice none 0 0,.slice none 0 0,.slice none 0 0]++dc (List.replicate 32 0))]::[row b1 31 noEA.cells]::R) x:=hpO 5 [2,3,0,1,4] hA rfl
     refine az O (fun K hK=>ay hF O ae LG rfl rfl ?_)
     with_reducible refine (rP w0 _ ([row b19 129 [.bool f.typed,.bool f.cased,.bool f.named,.bool f.valued,.bool f.args,.bool f.source]]::[row b12 31 ([.int .i64 ((k:Nat):Int),.int .i64 (i64 n),.int .i64 (i64 cl),ak [],ak cas,ak [],.int .i64 0,.int .i64 0,ak [],.slice none 0 0,.slice none 0 0,.slice none 0 0]++dc (List.replicate 32 0))]::[row b1 31 noEA.cells]::R) rb A0 raw c0 p4 y4 X 64 hO hA94 hp4 ag).mono ?_
     rintro e' w95 ⟨st,pt,yt,rfl,hgt,hpt,hA96⟩
     refine ⟨_,rfl,fun a hF=>hK _ _ ?_⟩
     refine vR hF<|vV O (yf 3 O Qd O wK O) fun a hF=>?_
     refine az O (fun K hK=>bY hF O O hA96 O O 3 O (by simp) rfl wK (fun w97 hA98=>hK _ _ ?_))
     replace hA98:Hp w0 ([row rb 152 [.slice A0 raw.length c0,.int .i64 (pt:Nat),.int .i64 (yt:Nat)]]::X::[row b19 129 [.bool f.typed,.bool f.cased,.bool f.named,.bool f.valued,.bool f.args,.bool f.source]]::[row b12 31 ([.int .i64 ((k:Nat):Int),.int .i64 (i64 n),.int .i64 (i64 cl),ak st,ak cas,ak [],.int .i64 0,.int .i64 0,ak [],.slice none 0 0,.slice none 0 0,.slice none 0 0]++dc (List.replicate 32 0))]::[row b1 31 noEA.cells]::R) w97:=hA98
     refine aG ?_
     have hA99:Hp w0 ([row b19 129 [.bool f.typed,.bool f.cased,.bool f.named,.bool f.valued,.bool f.args,.bool f.source]]::[row b12 31 ([.int .i64 ((k:Nat):Int),.int .i64 (i64 n),.int .i64 (i64 cl),ak st,ak cas,ak [],.int .i64 0,.int .i64 0,ak [],.slice none 0 0,.slice none 0 0,.slice none 0 0]++dc (List.replicate 32 0))]::[row rb 152 [.slice A0 raw.length c0,.int .i64 (pt:Nat),.int .i64 (yt:Nat)]]::X::[row b1 31 noEA.cells]::R) w97:=hpO 5 [2,3,0,1,4] hA98 rfl
     exact hJ1 _ _ st pt yt (by rw [hb]; exact hgt) hpt (hF.keep [0,2,4,5,6] rfl) hA99
   rcases tf f.cased with hb | hb
   ·refine au hF O hb ?_
    apply wp_skip
    exact hJ0 _ _ [] p3 y3 (by rw [hb]; rfl) hp3 (hF.keep [0,2,4,5,6] rfl) hA23
   ·refine aF hF O hb ?_
    refine wp_region_lit ?_
    refine vR hF<|vX O fun a hF=>?_
    have hA100:Hp w0 ([row rb 152 [.slice A0 raw.length c0,.int .i64 (p3:Nat),.int .i64 (y3:Nat)]]::X::[row b19 129 [.bool f.typed,.bool f.cased,.bool f.named,.bool f.valued,.bool f.args,.bool f.source]]::[row b12 31 ([.int .i64 ((k:Nat):Int),.int .i64 (i64 n),.int .i64 (i64 cl),ak [],ak [],ak [],.int .i64 0,.int .i64 0,ak [],.slice none 0 0,.slice none 0 0,.slice none 0 0]++dc (List.replicate 32 0))]::[row b1 31 noEA.cells]::R) w22:=hpO 5 [2,3,0,1,4] hA23 rfl
    refine az O (fun K hK=>ay hF O ae LG rfl rfl ?_)
    with_reducible refine (rP w0 _ ([row b19 129 [.bool f.typed,.bool f.cased,.bool f.named,.bool f.valued,.bool f.args,.bool f.source]]::[row b12 31 ([.int .i64 ((k:Nat):Int),.int .i64 (i64 n),.int .i64 (i64 cl),ak [],ak [],ak [],.int .i64 0,.int .i64 0,ak [],.slice none 0 0,.slice none 0 0,.slice none 0 0]++dc (List.replicate 32 0))]::[row b1 31 noEA.cells]::R) rb A0 raw c0 p3 y3 X 64 hO hA100 hp3 ag).mono ?_
    rintro e' w101 ⟨st,pt,yt,rfl,hgt,hpt,hA102⟩
    refine ⟨_,rfl,fun a hF=>hK _ _ ?_⟩
    refine vR hF<|vV O (yf 4 O Qd O wK O) fun a hF=>?_
    refine az O (fun K hK=>bY hF O O hA102 O O 3 O (by simp) rfl wK (fun w103 hA104=>hK _ _ ?_))
    replace hA104:Hp w0 ([row rb 152 [.slice A0 raw.length c0,.int .i64 (pt:Nat),.int .i64 (yt:Nat)]]::X::[row b19 129 [.bool f.typed,.bool f.cased,.bool f.named,.bool f.valued,.bool f.args,.bool f.source]]::[row b12 31 ([.int .i64 ((k:Nat):Int),.int .i64 (i64 n),.int .i64 (i64 cl),ak [],ak st,ak [],.int .i64 0,.int .i64 0,ak [],.slice none 0 0,.slice none 0 0,.slice none 0 0]++dc (List.replicate 32 0))]::[row b1 31 noEA.cells]::R) w103:=hA104
    refine aG ?_
    have hA105:Hp w0 ([row b19 129 [.bool f.typed,.bool f.cased,.bool f.named,.bool f.valued,.bool f.args,.bool f.source]]::[row b12 31 ([.int .i64 ((k:Nat):Int),.int .i64 (i64 n),.int .i64 (i64 cl),ak [],ak st,ak [],.int .i64 0,.int .i64 0,ak [],.slice none 0 0,.slice none 0 0,.slice none 0 0]++dc (List.replicate 32 0))]::[row rb 152 [.slice A0 raw.length c0,.int .i64 (pt:Nat),.int .i64 (yt:Nat)]]::X::[row b1 31 noEA.cells]::R) w103:=hpO 5 [2,3,0,1,4] hA104 rfl
    exact hJ0 _ _ st pt yt (by rw [hb]; exact hgt) hpt (hF.keep [0,2,4,5,6] rfl) hA105
  ·refine wp_region_lit ?_
   refine vR hF<|vV O (yf 0 O Qd O jl O)<|vV O (bi O hA16.q O 0 O O mV) fun a hF=>?_
   refine az O (fun K hK=>ay hF O ae DD rfl rfl ?_)
   with_reducible refine (o6 ((k:Nat):Int) hop _ hA16).mono ?_
   rintro e' w106 ⟨rfl,hA107⟩
   refine ⟨_,rfl,fun a hF=>hK _ _ ?_⟩
   refine vR hF<|vX O<|vV O (aS (v:= .agg ([.bool false,.bool false,.bool false,.bool false,.bool false,.bool false]).toArray) rfl rfl rfl)<|vV O (aS (v:= .bool false) rfl rfl rfl) fun a hF=>?_
   refine az O (fun K hK=>dG hF O ae rfl hA107 (FQ) (fun b108 w109 a hb108 hF hA110=>hK _ _ ?_))
   refine az O (fun K hK=>bz (new:=[.bool false,.bool false,.bool false,.bool false,.bool false,.bool false]) hF O O hA110 O O 0 O O (by simp [Value.oneCell']) lh (fun w111 hA112=>hK _ _ ?_))
   replace hA112:Hp w0 ([row b108 129 [.bool false,.bool false,.bool false,.bool false,.bool false,.bool false]]::[row b12 31 ([.int .i64 ((k:Nat):Int),.int .i64 (i64 n),.int .i64 (i64 cl),ak [],ak [],ak [],.int .i64 0,.int .i64 0,ak [],.slice none 0 0,.slice none 0 0,.slice none 0 0]++dc (List.replicate 32 0))]::[row rb 152 [.slice A0 raw.length c0,.int .i64 (p3:Nat),.int .i64 (y3:Nat)]]::X::[row b1 31 noEA.cells]::R) w111:=hA112
   refine vR hF<|vX O fun a hF=>aG<|hK6 _ _ ?_
   apply wp_seq_k; intro K37 hK37
   refine wS hF fun K38 hK38=>vX O<|vV O (dK O O O)<|vE hK38<|vT1 O<|wT fun K39 hK39=>vV O (gu O xG) fun a hF=>?_
   refine az O (fun K hK=>bz (new:=noEA.cells) hF O O hA112 O O 4 O O (fun v hv=>lU (e:=noEA) hv) oh (fun w113 hA114=>hK _ _ ?_))
   replace hA114:Hp w0 ([row b108 129 [.bool false,.bool false,.bool false,.bool false,.bool false,.bool false]]::[row b12 31 ([.int .i64 ((k:Nat):Int),.int .i64 (i64 n),.int .i64 (i64 cl),ak [],ak [],ak [],.int .i64 0,.int .i64 0,ak [],.slice none 0 0,.slice none 0 0,.slice none 0 0]++dc (List.replicate 32 0))]::[row rb 152 [.slice A0 raw.length c0,.int .i64 (p3:Nat),.int .i64 (y3:Nat)]]::X::[row b1 31 noEA.cells]::R) w113:=hA114
   refine vR hF<|vX O<|vE hK39 fun a hF=>?_
   apply wp_ret
   have hno:¬ lD raw:=fun hd=>hop (Oj hg1 ▸ hd.2.1)
   simp only [Exit.then]
   refine eQ hF Tryz.results21 hA114.q O O 4 O xC ?_
   have hA115:Hp w0 (R) w113:=hpS 5 [] [0,1,2,3,4] hA114 rfl
   exact ⟨noEA,[],by rw [show zI raw=8 from if_neg hno]; rfl,by rw [show xJ raw=GZ from if_neg hno]; rfl,rM,Hp.nil hA115⟩
 ·refine aF hF O h0 ?_
  refine wS hF fun K40 hK40=>vV O (gu O xG) fun a hF=>?_
  refine az O (fun K hK=>bz (new:=noEA.cells) hF O O hA3 O O 0 O O (fun v hv=>lU (e:=noEA) hv) oh (fun w116 hA117=>hK _ _ ?_))
  replace hA117:Hp w0 ([row b1 31 noEA.cells]::R) w116:=hA117
  refine vR hF<|vX O<|vE hK40 fun a hF=>?_
  apply wp_ret
  have hno:¬ lD raw:=fun hd=>N8 h0 hd.1
  simp only [Exit.then]
  refine eQ hF Tryz.results21 hA117.q O O 0 O xC ?_
  have hA118:Hp w0 (R) w116:=hpS 1 [] [0] hA117 rfl
  exact ⟨noEA,[],by rw [show zI raw=8 from if_neg hno]; rfl,by rw [show xJ raw=GZ from if_neg hno]; rfl,rM,Hp.nil hA118⟩
end Go.Proofs.YtepbmdlgdaedpaaGreatDoor
