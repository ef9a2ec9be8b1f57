/- Bytes held against bytes; what bytes tell of an event: Decode. -/
import Derived.Test.YtepbmdlgdaedpaaGreatDoorEv6
/- Bytes held against bytes; what bytes tell of an event: Decode. -/
namespace Go.Proofs.YtepbmdlgdaedpaaGreatDoor
open Go.RowKit Go.Dk
theorem Jk:aK Tryz.prog 20:=⟨_,Tryz.func20,af,af⟩
theorem Jf:aK Tryz.prog 31:=⟨_,Tryz.func31,af,af⟩
theorem Be:aK Tryz.prog 35:=⟨_,Tryz.func35,af,af⟩
theorem I4:aK Tryz.prog 82:=⟨_,Tryz.func82,af,af⟩
theorem IZ:aK Tryz.prog 83:=⟨_,Tryz.func83,af,af⟩
theorem IY:aK Tryz.prog 84:=⟨_,Tryz.func84,af,af⟩
theorem IX:aK Tryz.prog 85:=⟨_,Tryz.func85,af,af⟩
set_option maxRecDepth 100000 in
set_option maxHeartbeats 8000000 in
theorem IC {w0:World} {R:List Seg} {A1 A2:Option Addr} {l1 l2:List UInt8} {c1 c2:Nat} (w:World) (hR1:Rd w0 R A1 l1) (hR2:Rd w0 R A2 l2) (hA:Hp w0 R w):Calls Tryz.prog 85 #[.slice A1 l1.length c1,.slice A2 l2.length c2] w fun e w'=>e= .returned (.bool (l1 == l2))∧w=w':=by
 refine aP Tryz.func85 O Tryz.ntmps85 ai (fun a hF=>?_)
 refine wS hF fun K1 hK1=>vX O<|vE hK1<|wT fun K2 hK2=>vX O<|vV O (l7 O Nq NI Nz O O (Rc.bts hR1 hA.q))<|vX O<|vV O (l7 O Nq NI Nz O O (Rc.bts hR2 hA.q))<|vV O (fA O O O O O)<|vX O<|vE hK2 fun a hF=>?_
 apply wp_ret
 refine aO hF Tryz.results85 O ?_
 exact ⟨rfl,rfl⟩
inductive OwnL:List VA→Seg→Prop
 | nil:OwnL [] []
 | cons {a:VA} {l:List VA} {Z M:Seg}:a.Own Z→OwnL l M→OwnL (a::l) (Z++M)
theorem OwnL.snoc {l:List VA} {a:VA} {M Z:Seg} (h:OwnL l M) (ha:a.Own Z):OwnL (l++[a]) (M++Z):=by
 induction h with
 | nil=>have:=OwnL.cons ha OwnL.nil; rwa [List.append_nil] at this
 | cons h1 _ ih=>rw [List.append_assoc]; exact OwnL.cons h1 ih
def EA.Own (Z:Seg) (e:EA):Prop:=∃ ZS ZV ZA ZM:Seg,Z=ZS++(ZV++(ZA++ZM))∧Buf 5 1 ZS (.slice e.bA e.src.length e.bC) e.src.length (dc e.src)∧e.v.Own ZV∧Buf 25 4 ZA (.slice e.aA e.args.length e.aC) e.args.length (mM e.args)∧OwnL e.args ZM
def noEA:EA:=⟨0,0,0,[],[],[],⟨noVal,none,0⟩,[],none,0,[],none,0,List.replicate 32 0⟩
theorem yc:dB Tryz.prog 31 (.agg noEA.cells.toArray):=by unfold dB; kernel_rfl
theorem vP (w:World):(Instr.build 31 #[]).run Tryz.prog w= .ok (.agg noEA.cells.toArray) w:=af
theorem KD (a b c:Int) (w:World):(Instr.build 31 #[(0,.int .i64 a),(1,.int .i64 b),(2,.int .i64 c)]).run Tryz.prog w= .ok (.agg ([.int .i64 a,.int .i64 b,.int .i64 c,aj [],aj [],aj [],.int .i64 0,.int .i64 0,aj [],.slice none 0 0,.slice none 0 0,.slice none 0 0]++dc (List.replicate 32 0)).toArray) w:=af
theorem vN:isRow Tryz.prog 31 noEA.cells.length=true:=Hg
theorem qo {w0:World} {G:List Seg}:noEA.Ok w0 G:=⟨nI,fun _ h=>absurd h (List.not_mem_nil),Rc.nil,Nl _,Rc.nil,Nl _,⟨ ae,ae,ae,⟨ ae,ae⟩,fun _ h=>absurd h (List.not_mem_nil),rfl⟩⟩
theorem nJ:noEA.Own []:=⟨[],[],[],[],rfl,Buf.nil _ _,Buf.nil _ _,Buf.nil _ _,OwnL.nil⟩
theorem Kt {n:Nat} (h:aI .gtr (n:Int) 65536=false):n≤65536:=by simp [aI] at h; omega
theorem Ku {n:Nat} (h:aI .gtr (n:Int) 65536=true):¬ n≤65536:=by simp [aI] at h; omega
theorem KH {raw:List UInt8} {k p1 y1:Nat} (h:got (eQ 1) 0 raw 0 0=⟨k,p1,y1⟩):(iM raw).v.op=((k:Nat):Int):=by
 have e:(iM raw).v.op=(((got (eQ 1) 0 raw 0 0).v:Nat):Int):=rfl
 rw [e,h]
theorem qE (a:VA):∀ v∈a.cells,v.oneCell'=true:=fun v hv=>by
 simp only [List.mem_cons,List.not_mem_nil,or_false] at hv
 rcases hv with rfl | rfl | rfl | rfl <;> rfl
theorem Dl (l:List VA) (a:VA):mM (l++[a])=mM l++a.cells:=by
 unfold mM
 rw [List.map_append,List.flatten_append]
 simp
theorem VA.Ok.monoF {w0:World} {G H:List Seg} {a:VA} (h:a.Ok w0 G) (hs:G.flatten⊆H.flatten):a.Ok w0 H:=⟨h.rc.monoF hs,h.n,h.i⟩
theorem Eh {w0:World} {l:List VA} {a:VA} {X Y:Seg} (h:∀ b∈l,b.Ok w0 [X]) (ha:a.Ok w0 [Y]):∀ b∈l++[a],b.Ok w0 [X++Y]:=fun b hb=>by
 rcases List.mem_append.1 hb with hb | hb
 ·exact (h b hb).monoF (fun x hx=>by simp at hx ⊢; simp [hx])
 ·rw [List.mem_singleton.1 hb]; exact ha.monoF (fun x hx=>by simp at hx ⊢; simp [hx])
theorem vI {l:List UInt8} {m p:Nat}:fQ l (m+1) p 0=⟨(cu l p 0).v::(fQ l m (cu l p 0).p (cu l p 0).y).v,(fQ l m (cu l p 0).p (cu l p 0).y).p,(fQ l m (cu l p 0).p (cu l p 0).y).y⟩:=rfl
theorem vH {l:List UInt8} {m p y:Nat} (h:¬ y=0):fQ l m p y=⟨[],p,y⟩:=by
 cases m with
 | zero=>rfl
 | succ m=>exact if_neg h
theorem yR {s t u:List Value} {n:Nat} (hn:s.length=n) (h:u.length=t.length):splice (s++t) n u=s++u:=by
 unfold splice
 rw [List.take_left' hn,List.drop_of_length_le (by rw [List.length_append]; omega),List.append_nil]
theorem IK {p y n:Nat} (hp:p≤n) (h:aI .neq ((if y=0∧p<n then 8 else y:Nat):Int) 0=false):y=0∧p=n:=by
 have h1:=oV h
 split at h1
 ·exact absurd h1 ae
 ·rename_i h2
  exact ⟨h1,by have:¬ p<n:=fun hh=>h2 ⟨h1,hh⟩; omega⟩
theorem IL {raw:List UInt8} {p y:Nat} (hG:(iM raw).p=p∧(iM raw).y=y) (h:aI .neq ((if y=0∧p<raw.length then 8 else y:Nat):Int) 0=true):¬ kH raw:=fun hd=>by
 obtain ⟨_,_,h3,h4,_,_⟩:=hd
 rw [hG.2] at h3
 rw [hG.1] at h4
 subst h3 h4
 exact jW h (by rw [if_neg (fun hh=>Nat.lt_irrefl _ hh.2)])
theorem Fe {e:Ev} {raw:List UInt8} (h:(aI .neq ((eY e:Nat):Int) 0 || !(dV e == raw))=false):eY e=0∧dV e=raw:=by
 rw [Bool.or_eq_false_iff] at h
 exact ⟨oV h.1,by simpa using h.2⟩
theorem KI {raw:List UInt8} {ea:EA} {k p:Nat} (hl:raw.length≤65536) (hop:jH ((k:Nat):Int)) (hG:iM raw=⟨ea.ev,p,0⟩) (hp:p=raw.length) (he:eY ea.ev=0) (hb:dV ea.ev=raw):kH raw:=by
 unfold kH
 rw [hG]
 exact ⟨hl,(Ev.rt he).1.op,rfl,hp,he,hb⟩
theorem zG {raw:List UInt8} {e:Ev} {p:Nat} (hG:iM raw=⟨e,p,0⟩) (h:(aI .neq ((eY e:Nat):Int) 0 || !(dV e == raw))=true):¬ kH raw:=fun hd=>by
 obtain ⟨_,_,_,_,h5,h6⟩:=hd
 rw [hG] at h5 h6
 rw [Bool.or_eq_true] at h
 rcases h with h | h
 ·exact jW h h5
 ·rw [show dV e=raw from h6] at h; simp at h
theorem Fb {w0:World} {k n cl:Nat} {typ cas nam src dg:List UInt8} {vb:VA} {vs:List VA} {aA bA:Option Addr} {aC bC:Nat} {ZS ZV ZA ZM:Seg} (hk:k<256) (hn:n<18446744073709551616) (hcl:cl<18446744073709551616) (hvb:vb.Ok w0 [ZV]) (hvs:∀ a∈vs,a.Ok w0 [ZM]) (hRv:Rc w0 [ZA] aA (mM vs)) (hvl:vs.length≤9223372036854775807) (hRs:Rd w0 [ZS] bA src) (hsl:src.length≤9223372036854775807) (hd:dg.length=32) :
  EA.Ok w0 [ZS++(ZV++(ZA++ZM))] ⟨((k:Nat):Int),i64 n,i64 cl,typ,cas,nam,vb,vs,aA,aC,src,bA,bC,dg⟩:=by
 refine ⟨hvb.monoF (fun x hx=>by simp at hx ⊢; simp [hx]),fun a ha=>(hvs a ha).monoF (fun x hx=>by simp at hx ⊢; simp [hx]),hRv.monoF (fun x hx=>by simp at hx ⊢; simp [hx]),hvl,hRs.monoF (fun x hx=>by simp at hx ⊢; simp [hx]),hsl,⟨⟨?_,?_⟩,i64_in hn,i64_in hcl,hvb.i,?_,hd⟩⟩
 ·show (_:Int)≤(k:Int); omega
 ·show (k:Int)≤_; omega
 ·intro v hv
  obtain ⟨a,ha,rfl⟩:=List.mem_map.1 hv
  exact (hvs a ha).i
theorem kV:(Tryz.prog.info? 31).map (·.size)=some 44:=af
theorem jv {e:EA}:∀ {v:Value},v∈e.cells→v.oneCell'=true:=fun {v} hv=>by
 rcases List.mem_append.1 hv with hv | hv
 ·simp only [List.mem_cons,List.not_mem_nil,or_false] at hv
  rcases hv with rfl | rfl | rfl | rfl | rfl | rfl | rfl | rfl | rfl | rfl | rfl | rfl <;> rfl
 ·exact pq _ v hv
set_option maxRecDepth 100000 in
set_option maxHeartbeats 8000000 in
theorem ni {w0:World} {R:List Seg} {G:List Seg} (A:Option Addr) (raw:List UInt8) (c:Nat) (w:World) (hT:mO w0) (hR:Rd w0 G A raw) (hG:G⊆R) (hl:raw.length≤9223372036854775807) (hA:Hp w0 R w):Calls Tryz.prog 21 #[.slice A raw.length c] w fun e w'=>∃ (ea:EA) (Z:Seg),e= .returned (.tuple #[.agg ea.cells.toArray,.int .i64 (og raw:Nat)])∧ea.ev=mJ raw∧(ea.Ok w0 [Z]∧ea.Own Z)∧Hp w0 (Z::R) w':=by
 refine aP Tryz.func21 O Tryz.ntmps21 ai (fun a hF=>?_)
 refine wp_seq_k fun K1 hK1=>wp_region_lit ?_
 refine ax O (fun K hK=>dC hF O ae rfl hA yc (fun b1 w2 a hb1 hF hA3=>hK _ _ ?_))
 refine vR hF<|vX O<|vE hK1<|wQ fun K2 hK2=>wT fun K3 hK3=>vX O<|vV O (aT O Nq O O)<|vV O (aF O O O O O)<|vE hK3 fun a hF=>?_
 rcases tf (aI .gtr (raw.length) (65536)) with h0 | h0
 ·refine au hF O h0 ?_
  have hlen:raw.length≤65536:=Kt h0
  apply wp_skip
  refine hK2 _ _ ?_
  refine wS hF fun K4 hK4=>vX O fun a hF=>?_
  refine ax O (fun K hK=>ay hF O ae Jf rfl rfl ?_)
  with_reducible refine (Au w0 _ _ A raw c (hR.mono (List.Subset.trans hG (bM (dR)))) hA3 ag).mono ?_
  rintro e' w4 ⟨rb,A0,c0,X,rfl,hO,hA5⟩
  refine ⟨_,rfl,fun a hF=>hK _ _ ?_⟩
  replace hA5:Hp w0 ([row rb 152 [.slice A0 raw.length c0,.int .i64 (0:Nat),.int .i64 (0:Nat)]]::X::[row b1 31 noEA.cells]::R) w4:=hA5
  refine vR hF<|vX O<|vE hK4<|wT fun K5 hK5=>vX O fun a hF=>?_
  refine ax O (fun K hK=>ay hF O ae Je rfl rfl ?_)
  with_reducible refine (nT w0 _ ([row b1 31 noEA.cells]::R) rb A0 raw c0 0 0 X hO hA5 (Nl _) ag).mono ?_
  rintro e' w6 ⟨k,p1,y1,rfl,hg1,hp1,hk,hA7⟩
  refine ⟨_,rfl,fun a hF=>hK _ _ ?_⟩
  replace hA7:Hp w0 ([row rb 152 [.slice A0 raw.length c0,.int .i64 (p1:Nat),.int .i64 (y1:Nat)]]::X::[row b1 31 noEA.cells]::R) w6:=hA7
  replace hk:k<256:=hk
  refine vR hF<|vV O (bW O NI NC O (Np _ ag))<|vX O fun a hF=>?_
  refine ax O (fun K hK=>ay hF O ae AZ rfl rfl ?_)
  with_reducible refine (mr w0 _ ([row b1 31 noEA.cells]::R) rb A0 raw c0 p1 y1 X hO hA7 hp1 ag).mono ?_
  rintro e' w8 ⟨n,p2,y2,rfl,hg2,hp2,hn,hA9⟩
  refine ⟨_,rfl,fun a hF=>hK _ _ ?_⟩
  replace hA9:Hp w0 ([row rb 152 [.slice A0 raw.length c0,.int .i64 (p2:Nat),.int .i64 (y2:Nat)]]::X::[row b1 31 noEA.cells]::R) w8:=hA9
  replace hn:n<18446744073709551616:=hn
  refine vR hF<|vV O (bW O NJ NC O (nO hn))<|vX O fun a hF=>?_
  refine ax O (fun K hK=>ay hF O ae AZ rfl rfl ?_)
  with_reducible refine (mr w0 _ ([row b1 31 noEA.cells]::R) rb A0 raw c0 p2 y2 X hO hA9 hp2 ag).mono ?_
  rintro e' w10 ⟨cl,p3,y3,rfl,hg3,hp3,hcl,hA11⟩
  refine ⟨_,rfl,fun a hF=>hK _ _ ?_⟩
  replace hA11:Hp w0 ([row rb 152 [.slice A0 raw.length c0,.int .i64 (p3:Nat),.int .i64 (y3:Nat)]]::X::[row b1 31 noEA.cells]::R) w10:=hA11
  replace hcl:cl<18446744073709551616:=hcl
  refine vR hF<|vV O (bW O NJ NC O (nO hcl))<|vV O (fM (v:= .agg ([.int .i64 ((k:Nat):Int),.int .i64 (i64 n),.int .i64 (i64 cl),aj [],aj [],aj [],.int .i64 0,.int .i64 0,aj [],.slice none 0 0,.slice none 0 0,.slice none 0 0]++dc (List.replicate 32 0)).toArray) (qs := #[(0,.int .i64 ((k:Nat):Int)),(1,.int .i64 (i64 n)),(2,.int .i64 (i64 cl))]) O O (KD _ _ _)) fun a hF=>?_
  refine ax O (fun K hK=>dC hF O ae rfl hA11 yc (fun b12 w13 a hb12 hF hA14=>hK _ _ ?_))
  refine ax O (fun K hK=>bG (new:=[.int .i64 ((k:Nat):Int),.int .i64 (i64 n),.int .i64 (i64 cl),aj [],aj [],aj [],.int .i64 0,.int .i64 0,aj [],.slice none 0 0,.slice none 0 0,.slice none 0 0]++dc (List.replicate 32 0)) hF O O hA14 O O 0 O O (fun v hv=>jv (e:=⟨((k:Nat):Int),i64 n,i64 cl,[],[],[],⟨noVal,none,0⟩,[],none,0,[],none,0,List.replicate 32 0⟩) hv) kV (fun w15 hA16=>hK _ _ ?_))
  replace hA16:Hp w0 ([row b12 31 ([.int .i64 ((k:Nat):Int),.int .i64 (i64 n),.int .i64 (i64 cl),aj [],aj [],aj [],.int .i64 0,.int .i64 0,aj [],.slice none 0 0,.slice none 0 0,.slice none 0 0]++dc (List.replicate 32 0))]::[row rb 152 [.slice A0 raw.length c0,.int .i64 (p3:Nat),.int .i64 (y3:Nat)]]::X::[row b1 31 noEA.cells]::R) w15:=hA16
  refine aH<|hK5 _ _ ?_
  apply wp_seq_k; intro K6 hK6
  by_cases hop:jH ((k:Nat):Int)
  ·obtain ⟨f,hf⟩:∃ f,f=gU ((k:Nat):Int):=⟨_,rfl⟩
   refine wp_region_lit ?_
   refine vR hF<|vV O (yf 0 O NE O gZ O)<|vV O (aU O hA16.q O 0 O O jZ) fun a hF=>?_
   refine ax O (fun K hK=>ay hF O ae Ba rfl rfl ?_)
   with_reducible refine (nX ((k:Nat):Int) f hf hop _ hA16).mono ?_
   rintro e' w17 ⟨rfl,hA18⟩
   refine ⟨_,rfl,fun a hF=>hK _ _ ?_⟩
   refine vR hF<|vX O<|vV O (aN (v:= .agg ([.bool f.typed,.bool f.cased,.bool f.named,.bool f.valued,.bool f.args,.bool f.source]).toArray) rfl rfl rfl)<|vV O (aN (v:= .bool true) rfl rfl rfl) fun a hF=>?_
   refine ax O (fun K hK=>dC hF O ae rfl hA18 (Dp) (fun b19 w20 a hb19 hF hA21=>hK _ _ ?_))
   refine ax O (fun K hK=>bG (new:=[.bool f.typed,.bool f.cased,.bool f.named,.bool f.valued,.bool f.args,.bool f.source]) hF O O hA21 O O 0 O O (by simp [Value.oneCell']) kE (fun w22 hA23=>hK _ _ ?_))
   replace hA23:Hp w0 ([row b19 129 [.bool f.typed,.bool f.cased,.bool f.named,.bool f.valued,.bool f.args,.bool f.source]]::[row b12 31 ([.int .i64 ((k:Nat):Int),.int .i64 (i64 n),.int .i64 (i64 cl),aj [],aj [],aj [],.int .i64 0,.int .i64 0,aj [],.slice none 0 0,.slice none 0 0,.slice none 0 0]++dc (List.replicate 32 0))]::[row rb 152 [.slice A0 raw.length c0,.int .i64 (p3:Nat),.int .i64 (y3:Nat)]]::X::[row b1 31 noEA.cells]::R) w22:=hA23
   refine vR hF<|vX O<|vE hK6<|wQ fun K7 hK7=>wT fun K8 hK8=>vX O<|vV O (dm O O O)<|vE hK8<|vF1 O<|wKp hK7<|wQ fun K9 hK9=>wT fun K10 hK10=>vV O (yf 1 O NF O kL O)<|vV O (aU O hA23.q O 0 O O kQ)<|vE hK10 fun a hF=>?_
   have hJ0:∀ (a:Act) (x:World) (cas:List UInt8) (p4 y4:Nat),jM f.cased [] p3 y3 (got (eU · 64) [] raw p3 y3)=⟨cas,p4,y4⟩→p4≤raw.length→Fr 112 [(0,.slice A raw.length c),(2,.pointer (some ⟨b1,0,none⟩)),(4,.pointer (some ⟨rb,0,none⟩)),(5,.pointer (some ⟨b12,0,none⟩)),(6,.pointer (some ⟨b19,0,none⟩))] a→Hp w0 ([row b19 129 [.bool f.typed,.bool f.cased,.bool f.named,.bool f.valued,.bool f.args,.bool f.source]]::[row b12 31 ([.int .i64 ((k:Nat):Int),.int .i64 (i64 n),.int .i64 (i64 cl),aj [],aj cas,aj [],.int .i64 0,.int .i64 0,aj [],.slice none 0 0,.slice none 0 0,.slice none 0 0]++dc (List.replicate 32 0))]::[row rb 152 [.slice A0 raw.length c0,.int .i64 (p4:Nat),.int .i64 (y4:Nat)]]::X::[row b1 31 noEA.cells]::R) x→K9 a x:=by
    clear hF
    intro a x cas p4 y4 hgi0 hp4 hF hA
    refine hK9 _ _ ?_
    apply wp_seq_k; intro K11 hK11
    refine wS hF fun K12 hK12=>vV O (yf 0 O NF O kL O)<|vV O (aU O hA.q O 0 O O kQ)<|vE hK12 fun a hF=>?_
    have hJ1:∀ (a:Act) (x:World) (typ:List UInt8) (p5 y5:Nat),jM f.typed [] p4 y4 (got (eU · 64) [] raw p4 y4)=⟨typ,p5,y5⟩→p5≤raw.length→Fr 112 [(0,.slice A raw.length c),(2,.pointer (some ⟨b1,0,none⟩)),(4,.pointer (some ⟨rb,0,none⟩)),(5,.pointer (some ⟨b12,0,none⟩)),(6,.pointer (some ⟨b19,0,none⟩))] a→Hp w0 ([row b19 129 [.bool f.typed,.bool f.cased,.bool f.named,.bool f.valued,.bool f.args,.bool f.source]]::[row b12 31 ([.int .i64 ((k:Nat):Int),.int .i64 (i64 n),.int .i64 (i64 cl),aj typ,aj cas,aj [],.int .i64 0,.int .i64 0,aj [],.slice none 0 0,.slice none 0 0,.slice none 0 0]++dc (List.replicate 32 0))]::[row rb 152 [.slice A0 raw.length c0,.int .i64 (p5:Nat),.int .i64 (y5:Nat)]]::X::[row b1 31 noEA.cells]::R) x→K11 a x:=by
     clear hF
     intro a x typ p5 y5 hgi1 hp5 hF hA
     refine hK11 _ _ ?_
     apply wp_seq_k; intro K13 hK13
     refine wS hF fun K14 hK14=>vV O (yf 2 O NF O kL O)<|vV O (aU O hA.q O 0 O O kQ)<|vE hK14 fun a hF=>?_
     have hJ2:∀ (a:Act) (x:World) (nam:List UInt8) (p6 y6:Nat),jM f.named [] p5 y5 (got (eU · 64) [] raw p5 y5)=⟨nam,p6,y6⟩→p6≤raw.length→Fr 112 [(0,.slice A raw.length c),(2,.pointer (some ⟨b1,0,none⟩)),(4,.pointer (some ⟨rb,0,none⟩)),(5,.pointer (some ⟨b12,0,none⟩)),(6,.pointer (some ⟨b19,0,none⟩))] a→Hp w0 ([row b19 129 [.bool f.typed,.bool f.cased,.bool f.named,.bool f.valued,.bool f.args,.bool f.source]]::[row b12 31 ([.int .i64 ((k:Nat):Int),.int .i64 (i64 n),.int .i64 (i64 cl),aj typ,aj cas,aj nam,.int .i64 0,.int .i64 0,aj [],.slice none 0 0,.slice none 0 0,.slice none 0 0]++dc (List.replicate 32 0))]::[row rb 152 [.slice A0 raw.length c0,.int .i64 (p6:Nat),.int .i64 (y6:Nat)]]::X::[row b1 31 noEA.cells]::R) x→K13 a x:=by
      clear hF
      intro a x nam p6 y6 hgi2 hp6 hF hA
      refine hK13 _ _ ?_
      apply wp_seq_k; intro K15 hK15
      refine wS hF fun K16 hK16=>vV O (yf 5 O NF O kL O)<|vV O (aU O hA.q O 0 O O kQ)<|vE hK16 fun a hF=>?_
      have hJ3:∀ (a:Act) (x:World) (src:List UInt8) (bA:Option Addr) (bC:Nat) (ZS:Seg) (p7 y7:Nat),jM f.source [] p6 y6 (got (iK · 60000) [] raw p6 y6)=⟨src,p7,y7⟩→(Rd w0 [ZS] bA src∧Buf 5 1 ZS (.slice bA src.length bC) src.length (dc src))→src.length≤9223372036854775807→p7≤raw.length→Fr 112 [(0,.slice A raw.length c),(2,.pointer (some ⟨b1,0,none⟩)),(4,.pointer (some ⟨rb,0,none⟩)),(5,.pointer (some ⟨b12,0,none⟩)),(6,.pointer (some ⟨b19,0,none⟩))] a→Hp w0 (ZS::[row b19 129 [.bool f.typed,.bool f.cased,.bool f.named,.bool f.valued,.bool f.args,.bool f.source]]::[row b12 31 ([.int .i64 ((k:Nat):Int),.int .i64 (i64 n),.int .i64 (i64 cl),aj typ,aj cas,aj nam,.int .i64 0,.int .i64 0,aj [],.slice none 0 0,.slice none 0 0,.slice bA src.length bC]++dc (List.replicate 32 0))]::[row rb 152 [.slice A0 raw.length c0,.int .i64 (p7:Nat),.int .i64 (y7:Nat)]]::X::[row b1 31 noEA.cells]::R) x→K15 a x:=by
       clear hF
       intro a x src bA bC ZS p7 y7 hgi3 hRs hsl hp7 hF hA
       refine hK15 _ _ ?_
       apply wp_seq_k; intro K17 hK17
       refine wS hF fun K18 hK18=>vV O (yf 3 O NF O kL O)<|vV O (aU O hA.q O 1 O O kQ)<|vE hK18 fun a hF=>?_
       have hJ4:∀ (a:Act) (x:World) (vb:VA) (ZV:Seg) (p8 y8:Nat),jM f.valued noVal p7 y7 (cu raw p7 y7)=⟨vb.v,p8,y8⟩→(vb.Ok w0 [ZV]∧vb.Own ZV)→p8≤raw.length→Fr 112 [(0,.slice A raw.length c),(2,.pointer (some ⟨b1,0,none⟩)),(4,.pointer (some ⟨rb,0,none⟩)),(5,.pointer (some ⟨b12,0,none⟩)),(6,.pointer (some ⟨b19,0,none⟩))] a→Hp w0 (ZV::ZS::[row b19 129 [.bool f.typed,.bool f.cased,.bool f.named,.bool f.valued,.bool f.args,.bool f.source]]::[row b12 31 ([.int .i64 ((k:Nat):Int),.int .i64 (i64 n),.int .i64 (i64 cl),aj typ,aj cas,aj nam,.int .i64 vb.v.k,.int .i64 vb.v.n,aj vb.v.t,.slice vb.sA vb.v.s.length vb.sC,.slice none 0 0,.slice bA src.length bC]++dc (List.replicate 32 0))]::[row rb 152 [.slice A0 raw.length c0,.int .i64 (p8:Nat),.int .i64 (y8:Nat)]]::X::[row b1 31 noEA.cells]::R) x→K17 a x:=by
        clear hF
        intro a x vb ZV p8 y8 hgi4 hvb hp8 hF hA
        refine hK17 _ _ ?_
        apply wp_seq_k; intro K19 hK19
        refine wS hF fun K20 hK20=>vV O (yf 4 O NF O kL O)<|vV O (aU O hA.q O 2 O O kQ)<|vE hK20 fun a hF=>?_
        have hJ5:∀ (a:Act) (x:World) (vs:List VA) (aA:Option Addr) (aC:Nat) (ZA ZM:Seg) (n1 q1 z1:Nat) (p9 y9:Nat),jM f.args 0 p8 y8 (got (eQ 1) 0 raw p8 y8)=⟨n1,q1,z1⟩→fQ raw n1 q1 z1=⟨vs.map VA.v,p9,y9⟩→(Rc w0 [ZA] aA (mM vs)∧Buf 25 4 ZA (.slice aA vs.length aC) vs.length (mM vs))→((∀ a∈vs,a.Ok w0 [ZM])∧OwnL vs ZM)→vs.length≤9223372036854775807→p9≤raw.length→Fr 112 [(0,.slice A raw.length c),(2,.pointer (some ⟨b1,0,none⟩)),(4,.pointer (some ⟨rb,0,none⟩)),(5,.pointer (some ⟨b12,0,none⟩)),(6,.pointer (some ⟨b19,0,none⟩))] a→Hp w0 (ZA::ZM::ZV::ZS::[row b19 129 [.bool f.typed,.bool f.cased,.bool f.named,.bool f.valued,.bool f.args,.bool f.source]]::[row b12 31 ([.int .i64 ((k:Nat):Int),.int .i64 (i64 n),.int .i64 (i64 cl),aj typ,aj cas,aj nam,.int .i64 vb.v.k,.int .i64 vb.v.n,aj vb.v.t,.slice vb.sA vb.v.s.length vb.sC,.slice aA vs.length aC,.slice bA src.length bC]++dc (List.replicate 32 0))]::[row rb 152 [.slice A0 raw.length c0,.int .i64 (p9:Nat),.int .i64 (y9:Nat)]]::X::[row b1 31 noEA.cells]::R) x→K19 a x:=by
         clear hF
         intro a x vs aA aC ZA ZM n1 q1 z1 p9 y9 hgi5 hgv hRv hvs hvl hp9 hF hA
         refine hK19 _ _ ?_
         refine wS hF fun K21 hK21=>vX O fun a hF=>?_
         have hA24:Hp w0 ([row rb 152 [.slice A0 raw.length c0,.int .i64 (p9:Nat),.int .i64 (y9:Nat)]]::X::ZA::ZM::ZV::ZS::[row b19 129 [.bool f.typed,.bool f.cased,.bool f.named,.bool f.valued,.bool f.args,.bool f.source]]::[row b12 31 ([.int .i64 ((k:Nat):Int),.int .i64 (i64 n),.int .i64 (i64 cl),aj typ,aj cas,aj nam,.int .i64 vb.v.k,.int .i64 vb.v.n,aj vb.v.t,.slice vb.sA vb.v.s.length vb.sC,.slice aA vs.length aC,.slice bA src.length bC]++dc (List.replicate 32 0))]::[row b1 31 noEA.cells]::R) x:=hpO 9 [6,7,0,1,2,3,4,5,8] hA rfl
         refine ax O (fun K hK=>ay hF O ae IZ rfl rfl ?_)
         with_reducible refine (CE w0 _ (ZA::ZM::ZV::ZS::[row b19 129 [.bool f.typed,.bool f.cased,.bool f.named,.bool f.valued,.bool f.args,.bool f.source]]::[row b12 31 ([.int .i64 ((k:Nat):Int),.int .i64 (i64 n),.int .i64 (i64 cl),aj typ,aj cas,aj nam,.int .i64 vb.v.k,.int .i64 vb.v.n,aj vb.v.t,.slice vb.sA vb.v.s.length vb.sC,.slice aA vs.length aC,.slice bA src.length bC]++dc (List.replicate 32 0))]::[row b1 31 noEA.cells]::R) rb A0 raw c0 p9 y9 X hO hA24 hp9 ag).mono ?_
         rintro e' w25 ⟨dg,p10,y10,rfl,hgd,hp10,hd32,hA26⟩
         refine ⟨_,rfl,fun a hF=>hK _ _ ?_⟩
         refine vR hF<|vV O (yf 12 rfl NE O zV O) fun a hF=>?_
         refine ax O (fun K hK=>lN (new:=dc dg) hF O O hA26 O O 7 O (by rw [List.length_append,aW,aW,hd32]; exact Nat.le_of_ble_eq_true rfl) (pq _) (by rw [aW,hd32]; exact zV) (fun w27 hA28=>hK _ _ ?_))
         replace hA28:Hp w0 ([row rb 152 [.slice A0 raw.length c0,.int .i64 (p10:Nat),.int .i64 (y10:Nat)]]::X::ZA::ZM::ZV::ZS::[row b19 129 [.bool f.typed,.bool f.cased,.bool f.named,.bool f.valued,.bool f.args,.bool f.source]]::[row b12 31 (splice ([.int .i64 ((k:Nat):Int),.int .i64 (i64 n),.int .i64 (i64 cl),aj typ,aj cas,aj nam,.int .i64 vb.v.k,.int .i64 vb.v.n,aj vb.v.t,.slice vb.sA vb.v.s.length vb.sC,.slice aA vs.length aC,.slice bA src.length bC]++dc (List.replicate 32 0)) 12 (dc dg))]::[row b1 31 noEA.cells]::R) w27:=hA28
         have hA29:Hp w0 ([row rb 152 [.slice A0 raw.length c0,.int .i64 (p10:Nat),.int .i64 (y10:Nat)]]::X::ZA::ZM::ZV::ZS::[row b19 129 [.bool f.typed,.bool f.cased,.bool f.named,.bool f.valued,.bool f.args,.bool f.source]]::[row b12 31 ([.int .i64 ((k:Nat):Int),.int .i64 (i64 n),.int .i64 (i64 cl),aj typ,aj cas,aj nam,.int .i64 vb.v.k,.int .i64 vb.v.n,aj vb.v.t,.slice vb.sA vb.v.s.length vb.sC,.slice aA vs.length aC,.slice bA src.length bC]++dc dg)]::[row b1 31 noEA.cells]::R) w27:=(by have h9:=hA28; rw [yR (n:=12) (s:=[.int .i64 ((k:Nat):Int),.int .i64 (i64 n),.int .i64 (i64 cl),aj typ,aj cas,aj nam,.int .i64 vb.v.k,.int .i64 vb.v.n,aj vb.v.t,.slice vb.sA vb.v.s.length vb.sC,.slice aA vs.length aC,.slice bA src.length bC]) rfl (by rw [aW,aW,hd32]; rfl)] at h9; exact h9)
         refine aH<|hK21 _ _ ?_
         apply wp_seq_k; intro K22 hK22
         refine wS hF fun K23 hK23=>vX O fun a hF=>?_
         refine ax O (fun K hK=>ay hF O ae IY rfl rfl ?_)
         with_reducible refine (Iq w0 _ (ZA::ZM::ZV::ZS::[row b19 129 [.bool f.typed,.bool f.cased,.bool f.named,.bool f.valued,.bool f.args,.bool f.source]]::[row b12 31 ([.int .i64 ((k:Nat):Int),.int .i64 (i64 n),.int .i64 (i64 cl),aj typ,aj cas,aj nam,.int .i64 vb.v.k,.int .i64 vb.v.n,aj vb.v.t,.slice vb.sA vb.v.s.length vb.sC,.slice aA vs.length aC,.slice bA src.length bC]++dc dg)]::[row b1 31 noEA.cells]::R) rb A0 raw c0 p10 y10 X hO hA29 hp10 ag).mono ?_
         rintro e' w30 ⟨rfl,hA31⟩
         refine ⟨_,rfl,fun a hF=>hK _ _ ?_⟩
         replace hA31:Hp w0 ([row rb 152 [.slice A0 raw.length c0,.int .i64 (p10:Nat),.int .i64 (y10:Nat)]]::X::ZA::ZM::ZV::ZS::[row b19 129 [.bool f.typed,.bool f.cased,.bool f.named,.bool f.valued,.bool f.args,.bool f.source]]::[row b12 31 ([.int .i64 ((k:Nat):Int),.int .i64 (i64 n),.int .i64 (i64 cl),aj typ,aj cas,aj nam,.int .i64 vb.v.k,.int .i64 vb.v.n,aj vb.v.t,.slice vb.sA vb.v.s.length vb.sC,.slice aA vs.length aC,.slice bA src.length bC]++dc dg)]::[row b1 31 noEA.cells]::R) w30:=hA31
         refine vR hF<|vV O (aF O O O O O)<|vE hK23 fun a hF=>?_
         rcases tf (aI .neq (((if y10=0∧p10<raw.length then 8 else y10:Nat):Int)) (0)) with h9 | h9
         ·refine au hF O h9 ?_
          obtain ⟨hy0,hpl⟩:=IK hp10 h9
          subst hy0
          obtain ⟨ea,hea⟩:∃ e:EA,e=⟨((k:Nat):Int),i64 n,i64 cl,typ,cas,nam,vb,vs,aA,aC,src,bA,bC,dg⟩:=⟨_,rfl⟩
          have hA32:Hp w0 ([row rb 152 [.slice A0 raw.length c0,.int .i64 (p10:Nat),.int .i64 (0:Nat)]]::X::ZA::ZM::ZV::ZS::[row b19 129 [.bool f.typed,.bool f.cased,.bool f.named,.bool f.valued,.bool f.args,.bool f.source]]::[row b12 31 ([.int .i64 ea.op,.int .i64 ea.num,.int .i64 ea.clk,aj ea.typ,aj ea.cas,aj ea.nam,.int .i64 ea.v.v.k,.int .i64 ea.v.v.n,aj ea.v.v.t,.slice ea.v.sA ea.v.v.s.length ea.v.sC,.slice ea.aA ea.args.length ea.aC,.slice ea.bA ea.src.length ea.bC]++dc ea.eff)]::[row b1 31 noEA.cells]::R) w30:=(by rw [hea]; exact hA31)
          have hG0:iM raw=⟨ea.ev,p10,0⟩:=by
           unfold iM
           rw [hg1,di,hg2,di,hg3,di,← hf,hgi0,di,hgi1,di,hgi2,di,hgi3,di,hgi4,di,hgi5,di,hgv,di,hgd,di,hea]
           rfl
          have hEo:ea.Ok w0 [ZS++(ZV++(ZA++ZM))]:=by
           rw [hea]
           exact Fb hk hn hcl hvb.1 hvs.1 hRv.1 hvl hRs.1 hsl hd32
          have hEw:ea.Own (ZS++(ZV++(ZA++ZM))):=by
           rw [hea]
           exact ⟨ZS,ZV,ZA,ZM,rfl,hRs.2,hvb.2,hRv.2,hvs.2⟩
          have hA33:Hp w0 (ZS::ZV::ZA::ZM::[row rb 152 [.slice A0 raw.length c0,.int .i64 (p10:Nat),.int .i64 (0:Nat)]]::X::[row b19 129 [.bool f.typed,.bool f.cased,.bool f.named,.bool f.valued,.bool f.args,.bool f.source]]::[row b12 31 ([.int .i64 ea.op,.int .i64 ea.num,.int .i64 ea.clk,aj ea.typ,aj ea.cas,aj ea.nam,.int .i64 ea.v.v.k,.int .i64 ea.v.v.n,aj ea.v.v.t,.slice ea.v.sA ea.v.v.s.length ea.v.sC,.slice ea.aA ea.args.length ea.aC,.slice ea.bA ea.src.length ea.bC]++dc ea.eff)]::[row b1 31 noEA.cells]::R) w30:=hpO 9 [5,4,2,3,0,1,6,7,8] hA32 rfl
          have hA34:Hp w0 ((ZS++(ZV++(ZA++ZM)))::[row rb 152 [.slice A0 raw.length c0,.int .i64 (p10:Nat),.int .i64 (0:Nat)]]::X::[row b19 129 [.bool f.typed,.bool f.cased,.bool f.named,.bool f.valued,.bool f.args,.bool f.source]]::[row b12 31 ([.int .i64 ea.op,.int .i64 ea.num,.int .i64 ea.clk,aj ea.typ,aj ea.cas,aj ea.nam,.int .i64 ea.v.v.k,.int .i64 ea.v.v.n,aj ea.v.v.t,.slice ea.v.sA ea.v.v.s.length ea.v.sC,.slice ea.aA ea.args.length ea.aC,.slice ea.bA ea.src.length ea.bC]++dc ea.eff)]::[row b1 31 noEA.cells]::R) w30:=Hp.cast hA33 (by simp [List.append_assoc])
          obtain ⟨ZZ,hZZ⟩:∃ Z,Z=ZS++(ZV++(ZA++ZM)):=⟨_,rfl⟩
          rw [← hZZ] at hEo hEw hA34
          have he32:ea.eff.length=32:=hEo.i.2.2.2.2.2
          apply wp_skip
          refine hK22 _ _ ?_
          apply wp_seq_k; intro K24 hK24
          refine wS hF fun K25 hK25=>vV O (cZ (new:=[.int .i64 ea.op,.int .i64 ea.num,.int .i64 ea.clk,aj ea.typ,aj ea.cas,aj ea.nam,.int .i64 ea.v.v.k,.int .i64 ea.v.v.n,aj ea.v.v.t,.slice ea.v.sA ea.v.v.s.length ea.v.sC,.slice ea.aA ea.args.length ea.aC,.slice ea.bA ea.src.length ea.bC]++dc ea.eff) rfl hA34.q O 4 O Hg (by rw [List.length_append,aW,he32]; exact Nat.le_of_ble_eq_true rfl) (by rw [List.drop_zero]; exact Ny (by rw [List.length_append,aW,he32]; exact Nat.le_of_ble_eq_true rfl))) fun a hF=>?_
          refine ax O (fun K hK=>ay hF O ae Jk rfl rfl ?_)
          with_reducible refine (iY ea _ hT hEo (List.cons_subset.2 ⟨((Nu ..)),List.nil_subset _⟩) hA34).mono ?_
          rintro e' w35 ⟨qvE0,ZE,rfl,hZE,hA36⟩
          refine ⟨_,rfl,fun a hF=>hK _ _ ?_⟩
          replace hA36:Hp w0 (ZE::ZZ::[row rb 152 [.slice A0 raw.length c0,.int .i64 (p10:Nat),.int .i64 (0:Nat)]]::X::[row b19 129 [.bool f.typed,.bool f.cased,.bool f.named,.bool f.valued,.bool f.args,.bool f.source]]::[row b12 31 ([.int .i64 ea.op,.int .i64 ea.num,.int .i64 ea.clk,aj ea.typ,aj ea.cas,aj ea.nam,.int .i64 ea.v.v.k,.int .i64 ea.v.v.n,aj ea.v.v.t,.slice ea.v.sA ea.v.v.s.length ea.v.sC,.slice ea.aA ea.args.length ea.aC,.slice ea.bA ea.src.length ea.bC]++dc ea.eff)]::[row b1 31 noEA.cells]::R) w35:=hA36
          obtain ⟨_,AE,cE,rfl,_,hRE⟩:=hZE.rd (w0:=w0) (R:=[ZE]) (Nu ..)
          refine vR hF<|vX O<|vV O (aN (v:= .slice AE ((dV ea.ev).length) cE) rfl rfl rfl)<|vV O (aN (v:= .int .i64 ((eY ea.ev:Nat):Int)) O O O)<|vX O<|vX O<|vE hK25<|wT fun K26 hK26=>vX O<|vV O (aF O O O O O)<|vX O fun a hF=>?_
          refine bK (l2:=?lA1) hF [(109,.bool ((aI .neq (((eY ea.ev:Nat):Int)) (0)) || (!(dV ea.ev == raw)))),(0,.slice A raw.length c),(2,.pointer (some ⟨b1,0,none⟩)),(4,.pointer (some ⟨rb,0,none⟩)),(5,.pointer (some ⟨b12,0,none⟩)),(6,.pointer (some ⟨b19,0,none⟩)),(90,.pointer (some ⟨rb,0,none⟩)),(91,.agg (dc dg).toArray),(92,.pointer (some ⟨b12,12,none⟩)),(93,.pointer (some ⟨rb,0,none⟩)),(94,.int .i64 ((if 0=0∧p10<raw.length then 8 else 0:Nat):Int)),(95,.bool (aI .neq (((if 0=0∧p10<raw.length then 8 else 0:Nat):Int)) (0))),(98,.agg ([.int .i64 ea.op,.int .i64 ea.num,.int .i64 ea.clk,aj ea.typ,aj ea.cas,aj ea.nam,.int .i64 ea.v.v.k,.int .i64 ea.v.v.n,aj ea.v.v.t,.slice ea.v.sA ea.v.v.s.length ea.v.sC,.slice ea.aA ea.args.length ea.aC,.slice ea.bA ea.src.length ea.bC]++dc ea.eff).toArray),(99,.tuple #[.slice AE ((dV ea.ev).length) cE,.int .i64 ((eY ea.ev:Nat):Int)]),(97,.tuple #[.slice AE ((dV ea.ev).length) cE,.int .i64 ((eY ea.ev:Nat):Int)]),(100,.slice AE ((dV ea.ev).length) cE),(101,.int .i64 ((eY ea.ev:Nat):Int))] (fun hJ1=>?elA1) (fun a hF=>?flA1)
          case elA1 =>
           rcases tf (aI .neq (((eY ea.ev:Nat):Int)) (0)) with hg1 | hg1
           ·refine aJ hF O O O O (ak hg1) ae _ (aV O O) (fun a hF=>?_)
            refine aJ hF O O O O (ak hg1) ae _ (aV O O) (fun a hF=>?_)
            refine gI hF O O O (ak hg1) (fun K hK=>ay hF O ae IX rfl rfl ?_)
            with_reducible refine (IC _ (hRE.mono (List.cons_subset.2 ⟨((Nu ..)),List.nil_subset _⟩)) (hR.mono (List.Subset.trans hG (bM (bM (bM (bM (bM (bM (bM (dR)))))))))) hA36).mono ?_
            rintro e' w39 ⟨rfl,rfl⟩
            refine ⟨_,rfl,fun a hF=>hK _ _ ?_⟩
            refine aJ hF O O O O (ak hg1) ae _ (dm O O O) (fun a hF=>?_)
            refine vR hF<|vV O (bu hg1 rfl rfl rfl) fun a hF=>?_
            exact hJ1 _ ((hF.keep [109,0,2,4,5,6,90,91,92,93,94,95,98,99,97,100,101] (F':=[(109,_),(0,_),(2,_),(4,_),(5,_),(6,_),(90,_),(91,_),(92,_),(93,_),(94,_),(95,_),(98,_),(99,_),(97,_),(100,_),(101,_)]) O).bool (by rw [hg1]; rfl))
           ·refine az hF O O O O O (aB hg1) ae (fun a hF=>?_)
            refine az hF O O O O O (aB hg1) ae (fun a hF=>?_)
            refine az hF O O O O O (aB hg1) ae (fun a hF=>?_)
            refine az hF O O O O O (aB hg1) ae (fun a hF=>?_)
            refine vR hF<|vV O (bF hg1 rfl rfl rfl) fun a hF=>?_
            exact hJ1 _ ((hF.keep [109,0,2,4,5,6,90,91,92,93,94,95,98,99,97,100,101] (F':=[(109,_),(0,_),(2,_),(4,_),(5,_),(6,_),(90,_),(91,_),(92,_),(93,_),(94,_),(95,_),(98,_),(99,_),(97,_),(100,_),(101,_)]) O).bool (by rw [hg1]; rfl))
          refine aH<|hK26 _ _ ?_
          rcases tf ((aI .neq (((eY ea.ev:Nat):Int)) (0)) || (!(dV ea.ev == raw))) with h8 | h8
          ·refine au hF O h8 ?_
           obtain ⟨he0,heb⟩:=Fe h8
           apply wp_skip
           refine hK24 _ _ ?_
           refine wS hF fun K27 hK27=>vV O (cZ (new:=[.int .i64 ea.op,.int .i64 ea.num,.int .i64 ea.clk,aj ea.typ,aj ea.cas,aj ea.nam,.int .i64 ea.v.v.k,.int .i64 ea.v.v.n,aj ea.v.v.t,.slice ea.v.sA ea.v.v.s.length ea.v.sC,.slice ea.aA ea.args.length ea.aC,.slice ea.bA ea.src.length ea.bC]++dc ea.eff) rfl hA36.q O 5 O Hg (by rw [List.length_append,aW,he32]; exact Nat.le_of_ble_eq_true rfl) (by rw [List.drop_zero]; exact Ny (by rw [List.length_append,aW,he32]; exact Nat.le_of_ble_eq_true rfl))) fun a hF=>?_
           refine ax O (fun K hK=>bG (new:=[.int .i64 ea.op,.int .i64 ea.num,.int .i64 ea.clk,aj ea.typ,aj ea.cas,aj ea.nam,.int .i64 ea.v.v.k,.int .i64 ea.v.v.n,aj ea.v.v.t,.slice ea.v.sA ea.v.v.s.length ea.v.sC,.slice ea.aA ea.args.length ea.aC,.slice ea.bA ea.src.length ea.bC]++dc ea.eff) hF O O hA36 O O 6 O (by rw [List.length_append,aW,he32]; rfl) (fun v hv=>jv (e:=ea) hv) kV (fun w40 hA41=>hK _ _ ?_))
           replace hA41:Hp w0 (ZE::ZZ::[row rb 152 [.slice A0 raw.length c0,.int .i64 (p10:Nat),.int .i64 (0:Nat)]]::X::[row b19 129 [.bool f.typed,.bool f.cased,.bool f.named,.bool f.valued,.bool f.args,.bool f.source]]::[row b12 31 ([.int .i64 ea.op,.int .i64 ea.num,.int .i64 ea.clk,aj ea.typ,aj ea.cas,aj ea.nam,.int .i64 ea.v.v.k,.int .i64 ea.v.v.n,aj ea.v.v.t,.slice ea.v.sA ea.v.v.s.length ea.v.sC,.slice ea.aA ea.args.length ea.aC,.slice ea.bA ea.src.length ea.bC]++dc ea.eff)]::[row b1 31 ([.int .i64 ea.op,.int .i64 ea.num,.int .i64 ea.clk,aj ea.typ,aj ea.cas,aj ea.nam,.int .i64 ea.v.v.k,.int .i64 ea.v.v.n,aj ea.v.v.t,.slice ea.v.sA ea.v.v.s.length ea.v.sC,.slice ea.aA ea.args.length ea.aC,.slice ea.bA ea.src.length ea.bC]++dc ea.eff)]::R) w40:=hA41
           refine vR hF<|vX O<|vE hK27 fun a hF=>?_
           apply wp_ret
           refine fH hF Tryz.results21 hA41.q O O 6 O (by rw [List.length_append,aW,he32]; exact Hg) ?_
           have hA42:Hp w0 (ZZ::R) w40:=hpS 7 [1] [0,2,3,4,5,6] hA41 rfl
           have hok:kH raw:=KI hlen hop hG0 hpl he0 heb
           exact ⟨ea,ZZ,by rw [show og raw=0 from if_pos hok]; rfl,by rw [show mJ raw=(iM raw).v from if_pos hok,hG0],⟨hEo,hEw⟩,hA42⟩
          ·refine aG hF O h8 ?_
           refine wS hF fun K28 hK28=>vV O (eX O vP) fun a hF=>?_
           refine ax O (fun K hK=>bG (new:=noEA.cells) hF O O hA36 O O 6 O O (fun v hv=>jv (e:=noEA) hv) kV (fun w43 hA44=>hK _ _ ?_))
           replace hA44:Hp w0 (ZE::ZZ::[row rb 152 [.slice A0 raw.length c0,.int .i64 (p10:Nat),.int .i64 (0:Nat)]]::X::[row b19 129 [.bool f.typed,.bool f.cased,.bool f.named,.bool f.valued,.bool f.args,.bool f.source]]::[row b12 31 ([.int .i64 ea.op,.int .i64 ea.num,.int .i64 ea.clk,aj ea.typ,aj ea.cas,aj ea.nam,.int .i64 ea.v.v.k,.int .i64 ea.v.v.n,aj ea.v.v.t,.slice ea.v.sA ea.v.v.s.length ea.v.sC,.slice ea.aA ea.args.length ea.aC,.slice ea.bA ea.src.length ea.bC]++dc ea.eff)]::[row b1 31 noEA.cells]::R) w43:=hA44
           refine vR hF<|vX O<|vE hK28 fun a hF=>?_
           apply wp_ret
           have hno:¬ kH raw:=zG hG0 h8
           simp only [Exit.then]
           refine fH hF Tryz.results21 hA44.q O O 6 O vN ?_
           have hA45:Hp w0 (R) w43:=hpS 7 [] [0,1,2,3,4,5,6] hA44 rfl
           exact ⟨noEA,[],by rw [show og raw=8 from if_neg hno]; rfl,by rw [show mJ raw=Eo from if_neg hno]; rfl,⟨qo,nJ⟩,Hp.nil hA45⟩
         ·refine aG hF O h9 ?_
          refine wS hF fun K29 hK29=>vV O (eX O vP) fun a hF=>?_
          refine ax O (fun K hK=>bG (new:=noEA.cells) hF O O hA31 O O 8 O O (fun v hv=>jv (e:=noEA) hv) kV (fun w46 hA47=>hK _ _ ?_))
          replace hA47:Hp w0 ([row rb 152 [.slice A0 raw.length c0,.int .i64 (p10:Nat),.int .i64 (y10:Nat)]]::X::ZA::ZM::ZV::ZS::[row b19 129 [.bool f.typed,.bool f.cased,.bool f.named,.bool f.valued,.bool f.args,.bool f.source]]::[row b12 31 ([.int .i64 ((k:Nat):Int),.int .i64 (i64 n),.int .i64 (i64 cl),aj typ,aj cas,aj nam,.int .i64 vb.v.k,.int .i64 vb.v.n,aj vb.v.t,.slice vb.sA vb.v.s.length vb.sC,.slice aA vs.length aC,.slice bA src.length bC]++dc dg)]::[row b1 31 noEA.cells]::R) w46:=hA47
          refine vR hF<|vX O<|vE hK29 fun a hF=>?_
          apply wp_ret
          have hG0:(iM raw).p=p10∧(iM raw).y=y10:=by
           unfold iM
           rw [hg1,di,hg2,di,hg3,di,← hf,hgi0,di,hgi1,di,hgi2,di,hgi3,di,hgi4,di,hgi5,di,hgv,di,hgd,di]
           exact ⟨rfl,rfl⟩
          have hno:¬ kH raw:=IL hG0 h9
          simp only [Exit.then]
          refine fH hF Tryz.results21 hA47.q O O 8 O vN ?_
          have hA48:Hp w0 (R) w46:=hpS 9 [] [0,1,2,3,4,5,6,7,8] hA47 rfl
          exact ⟨noEA,[],by rw [show og raw=8 from if_neg hno]; rfl,by rw [show mJ raw=Eo from if_neg hno]; rfl,⟨qo,nJ⟩,Hp.nil hA48⟩
        rcases tf f.args with hb | hb
        ·refine au hF O hb ?_
         apply wp_skip
         exact hJ5 _ _ [] none 0 [] [] 0 p8 y8 p8 y8 (by rw [hb]; rfl) rfl ⟨Rc.nil,Buf.nil _ _⟩ ⟨(fun _ h=>absurd h (List.not_mem_nil)),OwnL.nil⟩ (Nl _) hp8 (hF.keep [0,2,4,5,6] rfl) (Hp.nil (Hp.nil hA))
        ·refine aG hF O hb ?_
         refine wS hF fun K30 hK30=>vX O fun a hF=>?_
         have hA49:Hp w0 ([row rb 152 [.slice A0 raw.length c0,.int .i64 (p8:Nat),.int .i64 (y8:Nat)]]::X::ZV::ZS::[row b19 129 [.bool f.typed,.bool f.cased,.bool f.named,.bool f.valued,.bool f.args,.bool f.source]]::[row b12 31 ([.int .i64 ((k:Nat):Int),.int .i64 (i64 n),.int .i64 (i64 cl),aj typ,aj cas,aj nam,.int .i64 vb.v.k,.int .i64 vb.v.n,aj vb.v.t,.slice vb.sA vb.v.s.length vb.sC,.slice none 0 0,.slice bA src.length bC]++dc (List.replicate 32 0))]::[row b1 31 noEA.cells]::R) x:=hpO 7 [4,5,0,1,2,3,6] hA rfl
         refine ax O (fun K hK=>ay hF O ae Je rfl rfl ?_)
         with_reducible refine (nT w0 _ (ZV::ZS::[row b19 129 [.bool f.typed,.bool f.cased,.bool f.named,.bool f.valued,.bool f.args,.bool f.source]]::[row b12 31 ([.int .i64 ((k:Nat):Int),.int .i64 (i64 n),.int .i64 (i64 cl),aj typ,aj cas,aj nam,.int .i64 vb.v.k,.int .i64 vb.v.n,aj vb.v.t,.slice vb.sA vb.v.s.length vb.sC,.slice none 0 0,.slice bA src.length bC]++dc (List.replicate 32 0))]::[row b1 31 noEA.cells]::R) rb A0 raw c0 p8 y8 X hO hA49 hp8 ag).mono ?_
         rintro e' w50 ⟨n1,q1,z1,rfl,hgn,hq1,hn1,hA51⟩
         refine ⟨_,rfl,fun a hF=>hK _ _ ?_⟩
         replace hA51:Hp w0 ([row rb 152 [.slice A0 raw.length c0,.int .i64 (q1:Nat),.int .i64 (z1:Nat)]]::X::ZV::ZS::[row b19 129 [.bool f.typed,.bool f.cased,.bool f.named,.bool f.valued,.bool f.args,.bool f.source]]::[row b12 31 ([.int .i64 ((k:Nat):Int),.int .i64 (i64 n),.int .i64 (i64 cl),aj typ,aj cas,aj nam,.int .i64 vb.v.k,.int .i64 vb.v.n,aj vb.v.t,.slice vb.sA vb.v.s.length vb.sC,.slice none 0 0,.slice bA src.length bC]++dc (List.replicate 32 0))]::[row b1 31 noEA.cells]::R) w50:=hA51
         replace hn1:n1<256:=hn1
         refine vR hF<|vX O<|vE hK30<|wBk fun a hF=>?_
         refine bH (G:=Nat) (fun m a x=>∃ (ws:List VA) (vA:Value) (ZA:Seg) (ZM:Seg) (p:Nat) (y:Nat),fQ raw n1 q1 z1=⟨ws.map VA.v++(fQ raw m p y).v,(fQ raw m p y).p,(fQ raw m p y).y⟩∧Buf 25 4 ZA vA ws.length (mM ws)∧((∀ a∈ws,a.Ok w0 [ZM])∧OwnL ws ZM)∧p≤raw.length∧ws.length+m≤255∧Fr 112 [(8,.int .u8 ((m:Nat):Int)),(0,.slice A raw.length c),(2,.pointer (some ⟨b1,0,none⟩)),(4,.pointer (some ⟨rb,0,none⟩)),(5,.pointer (some ⟨b12,0,none⟩)),(6,.pointer (some ⟨b19,0,none⟩))] a∧Hp w0 (ZA::ZM::[row rb 152 [.slice A0 raw.length c0,.int .i64 (p:Nat),.int .i64 (y:Nat)]]::X::ZV::ZS::[row b19 129 [.bool f.typed,.bool f.cased,.bool f.named,.bool f.valued,.bool f.args,.bool f.source]]::[row b12 31 ([.int .i64 ((k:Nat):Int),.int .i64 (i64 n),.int .i64 (i64 cl),aj typ,aj cas,aj nam,.int .i64 vb.v.k,.int .i64 vb.v.n,aj vb.v.t,.slice vb.sA vb.v.s.length vb.sC,vA,.slice bA src.length bC]++dc (List.replicate 32 0))]::[row b1 31 noEA.cells]::R) x) (fun m=>m) n1 (⟨[],_,[],[],q1,z1,rfl,(Buf.nil _ _),⟨(fun _ h=>absurd h (List.not_mem_nil)),OwnL.nil⟩,hq1,(by show 0+n1≤255; omega),hF.keep [8,0,2,4,5,6] rfl,(Hp.nil (Hp.nil hA51))⟩) ?_
         clear hF
         rintro m a w53 ⟨ws,vA,ZA,ZM,p,y,hgv,hZ,has,hpm,hcm,hF,hA52⟩
         by_cases hm:0<m
         ·apply wp_seq_k; intro K31 hK31
          refine wS hF fun K32 hK32=>vX O<|vV O (aF O O O O ((dY ag)))<|vX O fun a hF=>?_
          refine aJ hF O O O O (ak rfl) ae _ (aV O O) (fun a hF=>?_)
          have hA54:Hp w0 ([row rb 152 [.slice A0 raw.length c0,.int .i64 (p:Nat),.int .i64 (y:Nat)]]::X::ZA::ZM::ZV::ZS::[row b19 129 [.bool f.typed,.bool f.cased,.bool f.named,.bool f.valued,.bool f.args,.bool f.source]]::[row b12 31 ([.int .i64 ((k:Nat):Int),.int .i64 (i64 n),.int .i64 (i64 cl),aj typ,aj cas,aj nam,.int .i64 vb.v.k,.int .i64 vb.v.n,aj vb.v.t,.slice vb.sA vb.v.s.length vb.sC,vA,.slice bA src.length bC]++dc (List.replicate 32 0))]::[row b1 31 noEA.cells]::R) w53:=hpO 9 [2,3,0,1,4,5,6,7,8] hA52 rfl
          refine gI hF O O O (ak rfl) (fun K hK=>ay hF O ae oD rfl rfl ?_)
          with_reducible refine (o6 w0 _ (ZA::ZM::ZV::ZS::[row b19 129 [.bool f.typed,.bool f.cased,.bool f.named,.bool f.valued,.bool f.args,.bool f.source]]::[row b12 31 ([.int .i64 ((k:Nat):Int),.int .i64 (i64 n),.int .i64 (i64 cl),aj typ,aj cas,aj nam,.int .i64 vb.v.k,.int .i64 vb.v.n,aj vb.v.t,.slice vb.sA vb.v.s.length vb.sC,vA,.slice bA src.length bC]++dc (List.replicate 32 0))]::[row b1 31 noEA.cells]::R) rb A0 raw c0 p y X hO hA54).mono ?_
          rintro e' w55 ⟨rfl,hA56⟩
          refine ⟨_,rfl,fun a hF=>hK _ _ ?_⟩
          replace hA56:Hp w0 ([row rb 152 [.slice A0 raw.length c0,.int .i64 (p:Nat),.int .i64 (y:Nat)]]::X::ZA::ZM::ZV::ZS::[row b19 129 [.bool f.typed,.bool f.cased,.bool f.named,.bool f.valued,.bool f.args,.bool f.source]]::[row b12 31 ([.int .i64 ((k:Nat):Int),.int .i64 (i64 n),.int .i64 (i64 cl),aj typ,aj cas,aj nam,.int .i64 vb.v.k,.int .i64 vb.v.n,aj vb.v.t,.slice vb.sA vb.v.s.length vb.sC,vA,.slice bA src.length bC]++dc (List.replicate 32 0))]::[row b1 31 noEA.cells]::R) w55:=hA56
          refine aJ hF O O O O (ak rfl) ae _ (aF O O O O O) (fun a hF=>?_)
          refine vR hF<|vV O (bF O O O O)<|vE hK32 fun a hF=>?_
          by_cases hy:y=0
          ·refine aG hF O (fF ag) ?_
           subst hy
           obtain ⟨m,rfl⟩:∃ j,m=j+1:=⟨m-1,ag⟩
           apply wp_skip
           refine hK31 _ _ ?_
           apply wp_seq_k; intro K33 hK33
           apply wp_block
           refine wS hF fun K34 hK34=>vX O fun a hF=>?_
           refine ax O (fun K hK=>ay hF O ae Be rfl rfl ?_)
           with_reducible refine (rJ w0 _ (ZA::ZM::ZV::ZS::[row b19 129 [.bool f.typed,.bool f.cased,.bool f.named,.bool f.valued,.bool f.args,.bool f.source]]::[row b12 31 ([.int .i64 ((k:Nat):Int),.int .i64 (i64 n),.int .i64 (i64 cl),aj typ,aj cas,aj nam,.int .i64 vb.v.k,.int .i64 vb.v.n,aj vb.v.t,.slice vb.sA vb.v.s.length vb.sC,vA,.slice bA src.length bC]++dc (List.replicate 32 0))]::[row b1 31 noEA.cells]::R) rb A0 raw c0 p 0 X hO hA56 hpm ag).mono ?_
           rintro e' w57 ⟨va,Zt,rfl,hva,hvo,hpt,hA58⟩
           refine ⟨_,rfl,fun a hF=>hK _ _ ?_⟩
           refine vR hF<|vX O<|vV O (aN (v:= .agg ([.int .i64 va.v.k,.int .i64 va.v.n,aj va.v.t,.slice va.sA va.v.s.length va.sC]).toArray) rfl rfl rfl)<|vV O (aN (v:= .int .i64 ((cu raw p 0).y:Nat)) O O O) fun a hF=>?_
           refine ax O (fun K hK=>dC hF O ae rfl hA58 (zQ) (fun b59 w60 a hb59 hF hA61=>hK _ _ ?_))
           refine ax O (fun K hK=>bG (new:=[.int .i64 va.v.k,.int .i64 va.v.n,aj va.v.t,.slice va.sA va.v.s.length va.sC]) hF O O hA61 O O 0 O O (by simp [Value.oneCell']) nD (fun w62 hA63=>hK _ _ ?_))
           replace hA63:Hp w0 ([row b59 25 [.int .i64 va.v.k,.int .i64 va.v.n,aj va.v.t,.slice va.sA va.v.s.length va.sC]]::Zt::[row rb 152 [.slice A0 raw.length c0,.int .i64 ((cu raw p 0).p:Nat),.int .i64 ((cu raw p 0).y:Nat)]]::X::ZA::ZM::ZV::ZS::[row b19 129 [.bool f.typed,.bool f.cased,.bool f.named,.bool f.valued,.bool f.args,.bool f.source]]::[row b12 31 ([.int .i64 ((k:Nat):Int),.int .i64 (i64 n),.int .i64 (i64 cl),aj typ,aj cas,aj nam,.int .i64 vb.v.k,.int .i64 vb.v.n,aj vb.v.t,.slice vb.sA vb.v.s.length vb.sC,vA,.slice bA src.length bC]++dc (List.replicate 32 0))]::[row b1 31 noEA.cells]::R) w62:=hA63
           refine vR hF<|vX O<|vE hK34 fun a hF=>?_
           refine wp_region_lit ?_
           refine vR hF<|vV O (yf 10 rfl NE O uF O)<|vV O (aU O hA63.q O 9 O O uY)<|vV O (cZ (new:=[.int .i64 va.v.k,.int .i64 va.v.n,aj va.v.t,.slice va.sA va.v.s.length va.sC]) O hA63.q O 0 O Ho ai rfl) fun a hF=>?_
           refine ax O (fun K hK=>kG (qs := #[(0,.agg va.cells.toArray)]) (cells:=va.cells.toArray) hF O ae rfl hA63 O (zC va) (fun b64 w65 a hb64 hF hA66=>hK _ _ ?_))
           refine ax O (fun K hK=>cO hF O ae rfl hA66 5 O hZ NG rP rfl rfl (Rc.srcC (W:=va.cells) (m:=1) (size:=4) (R:=[row b64 25 va.cells]::[row b59 25 [.int .i64 va.v.k,.int .i64 va.v.n,aj va.v.t,.slice va.sA va.v.s.length va.sC]]::Zt::[row rb 152 [.slice A0 raw.length c0,.int .i64 ((cu raw p 0).p:Nat),.int .i64 ((cu raw p 0).y:Nat)]]::X::ZA::ZM::ZV::ZS::[row b19 129 [.bool f.typed,.bool f.cased,.bool f.named,.bool f.valued,.bool f.args,.bool f.source]]::[row b12 31 ([.int .i64 ((k:Nat):Int),.int .i64 (i64 n),.int .i64 (i64 cl),aj typ,aj cas,aj nam,.int .i64 vb.v.k,.int .i64 vb.v.n,aj vb.v.t,.slice vb.sA vb.v.s.length vb.sC,vA,.slice bA src.length bC]++dc (List.replicate 32 0))]::[row b1 31 noEA.cells]::R) (Rc.ofRow (i:=0) (off:=0) rfl rfl) hA66.q NG ae rfl (qE va)) ag ae (fun v2 Z2 w67 a hZ2 hF hA68=>hK _ _ ?_))
           refine vR hF<|vV O (yf 10 rfl NE O uF O) fun a hF=>?_
           refine ax O (fun K hK=>aX hF O O hA68 O O 10 rfl (by simp) hZ2.one uF (fun w69 hA70=>hK _ _ ?_))
           replace hA70:Hp w0 ([row b64 25 va.cells]::[row b59 25 [.int .i64 va.v.k,.int .i64 va.v.n,aj va.v.t,.slice va.sA va.v.s.length va.sC]]::Zt::[row rb 152 [.slice A0 raw.length c0,.int .i64 ((cu raw p 0).p:Nat),.int .i64 ((cu raw p 0).y:Nat)]]::X::Z2::ZM::ZV::ZS::[row b19 129 [.bool f.typed,.bool f.cased,.bool f.named,.bool f.valued,.bool f.args,.bool f.source]]::[row b12 31 ([.int .i64 ((k:Nat):Int),.int .i64 (i64 n),.int .i64 (i64 cl),aj typ,aj cas,aj nam,.int .i64 vb.v.k,.int .i64 vb.v.n,aj vb.v.t,.slice vb.sA vb.v.s.length vb.sC,v2,.slice bA src.length bC]++dc (List.replicate 32 0))]::[row b1 31 noEA.cells]::R) w69:=hA70
           refine aH<|hK33 _ _ ?_
           refine wp_region_lit ?_
           refine vR hF<|vX O<|vV O (eu O O O (show IntKind.u8.wrap (((m+1:Nat):Int)-1)=((m:Nat):Int) by rw [IntKind.wrap_u8]; omega)) fun a hF=>?_
           refine vR hF<|vX O fun a hF=>?_
           refine aH ?_
           have hA71:Hp w0 (Z2::ZM::Zt::[row b64 25 va.cells]::[row b59 25 [.int .i64 va.v.k,.int .i64 va.v.n,aj va.v.t,.slice va.sA va.v.s.length va.sC]]::[row rb 152 [.slice A0 raw.length c0,.int .i64 ((cu raw p 0).p:Nat),.int .i64 ((cu raw p 0).y:Nat)]]::X::ZV::ZS::[row b19 129 [.bool f.typed,.bool f.cased,.bool f.named,.bool f.valued,.bool f.args,.bool f.source]]::[row b12 31 ([.int .i64 ((k:Nat):Int),.int .i64 (i64 n),.int .i64 (i64 cl),aj typ,aj cas,aj nam,.int .i64 vb.v.k,.int .i64 vb.v.n,aj vb.v.t,.slice vb.sA vb.v.s.length vb.sC,v2,.slice bA src.length bC]++dc (List.replicate 32 0))]::[row b1 31 noEA.cells]::R) w69:=hpO 12 [5,6,2,0,1,3,4,7,8,9,10,11] hA70 af
           have hA72:Hp w0 (Z2::(ZM++Zt)::[row b64 25 va.cells]::[row b59 25 [.int .i64 va.v.k,.int .i64 va.v.n,aj va.v.t,.slice va.sA va.v.s.length va.sC]]::[row rb 152 [.slice A0 raw.length c0,.int .i64 ((cu raw p 0).p:Nat),.int .i64 ((cu raw p 0).y:Nat)]]::X::ZV::ZS::[row b19 129 [.bool f.typed,.bool f.cased,.bool f.named,.bool f.valued,.bool f.args,.bool f.source]]::[row b12 31 ([.int .i64 ((k:Nat):Int),.int .i64 (i64 n),.int .i64 (i64 cl),aj typ,aj cas,aj nam,.int .i64 vb.v.k,.int .i64 vb.v.n,aj vb.v.t,.slice vb.sA vb.v.s.length vb.sC,v2,.slice bA src.length bC]++dc (List.replicate 32 0))]::[row b1 31 noEA.cells]::R) w69:=Hp.cast hA71 (by simp [List.append_assoc])
           have hA73:Hp w0 (Z2::(ZM++Zt)::[row rb 152 [.slice A0 raw.length c0,.int .i64 ((cu raw p 0).p:Nat),.int .i64 ((cu raw p 0).y:Nat)]]::X::ZV::ZS::[row b19 129 [.bool f.typed,.bool f.cased,.bool f.named,.bool f.valued,.bool f.args,.bool f.source]]::[row b12 31 ([.int .i64 ((k:Nat):Int),.int .i64 (i64 n),.int .i64 (i64 cl),aj typ,aj cas,aj nam,.int .i64 vb.v.k,.int .i64 vb.v.n,aj vb.v.t,.slice vb.sA vb.v.s.length vb.sC,v2,.slice bA src.length bC]++dc (List.replicate 32 0))]::[row b1 31 noEA.cells]::R) w69:=hpS 11 [0,1,4,5,6,7,8,9,10] [2,3] hA72 af
           exact ⟨m,ag,ws++[va],_,_,ZM++Zt,_,_,by rw [hgv,vI]; simp [hva],by rw [Dl,List.length_append]; exact hZ2,⟨Eh has.1 hvo.1,has.2.snoc hvo.2⟩,hpt,by rw [List.length_append]; show ws.length+1+m≤255; omega,hF.keep [8,0,2,4,5,6] rfl,hA73⟩
          ·refine au hF O (bU ag) ?_
           apply wp_exit
           rw [vH hy] at hgv
           simp only [List.append_nil] at hgv
           obtain ⟨aA,aC,rfl,_,hRa⟩:=hZ.rc (w0:=w0) (R:=[ZA]) (Nu ..)
           have hA74:Hp w0 (ZA::ZM::ZV::ZS::[row b19 129 [.bool f.typed,.bool f.cased,.bool f.named,.bool f.valued,.bool f.args,.bool f.source]]::[row b12 31 ([.int .i64 ((k:Nat):Int),.int .i64 (i64 n),.int .i64 (i64 cl),aj typ,aj cas,aj nam,.int .i64 vb.v.k,.int .i64 vb.v.n,aj vb.v.t,.slice vb.sA vb.v.s.length vb.sC,.slice aA ws.length aC,.slice bA src.length bC]++dc (List.replicate 32 0))]::[row rb 152 [.slice A0 raw.length c0,.int .i64 (p:Nat),.int .i64 (y:Nat)]]::X::[row b1 31 noEA.cells]::R) w55:=hpO 9 [2,3,4,5,6,7,0,1,8] hA56 rfl
           exact hJ5 _ _ ws aA aC ZA ZM n1 q1 z1 p y (by rw [hb]; exact hgn) hgv ⟨hRa,hZ⟩ has ag hpm (hF.keep [0,2,4,5,6] rfl) hA74
         ·obtain rfl:m=0:=by omega
          apply wp_seq_k; intro K35 hK35
          refine wS hF fun K36 hK36=>vX O<|vV O (aF O O O O ((fE ag)))<|vX O fun a hF=>?_
          refine az hF O O O O O (aB rfl) ae (fun a hF=>?_)
          refine az hF O O O O O (aB rfl) ae (fun a hF=>?_)
          refine az hF O O O O O (aB rfl) ae (fun a hF=>?_)
          refine vR hF<|vV O (bu O O O O)<|vE hK36<|vF1 O fun a hF=>?_
          apply wp_exit
          rw [show fQ raw 0 p y=⟨[],p,y⟩ from rfl] at hgv
          simp only [List.append_nil] at hgv
          obtain ⟨aA,aC,rfl,_,hRa⟩:=hZ.rc (w0:=w0) (R:=[ZA]) (Nu ..)
          have hA75:Hp w0 (ZA::ZM::ZV::ZS::[row b19 129 [.bool f.typed,.bool f.cased,.bool f.named,.bool f.valued,.bool f.args,.bool f.source]]::[row b12 31 ([.int .i64 ((k:Nat):Int),.int .i64 (i64 n),.int .i64 (i64 cl),aj typ,aj cas,aj nam,.int .i64 vb.v.k,.int .i64 vb.v.n,aj vb.v.t,.slice vb.sA vb.v.s.length vb.sC,.slice aA ws.length aC,.slice bA src.length bC]++dc (List.replicate 32 0))]::[row rb 152 [.slice A0 raw.length c0,.int .i64 (p:Nat),.int .i64 (y:Nat)]]::X::[row b1 31 noEA.cells]::R) w53:=hpO 9 [0,1,4,5,6,7,2,3,8] hA52 rfl
          exact hJ5 _ _ ws aA aC ZA ZM n1 q1 z1 p y (by rw [hb]; exact hgn) hgv ⟨hRa,hZ⟩ has ag hpm (hF.keep [0,2,4,5,6] rfl) hA75
       rcases tf f.valued with hb | hb
       ·refine au hF O hb ?_
        apply wp_skip
        exact hJ4 _ _ ⟨noVal,none,0⟩ [] p7 y7 (by rw [hb]; rfl) ⟨nI,Buf.nil _ _⟩ hp7 (hF.keep [0,2,4,5,6] rfl) (Hp.nil hA)
       ·refine aG hF O hb ?_
        refine wp_region_lit ?_
        refine vR hF<|vX O fun a hF=>?_
        have hA76:Hp w0 ([row rb 152 [.slice A0 raw.length c0,.int .i64 (p7:Nat),.int .i64 (y7:Nat)]]::X::ZS::[row b19 129 [.bool f.typed,.bool f.cased,.bool f.named,.bool f.valued,.bool f.args,.bool f.source]]::[row b12 31 ([.int .i64 ((k:Nat):Int),.int .i64 (i64 n),.int .i64 (i64 cl),aj typ,aj cas,aj nam,.int .i64 0,.int .i64 0,aj [],.slice none 0 0,.slice none 0 0,.slice bA src.length bC]++dc (List.replicate 32 0))]::[row b1 31 noEA.cells]::R) x:=hpO 6 [3,4,0,1,2,5] hA rfl
        refine ax O (fun K hK=>ay hF O ae Be rfl rfl ?_)
        with_reducible refine (rJ w0 _ (ZS::[row b19 129 [.bool f.typed,.bool f.cased,.bool f.named,.bool f.valued,.bool f.args,.bool f.source]]::[row b12 31 ([.int .i64 ((k:Nat):Int),.int .i64 (i64 n),.int .i64 (i64 cl),aj typ,aj cas,aj nam,.int .i64 0,.int .i64 0,aj [],.slice none 0 0,.slice none 0 0,.slice bA src.length bC]++dc (List.replicate 32 0))]::[row b1 31 noEA.cells]::R) rb A0 raw c0 p7 y7 X hO hA76 hp7 ag).mono ?_
        rintro e' w77 ⟨va,Zt,rfl,hva,hvo,hpt,hA78⟩
        refine ⟨_,rfl,fun a hF=>hK _ _ ?_⟩
        refine vR hF<|vX O<|vV O (aN (v:= .agg ([.int .i64 va.v.k,.int .i64 va.v.n,aj va.v.t,.slice va.sA va.v.s.length va.sC]).toArray) rfl rfl rfl)<|vV O (aN (v:= .int .i64 ((cu raw p7 y7).y:Nat)) O O O)<|vV O (yf 6 O NE O nD O) fun a hF=>?_
        refine ax O (fun K hK=>lN (new:=[.int .i64 va.v.k,.int .i64 va.v.n,aj va.v.t,.slice va.sA va.v.s.length va.sC]) hF O O hA78 O O 5 O (by rw [List.length_append]; exact Nat.le_add_right_of_le ai) (by simp [Value.oneCell']) nD (fun w79 hA80=>hK _ _ ?_))
        replace hA80:Hp w0 (Zt::[row rb 152 [.slice A0 raw.length c0,.int .i64 ((cu raw p7 y7).p:Nat),.int .i64 ((cu raw p7 y7).y:Nat)]]::X::ZS::[row b19 129 [.bool f.typed,.bool f.cased,.bool f.named,.bool f.valued,.bool f.args,.bool f.source]]::[row b12 31 ([.int .i64 ((k:Nat):Int),.int .i64 (i64 n),.int .i64 (i64 cl),aj typ,aj cas,aj nam,.int .i64 va.v.k,.int .i64 va.v.n,aj va.v.t,.slice va.sA va.v.s.length va.sC,.slice none 0 0,.slice bA src.length bC]++dc (List.replicate 32 0))]::[row b1 31 noEA.cells]::R) w79:=hA80
        refine aH ?_
        have hA81:Hp w0 (Zt::ZS::[row b19 129 [.bool f.typed,.bool f.cased,.bool f.named,.bool f.valued,.bool f.args,.bool f.source]]::[row b12 31 ([.int .i64 ((k:Nat):Int),.int .i64 (i64 n),.int .i64 (i64 cl),aj typ,aj cas,aj nam,.int .i64 va.v.k,.int .i64 va.v.n,aj va.v.t,.slice va.sA va.v.s.length va.sC,.slice none 0 0,.slice bA src.length bC]++dc (List.replicate 32 0))]::[row rb 152 [.slice A0 raw.length c0,.int .i64 ((cu raw p7 y7).p:Nat),.int .i64 ((cu raw p7 y7).y:Nat)]]::X::[row b1 31 noEA.cells]::R) w79:=hpO 7 [0,3,4,5,1,2,6] hA80 rfl
        exact hJ4 _ _ va Zt _ _ (by rw [hb,hva]; rfl) hvo hpt (hF.keep [0,2,4,5,6] rfl) hA81
      rcases tf f.source with hb | hb
      ·refine au hF O hb ?_
       apply wp_skip
       exact hJ3 _ _ [] none 0 [] p6 y6 (by rw [hb]; rfl) ⟨Rc.nil,Buf.nil _ _⟩ (Nl _) hp6 (hF.keep [0,2,4,5,6] rfl) (Hp.nil hA)
      ·refine aG hF O hb ?_
       refine wp_region_lit ?_
       refine vR hF<|vX O fun a hF=>?_
       have hA82:Hp w0 ([row rb 152 [.slice A0 raw.length c0,.int .i64 (p6:Nat),.int .i64 (y6:Nat)]]::X::[row b19 129 [.bool f.typed,.bool f.cased,.bool f.named,.bool f.valued,.bool f.args,.bool f.source]]::[row b12 31 ([.int .i64 ((k:Nat):Int),.int .i64 (i64 n),.int .i64 (i64 cl),aj typ,aj cas,aj nam,.int .i64 0,.int .i64 0,aj [],.slice none 0 0,.slice none 0 0,.slice none 0 0]++dc (List.replicate 32 0))]::[row b1 31 noEA.cells]::R) x:=hpO 5 [2,3,0,1,4] hA rfl
       refine ax O (fun K hK=>ay hF O ae I4 rfl rfl ?_)
       with_reducible refine (EM w0 _ ([row b19 129 [.bool f.typed,.bool f.cased,.bool f.named,.bool f.valued,.bool f.args,.bool f.source]]::[row b12 31 ([.int .i64 ((k:Nat):Int),.int .i64 (i64 n),.int .i64 (i64 cl),aj typ,aj cas,aj nam,.int .i64 0,.int .i64 0,aj [],.slice none 0 0,.slice none 0 0,.slice none 0 0]++dc (List.replicate 32 0))]::[row b1 31 noEA.cells]::R) rb A0 raw c0 p6 y6 X 60000 hO hA82 hp6 ag).mono ?_
       rintro e' w83 ⟨st,pt,yt,At,ct,Zt,rfl,hgt,hpt,hRt,hlt,hA84⟩
       refine ⟨_,rfl,fun a hF=>hK _ _ ?_⟩
       refine vR hF<|vV O (yf 11 rfl NE O dP O) fun a hF=>?_
       refine ax O (fun K hK=>aX hF O O hA84 O O 4 O (by simp) rfl dP (fun w85 hA86=>hK _ _ ?_))
       replace hA86:Hp w0 (Zt::[row rb 152 [.slice A0 raw.length c0,.int .i64 (pt:Nat),.int .i64 (yt:Nat)]]::X::[row b19 129 [.bool f.typed,.bool f.cased,.bool f.named,.bool f.valued,.bool f.args,.bool f.source]]::[row b12 31 ([.int .i64 ((k:Nat):Int),.int .i64 (i64 n),.int .i64 (i64 cl),aj typ,aj cas,aj nam,.int .i64 0,.int .i64 0,aj [],.slice none 0 0,.slice none 0 0,.slice At st.length ct]++dc (List.replicate 32 0))]::[row b1 31 noEA.cells]::R) w85:=hA86
       refine aH ?_
       have hA87:Hp w0 (Zt::[row b19 129 [.bool f.typed,.bool f.cased,.bool f.named,.bool f.valued,.bool f.args,.bool f.source]]::[row b12 31 ([.int .i64 ((k:Nat):Int),.int .i64 (i64 n),.int .i64 (i64 cl),aj typ,aj cas,aj nam,.int .i64 0,.int .i64 0,aj [],.slice none 0 0,.slice none 0 0,.slice At st.length ct]++dc (List.replicate 32 0))]::[row rb 152 [.slice A0 raw.length c0,.int .i64 (pt:Nat),.int .i64 (yt:Nat)]]::X::[row b1 31 noEA.cells]::R) w85:=hpO 6 [0,3,4,1,2,5] hA86 rfl
       exact hJ3 _ _ st At ct Zt pt yt (by rw [hb]; exact hgt) hRt hlt hpt (hF.keep [0,2,4,5,6] rfl) hA87
     rcases tf f.named with hb | hb
     ·refine au hF O hb ?_
      apply wp_skip
      exact hJ2 _ _ [] p5 y5 (by rw [hb]; rfl) hp5 (hF.keep [0,2,4,5,6] rfl) hA
     ·refine aG hF O hb ?_
      refine wp_region_lit ?_
      refine vR hF<|vX O fun a hF=>?_
      have hA88:Hp w0 ([row rb 152 [.slice A0 raw.length c0,.int .i64 (p5:Nat),.int .i64 (y5:Nat)]]::X::[row b19 129 [.bool f.typed,.bool f.cased,.bool f.named,.bool f.valued,.bool f.args,.bool f.source]]::[row b12 31 ([.int .i64 ((k:Nat):Int),.int .i64 (i64 n),.int .i64 (i64 cl),aj typ,aj cas,aj [],.int .i64 0,.int .i64 0,aj [],.slice none 0 0,.slice none 0 0,.slice none 0 0]++dc (List.replicate 32 0))]::[row b1 31 noEA.cells]::R) x:=hpO 5 [2,3,0,1,4] hA rfl
      refine ax O (fun K hK=>ay hF O ae I5 rfl rfl ?_)
      with_reducible refine (qx w0 _ ([row b19 129 [.bool f.typed,.bool f.cased,.bool f.named,.bool f.valued,.bool f.args,.bool f.source]]::[row b12 31 ([.int .i64 ((k:Nat):Int),.int .i64 (i64 n),.int .i64 (i64 cl),aj typ,aj cas,aj [],.int .i64 0,.int .i64 0,aj [],.slice none 0 0,.slice none 0 0,.slice none 0 0]++dc (List.replicate 32 0))]::[row b1 31 noEA.cells]::R) rb A0 raw c0 p5 y5 X 64 hO hA88 hp5 ag).mono ?_
      rintro e' w89 ⟨st,pt,yt,rfl,hgt,hpt,hA90⟩
      refine ⟨_,rfl,fun a hF=>hK _ _ ?_⟩
      refine vR hF<|vV O (yf 5 O NE O uB O) fun a hF=>?_
      refine ax O (fun K hK=>aX hF O O hA90 O O 3 O (by simp) rfl uB (fun w91 hA92=>hK _ _ ?_))
      replace hA92:Hp w0 ([row rb 152 [.slice A0 raw.length c0,.int .i64 (pt:Nat),.int .i64 (yt:Nat)]]::X::[row b19 129 [.bool f.typed,.bool f.cased,.bool f.named,.bool f.valued,.bool f.args,.bool f.source]]::[row b12 31 ([.int .i64 ((k:Nat):Int),.int .i64 (i64 n),.int .i64 (i64 cl),aj typ,aj cas,aj st,.int .i64 0,.int .i64 0,aj [],.slice none 0 0,.slice none 0 0,.slice none 0 0]++dc (List.replicate 32 0))]::[row b1 31 noEA.cells]::R) w91:=hA92
      refine aH ?_
      have hA93:Hp w0 ([row b19 129 [.bool f.typed,.bool f.cased,.bool f.named,.bool f.valued,.bool f.args,.bool f.source]]::[row b12 31 ([.int .i64 ((k:Nat):Int),.int .i64 (i64 n),.int .i64 (i64 cl),aj typ,aj cas,aj st,.int .i64 0,.int .i64 0,aj [],.slice none 0 0,.slice none 0 0,.slice none 0 0]++dc (List.replicate 32 0))]::[row rb 152 [.slice A0 raw.length c0,.int .i64 (pt:Nat),.int .i64 (yt:Nat)]]::X::[row b1 31 noEA.cells]::R) w91:=hpO 5 [2,3,0,1,4] hA92 rfl
      exact hJ2 _ _ st pt yt (by rw [hb]; exact hgt) hpt (hF.keep [0,2,4,5,6] rfl) hA93
    rcases tf f.typed with hb | hb
    ·refine au hF O hb ?_
     apply wp_skip
     exact hJ1 _ _ [] p4 y4 (by rw [hb]; rfl) hp4 (hF.keep [0,2,4,5,6] rfl) hA
    ·refine aG hF O hb ?_
     refine wp_region_lit ?_
     refine vR hF<|vX O fun a hF=>?_
     have hA94:Hp w0 ([row rb 152 [.slice A0 raw.length c0,.int .i64 (p4:Nat),.int .i64 (y4:Nat)]]::X::[row b19 129 [.bool f.typed,.bool f.cased,.bool f.named,.bool f.valued,.bool f.args,.bool f.source]]::[row b12 31 ([.int .i64 ((k:Nat):Int),.int .i64 (i64 n),.int .i64 (i64 cl),aj [],aj cas,aj [],.int .i64 0,.int .i64 0,aj [],.slice none 0 0,.slice none 0 0,.slice none 0 0]++dc (List.replicate 32 0))]::[row b1 31 noEA.cells]::R) x:=hpO 5 [2,3,0,1,4] hA rfl
     refine ax O (fun K hK=>ay hF O ae I5 rfl rfl ?_)
     with_reducible refine (qx w0 _ ([row b19 129 [.bool f.typed,.bool f.cased,.bool f.named,.bool f.valued,.bool f.args,.bool f.source]]::[row b12 31 ([.int .i64 ((k:Nat):Int),.int .i64 (i64 n),.int .i64 (i64 cl),aj [],aj cas,aj [],.int .i64 0,.int .i64 0,aj [],.slice none 0 0,.slice none 0 0,.slice none 0 0]++dc (List.replicate 32 0))]::[row b1 31 noEA.cells]::R) rb A0 raw c0 p4 y4 X 64 hO hA94 hp4 ag).mono ?_
     rintro e' w95 ⟨st,pt,yt,rfl,hgt,hpt,hA96⟩
     refine ⟨_,rfl,fun a hF=>hK _ _ ?_⟩
     refine vR hF<|vV O (yf 3 O NE O uB O) fun a hF=>?_
     refine ax O (fun K hK=>aX hF O O hA96 O O 3 O (by simp) rfl uB (fun w97 hA98=>hK _ _ ?_))
     replace hA98:Hp w0 ([row rb 152 [.slice A0 raw.length c0,.int .i64 (pt:Nat),.int .i64 (yt:Nat)]]::X::[row b19 129 [.bool f.typed,.bool f.cased,.bool f.named,.bool f.valued,.bool f.args,.bool f.source]]::[row b12 31 ([.int .i64 ((k:Nat):Int),.int .i64 (i64 n),.int .i64 (i64 cl),aj st,aj cas,aj [],.int .i64 0,.int .i64 0,aj [],.slice none 0 0,.slice none 0 0,.slice none 0 0]++dc (List.replicate 32 0))]::[row b1 31 noEA.cells]::R) w97:=hA98
     refine aH ?_
     have hA99:Hp w0 ([row b19 129 [.bool f.typed,.bool f.cased,.bool f.named,.bool f.valued,.bool f.args,.bool f.source]]::[row b12 31 ([.int .i64 ((k:Nat):Int),.int .i64 (i64 n),.int .i64 (i64 cl),aj st,aj cas,aj [],.int .i64 0,.int .i64 0,aj [],.slice none 0 0,.slice none 0 0,.slice none 0 0]++dc (List.replicate 32 0))]::[row rb 152 [.slice A0 raw.length c0,.int .i64 (pt:Nat),.int .i64 (yt:Nat)]]::X::[row b1 31 noEA.cells]::R) w97:=hpO 5 [2,3,0,1,4] hA98 rfl
     exact hJ1 _ _ st pt yt (by rw [hb]; exact hgt) hpt (hF.keep [0,2,4,5,6] rfl) hA99
   rcases tf f.cased with hb | hb
   ·refine au hF O hb ?_
    apply wp_skip
    exact hJ0 _ _ [] p3 y3 (by rw [hb]; rfl) hp3 (hF.keep [0,2,4,5,6] rfl) hA23
   ·refine aG hF O hb ?_
    refine wp_region_lit ?_
    refine vR hF<|vX O fun a hF=>?_
    have hA100:Hp w0 ([row rb 152 [.slice A0 raw.length c0,.int .i64 (p3:Nat),.int .i64 (y3:Nat)]]::X::[row b19 129 [.bool f.typed,.bool f.cased,.bool f.named,.bool f.valued,.bool f.args,.bool f.source]]::[row b12 31 ([.int .i64 ((k:Nat):Int),.int .i64 (i64 n),.int .i64 (i64 cl),aj [],aj [],aj [],.int .i64 0,.int .i64 0,aj [],.slice none 0 0,.slice none 0 0,.slice none 0 0]++dc (List.replicate 32 0))]::[row b1 31 noEA.cells]::R) w22:=hpO 5 [2,3,0,1,4] hA23 rfl
    refine ax O (fun K hK=>ay hF O ae I5 rfl rfl ?_)
    with_reducible refine (qx w0 _ ([row b19 129 [.bool f.typed,.bool f.cased,.bool f.named,.bool f.valued,.bool f.args,.bool f.source]]::[row b12 31 ([.int .i64 ((k:Nat):Int),.int .i64 (i64 n),.int .i64 (i64 cl),aj [],aj [],aj [],.int .i64 0,.int .i64 0,aj [],.slice none 0 0,.slice none 0 0,.slice none 0 0]++dc (List.replicate 32 0))]::[row b1 31 noEA.cells]::R) rb A0 raw c0 p3 y3 X 64 hO hA100 hp3 ag).mono ?_
    rintro e' w101 ⟨st,pt,yt,rfl,hgt,hpt,hA102⟩
    refine ⟨_,rfl,fun a hF=>hK _ _ ?_⟩
    refine vR hF<|vV O (yf 4 O NE O uB O) fun a hF=>?_
    refine ax O (fun K hK=>aX hF O O hA102 O O 3 O (by simp) rfl uB (fun w103 hA104=>hK _ _ ?_))
    replace hA104:Hp w0 ([row rb 152 [.slice A0 raw.length c0,.int .i64 (pt:Nat),.int .i64 (yt:Nat)]]::X::[row b19 129 [.bool f.typed,.bool f.cased,.bool f.named,.bool f.valued,.bool f.args,.bool f.source]]::[row b12 31 ([.int .i64 ((k:Nat):Int),.int .i64 (i64 n),.int .i64 (i64 cl),aj [],aj st,aj [],.int .i64 0,.int .i64 0,aj [],.slice none 0 0,.slice none 0 0,.slice none 0 0]++dc (List.replicate 32 0))]::[row b1 31 noEA.cells]::R) w103:=hA104
    refine aH ?_
    have hA105:Hp w0 ([row b19 129 [.bool f.typed,.bool f.cased,.bool f.named,.bool f.valued,.bool f.args,.bool f.source]]::[row b12 31 ([.int .i64 ((k:Nat):Int),.int .i64 (i64 n),.int .i64 (i64 cl),aj [],aj st,aj [],.int .i64 0,.int .i64 0,aj [],.slice none 0 0,.slice none 0 0,.slice none 0 0]++dc (List.replicate 32 0))]::[row rb 152 [.slice A0 raw.length c0,.int .i64 (pt:Nat),.int .i64 (yt:Nat)]]::X::[row b1 31 noEA.cells]::R) w103:=hpO 5 [2,3,0,1,4] hA104 rfl
    exact hJ0 _ _ st pt yt (by rw [hb]; exact hgt) hpt (hF.keep [0,2,4,5,6] rfl) hA105
  ·refine wp_region_lit ?_
   refine vR hF<|vV O (yf 0 O NE O gZ O)<|vV O (aU O hA16.q O 0 O O jZ) fun a hF=>?_
   refine ax O (fun K hK=>ay hF O ae Ba rfl rfl ?_)
   with_reducible refine (nY ((k:Nat):Int) hop _ hA16).mono ?_
   rintro e' w106 ⟨rfl,hA107⟩
   refine ⟨_,rfl,fun a hF=>hK _ _ ?_⟩
   refine vR hF<|vX O<|vV O (aN (v:= .agg ([.bool false,.bool false,.bool false,.bool false,.bool false,.bool false]).toArray) rfl rfl rfl)<|vV O (aN (v:= .bool false) rfl rfl rfl) fun a hF=>?_
   refine ax O (fun K hK=>dC hF O ae rfl hA107 (Dp) (fun b108 w109 a hb108 hF hA110=>hK _ _ ?_))
   refine ax O (fun K hK=>bG (new:=[.bool false,.bool false,.bool false,.bool false,.bool false,.bool false]) hF O O hA110 O O 0 O O (by simp [Value.oneCell']) kE (fun w111 hA112=>hK _ _ ?_))
   replace hA112:Hp w0 ([row b108 129 [.bool false,.bool false,.bool false,.bool false,.bool false,.bool false]]::[row b12 31 ([.int .i64 ((k:Nat):Int),.int .i64 (i64 n),.int .i64 (i64 cl),aj [],aj [],aj [],.int .i64 0,.int .i64 0,aj [],.slice none 0 0,.slice none 0 0,.slice none 0 0]++dc (List.replicate 32 0))]::[row rb 152 [.slice A0 raw.length c0,.int .i64 (p3:Nat),.int .i64 (y3:Nat)]]::X::[row b1 31 noEA.cells]::R) w111:=hA112
   refine vR hF<|vX O fun a hF=>aH<|hK6 _ _ ?_
   apply wp_seq_k; intro K37 hK37
   refine wS hF fun K38 hK38=>vX O<|vV O (dm O O O)<|vE hK38<|vT1 O<|wT fun K39 hK39=>vV O (eX O vP) fun a hF=>?_
   refine ax O (fun K hK=>bG (new:=noEA.cells) hF O O hA112 O O 4 O O (fun v hv=>jv (e:=noEA) hv) kV (fun w113 hA114=>hK _ _ ?_))
   replace hA114:Hp w0 ([row b108 129 [.bool false,.bool false,.bool false,.bool false,.bool false,.bool false]]::[row b12 31 ([.int .i64 ((k:Nat):Int),.int .i64 (i64 n),.int .i64 (i64 cl),aj [],aj [],aj [],.int .i64 0,.int .i64 0,aj [],.slice none 0 0,.slice none 0 0,.slice none 0 0]++dc (List.replicate 32 0))]::[row rb 152 [.slice A0 raw.length c0,.int .i64 (p3:Nat),.int .i64 (y3:Nat)]]::X::[row b1 31 noEA.cells]::R) w113:=hA114
   refine vR hF<|vX O<|vE hK39 fun a hF=>?_
   apply wp_ret
   have hno:¬ kH raw:=fun hd=>hop (KH hg1 ▸ hd.2.1)
   simp only [Exit.then]
   refine fH hF Tryz.results21 hA114.q O O 4 O vN ?_
   have hA115:Hp w0 (R) w113:=hpS 5 [] [0,1,2,3,4] hA114 rfl
   exact ⟨noEA,[],by rw [show og raw=8 from if_neg hno]; rfl,by rw [show mJ raw=Eo from if_neg hno]; rfl,⟨qo,nJ⟩,Hp.nil hA115⟩
 ·refine aG hF O h0 ?_
  refine wS hF fun K40 hK40=>vV O (eX O vP) fun a hF=>?_
  refine ax O (fun K hK=>bG (new:=noEA.cells) hF O O hA3 O O 0 O O (fun v hv=>jv (e:=noEA) hv) kV (fun w116 hA117=>hK _ _ ?_))
  replace hA117:Hp w0 ([row b1 31 noEA.cells]::R) w116:=hA117
  refine vR hF<|vX O<|vE hK40 fun a hF=>?_
  apply wp_ret
  have hno:¬ kH raw:=fun hd=>Ku h0 hd.1
  simp only [Exit.then]
  refine fH hF Tryz.results21 hA117.q O O 0 O vN ?_
  have hA118:Hp w0 (R) w116:=hpS 1 [] [0] hA117 rfl
  exact ⟨noEA,[],by rw [show og raw=8 from if_neg hno]; rfl,by rw [show mJ raw=Eo from if_neg hno]; rfl,⟨qo,nJ⟩,Hp.nil hA118⟩
theorem CY {w0:World} {R:List Seg} {G:List Seg} (A:Option Addr) (raw:List UInt8) (c:Nat) (w:World) (hT:mO w0) (hR:Rd w0 G A raw) (hG:G⊆R) (hl:raw.length≤9223372036854775807) (hA:Hp w0 R w):Calls Tryz.prog 21 #[.slice A raw.length c] w fun e w'=>∃ (ea:EA) (Z:Seg),e= .returned (.tuple #[.agg ea.cells.toArray,.int .i64 (og raw:Nat)])∧ea.ev=mJ raw∧ea.Ok w0 [Z]∧Hp w0 (Z::R) w' :=
 (ni A raw c w hT hR hG hl hA).mono fun e w' ⟨ea,Z,h1,h2,h3,h4⟩=>⟨ea,Z,h1,h2,h3.1,h4⟩
end Go.Proofs.YtepbmdlgdaedpaaGreatDoor
