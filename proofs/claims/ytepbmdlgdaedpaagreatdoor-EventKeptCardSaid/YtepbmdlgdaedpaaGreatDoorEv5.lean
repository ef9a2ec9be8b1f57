/- An event's bytes: Encode. -/
import Derived.Test.YtepbmdlgdaedpaaGreatDoorEv4
/- An event's bytes: Encode. -/
namespace Go.Proofs.YtepbmdlgdaedpaaGreatDoor
open Go.RowKit Go.Dk
theorem Jd:aK Tryz.prog 45:=⟨_,Tryz.func45,af,af⟩
theorem Bd:aK Tryz.prog 48:=⟨_,Tryz.func48,af,af⟩
theorem Jc:aK Tryz.prog 50:=⟨_,Tryz.func50,af,af⟩
theorem Ba:aK Tryz.prog 72:=⟨_,Tryz.func72,af,af⟩
theorem Jb:aK Tryz.prog 73:=⟨_,Tryz.func73,af,af⟩
theorem I9:aK Tryz.prog 77:=⟨_,Tryz.func77,af,af⟩
theorem I8:aK Tryz.prog 78:=⟨_,Tryz.func78,af,af⟩
theorem I7:aK Tryz.prog 79:=⟨_,Tryz.func79,af,af⟩
theorem nX {w0:World} {R:List Seg} (op:Int) (f:Fld) (hf:f=gU op) (h:jH op) (w:World) (hA:Hp w0 R w):Calls Tryz.prog 72 #[.int .i64 op] w fun e w'=>e= .returned (.tuple #[.agg f.cells.toArray,.bool true])∧Hp w0 R w':=by
 have:=uq op w hA
 rw [sQ,if_pos h,← hf,decide_eq_true h] at this
 exact this
theorem nY {w0:World} {R:List Seg} (op:Int) (h:¬ jH op) (w:World) (hA:Hp w0 R w):Calls Tryz.prog 72 #[.int .i64 op] w fun e w'=>e= .returned (.tuple #[.agg ([.bool false,.bool false,.bool false,.bool false,.bool false,.bool false]:List Value).toArray,.bool false])∧Hp w0 R w':=by
 have:=uq op w hA
 rw [sQ,if_neg h,decide_eq_false h] at this
 exact this
theorem KE {ea:EA} (h:¬ jH ea.op):eY ea.ev=8:=if_pos h
theorem IJ {ea:EA} {f:Fld} (h:jH ea.op) (hf:f=gU ea.op) (hr:¬ dw ea.ev f=0):eY ea.ev=dw ea.ev f:=by
 subst hf
 exact (if_neg (fun hh=>hh h)).trans (if_neg hr)
theorem Ff {ea:EA} {f:Fld} (h:jH ea.op) (hf:f=gU ea.op) (hr:dw ea.ev f=0) (hl:65536<(ea.ev.bytes f).length):eY ea.ev=6:=by
 subst hf
 exact (if_neg (fun hh=>hh h)).trans ((if_pos hr).trans (if_pos hl))
theorem KF {ea:EA} {f:Fld} (h:jH ea.op) (hf:f=gU ea.op) (hr:dw ea.ev f=0) (hl:¬ 65536<(ea.ev.bytes f).length):eY ea.ev=0∧dV ea.ev=ea.ev.bytes f:=by
 subst hf
 have h1:eY ea.ev=0:=(if_neg (fun hh=>hh h)).trans ((if_pos hr).trans (if_neg hl))
 exact ⟨h1,if_pos h1⟩
theorem vT {e:Ev} (h:¬ eY e=0):Buf 5 1 [] (.slice none 0 0) (dV e).length (dc (dV e)):=by
 rw [show dV e=[] from if_neg h]
 exact Buf.nil _ _
theorem Kr {n:Nat} (h:aI .gtr (n:Int) 65536=false):¬ 65536<n:=by simp [aI] at h; omega
theorem Ih {n:Nat} (h:aI .gtr (n:Int) 65536=true):65536<n:=by simp [aI] at h; omega
theorem D7 {ea:EA} {f:Fld} (h:dw ea.ev f=0):dJ ea.ev f=true∧(f.cased=true→dS ea.cas 64=true)∧(f.typed=true→bY ea.typ=true)∧(f.named=true→bY ea.nam=true)∧(0≤ea.num∧ea.num<1099511627776)∧(0≤ea.clk∧ea.clk≤4611686018427387904)∧ea.args.length≤16∧ea.v.v.right=0∧(∀ v∈ea.args.map VA.v,v.right=0)∧ea.src.length≤60000:=by
 unfold dw at h
 split at h
 ·exact absurd h ae
 rename_i hsp
 split at h
 ·exact absurd h ae
 rename_i hnm
 split at h
 ·exact absurd h ae
 rename_i hnum
 split at h
 ·exact absurd h ae
 rename_i hclk
 split at h
 ·exact absurd h ae
 rename_i hargs
 split at h
 rotate_left
 ·rename_i h0; exact absurd h h0
 rename_i hfirst
 split at h
 ·exact absurd h ae
 rename_i hsrc
 have hv:=je hfirst
 have e1:ea.ev.num=ea.num:=rfl
 have e2:ea.ev.clk=ea.clk:=rfl
 have e3:ea.ev.args.length=ea.args.length:=List.length_map ..
 have e4:ea.ev.src.length=ea.src.length:=rfl
 refine ⟨by simpa using hsp,fun hc=>?_,fun hc=>?_,fun hc=>?_,ag,ag,ag,hv _ (Nu ..),fun v hm=>hv v (Nw _ hm),ag⟩
 ·cases hh:dS ea.cas 64 with
  | true=>rfl
  | false=>exact absurd (.inl ⟨hc,hh⟩) hnm
 ·cases hh:bY ea.typ with
  | true=>rfl
  | false=>exact absurd (.inr (.inl ⟨hc,hh⟩)) hnm
 ·cases hh:bY ea.nam with
  | true=>rfl
  | false=>exact absurd (.inr (.inr ⟨hc,hh⟩)) hnm
theorem wB {t:List UInt8} {m:Int} (h0:0≤m) (h1:m≤2147483647) (ht:(t.length:Int)≤m):rZ t m=be 4 t.length++t:=by
 unfold rZ
 rw [wF h0 h1,if_neg ag]
theorem lH {vs:List Val} (h:∀ v∈vs,v.right=0):(vs.flatMap Val.put).length≤vs.length*65667:=by
 induction vs with
 | nil=>exact Nv _
 | cons v vs ih =>
  have h1:=zZ (h v (Nu ..))
  have h2:=ih fun u hu=>h u (Nw _ hu)
  rw [List.flatMap_cons,List.length_append,List.length_cons]
  omega
theorem Cb {l:List VA} (hn:l.length≤16) (h:∀ v∈l.map VA.v,v.right=0) (i:Nat):(((l.take i).map VA.v).flatMap Val.put).length≤1050672:=by
 have h1:=lH (vs:=(l.take i).map VA.v) fun v hv=>h v (by
  obtain ⟨a,ha,rfl⟩:=List.mem_map.1 hv
  exact List.mem_map.2 ⟨a,List.mem_of_mem_take ha,rfl⟩)
 rw [List.length_map,List.length_take] at h1
 omega
theorem Cc {l:List VA} {i:Nat} {va:VA} (h:l[i]? = some va):((l.take (i+1)).map VA.v).flatMap Val.put=((l.take i).map VA.v).flatMap Val.put++va.v.put:=by
 rw [List.take_add_one,h]
 simp
theorem Fa (ea:EA) (f:Fld):ea.ev.bytes f=be 1 ea.op.toNat++be 8 (u64 ea.num)++be 8 (u64 ea.clk)++(if f.cased then nameB ea.cas else [])++(if f.typed then nameB ea.typ else [])++(if f.named then nameB ea.nam else [])++(if f.source then (be 4 ea.src.length++ea.src) else [])++(if f.valued then ea.v.v.put else [])++(if f.args then (be 1 ea.args.length++(ea.args.map VA.v).flatMap Val.put) else [])++ea.eff:=by
 unfold Ev.bytes EA.ev
 simp only [List.length_map]
theorem nZ {w0:World} {R:List Seg} {A:Option Addr} {d:List UInt8} (h:Rc w0 R A (dc d)):Rc w0 R A (vU [d]):=by
 have e:vU [d]=dc d:=by simp [vU]
 rw [e]; exact h
theorem jO (w0 w:World) (R:List Seg) (wb:Nat) (l:List UInt8) (Y:Seg) (pa:Option Addr) (d:List UInt8) (h32:d.length=32) (hD:Rc w0 R pa (vU [d])) (hY:WrS wb l Y) (hA:Hp w0 (Y::R) w) (hl:l.length+d.length<140737500000000):Calls Tryz.prog 78 #[.pointer (some ⟨wb,0,none⟩),.slice pa 1 1] w fun e w'=>∃ Y',e= .returned (.tuple #[])∧WrS wb (l++d) Y'∧Hp w0 (Y'::R) w' :=
 (zo w0 w R wb l Y pa [d] 1 hD (by intro x hx; rw [List.mem_singleton.1 hx]; exact h32) hY hA (by rw [List.flatten_cons,List.flatten_nil,List.append_nil]; exact hl) ai).mono fun e w' ⟨Y',h1,h2,h3⟩=>⟨Y',h1,h2.same (by simp),h3⟩
set_option maxRecDepth 100000 in
theorem II (f:Nat→UInt8) (w:World):(Instr.buildSlice 59 1 #[(0,.agg (dc ((List.range 32).map f)).toArray)]).run Tryz.prog w= .ok (.slice (some ⟨w.heap.size,0,none⟩) 1 1) (w.alloc (.cells (dc ((List.range 32).map f)).toArray 29)):=af
theorem Kq {k:List UInt8} (h:k.length=32):(List.range 32).map (bAt k)=k:=by
 apply List.ext_getElem?
 intro i
 rw [List.getElem?_map]
 rcases Nat.lt_or_ge i 32 with h1 | h1
 ·rw [List.getElem?_range h1,su ag]; rfl
 ·rw [List.getElem?_eq_none (by rw [List.length_range]; omega),List.getElem?_eq_none ag]; rfl
theorem ny {d:List UInt8} (hd:d.length=32) (w:World):(Instr.buildSlice 59 1 #[(0,.agg (dc d).toArray)]).run Tryz.prog w= .ok (.slice (some ⟨w.heap.size,0,none⟩) 1 1) (w.alloc (.cells (dc d).toArray 29)):=by
 have h1:=II (bAt d) w
 rw [Kq hd] at h1
 exact h1
set_option maxRecDepth 100000 in
set_option maxHeartbeats 4000000 in
theorem iY {w0:World} {R:List Seg} {G:List Seg} (ea:EA) (w:World) (hT:mO w0) (hV:ea.Ok w0 G) (hG:G⊆R) (hA:Hp w0 R w):Calls Tryz.prog 20 #[.agg ea.cells.toArray] w fun e w'=>∃ v Z,e= .returned (.tuple #[v,.int .i64 (eY ea.ev:Nat)])∧Buf 5 1 Z v (dV ea.ev).length (dc (dV ea.ev))∧Hp w0 (Z::R) w':=by
 have he32:ea.eff.length=32:=hV.i.2.2.2.2.2
 have hn:=hV.n
 have hsn:=hV.sn
 have hvn:=hV.v.n
 obtain ⟨f,hf⟩:∃ f,f=gU ea.op:=⟨_,rfl⟩
 by_cases hop:jH ea.op
 ·refine aP Tryz.func20 O Tryz.ntmps20 ai (fun a hF=>?_)
  refine wp_seq_k fun K1 hK1=>wp_region_lit ?_
  refine ax O (fun K hK=>ed (cs:=ea.cells) hF O ae rfl hA O (fun b1 w2 a hb1 hF hA3=>hK _ _ ?_))
  refine vR hF<|vX O<|vX O<|vE hK1<|wT fun K2 hK2=>vV O (yf 0 O NE O gZ O)<|vV O (aU O hA3.q O 0 O O jZ) fun a hF=>?_
  refine ax O (fun K hK=>ay hF O ae Ba rfl rfl ?_)
  with_reducible refine (nX ea.op f hf hop _ hA3).mono ?_
  rintro e' w4 ⟨rfl,hA5⟩
  refine ⟨_,rfl,fun a hF=>hK _ _ ?_⟩
  refine vR hF<|vX O<|vV O (aN (v:= .agg ([.bool f.typed,.bool f.cased,.bool f.named,.bool f.valued,.bool f.args,.bool f.source]).toArray) rfl rfl rfl)<|vV O (aN (v:= .bool true) rfl rfl rfl) fun a hF=>?_
  refine ax O (fun K hK=>dC hF O ae rfl hA5 (Dp) (fun b6 w7 a hb6 hF hA8=>hK _ _ ?_))
  refine ax O (fun K hK=>bG (new:=[.bool f.typed,.bool f.cased,.bool f.named,.bool f.valued,.bool f.args,.bool f.source]) hF O O hA8 O O 0 O O (by simp [Value.oneCell']) kE (fun w9 hA10=>hK _ _ ?_))
  replace hA10:Hp w0 ([row b6 129 [.bool f.typed,.bool f.cased,.bool f.named,.bool f.valued,.bool f.args,.bool f.source]]::[row b1 31 ([.int .i64 ea.op,.int .i64 ea.num,.int .i64 ea.clk,aj ea.typ,aj ea.cas,aj ea.nam,.int .i64 ea.v.v.k,.int .i64 ea.v.v.n,aj ea.v.v.t,.slice ea.v.sA ea.v.v.s.length ea.v.sC,.slice ea.aA ea.args.length ea.aC,.slice ea.bA ea.src.length ea.bC]++dc ea.eff)]::R) w9:=hA10
  refine vR hF<|vX O<|vE hK2<|wQ fun K3 hK3=>wT fun K4 hK4=>vX O<|vV O (dm O O O)<|vE hK4<|vF1 O<|wKp hK3<|wQ fun K5 hK5=>wT fun K6 hK6=>vV O (cZ (new:=[.int .i64 ea.op,.int .i64 ea.num,.int .i64 ea.clk,aj ea.typ,aj ea.cas,aj ea.nam,.int .i64 ea.v.v.k,.int .i64 ea.v.v.n,aj ea.v.v.t,.slice ea.v.sA ea.v.v.s.length ea.v.sC,.slice ea.aA ea.args.length ea.aC,.slice ea.bA ea.src.length ea.bC]++dc ea.eff) rfl hA10.q O 1 O Hg (by rw [List.length_append,aW,he32]; exact Nat.le_of_ble_eq_true rfl) (by rw [List.drop_zero]; exact Ny (by rw [List.length_append,aW,he32]; exact Nat.le_of_ble_eq_true rfl))) fun a hF=>?_
  refine vR hF<|vV O (cZ (new:=[.bool f.typed,.bool f.cased,.bool f.named,.bool f.valued,.bool f.args,.bool f.source]) O hA10.q O 0 O jF ai rfl) fun a hF=>?_
  refine ax O (fun K hK=>ay hF O ae Jb rfl rfl ?_)
  with_reducible refine (zx ea f _ hT hV (List.Subset.trans hG (bM (bM (dR)))) hA10).mono ?_
  rintro e' w11 ⟨rfl,hA12⟩
  refine ⟨_,rfl,fun a hF=>hK _ _ ?_⟩
  replace hA12:Hp w0 ([row b6 129 [.bool f.typed,.bool f.cased,.bool f.named,.bool f.valued,.bool f.args,.bool f.source]]::[row b1 31 ([.int .i64 ea.op,.int .i64 ea.num,.int .i64 ea.clk,aj ea.typ,aj ea.cas,aj ea.nam,.int .i64 ea.v.v.k,.int .i64 ea.v.v.n,aj ea.v.v.t,.slice ea.v.sA ea.v.v.s.length ea.v.sC,.slice ea.aA ea.args.length ea.aC,.slice ea.bA ea.src.length ea.bC]++dc ea.eff)]::R) w11:=hA12
  refine vR hF<|vX O<|vE hK6<|wT fun K7 hK7=>vX O<|vV O (aF O O O O O)<|vE hK7 fun a hF=>?_
  rcases tf (aI .neq (((dw ea.ev f:Nat):Int)) (0)) with hr | hr
  ·refine au hF O hr ?_
   have h0:=oV hr
   obtain ⟨hsp,hcas,htyp,hnam,hnum,hclk,hargs,hvr,hvs,hsrc⟩:=D7 h0
   have hopb:1≤ea.op∧ea.op≤5:=hop
   have hops:ea.op=((ea.op.toNat:Nat):Int):=by omega
   apply wp_skip
   refine hK5 _ _ ?_
   refine wp_seq_k fun K8 hK8=>wp_region_lit ?_
   refine ax O (fun K hK=>ay hF O ae Jd rfl rfl ?_)
   with_reducible refine (zl w0 _ _ hA12).mono ?_
   rintro e' w13 ⟨wb,Y,rfl,hY,hA14⟩
   refine ⟨_,rfl,fun a hF=>hK _ _ ?_⟩
   replace hA14:Hp w0 (Y::[row b6 129 [.bool f.typed,.bool f.cased,.bool f.named,.bool f.valued,.bool f.args,.bool f.source]]::[row b1 31 ([.int .i64 ea.op,.int .i64 ea.num,.int .i64 ea.clk,aj ea.typ,aj ea.cas,aj ea.nam,.int .i64 ea.v.v.k,.int .i64 ea.v.v.n,aj ea.v.v.t,.slice ea.v.sA ea.v.v.s.length ea.v.sC,.slice ea.aA ea.args.length ea.aC,.slice ea.bA ea.src.length ea.bC]++dc ea.eff)]::R) w13:=hA14
   refine vR hF<|vX O<|vE hK8<|wT fun K9 hK9=>vX O<|vV O (yf 0 O NE O gZ O)<|vV O (aU O hA14.q O 2 O O jZ)<|vV O (bW O NC NI O (show IntKind.u8.wrap (ea.op)=ea.op by rw [IntKind.wrap_u8]; omega)) fun a hF=>?_
   refine ax O (fun K hK=>ay hF O ae A8 rfl rfl ?_)
   with_reducible refine (fP w0 _ ([row b6 129 [.bool f.typed,.bool f.cased,.bool f.named,.bool f.valued,.bool f.args,.bool f.source]]::[row b1 31 ([.int .i64 ea.op,.int .i64 ea.num,.int .i64 ea.clk,aj ea.typ,aj ea.cas,aj ea.nam,.int .i64 ea.v.v.k,.int .i64 ea.v.v.n,aj ea.v.v.t,.slice ea.v.sA ea.v.v.s.length ea.v.sC,.slice ea.aA ea.args.length ea.aC,.slice ea.bA ea.src.length ea.bC]++dc ea.eff)]::R) wb _ _ ea.op.toNat (by show ea.op.toNat<256; omega) ea.op hops hY hA14 ae).mono ?_
   rintro e' w15 ⟨Y1,rfl,hY,hA16⟩
   refine ⟨_,rfl,fun a hF=>hK _ _ ?_⟩
   replace hA16:Hp w0 (Y1::[row b6 129 [.bool f.typed,.bool f.cased,.bool f.named,.bool f.valued,.bool f.args,.bool f.source]]::[row b1 31 ([.int .i64 ea.op,.int .i64 ea.num,.int .i64 ea.clk,aj ea.typ,aj ea.cas,aj ea.nam,.int .i64 ea.v.v.k,.int .i64 ea.v.v.n,aj ea.v.v.t,.slice ea.v.sA ea.v.v.s.length ea.v.sC,.slice ea.aA ea.args.length ea.aC,.slice ea.bA ea.src.length ea.bC]++dc ea.eff)]::R) w15:=hA16
   rw [List.nil_append] at hY
   refine aH<|hK9 _ _ ?_
   refine wS hF fun K10 hK10=>vX O<|vV O (yf 1 O NE O gZ O)<|vV O (aU O hA16.q O 2 O O jZ)<|vV O (bW O NC NJ O (jE _)) fun a hF=>?_
   refine ax O (fun K hK=>ay hF O ae A7 rfl rfl ?_)
   with_reducible refine (fU w0 _ ([row b6 129 [.bool f.typed,.bool f.cased,.bool f.named,.bool f.valued,.bool f.args,.bool f.source]]::[row b1 31 ([.int .i64 ea.op,.int .i64 ea.num,.int .i64 ea.clk,aj ea.typ,aj ea.cas,aj ea.nam,.int .i64 ea.v.v.k,.int .i64 ea.v.v.n,aj ea.v.v.t,.slice ea.v.sA ea.v.v.s.length ea.v.sC,.slice ea.aA ea.args.length ea.aC,.slice ea.bA ea.src.length ea.bC]++dc ea.eff)]::R) wb _ _ (u64 ea.num) (iQ _) _ O hY hA16 (by simp only [List.length_append,bf]; omega)).mono ?_
   rintro e' w17 ⟨Y2,rfl,hY,hA18⟩
   refine ⟨_,rfl,fun a hF=>hK _ _ ?_⟩
   replace hA18:Hp w0 (Y2::[row b6 129 [.bool f.typed,.bool f.cased,.bool f.named,.bool f.valued,.bool f.args,.bool f.source]]::[row b1 31 ([.int .i64 ea.op,.int .i64 ea.num,.int .i64 ea.clk,aj ea.typ,aj ea.cas,aj ea.nam,.int .i64 ea.v.v.k,.int .i64 ea.v.v.n,aj ea.v.v.t,.slice ea.v.sA ea.v.v.s.length ea.v.sC,.slice ea.aA ea.args.length ea.aC,.slice ea.bA ea.src.length ea.bC]++dc ea.eff)]::R) w17:=hA18
   refine aH<|hK10 _ _ ?_
   refine wS hF fun K11 hK11=>vX O<|vV O (yf 2 O NE O gZ O)<|vV O (aU O hA18.q O 2 O O jZ)<|vV O (bW O NC NJ O (jE _)) fun a hF=>?_
   refine ax O (fun K hK=>ay hF O ae A7 rfl rfl ?_)
   with_reducible refine (fU w0 _ ([row b6 129 [.bool f.typed,.bool f.cased,.bool f.named,.bool f.valued,.bool f.args,.bool f.source]]::[row b1 31 ([.int .i64 ea.op,.int .i64 ea.num,.int .i64 ea.clk,aj ea.typ,aj ea.cas,aj ea.nam,.int .i64 ea.v.v.k,.int .i64 ea.v.v.n,aj ea.v.v.t,.slice ea.v.sA ea.v.v.s.length ea.v.sC,.slice ea.aA ea.args.length ea.aC,.slice ea.bA ea.src.length ea.bC]++dc ea.eff)]::R) wb _ _ (u64 ea.clk) (iQ _) _ O hY hA18 (by simp only [List.length_append,bf]; omega)).mono ?_
   rintro e' w19 ⟨Y3,rfl,hY,hA20⟩
   refine ⟨_,rfl,fun a hF=>hK _ _ ?_⟩
   replace hA20:Hp w0 (Y3::[row b6 129 [.bool f.typed,.bool f.cased,.bool f.named,.bool f.valued,.bool f.args,.bool f.source]]::[row b1 31 ([.int .i64 ea.op,.int .i64 ea.num,.int .i64 ea.clk,aj ea.typ,aj ea.cas,aj ea.nam,.int .i64 ea.v.v.k,.int .i64 ea.v.v.n,aj ea.v.v.t,.slice ea.v.sA ea.v.v.s.length ea.v.sC,.slice ea.aA ea.args.length ea.aC,.slice ea.bA ea.src.length ea.bC]++dc ea.eff)]::R) w19:=hA20
   refine aH<|hK11 _ _ ?_
   apply wp_seq_k; intro K12 hK12
   refine wS hF fun K13 hK13=>vV O (yf 1 O NF O kL O)<|vV O (aU O hA20.q O 1 O O kQ)<|vE hK13 fun a hF=>?_
   have hln:(be 1 ea.op.toNat++be 8 (u64 ea.num)++be 8 (u64 ea.clk)).length≤17:=by simp only [List.length_append,bf]; omega
   have hJ0:∀ (a:Act) (x:World) (Z0:Seg),Fr 99 [(1,.pointer (some ⟨b1,0,none⟩)),(4,.pointer (some ⟨b6,0,none⟩)),(7,.pointer (some ⟨wb,0,none⟩))] a→WrS wb (be 1 ea.op.toNat++be 8 (u64 ea.num)++be 8 (u64 ea.clk)++(if f.cased then nameB ea.cas else [])) Z0→(be 1 ea.op.toNat++be 8 (u64 ea.num)++be 8 (u64 ea.clk)++(if f.cased then nameB ea.cas else [])).length≤83→Hp w0 (Z0::[row b6 129 [.bool f.typed,.bool f.cased,.bool f.named,.bool f.valued,.bool f.args,.bool f.source]]::[row b1 31 ([.int .i64 ea.op,.int .i64 ea.num,.int .i64 ea.clk,aj ea.typ,aj ea.cas,aj ea.nam,.int .i64 ea.v.v.k,.int .i64 ea.v.v.n,aj ea.v.v.t,.slice ea.v.sA ea.v.v.s.length ea.v.sC,.slice ea.aA ea.args.length ea.aC,.slice ea.bA ea.src.length ea.bC]++dc ea.eff)]::R) x→K12 a x:=by
    clear hF
    intro a x Z0 hF hY hln hA
    refine hK12 _ _ ?_
    apply wp_seq_k; intro K14 hK14
    refine wS hF fun K15 hK15=>vV O (yf 0 O NF O kL O)<|vV O (aU O hA.q O 1 O O kQ)<|vE hK15 fun a hF=>?_
    have hJ1:∀ (a:Act) (x:World) (Z1:Seg),Fr 99 [(1,.pointer (some ⟨b1,0,none⟩)),(4,.pointer (some ⟨b6,0,none⟩)),(7,.pointer (some ⟨wb,0,none⟩))] a→WrS wb (be 1 ea.op.toNat++be 8 (u64 ea.num)++be 8 (u64 ea.clk)++(if f.cased then nameB ea.cas else [])++(if f.typed then nameB ea.typ else [])) Z1→(be 1 ea.op.toNat++be 8 (u64 ea.num)++be 8 (u64 ea.clk)++(if f.cased then nameB ea.cas else [])++(if f.typed then nameB ea.typ else [])).length≤149→Hp w0 (Z1::[row b6 129 [.bool f.typed,.bool f.cased,.bool f.named,.bool f.valued,.bool f.args,.bool f.source]]::[row b1 31 ([.int .i64 ea.op,.int .i64 ea.num,.int .i64 ea.clk,aj ea.typ,aj ea.cas,aj ea.nam,.int .i64 ea.v.v.k,.int .i64 ea.v.v.n,aj ea.v.v.t,.slice ea.v.sA ea.v.v.s.length ea.v.sC,.slice ea.aA ea.args.length ea.aC,.slice ea.bA ea.src.length ea.bC]++dc ea.eff)]::R) x→K14 a x:=by
     clear hF
     intro a x Z1 hF hY hln hA
     refine hK14 _ _ ?_
     apply wp_seq_k; intro K16 hK16
     refine wS hF fun K17 hK17=>vV O (yf 2 O NF O kL O)<|vV O (aU O hA.q O 1 O O kQ)<|vE hK17 fun a hF=>?_
     have hJ2:∀ (a:Act) (x:World) (Z2:Seg),Fr 99 [(1,.pointer (some ⟨b1,0,none⟩)),(4,.pointer (some ⟨b6,0,none⟩)),(7,.pointer (some ⟨wb,0,none⟩))] a→WrS wb (be 1 ea.op.toNat++be 8 (u64 ea.num)++be 8 (u64 ea.clk)++(if f.cased then nameB ea.cas else [])++(if f.typed then nameB ea.typ else [])++(if f.named then nameB ea.nam else [])) Z2→(be 1 ea.op.toNat++be 8 (u64 ea.num)++be 8 (u64 ea.clk)++(if f.cased then nameB ea.cas else [])++(if f.typed then nameB ea.typ else [])++(if f.named then nameB ea.nam else [])).length≤215→Hp w0 (Z2::[row b6 129 [.bool f.typed,.bool f.cased,.bool f.named,.bool f.valued,.bool f.args,.bool f.source]]::[row b1 31 ([.int .i64 ea.op,.int .i64 ea.num,.int .i64 ea.clk,aj ea.typ,aj ea.cas,aj ea.nam,.int .i64 ea.v.v.k,.int .i64 ea.v.v.n,aj ea.v.v.t,.slice ea.v.sA ea.v.v.s.length ea.v.sC,.slice ea.aA ea.args.length ea.aC,.slice ea.bA ea.src.length ea.bC]++dc ea.eff)]::R) x→K16 a x:=by
      clear hF
      intro a x Z2 hF hY hln hA
      refine hK16 _ _ ?_
      apply wp_seq_k; intro K18 hK18
      refine wS hF fun K19 hK19=>vV O (yf 5 O NF O kL O)<|vV O (aU O hA.q O 1 O O kQ)<|vE hK19 fun a hF=>?_
      have hJ3:∀ (a:Act) (x:World) (Z3:Seg),Fr 99 [(1,.pointer (some ⟨b1,0,none⟩)),(4,.pointer (some ⟨b6,0,none⟩)),(7,.pointer (some ⟨wb,0,none⟩))] a→WrS wb (be 1 ea.op.toNat++be 8 (u64 ea.num)++be 8 (u64 ea.clk)++(if f.cased then nameB ea.cas else [])++(if f.typed then nameB ea.typ else [])++(if f.named then nameB ea.nam else [])++(if f.source then (be 4 ea.src.length++ea.src) else [])) Z3→(be 1 ea.op.toNat++be 8 (u64 ea.num)++be 8 (u64 ea.clk)++(if f.cased then nameB ea.cas else [])++(if f.typed then nameB ea.typ else [])++(if f.named then nameB ea.nam else [])++(if f.source then (be 4 ea.src.length++ea.src) else [])).length≤60219→Hp w0 (Z3::[row b6 129 [.bool f.typed,.bool f.cased,.bool f.named,.bool f.valued,.bool f.args,.bool f.source]]::[row b1 31 ([.int .i64 ea.op,.int .i64 ea.num,.int .i64 ea.clk,aj ea.typ,aj ea.cas,aj ea.nam,.int .i64 ea.v.v.k,.int .i64 ea.v.v.n,aj ea.v.v.t,.slice ea.v.sA ea.v.v.s.length ea.v.sC,.slice ea.aA ea.args.length ea.aC,.slice ea.bA ea.src.length ea.bC]++dc ea.eff)]::R) x→K18 a x:=by
       clear hF
       intro a x Z3 hF hY hln hA
       refine hK18 _ _ ?_
       apply wp_seq_k; intro K20 hK20
       refine wS hF fun K21 hK21=>vV O (yf 3 O NF O kL O)<|vV O (aU O hA.q O 1 O O kQ)<|vE hK21 fun a hF=>?_
       have hJ4:∀ (a:Act) (x:World) (Z4:Seg),Fr 99 [(1,.pointer (some ⟨b1,0,none⟩)),(4,.pointer (some ⟨b6,0,none⟩)),(7,.pointer (some ⟨wb,0,none⟩))] a→WrS wb (be 1 ea.op.toNat++be 8 (u64 ea.num)++be 8 (u64 ea.clk)++(if f.cased then nameB ea.cas else [])++(if f.typed then nameB ea.typ else [])++(if f.named then nameB ea.nam else [])++(if f.source then (be 4 ea.src.length++ea.src) else [])++(if f.valued then ea.v.v.put else [])) Z4→(be 1 ea.op.toNat++be 8 (u64 ea.num)++be 8 (u64 ea.clk)++(if f.cased then nameB ea.cas else [])++(if f.typed then nameB ea.typ else [])++(if f.named then nameB ea.nam else [])++(if f.source then (be 4 ea.src.length++ea.src) else [])++(if f.valued then ea.v.v.put else [])).length≤125886→Hp w0 (Z4::[row b6 129 [.bool f.typed,.bool f.cased,.bool f.named,.bool f.valued,.bool f.args,.bool f.source]]::[row b1 31 ([.int .i64 ea.op,.int .i64 ea.num,.int .i64 ea.clk,aj ea.typ,aj ea.cas,aj ea.nam,.int .i64 ea.v.v.k,.int .i64 ea.v.v.n,aj ea.v.v.t,.slice ea.v.sA ea.v.v.s.length ea.v.sC,.slice ea.aA ea.args.length ea.aC,.slice ea.bA ea.src.length ea.bC]++dc ea.eff)]::R) x→K20 a x:=by
        clear hF
        intro a x Z4 hF hY hln hA
        refine hK20 _ _ ?_
        apply wp_seq_k; intro K22 hK22
        refine wS hF fun K23 hK23=>vV O (yf 4 O NF O kL O)<|vV O (aU O hA.q O 1 O O kQ)<|vE hK23 fun a hF=>?_
        have hJ5:∀ (a:Act) (x:World) (Z5:Seg),Fr 99 [(1,.pointer (some ⟨b1,0,none⟩)),(4,.pointer (some ⟨b6,0,none⟩)),(7,.pointer (some ⟨wb,0,none⟩))] a→WrS wb (be 1 ea.op.toNat++be 8 (u64 ea.num)++be 8 (u64 ea.clk)++(if f.cased then nameB ea.cas else [])++(if f.typed then nameB ea.typ else [])++(if f.named then nameB ea.nam else [])++(if f.source then (be 4 ea.src.length++ea.src) else [])++(if f.valued then ea.v.v.put else [])++(if f.args then (be 1 ea.args.length++(ea.args.map VA.v).flatMap Val.put) else [])) Z5→(be 1 ea.op.toNat++be 8 (u64 ea.num)++be 8 (u64 ea.clk)++(if f.cased then nameB ea.cas else [])++(if f.typed then nameB ea.typ else [])++(if f.named then nameB ea.nam else [])++(if f.source then (be 4 ea.src.length++ea.src) else [])++(if f.valued then ea.v.v.put else [])++(if f.args then (be 1 ea.args.length++(ea.args.map VA.v).flatMap Val.put) else [])).length≤1176559→Hp w0 (Z5::[row b6 129 [.bool f.typed,.bool f.cased,.bool f.named,.bool f.valued,.bool f.args,.bool f.source]]::[row b1 31 ([.int .i64 ea.op,.int .i64 ea.num,.int .i64 ea.clk,aj ea.typ,aj ea.cas,aj ea.nam,.int .i64 ea.v.v.k,.int .i64 ea.v.v.n,aj ea.v.v.t,.slice ea.v.sA ea.v.v.s.length ea.v.sC,.slice ea.aA ea.args.length ea.aC,.slice ea.bA ea.src.length ea.bC]++dc ea.eff)]::R) x→K22 a x:=by
         clear hF
         intro a x Z5 hF hY hln hA
         obtain ⟨l0,hl0⟩:∃ l0,l0=be 1 ea.op.toNat++be 8 (u64 ea.num)++be 8 (u64 ea.clk)++(if f.cased then nameB ea.cas else [])++(if f.typed then nameB ea.typ else [])++(if f.named then nameB ea.nam else [])++(if f.source then (be 4 ea.src.length++ea.src) else [])++(if f.valued then ea.v.v.put else [])++(if f.args then (be 1 ea.args.length++(ea.args.map VA.v).flatMap Val.put) else []):=⟨_,rfl⟩
         rw [← hl0] at hY hln
         refine hK22 _ _ ?_
         refine wS hF fun K24 hK24=>vX O<|vV O (yf 12 rfl NE O zV O)<|vV O (cZ (new:=dc ea.eff) rfl hA.q O 2 O Hm (by rw [List.length_append,aW,he32]; exact Nat.le_of_ble_eq_true rfl) (by show (dc ea.eff).take 32=_; exact Ny (by rw [aW,he32]; exact Nv _))) fun a hF=>?_
         refine ax O (fun K hK=>kG (qs := #[(0,.agg (dc ea.eff).toArray)]) (cells:=(dc ea.eff).toArray) hF O ae rfl hA O (ny he32) (fun b21 w22 a hb21 hF hA23=>hK _ _ ?_))
         have hA24:Hp w0 (Z5::[row b21 29 (dc ea.eff)]::[row b6 129 [.bool f.typed,.bool f.cased,.bool f.named,.bool f.valued,.bool f.args,.bool f.source]]::[row b1 31 ([.int .i64 ea.op,.int .i64 ea.num,.int .i64 ea.clk,aj ea.typ,aj ea.cas,aj ea.nam,.int .i64 ea.v.v.k,.int .i64 ea.v.v.n,aj ea.v.v.t,.slice ea.v.sA ea.v.v.s.length ea.v.sC,.slice ea.aA ea.args.length ea.aC,.slice ea.bA ea.src.length ea.bC]++dc ea.eff)]::R) w22:=hpO 4 [1,0,2,3] hA23 rfl
         refine ax O (fun K hK=>ay hF O ae I8 rfl rfl ?_)
         with_reducible refine (jO w0 _ ([row b21 29 (dc ea.eff)]::[row b6 129 [.bool f.typed,.bool f.cased,.bool f.named,.bool f.valued,.bool f.args,.bool f.source]]::[row b1 31 ([.int .i64 ea.op,.int .i64 ea.num,.int .i64 ea.clk,aj ea.typ,aj ea.cas,aj ea.nam,.int .i64 ea.v.v.k,.int .i64 ea.v.v.n,aj ea.v.v.t,.slice ea.v.sA ea.v.v.s.length ea.v.sC,.slice ea.aA ea.args.length ea.aC,.slice ea.bA ea.src.length ea.bC]++dc ea.eff)]::R) wb _ _ (some ⟨b21,0,none⟩) ea.eff he32 (nZ (Rc.ofRow (i:=0) (off:=0) rfl (by rw [List.drop_zero]; exact List.take_length ..))) hY hA24 (by rw [he32]; omega)).mono ?_
         rintro e' w25 ⟨YD,rfl,hY,hA26⟩
         refine ⟨_,rfl,fun a hF=>hK _ _ ?_⟩
         replace hA26:Hp w0 (YD::[row b21 29 (dc ea.eff)]::[row b6 129 [.bool f.typed,.bool f.cased,.bool f.named,.bool f.valued,.bool f.args,.bool f.source]]::[row b1 31 ([.int .i64 ea.op,.int .i64 ea.num,.int .i64 ea.clk,aj ea.typ,aj ea.cas,aj ea.nam,.int .i64 ea.v.v.k,.int .i64 ea.v.v.n,aj ea.v.v.t,.slice ea.v.sA ea.v.v.s.length ea.v.sC,.slice ea.aA ea.args.length ea.aC,.slice ea.bA ea.src.length ea.bC]++dc ea.eff)]::R) w25:=hA26
         have hBe:ea.ev.bytes f=l0++ea.eff:=by rw [hl0]; exact Fa ea f
         have hLn:(l0++ea.eff).length≤1300000:=by rw [List.length_append,he32]; omega
         refine aH<|hK24 _ _ ?_
         apply wp_seq_k; intro K25 hK25
         refine wS hF fun K26 hK26=>vX O fun a hF=>?_
         refine ax O (fun K hK=>ay hF O ae I7 rfl rfl ?_)
         with_reducible refine (Ky w0 _ ([row b21 29 (dc ea.eff)]::[row b6 129 [.bool f.typed,.bool f.cased,.bool f.named,.bool f.valued,.bool f.args,.bool f.source]]::[row b1 31 ([.int .i64 ea.op,.int .i64 ea.num,.int .i64 ea.clk,aj ea.typ,aj ea.cas,aj ea.nam,.int .i64 ea.v.v.k,.int .i64 ea.v.v.n,aj ea.v.v.t,.slice ea.v.sA ea.v.v.s.length ea.v.sC,.slice ea.aA ea.args.length ea.aC,.slice ea.bA ea.src.length ea.bC]++dc ea.eff)]::R) wb _ _ hY hA26).mono ?_
         rintro e' w29 ⟨rfl,rfl⟩
         refine ⟨_,rfl,fun a hF=>hK _ _ ?_⟩
         refine vR hF<|vV O (aF O O O O O)<|vE hK26 fun a hF=>?_
         rcases tf (aI .gtr ((((l0++ea.eff).length:Nat):Int)) (65536)) with h6 | h6
         ·refine au hF O h6 ?_
          apply wp_skip
          refine hK25 _ _ ?_
          refine wS hF fun K27 hK27=>vX O fun a hF=>?_
          refine ax O (fun K hK=>ay hF O ae Jc rfl rfl ?_)
          with_reducible refine (zq w0 _ ([row b21 29 (dc ea.eff)]::[row b6 129 [.bool f.typed,.bool f.cased,.bool f.named,.bool f.valued,.bool f.args,.bool f.source]]::[row b1 31 ([.int .i64 ea.op,.int .i64 ea.num,.int .i64 ea.clk,aj ea.typ,aj ea.cas,aj ea.nam,.int .i64 ea.v.v.k,.int .i64 ea.v.v.n,aj ea.v.v.t,.slice ea.v.sA ea.v.v.s.length ea.v.sC,.slice ea.aA ea.args.length ea.aC,.slice ea.bA ea.src.length ea.bC]++dc ea.eff)]::R) wb _ _ hY hA26 ag).mono ?_
          rintro e' w30 ⟨vA,ZA,YE,rfl,hZ,hY,hA31⟩
          refine ⟨_,rfl,fun a hF=>hK _ _ ?_⟩
          replace hA31:Hp w0 (ZA::YE::[row b21 29 (dc ea.eff)]::[row b6 129 [.bool f.typed,.bool f.cased,.bool f.named,.bool f.valued,.bool f.args,.bool f.source]]::[row b1 31 ([.int .i64 ea.op,.int .i64 ea.num,.int .i64 ea.clk,aj ea.typ,aj ea.cas,aj ea.nam,.int .i64 ea.v.v.k,.int .i64 ea.v.v.n,aj ea.v.v.t,.slice ea.v.sA ea.v.v.s.length ea.v.sC,.slice ea.aA ea.args.length ea.aC,.slice ea.bA ea.src.length ea.bC]++dc ea.eff)]::R) w30:=hA31
          refine vR hF<|vX O<|vX O<|vE hK27 fun a hF=>?_
          apply wp_ret
          refine gG hF Tryz.results20 O O ?_
          have hA32:Hp w0 (ZA::R) w30:=hpS 5 [0] [1,2,3,4] hA31 rfl
          obtain ⟨heq,heb⟩:=KF hop hf h0 (by rw [hBe]; exact Kr h6)
          rw [hBe] at heb
          exact ⟨_,ZA,by rw [heq]; rfl,by rw [heb]; exact hZ,hA32⟩
         ·refine aG hF O h6 ?_
          refine wS hF fun K28 hK28=>vX O<|vX O<|vE hK28 fun a hF=>?_
          apply wp_ret
          simp only [Exit.then]
          refine gG hF Tryz.results20 O O ?_
          have hA33:Hp w0 (R) w25:=hpS 4 [] [0,1,2,3] hA26 rfl
          have heq:=Ff hop hf h0 (by rw [hBe]; exact Ih h6)
          exact ⟨_,[],by rw [heq] <;> rfl,vT (by rw [heq]; exact by decide),Hp.nil hA33⟩
        rcases tf f.args with hb | hb
        ·refine au hF O hb ?_
         apply wp_skip
         exact hJ5 _ _ _ (hF.keep [1,4,7] rfl) (hY.same (by rw [hb]; exact (List.append_nil _).symm)) (by rw [hb]; exact Nat.le_trans (Nat.le_of_eq (congrArg List.length (List.append_nil _))) ag) hA
        ·refine aG hF O hb ?_
         refine wS hF fun K29 hK29=>vX O<|vV O (yf 10 rfl NE O uF O)<|vV O (aU O hA.q O 2 O O uY)<|vV O (aT O NG O O)<|vV O (bW O NC NI O (show IntKind.u8.wrap ((ea.args.length:Nat):Int)=((ea.args.length:Nat):Int) by rw [IntKind.wrap_u8]; omega)) fun a hF=>?_
         refine ax O (fun K hK=>ay hF O ae A8 rfl rfl ?_)
         with_reducible refine (fP w0 _ ([row b6 129 [.bool f.typed,.bool f.cased,.bool f.named,.bool f.valued,.bool f.args,.bool f.source]]::[row b1 31 ([.int .i64 ea.op,.int .i64 ea.num,.int .i64 ea.clk,aj ea.typ,aj ea.cas,aj ea.nam,.int .i64 ea.v.v.k,.int .i64 ea.v.v.n,aj ea.v.v.t,.slice ea.v.sA ea.v.v.s.length ea.v.sC,.slice ea.aA ea.args.length ea.aC,.slice ea.bA ea.src.length ea.bC]++dc ea.eff)]::R) wb _ _ ea.args.length (by show ea.args.length<256; omega) _ O hY hA ag).mono ?_
         rintro e' w34 ⟨YT,rfl,hY,hA35⟩
         refine ⟨_,rfl,fun a hF=>hK _ _ ?_⟩
         replace hA35:Hp w0 (YT::[row b6 129 [.bool f.typed,.bool f.cased,.bool f.named,.bool f.valued,.bool f.args,.bool f.source]]::[row b1 31 ([.int .i64 ea.op,.int .i64 ea.num,.int .i64 ea.clk,aj ea.typ,aj ea.cas,aj ea.nam,.int .i64 ea.v.v.k,.int .i64 ea.v.v.n,aj ea.v.v.t,.slice ea.v.sA ea.v.v.s.length ea.v.sC,.slice ea.aA ea.args.length ea.aC,.slice ea.bA ea.src.length ea.bC]++dc ea.eff)]::R) w34:=hA35
         refine aH<|hK29 _ _ ?_
         refine wS hF fun K30 hK30=>vV O (yf 10 rfl NE O uF O)<|vV O (aU O hA35.q O 2 O O uY)<|vV O (aT O NG O O)<|vX O<|vE hK30<|wBk fun a hF=>?_
         obtain ⟨l0,hl0⟩:∃ l0,l0=be 1 ea.op.toNat++be 8 (u64 ea.num)++be 8 (u64 ea.clk)++(if f.cased then nameB ea.cas else [])++(if f.typed then nameB ea.typ else [])++(if f.named then nameB ea.nam else [])++(if f.source then (be 4 ea.src.length++ea.src) else [])++(if f.valued then ea.v.v.put else []):=⟨_,rfl⟩
         rw [← hl0] at hY hln
         refine bH (G:=Nat) (fun i a x=>∃ (YV:Seg),i≤ea.args.length∧WrS wb (l0++be 1 ea.args.length++((ea.args.take i).map VA.v).flatMap Val.put) YV∧Fr 99 [(81,.int .i64 (i:Int)),(1,.pointer (some ⟨b1,0,none⟩)),(4,.pointer (some ⟨b6,0,none⟩)),(7,.pointer (some ⟨wb,0,none⟩)),(79,.slice ea.aA ea.args.length ea.aC),(80,.int .i64 ea.args.length)] a∧Hp w0 (YV::[row b6 129 [.bool f.typed,.bool f.cased,.bool f.named,.bool f.valued,.bool f.args,.bool f.source]]::[row b1 31 ([.int .i64 ea.op,.int .i64 ea.num,.int .i64 ea.clk,aj ea.typ,aj ea.cas,aj ea.nam,.int .i64 ea.v.v.k,.int .i64 ea.v.v.n,aj ea.v.v.t,.slice ea.v.sA ea.v.v.s.length ea.v.sC,.slice ea.aA ea.args.length ea.aC,.slice ea.bA ea.src.length ea.bC]++dc ea.eff)]::R) x) (fun i=>ea.args.length-i) 0 (⟨_,Nl _,(hY.same (List.append_nil _).symm),hF.keep [81,1,4,7,79,80] rfl,hA35⟩) ?_
         clear hF
         rintro i a w37 ⟨YV,hi,hY,hF,hA36⟩
         refine wS hF fun K31 hK31=>vV O (aF O O O O O)<|vE hK31<|wQ fun K32 hK32 a hF=>?_
         have hll:(((ea.args.take i).map VA.v).flatMap Val.put).length≤1050672:=Cb hargs hvs i
         by_cases hlt:i<ea.args.length
         ·refine aG hF O (dF ag) ?_
          obtain ⟨va,hp⟩:∃ q,ea.args[i]? = some q:=⟨_,List.getElem?_eq_getElem hlt⟩
          obtain ⟨hat,hle4⟩:=Go.Dk.flat_at (z:=4) (Ws:=ea.args.map VA.cells) (V:=va.cells) (i:=i) (fun V hV=>by obtain ⟨u,_,rfl⟩:=List.mem_map.1 hV; rfl) (by rw [List.getElem?_map,hp]; rfl)
          obtain ⟨b,o,hsA,hc⟩:=hV.rc.ne (i:=i*4) (by have:=lY ea.args; omega)
          rw [hsA] at hF
          have hva:=hV.args va (List.mem_of_getElem? hp)
          have hvan:=hva.n
          apply wp_skip
          refine hK32 _ _ ?_
          apply wp_seq_k; intro K33 hK33
          apply wp_block
          refine wS hF fun K34 hK34=>vV O (aY O NG nD O O i rfl hlt rfl)<|vV O (dK (new:=va.cells) rfl (Hq.sub hA36.q (List.Subset.trans hG (bM (bM (bM (dR)))))) O hc (i*4) hle4 rfl hat Ho) fun a hF=>?_
          refine ax O (fun K hK=>dC hF O ae rfl hA36 (zQ) (fun b38 w39 a hb38 hF hA40=>hK _ _ ?_))
          refine ax O (fun K hK=>bG (new:=[.int .i64 va.v.k,.int .i64 va.v.n,aj va.v.t,.slice va.sA va.v.s.length va.sC]) hF O O hA40 O O 0 O O (by simp [Value.oneCell']) nD (fun w41 hA42=>hK _ _ ?_))
          replace hA42:Hp w0 ([row b38 25 [.int .i64 va.v.k,.int .i64 va.v.n,aj va.v.t,.slice va.sA va.v.s.length va.sC]]::YV::[row b6 129 [.bool f.typed,.bool f.cased,.bool f.named,.bool f.valued,.bool f.args,.bool f.source]]::[row b1 31 ([.int .i64 ea.op,.int .i64 ea.num,.int .i64 ea.clk,aj ea.typ,aj ea.cas,aj ea.nam,.int .i64 ea.v.v.k,.int .i64 ea.v.v.n,aj ea.v.v.t,.slice ea.v.sA ea.v.v.s.length ea.v.sC,.slice ea.aA ea.args.length ea.aC,.slice ea.bA ea.src.length ea.bC]++dc ea.eff)]::R) w41:=hA42
          refine aH<|hK34 _ _ ?_
          refine wp_region_lit ?_
          refine vR hF<|vX O<|vV O (cZ (new:=[.int .i64 va.v.k,.int .i64 va.v.n,aj va.v.t,.slice va.sA va.v.s.length va.sC]) O hA42.q O 0 O Ho ai rfl) fun a hF=>?_
          have hA43:Hp w0 (YV::[row b38 25 [.int .i64 va.v.k,.int .i64 va.v.n,aj va.v.t,.slice va.sA va.v.s.length va.sC]]::[row b6 129 [.bool f.typed,.bool f.cased,.bool f.named,.bool f.valued,.bool f.args,.bool f.source]]::[row b1 31 ([.int .i64 ea.op,.int .i64 ea.num,.int .i64 ea.clk,aj ea.typ,aj ea.cas,aj ea.nam,.int .i64 ea.v.v.k,.int .i64 ea.v.v.n,aj ea.v.v.t,.slice ea.v.sA ea.v.v.s.length ea.v.sC,.slice ea.aA ea.args.length ea.aC,.slice ea.bA ea.src.length ea.bC]++dc ea.eff)]::R) w41:=hpO 4 [1,0,2,3] hA42 rfl
          refine ax O (fun K hK=>ay hF O ae Bd rfl rfl ?_)
          with_reducible refine (zA wb _ _ va _ hva (List.Subset.trans hG (bM (bM (bM (dR))))) hY hA43 (by simp only [List.length_append,bf]; omega)).mono ?_
          rintro e' w44 ⟨YW,rfl,hY,hA45⟩
          refine ⟨_,rfl,fun a hF=>hK _ _ ?_⟩
          replace hA45:Hp w0 (YW::[row b38 25 [.int .i64 va.v.k,.int .i64 va.v.n,aj va.v.t,.slice va.sA va.v.s.length va.sC]]::[row b6 129 [.bool f.typed,.bool f.cased,.bool f.named,.bool f.valued,.bool f.args,.bool f.source]]::[row b1 31 ([.int .i64 ea.op,.int .i64 ea.num,.int .i64 ea.clk,aj ea.typ,aj ea.cas,aj ea.nam,.int .i64 ea.v.v.k,.int .i64 ea.v.v.n,aj ea.v.v.t,.slice ea.v.sA ea.v.v.s.length ea.v.sC,.slice ea.aA ea.args.length ea.aC,.slice ea.bA ea.src.length ea.bC]++dc ea.eff)]::R) w44:=hA45
          refine aH<|hK33 _ _ ?_
          refine wp_region_lit ?_
          refine vR hF<|vV O (bT O O O (Np _ ag))<|vX O fun a hF=>?_
          refine aH ?_
          rw [← hsA] at hF
          have hA46:Hp w0 (YW::[row b6 129 [.bool f.typed,.bool f.cased,.bool f.named,.bool f.valued,.bool f.args,.bool f.source]]::[row b1 31 ([.int .i64 ea.op,.int .i64 ea.num,.int .i64 ea.clk,aj ea.typ,aj ea.cas,aj ea.nam,.int .i64 ea.v.v.k,.int .i64 ea.v.v.n,aj ea.v.v.t,.slice ea.v.sA ea.v.v.s.length ea.v.sC,.slice ea.aA ea.args.length ea.aC,.slice ea.bA ea.src.length ea.bC]++dc ea.eff)]::R) w44:=hpS 4 [0,2,3] [1] hA45 rfl
          exact ⟨i+1,ag,YW,ag,hY.same (by rw [List.append_assoc,← Cc hp]),hF.keep [81,1,4,7,79,80] rfl,hA46⟩
         ·refine au hF O (dE ag) ?_
          obtain rfl:i=ea.args.length:=by omega
          rw [List.take_length,List.append_assoc,hl0] at hY
          rw [hl0] at hln
          apply wp_exit
          exact hJ5 _ _ _ (hF.keep [1,4,7] rfl) (hY.same (by rw [if_pos hb])) (by rw [List.length_append,if_pos hb]; have h9:=lH hvs; rw [List.length_map] at h9; have e:(be 1 ea.args.length++(ea.args.map VA.v).flatMap Val.put).length=1+((ea.args.map VA.v).flatMap Val.put).length:=(by rw [List.length_append,bf]); omega) hA36
       rcases tf f.valued with hb | hb
       ·refine au hF O hb ?_
        apply wp_skip
        exact hJ4 _ _ _ (hF.keep [1,4,7] rfl) (hY.same (by rw [hb]; exact (List.append_nil _).symm)) (by rw [hb]; exact Nat.le_trans (Nat.le_of_eq (congrArg List.length (List.append_nil _))) ag) hA
       ·refine aG hF O hb ?_
        refine wp_region_lit ?_
        refine vR hF<|vX O<|vV O (yf 6 O NE O nD O)<|vV O (cZ (new:=[.int .i64 ea.v.v.k,.int .i64 ea.v.v.n,aj ea.v.v.t,.slice ea.v.sA ea.v.v.s.length ea.v.sC]) O hA.q O 2 O Ho (by rw [List.length_append]; exact Nat.le_add_right_of_le ai) rfl) fun a hF=>?_
        refine ax O (fun K hK=>ay hF O ae Bd rfl rfl ?_)
        with_reducible refine (zA wb _ _ ea.v _ hV.v (List.Subset.trans hG (bM (bM (dR)))) hY hA ag).mono ?_
        rintro e' w47 ⟨YT,rfl,hY,hA48⟩
        refine ⟨_,rfl,fun a hF=>hK _ _ ?_⟩
        replace hA48:Hp w0 (YT::[row b6 129 [.bool f.typed,.bool f.cased,.bool f.named,.bool f.valued,.bool f.args,.bool f.source]]::[row b1 31 ([.int .i64 ea.op,.int .i64 ea.num,.int .i64 ea.clk,aj ea.typ,aj ea.cas,aj ea.nam,.int .i64 ea.v.v.k,.int .i64 ea.v.v.n,aj ea.v.v.t,.slice ea.v.sA ea.v.v.s.length ea.v.sC,.slice ea.aA ea.args.length ea.aC,.slice ea.bA ea.src.length ea.bC]++dc ea.eff)]::R) w47:=hA48
        refine aH ?_
        exact hJ4 _ _ _ (hF.keep [1,4,7] rfl) (hY.same (by rw [if_pos hb])) (by rw [List.length_append,if_pos hb]; have:=zZ hvr; omega) hA48
      rcases tf f.source with hb | hb
      ·refine au hF O hb ?_
       apply wp_skip
       exact hJ3 _ _ _ (hF.keep [1,4,7] rfl) (hY.same (by rw [hb]; exact (List.append_nil _).symm)) (by rw [hb]; exact Nat.le_trans (Nat.le_of_eq (congrArg List.length (List.append_nil _))) ag) hA
      ·refine aG hF O hb ?_
       refine wp_region_lit ?_
       refine vR hF<|vX O<|vV O (yf 11 rfl NE O dP O)<|vV O (aU O hA.q O 2 O O jr) fun a hF=>?_
       refine ax O (fun K hK=>ay hF O ae I9 rfl rfl ?_)
       with_reducible refine (EH w0 _ ([row b6 129 [.bool f.typed,.bool f.cased,.bool f.named,.bool f.valued,.bool f.args,.bool f.source]]::[row b1 31 ([.int .i64 ea.op,.int .i64 ea.num,.int .i64 ea.clk,aj ea.typ,aj ea.cas,aj ea.nam,.int .i64 ea.v.v.k,.int .i64 ea.v.v.n,aj ea.v.v.t,.slice ea.v.sA ea.v.v.s.length ea.v.sC,.slice ea.aA ea.args.length ea.aC,.slice ea.bA ea.src.length ea.bC]++dc ea.eff)]::R) wb _ _ ea.src ea.bA ea.bC (hV.src.mono (List.Subset.trans hG (bM (bM (dR))))) 60000 hY hA ag).mono ?_
       rintro e' w49 ⟨YT,rfl,hY,hA50⟩
       refine ⟨_,rfl,fun a hF=>hK _ _ ?_⟩
       replace hA50:Hp w0 (YT::[row b6 129 [.bool f.typed,.bool f.cased,.bool f.named,.bool f.valued,.bool f.args,.bool f.source]]::[row b1 31 ([.int .i64 ea.op,.int .i64 ea.num,.int .i64 ea.clk,aj ea.typ,aj ea.cas,aj ea.nam,.int .i64 ea.v.v.k,.int .i64 ea.v.v.n,aj ea.v.v.t,.slice ea.v.sA ea.v.v.s.length ea.v.sC,.slice ea.aA ea.args.length ea.aC,.slice ea.bA ea.src.length ea.bC]++dc ea.eff)]::R) w49:=hA50
       rw [wB ae ae ag] at hY
       refine aH ?_
       exact hJ3 _ _ _ (hF.keep [1,4,7] rfl) (hY.same (by rw [if_pos hb])) (by rw [List.length_append,if_pos hb]; have e:(be 4 ea.src.length++ea.src).length=4+ea.src.length:=(by rw [List.length_append,bf]); omega) hA50
     rcases tf f.named with hb | hb
     ·refine au hF O hb ?_
      apply wp_skip
      exact hJ2 _ _ _ (hF.keep [1,4,7] rfl) (hY.same (by rw [hb]; exact (List.append_nil _).symm)) (by rw [hb]; exact Nat.le_trans (Nat.le_of_eq (congrArg List.length (List.append_nil _))) ag) hA
     ·refine aG hF O hb ?_
      refine wp_region_lit ?_
      refine vR hF<|vX O<|vV O (yf 5 O NE O uB O)<|vV O (aU O hA.q O 2 O O uU) fun a hF=>?_
      refine ax O (fun K hK=>ay hF O ae Ja rfl rfl ?_)
      with_reducible refine (jY w0 _ ([row b6 129 [.bool f.typed,.bool f.cased,.bool f.named,.bool f.valued,.bool f.args,.bool f.source]]::[row b1 31 ([.int .i64 ea.op,.int .i64 ea.num,.int .i64 ea.clk,aj ea.typ,aj ea.cas,aj ea.nam,.int .i64 ea.v.v.k,.int .i64 ea.v.v.n,aj ea.v.v.t,.slice ea.v.sA ea.v.v.s.length ea.v.sC,.slice ea.aA ea.args.length ea.aC,.slice ea.bA ea.src.length ea.bC]++dc ea.eff)]::R) wb _ _ ea.nam 64 hY hA (by have:=dZ (hnam hb); omega)).mono ?_
      rintro e' w51 ⟨YT,rfl,hY,hA52⟩
      refine ⟨_,rfl,fun a hF=>hK _ _ ?_⟩
      replace hA52:Hp w0 (YT::[row b6 129 [.bool f.typed,.bool f.cased,.bool f.named,.bool f.valued,.bool f.args,.bool f.source]]::[row b1 31 ([.int .i64 ea.op,.int .i64 ea.num,.int .i64 ea.clk,aj ea.typ,aj ea.cas,aj ea.nam,.int .i64 ea.v.v.k,.int .i64 ea.v.v.n,aj ea.v.v.t,.slice ea.v.sA ea.v.v.s.length ea.v.sC,.slice ea.aA ea.args.length ea.aC,.slice ea.bA ea.src.length ea.bC]++dc ea.eff)]::R) w51:=hA52
      rw [iq ae ae (by have:=dZ (hnam hb); omega)] at hY
      refine aH ?_
      exact hJ2 _ _ _ (hF.keep [1,4,7] rfl) (hY.same (by rw [if_pos hb])) (by rw [List.length_append,if_pos hb]; have:=dZ (hnam hb); rw [gq]; omega) hA52
    rcases tf f.typed with hb | hb
    ·refine au hF O hb ?_
     apply wp_skip
     exact hJ1 _ _ _ (hF.keep [1,4,7] rfl) (hY.same (by rw [hb]; exact (List.append_nil _).symm)) (by rw [hb]; exact Nat.le_trans (Nat.le_of_eq (congrArg List.length (List.append_nil _))) ag) hA
    ·refine aG hF O hb ?_
     refine wp_region_lit ?_
     refine vR hF<|vX O<|vV O (yf 3 O NE O uB O)<|vV O (aU O hA.q O 2 O O uU) fun a hF=>?_
     refine ax O (fun K hK=>ay hF O ae Ja rfl rfl ?_)
     with_reducible refine (jY w0 _ ([row b6 129 [.bool f.typed,.bool f.cased,.bool f.named,.bool f.valued,.bool f.args,.bool f.source]]::[row b1 31 ([.int .i64 ea.op,.int .i64 ea.num,.int .i64 ea.clk,aj ea.typ,aj ea.cas,aj ea.nam,.int .i64 ea.v.v.k,.int .i64 ea.v.v.n,aj ea.v.v.t,.slice ea.v.sA ea.v.v.s.length ea.v.sC,.slice ea.aA ea.args.length ea.aC,.slice ea.bA ea.src.length ea.bC]++dc ea.eff)]::R) wb _ _ ea.typ 64 hY hA (by have:=dZ (htyp hb); omega)).mono ?_
     rintro e' w53 ⟨YT,rfl,hY,hA54⟩
     refine ⟨_,rfl,fun a hF=>hK _ _ ?_⟩
     replace hA54:Hp w0 (YT::[row b6 129 [.bool f.typed,.bool f.cased,.bool f.named,.bool f.valued,.bool f.args,.bool f.source]]::[row b1 31 ([.int .i64 ea.op,.int .i64 ea.num,.int .i64 ea.clk,aj ea.typ,aj ea.cas,aj ea.nam,.int .i64 ea.v.v.k,.int .i64 ea.v.v.n,aj ea.v.v.t,.slice ea.v.sA ea.v.v.s.length ea.v.sC,.slice ea.aA ea.args.length ea.aC,.slice ea.bA ea.src.length ea.bC]++dc ea.eff)]::R) w53:=hA54
     rw [iq ae ae (by have:=dZ (htyp hb); omega)] at hY
     refine aH ?_
     exact hJ1 _ _ _ (hF.keep [1,4,7] rfl) (hY.same (by rw [if_pos hb])) (by rw [List.length_append,if_pos hb]; have:=dZ (htyp hb); rw [gq]; omega) hA54
   rcases tf f.cased with hb | hb
   ·refine au hF O hb ?_
    apply wp_skip
    exact hJ0 _ _ _ (hF.keep [1,4,7] rfl) (hY.same (by rw [hb]; exact (List.append_nil _).symm)) (by rw [hb]; exact Nat.le_trans (Nat.le_of_eq (congrArg List.length (List.append_nil _))) ag) hA20
   ·refine aG hF O hb ?_
    refine wp_region_lit ?_
    refine vR hF<|vX O<|vV O (yf 4 O NE O uB O)<|vV O (aU O hA20.q O 2 O O uU) fun a hF=>?_
    refine ax O (fun K hK=>ay hF O ae Ja rfl rfl ?_)
    with_reducible refine (jY w0 _ ([row b6 129 [.bool f.typed,.bool f.cased,.bool f.named,.bool f.valued,.bool f.args,.bool f.source]]::[row b1 31 ([.int .i64 ea.op,.int .i64 ea.num,.int .i64 ea.clk,aj ea.typ,aj ea.cas,aj ea.nam,.int .i64 ea.v.v.k,.int .i64 ea.v.v.n,aj ea.v.v.t,.slice ea.v.sA ea.v.v.s.length ea.v.sC,.slice ea.aA ea.args.length ea.aC,.slice ea.bA ea.src.length ea.bC]++dc ea.eff)]::R) wb _ _ ea.cas 64 hY hA20 (by have:=kR (hcas hb); omega)).mono ?_
    rintro e' w55 ⟨YT,rfl,hY,hA56⟩
    refine ⟨_,rfl,fun a hF=>hK _ _ ?_⟩
    replace hA56:Hp w0 (YT::[row b6 129 [.bool f.typed,.bool f.cased,.bool f.named,.bool f.valued,.bool f.args,.bool f.source]]::[row b1 31 ([.int .i64 ea.op,.int .i64 ea.num,.int .i64 ea.clk,aj ea.typ,aj ea.cas,aj ea.nam,.int .i64 ea.v.v.k,.int .i64 ea.v.v.n,aj ea.v.v.t,.slice ea.v.sA ea.v.v.s.length ea.v.sC,.slice ea.aA ea.args.length ea.aC,.slice ea.bA ea.src.length ea.bC]++dc ea.eff)]::R) w55:=hA56
    rw [iq ae ae (by have:=kR (hcas hb); omega)] at hY
    refine aH ?_
    exact hJ0 _ _ _ (hF.keep [1,4,7] rfl) (hY.same (by rw [if_pos hb])) (by rw [List.length_append,if_pos hb]; have:=kR (hcas hb); rw [gq]; omega) hA56
  ·refine aG hF O hr ?_
   refine wS hF fun K35 hK35=>vX O<|vX O<|vX O<|vE hK35 fun a hF=>?_
   apply wp_ret
   simp only [Exit.then]
   refine gG hF Tryz.results20 O O ?_
   have hA57:Hp w0 (R) w11:=hpS 2 [] [0,1] hA12 rfl
   have heq:=IJ hop hf (jW hr)
   exact ⟨_,[],by rw [heq] <;> rfl,vT (by rw [heq]; exact jW hr),Hp.nil hA57⟩
 ·refine aP Tryz.func20 O Tryz.ntmps20 ai (fun a hF=>?_)
  refine wp_seq_k fun K36 hK36=>wp_region_lit ?_
  refine ax O (fun K hK=>ed (cs:=ea.cells) hF O ae rfl hA O (fun b58 w59 a hb58 hF hA60=>hK _ _ ?_))
  refine vR hF<|vX O<|vX O<|vE hK36<|wT fun K37 hK37=>vV O (yf 0 O NE O gZ O)<|vV O (aU O hA60.q O 0 O O jZ) fun a hF=>?_
  refine ax O (fun K hK=>ay hF O ae Ba rfl rfl ?_)
  with_reducible refine (nY ea.op hop _ hA60).mono ?_
  rintro e' w61 ⟨rfl,hA62⟩
  refine ⟨_,rfl,fun a hF=>hK _ _ ?_⟩
  refine vR hF<|vX O<|vV O (aN (v:= .agg ([.bool false,.bool false,.bool false,.bool false,.bool false,.bool false]).toArray) rfl rfl rfl)<|vV O (aN (v:= .bool false) rfl rfl rfl) fun a hF=>?_
  refine ax O (fun K hK=>dC hF O ae rfl hA62 (Dp) (fun b63 w64 a hb63 hF hA65=>hK _ _ ?_))
  refine ax O (fun K hK=>bG (new:=[.bool false,.bool false,.bool false,.bool false,.bool false,.bool false]) hF O O hA65 O O 0 O O (by simp [Value.oneCell']) kE (fun w66 hA67=>hK _ _ ?_))
  replace hA67:Hp w0 ([row b63 129 [.bool false,.bool false,.bool false,.bool false,.bool false,.bool false]]::[row b58 31 ([.int .i64 ea.op,.int .i64 ea.num,.int .i64 ea.clk,aj ea.typ,aj ea.cas,aj ea.nam,.int .i64 ea.v.v.k,.int .i64 ea.v.v.n,aj ea.v.v.t,.slice ea.v.sA ea.v.v.s.length ea.v.sC,.slice ea.aA ea.args.length ea.aC,.slice ea.bA ea.src.length ea.bC]++dc ea.eff)]::R) w66:=hA67
  refine vR hF<|vX O<|vE hK37<|wQ fun K38 hK38=>wT fun K39 hK39=>vX O<|vV O (dm O O O)<|vE hK39<|vT1 O<|wT fun K40 hK40=>vX O<|vX O<|vE hK40 fun a hF=>?_
  apply wp_ret
  simp only [Exit.then]
  refine gG hF Tryz.results20 O O ?_
  have hA68:Hp w0 (R) w66:=hpS 2 [] [0,1] hA67 rfl
  have heq:=KE hop
  exact ⟨_,[],by rw [heq] <;> rfl,vT (by rw [heq]; exact by decide),Hp.nil hA68⟩
end Go.Proofs.YtepbmdlgdaedpaaGreatDoor
