/- The radix tree made: put, settle. -/
import Derived.Test.YtpomngkcfbnjoaaGreatDoorSpV
/- The radix tree made: put, settle. -/
set_option maxRecDepth 100000
set_option maxHeartbeats 2000000
namespace Go.Proofs.YtpomngkcfbnjoaaGreatDoor
open Go.RowKit Go.Dk
theorem dR {E:Seg} {G R:List Seg} (h:E∈R) (hG:G⊆R):E::G⊆R:=fun x hx=>by
 rcases List.mem_cons.1 hx with rfl | hx
 ·exact h
 ·exact hG hx
theorem Rx.ins_join {i:Itm} {t:Rx} (hp:bI i.k t.key<t.bit):t.ins i=t.join (.leaf i) (bI i.k t.key):=by
 cases t with
 | leaf j=>exact if_pos hp
 | fork b l r=>exact if_pos hp
theorem Rx.ins_leaf {i j:Itm} (hp:¬ bI i.k j.k<256):(Rx.leaf j).ins i= .leaf i:=if_neg hp
theorem Rx.ins_l {i:Itm} {b:Nat} {l r:Rx} (hp:¬ bI i.k l.key<b) (h0:bK i.k b=0):(Rx.fork b l r).ins i= .fork b (l.ins i) r:=(if_neg hp).trans (if_pos h0)
theorem Rx.ins_r {i:Itm} {b:Nat} {l r:Rx} (hp:¬ bI i.k l.key<b) (h0:¬ bK i.k b=0):(Rx.fork b l r).ins i= .fork b l (r.ins i):=(if_neg hp).trans (if_neg h0)
theorem Rx.join_size (a c:Rx) (p:Nat):(a.join c p).size=a.size+c.size:=by
 unfold Rx.join
 split
 ·show c.size+a.size=_; omega
 ·rfl
theorem Rx.ins_size (i:Itm):∀ t:Rx,(t.ins i).size≤t.size+1
 | .leaf j=>by
  by_cases hp:bI i.k j.k<256
  ·rw [Rx.ins_join (t:= .leaf j) hp,Rx.join_size]; exact TG _
  ·rw [Rx.ins_leaf hp]; exact Nat.le_succ _
 | .fork b l r=>by
  have h1:=Rx.ins_size i l
  have h2:=Rx.ins_size i r
  by_cases hp:bI i.k l.key<b
  ·rw [Rx.ins_join (t:= .fork b l r) hp,Rx.join_size]; exact TG _
  ·by_cases h0:bK i.k b=0
   ·rw [Rx.ins_l hp h0]; show (l.ins i).size+r.size≤l.size+r.size+1; omega
   ·rw [Rx.ins_r hp h0]; show l.size+(r.ins i).size≤l.size+r.size+1; omega
theorem zl {k:List UInt8} {E s:List Value} {p q:Value} (hE:∀ v∈E,v.oneCell'=true) (hs:∀ v∈s,v.oneCell'=true) (hp:p.oneCell'=true) (hq:q.oneCell'=true) (sz b:Int):∀ v∈aC k E sz b p q s,v.oneCell'=true:=fun v hv=>by
 unfold aC at hv
 rcases List.mem_append.1 hv with h | h
 ·exact bz _ v h
 ·rcases List.mem_append.1 h with h | h
  ·exact hE v h
  ·rcases List.mem_append.1 h with h | h
   ·simp only [List.mem_cons,List.not_mem_nil,or_false] at h
    rcases h with rfl | rfl | rfl | rfl
    ·rfl
    ·rfl
    ·exact hp
    ·exact hq
   ·exact hs v h
theorem uj {k:List UInt8} {E s:List Value} (h:NodeL k E s) (j:Nat) (sz b:Int) (p q u:Value):(aC k E sz b p q s).set (65+j) u=dc k++(E++(([.int .i64 sz,.int .i64 b,p,q]++s).set j u)):=by
 unfold aC
 rw [List.set_append,if_neg (by rw [aj,h.k]; omega),List.set_append,if_neg (by rw [aj,h.k,h.e]; omega),aj,h.k,h.e,show 65+j-32-33=j by omega]
theorem xB {k:List UInt8} {E s:List Value} (h:NodeL k E s) (sz b:Int) (p q u:Value):(aC k E sz b p q s).set 67 u=aC k E sz b u q s:=uj h 2 sz b p q u
theorem xA {k:List UInt8} {E s:List Value} (h:NodeL k E s) (sz b:Int) (p q u:Value):(aC k E sz b p q s).set 68 u=aC k E sz b p u s:=uj h 3 sz b p q u
theorem oC {k:List UInt8} {E s:List Value} (h:NodeL k E s) (sz b:Int) (p q:Value) (z:Int):(aC k E sz b p q s).set 65 (.int .i64 z)=aC k E z b p q s:=uj h 0 sz b p q _
theorem oD {k k2:List UInt8} {E s:List Value} (h:NodeL k E s) (h2:k2.length=32) (sz b:Int) (p q:Value):splice (aC k E sz b p q s) 0 (dc k2)=aC k2 E sz b p q s:=by
 unfold splice aC
 rw [List.take_zero,List.nil_append,Nat.zero_add,aj,h2,List.drop_left' (by rw [aj,h.k])]
theorem Fa {k:List UInt8} {E s:List Value} (h:NodeL k E s) (sz b:Int) (p q:Value) (j:Nat):(aC k E sz b p q s).take (69+j)=dc k++(E++([.int .i64 sz,.int .i64 b,p,q]++s.take j)):=by
 unfold aC
 rw [List.take_append,TJ (by rw [aj,h.k]; omega),List.take_append,TJ (by rw [h.e,aj,h.k]; omega),aj,h.k,h.e,show 69+j-32-33=4+j by omega,List.take_append,TJ (by simp)]
 simp
theorem kH {k:List UInt8} {E s s2:List Value} (h:NodeL k E s) (j:Nat) (hj:j+s2.length≤64) (sz b:Int) (p q:Value):splice (aC k E sz b p q s) (69+j) s2=aC k E sz b p q (splice s j s2):=by
 unfold splice
 rw [Fa h,show 69+j+s2.length=65+(4+(j+s2.length)) by omega,mJ h,show ([.int .i64 sz,.int .i64 b,p,q]++s:List Value).drop (4+(j+s2.length))=s.drop (j+s2.length) by rw [← List.drop_drop]; rfl]
 unfold aC
 simp only [List.append_assoc]
def zeros (n:Nat):List Value:=List.replicate n (.int .u8 0)
theorem wF {s s2:List Value} (h:s2.length=s.length):splice s 0 s2=s2:=by
 unfold splice
 rw [List.take_zero,List.nil_append,Nat.zero_add,List.drop_of_length_le ag,List.append_nil]
theorem yQ {s t u:List Value} (h:u.length=s.length):splice (s++t) 0 u=u++t:=by
 unfold splice
 rw [List.take_zero,List.nil_append,Nat.zero_add,List.drop_left' h.symm]
theorem yR {s t u:List Value} {n:Nat} (hn:s.length=n) (h:u.length=t.length):splice (s++t) n u=s++u:=by
 unfold splice
 rw [List.take_left' hn,List.drop_of_length_le (by rw [List.length_append]; omega),List.append_nil]
theorem uZ (a b:Nat) (w:World):(Instr.build 114 #[(0,ptr a),(1,ptr b)]).run Tryz.prog w= .ok (.agg ([ptr a,ptr b]:List Value).toArray) w:=af
theorem KJ (f:Nat→UInt8) (sz b:Int) (g h:Nat) (w:World):(Instr.build 117 #[(0,.agg (dc ((List.range 32).map f)).toArray),(2,.int .i64 sz),(3,.int .i64 b),(4,.agg ([ptr g,ptr h]:List Value).toArray)]).run Tryz.prog w= .ok (.agg (aC ((List.range 32).map f) ent0 sz b (ptr g) (ptr h) (zeros 64)).toArray) w:=af
theorem vk {k:List UInt8} (hk:k.length=32) (sz b:Int) (g h:Nat) (w:World):(Instr.build 117 #[(0,.agg (dc k).toArray),(2,.int .i64 sz),(3,.int .i64 b),(4,.agg ([ptr g,ptr h]:List Value).toArray)]).run Tryz.prog w= .ok (.agg (aC k ent0 sz b (ptr g) (ptr h) (zeros 64)).toArray) w:=by
 have h1:=KJ (bAt k) sz b g h w
 rw [lu hk] at h1
 exact h1
theorem KH (f g:Nat→UInt8) (w:World):(Instr.build 115 #[(0,.agg (dc ((List.range 32).map f)).toArray),(1,.agg (dc ((List.range 32).map g)).toArray)]).run Tryz.prog w= .ok (.agg (dc ((List.range 32).map f)++dc ((List.range 32).map g)).toArray) w:=af
theorem F9 {d e:List UInt8} (hd:d.length=32) (he:e.length=32) (w:World):(Instr.build 115 #[(0,.agg (dc d).toArray),(1,.agg (dc e).toArray)]).run Tryz.prog w= .ok (.agg (dc d++dc e).toArray) w:=by
 have h1:=KH (bAt d) (bAt e) w
 rw [lu hd,lu he] at h1
 exact h1
theorem BD {d e:List UInt8} (hd:d.length=32) (he:e.length=32):(dc d++dc e).length=64:=by rw [List.length_append,aj,aj,hd,he]
theorem BC (d e:List UInt8):∀ v∈dc d++dc e,v.oneCell'=true:=fun v hv=>by
 rcases List.mem_append.1 hv with h | h <;> exact bz _ v h
theorem Ot (b:Nat) (l r:Rx):aN false b l r=zeros 64:=rfl
def QH (q:Bool) (b:Nat) (l r:Rx) (gl gr:Nat):List Value:=aC l.key ent0 ((l.size+r.size:Nat):Int) (b:Int) (ptr gl) (ptr gr) (aN q b l r)
def JoinR (q:Bool) (p:Nat) (ta tb:Rx) (ga gb g:Nat) (Y:Seg):Prop:=bK ta.key p=1∧Y=[row g 117 (QH q p tb ta gb ga)]∨¬ bK ta.key p=1∧Y=[row g 117 (QH q p ta tb ga gb)]
theorem JoinR.tr {w0:World} {q:Bool} {p:Nat} {ta tb:Rx} {ga gb g:Nat} {Y:Seg} {G:List Seg} (h:JoinR q p ta tb ga gb g Y) (hY:∀ x∈Y,∃ Z∈G,x∈Z) (ha:Tr w0 G q ta ga) (hb:Tr w0 G q tb gb):Tr w0 G q (ta.join tb p) g:=by
 unfold Rx.join
 rcases h with ⟨h1,rfl⟩ | ⟨h1,rfl⟩
 ·rw [if_pos h1]
  obtain ⟨Z,hZ,hm⟩:=hY _ (List.mem_singleton.2 rfl)
  exact ⟨gb,ga,Rw.ofMem hZ hm,hb,ha⟩
 ·rw [if_neg h1]
  obtain ⟨Z,hZ,hm⟩:=hY _ (List.mem_singleton.2 rfl)
  exact ⟨ga,gb,Rw.ofMem hZ hm,ha,hb⟩
theorem JoinR.tro {p:Nat} {ta tb:Rx} {q:Bool} {ga gb g:Nat} {Y Ya Yb:Seg} (h:JoinR q p ta tb ga gb g Y) (ha:TrO q ta ga Ya) (hb:TrO q tb gb Yb):∃ Z,TrO q (ta.join tb p) g Z∧(Y++(Ya++Yb)).Perm Z:=by
 unfold Rx.join
 rcases h with ⟨h1,rfl⟩ | ⟨h1,rfl⟩
 ·rw [if_pos h1]
  exact ⟨_,⟨gb,ga,Yb,Ya,rfl,hb,ha⟩,List.Perm.cons _ (show (Ya++Yb).Perm (Yb++Ya) from List.perm_append_comm)⟩
 ·rw [if_neg h1]
  exact ⟨_,⟨ga,gb,Ya,Yb,rfl,ha,hb⟩,.refl _⟩
theorem Ia:isRow Tryz.prog 114 2=true:=af
theorem yX:isRow Tryz.prog 117 133=true:=af
theorem yM:(Tryz.prog.info? 117).map (·.size)=some 133:=af
theorem sU:aG Tryz.prog 54:=⟨_,Tryz.func54,af,af⟩
theorem DK:aG Tryz.prog 55:=⟨_,Tryz.func55,af,af⟩
theorem sQ:aG Tryz.prog 62:=⟨_,Tryz.func62,af,af⟩
theorem sO:aG Tryz.prog 75:=⟨_,Tryz.func75,af,af⟩
theorem yH:bV Tryz.prog 117 (.agg ([.int .u8 0,.int .u8 0,.int .u8 0,.int .u8 0,.int .u8 0,.int .u8 0,.int .u8 0,.int .u8 0,.int .u8 0,.int .u8 0,.int .u8 0,.int .u8 0,.int .u8 0,.int .u8 0,.int .u8 0,.int .u8 0,.int .u8 0,.int .u8 0,.int .u8 0,.int .u8 0,.int .u8 0,.int .u8 0,.int .u8 0,.int .u8 0,.int .u8 0,.int .u8 0,.int .u8 0,.int .u8 0,.int .u8 0,.int .u8 0,.int .u8 0,.int .u8 0,.int .i64 0,.int .u8 0,.int .u8 0,.int .u8 0,.int .u8 0,.int .u8 0,.int .u8 0,.int .u8 0,.int .u8 0,.int .u8 0,.int .u8 0,.int .u8 0,.int .u8 0,.int .u8 0,.int .u8 0,.int .u8 0,.int .u8 0,.int .u8 0,.int .u8 0,.int .u8 0,.int .u8 0,.int .u8 0,.int .u8 0,.int .u8 0,.int .u8 0,.int .u8 0,.int .u8 0,.int .u8 0,.int .u8 0,.int .u8 0,.int .u8 0,.int .u8 0,.int .u8 0,.int .i64 0,.int .i64 0,.pointer none,.pointer none,.int .u8 0,.int .u8 0,.int .u8 0,.int .u8 0,.int .u8 0,.int .u8 0,.int .u8 0,.int .u8 0,.int .u8 0,.int .u8 0,.int .u8 0,.int .u8 0,.int .u8 0,.int .u8 0,.int .u8 0,.int .u8 0,.int .u8 0,.int .u8 0,.int .u8 0,.int .u8 0,.int .u8 0,.int .u8 0,.int .u8 0,.int .u8 0,.int .u8 0,.int .u8 0,.int .u8 0,.int .u8 0,.int .u8 0,.int .u8 0,.int .u8 0,.int .u8 0,.int .u8 0,.int .u8 0,.int .u8 0,.int .u8 0,.int .u8 0,.int .u8 0,.int .u8 0,.int .u8 0,.int .u8 0,.int .u8 0,.int .u8 0,.int .u8 0,.int .u8 0,.int .u8 0,.int .u8 0,.int .u8 0,.int .u8 0,.int .u8 0,.int .u8 0,.int .u8 0,.int .u8 0,.int .u8 0,.int .u8 0,.int .u8 0,.int .u8 0,.int .u8 0,.int .u8 0,.int .u8 0,.int .u8 0,.int .u8 0,.int .u8 0,.int .u8 0]:List Value).toArray):=by unfold bV; kernel_rfl
theorem BV (w0 w:World) (R G:List Seg) (hG:G⊆R) (ta tb:Rx) (hga:ta.Good) (hgb:tb.Good) (ga gb:Nat) (p:Nat) (hpa:p<ta.bit) (hpb:p<tb.bit) (hsz:ta.size+tb.size≤1000000) (hTa:Tr w0 G true ta ga) (hTb:Tr w0 G true tb gb) (gs:Nat) (hSm:Sm w0 G 60 gs 32) (hT:Tab w0) (hA:Hp w0 R w):Calls Tryz.prog 75 #[.pointer (some ⟨ga,0,none⟩),.pointer (some ⟨gb,0,none⟩),.int .i64 (p:Int),.pointer (some ⟨gs,0,none⟩)] w fun e w'=>∃ g Y,e= .returned (.pointer (some ⟨g,0,none⟩))∧JoinR true p ta tb ga gb g Y∧Hp w0 (Y::R) w':=by
 obtain ⟨Ea,pa,qa,sa,hLa,hNa⟩:=Tr.view hga hTa
 obtain ⟨Eb,pb,qb,sb,hLb,hNb⟩:=Tr.view hgb hTb
 have hka:=hga.key
 have hkb:=hgb.key
 have hba:=Rx.bit_le hga
 have hbb:=Rx.bit_le hgb
 have hpp:p<256:=by omega
 refine aJ Tryz.func75 O Tryz.ntmps75 ai (fun a hF=>?_)
 refine wS hF fun K1 hK1=>vX O<|vE hK1<|wQ fun K2 hK2=>wQ fun K3 hK3 a hF=>?_
 by_cases hkz:bK ta.key p=1
 ·refine wp_region_lit ?_
  refine vR hF<|vX O<|vX O<|vV O (yf 0 O Uj O uX O)<|vV O (aQ O (Hq.sub hA.q (List.Subset.trans hG (bu))) O hNa 0 (by rw [aF hLa]; decide) rfl (dV hLa _ _ _ _) vw) fun a hF=>?_
  refine vR hF<|vX O fun a hF=>?_
  refine au O (fun K hK=>ax hF O ae GV rfl rfl ?_)
  with_reducible refine (gQ (w0:=w0) (R:=R) (z:=1) hkz hka hpp hA).mono ?_
  rintro e' w1 ⟨rfl,hA2⟩
  refine ⟨_,rfl,fun a hF=>hK _ _ ?_⟩
  replace hA2:Hp w0 (R) w1:=hA2
  rw [show ((1:Nat):Int)=1 from rfl] at hF
  refine vR hF<|vV O (aH O O O O (gJ ag))<|vE hK3<|vT1 O fun a hF=>?_
  refine wp_region_lit ?_
  refine vR hF<|vX O<|vX O<|vX O<|vX O<|vE hK2<|wQ fun K4 hK4 a hF=>?_
  have hLn:NodeL tb.key ent0 (zeros 64):=⟨hkb,gY,List.length_replicate ..⟩
  refine ak 19 [18,19] [0,1,2,3,4,5,6,7,8,9,10,11,12,13,14,15,16,17,18,19] _ af af (Hq.drew hA2.q) ?_
  have hA3:=Hl.drew hA2
  refine pR hF<|pX O O<|pX O O<|pW O O (fun _=>yf 0 O Uj O uX O)<|pV O O (fun x hx=>aQ O (Hq.sub hx (List.Subset.trans hG (bu))) O hNb 0 (by rw [aF hLb]; decide) rfl (dV hLb _ _ _ _) vw) fun a hF=>?_
  refine pR hF<|pX O O<|pX O O<|pW O O (fun _=>yf 65 rfl Uj O QY O)<|pV O O (fun x hx=>bD O (Hq.sub hx (List.Subset.trans hG (bu))) O hNb 65 (by rw [aF hLb]; decide) rfl (dY hLb _ _ _ _) Bq) fun a hF=>?_
  refine pR hF<|pX O O<|pX O O<|pW O O (fun _=>yf 65 rfl Uj O QY O)<|pV O O (fun x hx=>bD O (Hq.sub hx (List.Subset.trans hG (bu))) O hNa 65 (by rw [aF hLa]; decide) rfl (dY hLa _ _ _ _) Bq) fun a hF=>?_
  refine pR hF<|pW O O (fun _=>bH O O O (show IntKind.i64.wrap (((tb.size:Nat):Int)+((ta.size:Nat):Int))=((tb.size+ta.size:Nat):Int) by rw [TB _ ag]; omega)) fun a hF=>?_
  refine pR hF<|pX O O<|pX O O<|pX O O<|pW O O (fun _=>dS (qs := #[(0,ptr gb),(1,ptr ga)]) O O (uZ _ _))<|pW O O (fun _=>dS (v:= .agg (aC tb.key ent0 ((tb.size+ta.size:Nat):Int) (p:Int) (ptr gb) (ptr ga) (zeros 64)).toArray) (qs := #[(0,.agg (dc tb.key).toArray),(2,.int .i64 ((tb.size+ta.size:Nat):Int)),(3,.int .i64 (p:Int)),(4,.agg ([ptr gb,ptr ga]:List Value).toArray)]) O O (by exact vk hkb _ _ _ _)) fun a hF=>?_
  refine bM O O O (fun K hK=>bC (cs:=aC tb.key ent0 ((tb.size+ta.size:Nat):Int) (p:Int) (ptr gb) (ptr ga) (zeros 64)) hF O ae rfl hA3 O (fun b4 w5 a hb4 hF hA6=>hK _ _ (fun _=>?_) ?_))
  ·exact (qT hA6)
  refine bY hF O O O O ae _ (bJ O O) (fun h=>absurd h ae) (fun a hF=>?_)
  refine aB ?_
  refine hK4 _ _ ?_
  apply wp_seq_k; intro K5 hK5
  refine wS hF fun K6 hK6=>vX O<|vV O (lF O af rfl rfl)<|vE hK6<|vT1 O fun a hF=>?_
  have hsl:(dc (tb.lift 32 (255-p))++dc (ta.lift 32 (255-p))).length=64:=BD (Rx.lift_length _ _ _) (Rx.lift_length _ _ _)
  refine wp_region_lit ?_
  refine vR hF<|vX O<|vX O<|vX O<|vX O fun a hF=>?_
  refine au O (fun K hK=>ax hF O ae xQ rfl rfl ?_)
  with_reducible refine (iy w0 _ ([row b4 117 (aC tb.key ent0 ((tb.size+ta.size:Nat):Int) (p:Int) (ptr gb) (ptr ga) (zeros 64))]::R) _ bu tb.key ent0 (zeros 64) _ p (ptr gb) (ptr ga) hLn b4 (Rw.ofRow (i:=0) rfl) ag hA6).mono ?_
  rintro e' w7 ⟨rfl,hA8⟩
  refine ⟨_,rfl,fun a hF=>hK _ _ ?_⟩
  replace hA8:Hp w0 ([row b4 117 (aC tb.key ent0 ((tb.size+ta.size:Nat):Int) (p:Int) (ptr gb) (ptr ga) (zeros 64))]::R) w7:=hA8
  refine vR hF<|vV O (dm O O O (show IntKind.i64.wrap (((256-p:Nat):Int)-1)=((255-p:Nat):Int) by rw [TB _ ag]; omega)) fun a hF=>?_
  refine au O (fun K hK=>ax hF O ae DL rfl rfl ?_)
  with_reducible refine (kN w0 _ ([row b4 117 (aC tb.key ent0 ((tb.size+ta.size:Nat):Int) (p:Int) (ptr gb) (ptr ga) (zeros 64))]::R) G (List.Subset.trans hG (aA (bu))) tb hgb gb gs 32 (255-p) ag ag hSm hTb hT hA8).mono ?_
  rintro e' w9 ⟨rfl,hA10⟩
  refine ⟨_,rfl,fun a hF=>hK _ _ ?_⟩
  replace hA10:Hp w0 ([row b4 117 (aC tb.key ent0 ((tb.size+ta.size:Nat):Int) (p:Int) (ptr gb) (ptr ga) (zeros 64))]::R) w9:=hA10
  refine vR hF<|vX O<|vX O<|vX O fun a hF=>?_
  refine au O (fun K hK=>ax hF O ae xQ rfl rfl ?_)
  with_reducible refine (iy w0 _ ([row b4 117 (aC tb.key ent0 ((tb.size+ta.size:Nat):Int) (p:Int) (ptr gb) (ptr ga) (zeros 64))]::R) _ bu tb.key ent0 (zeros 64) _ p (ptr gb) (ptr ga) hLn b4 (Rw.ofRow (i:=0) rfl) ag hA10).mono ?_
  rintro e' w11 ⟨rfl,hA12⟩
  refine ⟨_,rfl,fun a hF=>hK _ _ ?_⟩
  replace hA12:Hp w0 ([row b4 117 (aC tb.key ent0 ((tb.size+ta.size:Nat):Int) (p:Int) (ptr gb) (ptr ga) (zeros 64))]::R) w11:=hA12
  refine vR hF<|vV O (dm O O O (show IntKind.i64.wrap (((256-p:Nat):Int)-1)=((255-p:Nat):Int) by rw [TB _ ag]; omega)) fun a hF=>?_
  refine au O (fun K hK=>ax hF O ae DL rfl rfl ?_)
  with_reducible refine (kN w0 _ ([row b4 117 (aC tb.key ent0 ((tb.size+ta.size:Nat):Int) (p:Int) (ptr gb) (ptr ga) (zeros 64))]::R) G (List.Subset.trans hG (aA (bu))) ta hga ga gs 32 (255-p) ag ag hSm hTa hT hA12).mono ?_
  rintro e' w13 ⟨rfl,hA14⟩
  refine ⟨_,rfl,fun a hF=>hK _ _ ?_⟩
  refine vR hF<|vV O (dS (v:= .agg (dc (tb.lift 32 (255-p))++dc (ta.lift 32 (255-p))).toArray) (qs := #[(0,.agg (dc (tb.lift 32 (255-p))).toArray),(1,.agg (dc (ta.lift 32 (255-p))).toArray)]) O O (by exact F9 (Rx.lift_length _ _ _) (Rx.lift_length _ _ _))) fun a hF=>?_
  refine vR hF<|vX O<|vV O (yf 69 rfl Uj O yN O) fun a hF=>?_
  refine au O (fun K hK=>dE (new:=dc (tb.lift 32 (255-p))++dc (ta.lift 32 (255-p))) hF O O hA14 O O 0 O (by rw [hsl,aF hLn]; decide) (BC _ _) (by rw [hsl]; exact yN) (fun w15 hA16=>hK _ _ ?_))
  replace hA16:Hp w0 ([row b4 117 (splice (aC tb.key ent0 ((tb.size+ta.size:Nat):Int) (p:Int) (ptr gb) (ptr ga) (zeros 64)) 69 (dc (tb.lift 32 (255-p))++dc (ta.lift 32 (255-p))))]::R) w15:=hA16
  have hA17:Hp w0 ([row b4 117 (aC tb.key ent0 ((tb.size+ta.size:Nat):Int) (p:Int) (ptr gb) (ptr ga) (dc (tb.lift 32 (255-p))++dc (ta.lift 32 (255-p))))]::R) w15:=by
   rw [← show splice (aC tb.key ent0 ((tb.size+ta.size:Nat):Int) (p:Int) (ptr gb) (ptr ga) (zeros 64)) 69 (dc (tb.lift 32 (255-p))++dc (ta.lift 32 (255-p)))=aC tb.key ent0 ((tb.size+ta.size:Nat):Int) (p:Int) (ptr gb) (ptr ga) (dc (tb.lift 32 (255-p))++dc (ta.lift 32 (255-p))) from ((kH hLn 0 (by rw [hsl]; decide) _ _ _ _).trans (congrArg (aC _ _ _ _ _ _) (wF (by rw [hsl]; exact (List.length_replicate ..).symm))))]
   exact hA16
  refine az<|hK5 _ _ ?_
  refine wS hF fun K7 hK7=>vX O<|vX O<|vE hK7 fun a hF=>?_
  apply wp_ret
  refine aO hF Tryz.results75 O ?_
  exact ⟨b4,_,rfl,.inl ⟨hkz,rfl⟩,hA17⟩
 ·have hkz0:bK ta.key p=0:=by have:=iT ta.key p; omega
  refine wp_region_lit ?_
  refine vR hF<|vX O<|vX O<|vV O (yf 0 O Uj O uX O)<|vV O (aQ O (Hq.sub hA.q (List.Subset.trans hG (bu))) O hNa 0 (by rw [aF hLa]; decide) rfl (dV hLa _ _ _ _) vw) fun a hF=>?_
  refine vR hF<|vX O fun a hF=>?_
  refine au O (fun K hK=>ax hF O ae GV rfl rfl ?_)
  with_reducible refine (gQ (w0:=w0) (R:=R) (z:=0) hkz0 hka hpp hA).mono ?_
  rintro e' w18 ⟨rfl,hA19⟩
  refine ⟨_,rfl,fun a hF=>hK _ _ ?_⟩
  replace hA19:Hp w0 (R) w18:=hA19
  rw [show ((0:Nat):Int)=0 from rfl] at hF
  refine vR hF<|vV O (aH O O O O (fJ ag))<|vE hK3<|vF1 O<|wKp hK2<|wQ fun K8 hK8 a hF=>?_
  have hLn:NodeL ta.key ent0 (zeros 64):=⟨hka,gY,List.length_replicate ..⟩
  refine ak 19 [18,19] [0,1,2,3,4,5,6,7,8,9,10,11,12,13,14,15,16,17,18,19] _ af af (Hq.drew hA19.q) ?_
  have hA20:=Hl.drew hA19
  refine pR hF<|pX O O<|pX O O<|pW O O (fun _=>yf 0 O Uj O uX O)<|pV O O (fun x hx=>aQ O (Hq.sub hx (List.Subset.trans hG (bu))) O hNa 0 (by rw [aF hLa]; decide) rfl (dV hLa _ _ _ _) vw) fun a hF=>?_
  refine pR hF<|pX O O<|pX O O<|pW O O (fun _=>yf 65 rfl Uj O QY O)<|pV O O (fun x hx=>bD O (Hq.sub hx (List.Subset.trans hG (bu))) O hNa 65 (by rw [aF hLa]; decide) rfl (dY hLa _ _ _ _) Bq) fun a hF=>?_
  refine pR hF<|pX O O<|pX O O<|pW O O (fun _=>yf 65 rfl Uj O QY O)<|pV O O (fun x hx=>bD O (Hq.sub hx (List.Subset.trans hG (bu))) O hNb 65 (by rw [aF hLb]; decide) rfl (dY hLb _ _ _ _) Bq) fun a hF=>?_
  refine pR hF<|pW O O (fun _=>bH O O O (show IntKind.i64.wrap (((ta.size:Nat):Int)+((tb.size:Nat):Int))=((ta.size+tb.size:Nat):Int) by rw [TB _ ag]; omega)) fun a hF=>?_
  refine pR hF<|pX O O<|pX O O<|pX O O<|pW O O (fun _=>dS (qs := #[(0,ptr ga),(1,ptr gb)]) O O (uZ _ _))<|pW O O (fun _=>dS (v:= .agg (aC ta.key ent0 ((ta.size+tb.size:Nat):Int) (p:Int) (ptr ga) (ptr gb) (zeros 64)).toArray) (qs := #[(0,.agg (dc ta.key).toArray),(2,.int .i64 ((ta.size+tb.size:Nat):Int)),(3,.int .i64 (p:Int)),(4,.agg ([ptr ga,ptr gb]:List Value).toArray)]) O O (by exact vk hka _ _ _ _)) fun a hF=>?_
  refine bM O O O (fun K hK=>bC (cs:=aC ta.key ent0 ((ta.size+tb.size:Nat):Int) (p:Int) (ptr ga) (ptr gb) (zeros 64)) hF O ae rfl hA20 O (fun b21 w22 a hb21 hF hA23=>hK _ _ (fun _=>?_) ?_))
  ·exact (qT hA23)
  refine bY hF O O O O ae _ (bJ O O) (fun h=>absurd h ae) (fun a hF=>?_)
  refine aB ?_
  refine hK8 _ _ ?_
  apply wp_seq_k; intro K9 hK9
  refine wS hF fun K10 hK10=>vX O<|vV O (lF O af rfl rfl)<|vE hK10<|vT1 O fun a hF=>?_
  have hsl:(dc (ta.lift 32 (255-p))++dc (tb.lift 32 (255-p))).length=64:=BD (Rx.lift_length _ _ _) (Rx.lift_length _ _ _)
  refine wp_region_lit ?_
  refine vR hF<|vX O<|vX O<|vX O<|vX O fun a hF=>?_
  refine au O (fun K hK=>ax hF O ae xQ rfl rfl ?_)
  with_reducible refine (iy w0 _ ([row b21 117 (aC ta.key ent0 ((ta.size+tb.size:Nat):Int) (p:Int) (ptr ga) (ptr gb) (zeros 64))]::R) _ bu ta.key ent0 (zeros 64) _ p (ptr ga) (ptr gb) hLn b21 (Rw.ofRow (i:=0) rfl) ag hA23).mono ?_
  rintro e' w24 ⟨rfl,hA25⟩
  refine ⟨_,rfl,fun a hF=>hK _ _ ?_⟩
  replace hA25:Hp w0 ([row b21 117 (aC ta.key ent0 ((ta.size+tb.size:Nat):Int) (p:Int) (ptr ga) (ptr gb) (zeros 64))]::R) w24:=hA25
  refine vR hF<|vV O (dm O O O (show IntKind.i64.wrap (((256-p:Nat):Int)-1)=((255-p:Nat):Int) by rw [TB _ ag]; omega)) fun a hF=>?_
  refine au O (fun K hK=>ax hF O ae DL rfl rfl ?_)
  with_reducible refine (kN w0 _ ([row b21 117 (aC ta.key ent0 ((ta.size+tb.size:Nat):Int) (p:Int) (ptr ga) (ptr gb) (zeros 64))]::R) G (List.Subset.trans hG (aA (bu))) ta hga ga gs 32 (255-p) ag ag hSm hTa hT hA25).mono ?_
  rintro e' w26 ⟨rfl,hA27⟩
  refine ⟨_,rfl,fun a hF=>hK _ _ ?_⟩
  replace hA27:Hp w0 ([row b21 117 (aC ta.key ent0 ((ta.size+tb.size:Nat):Int) (p:Int) (ptr ga) (ptr gb) (zeros 64))]::R) w26:=hA27
  refine vR hF<|vX O<|vX O<|vX O fun a hF=>?_
  refine au O (fun K hK=>ax hF O ae xQ rfl rfl ?_)
  with_reducible refine (iy w0 _ ([row b21 117 (aC ta.key ent0 ((ta.size+tb.size:Nat):Int) (p:Int) (ptr ga) (ptr gb) (zeros 64))]::R) _ bu ta.key ent0 (zeros 64) _ p (ptr ga) (ptr gb) hLn b21 (Rw.ofRow (i:=0) rfl) ag hA27).mono ?_
  rintro e' w28 ⟨rfl,hA29⟩
  refine ⟨_,rfl,fun a hF=>hK _ _ ?_⟩
  replace hA29:Hp w0 ([row b21 117 (aC ta.key ent0 ((ta.size+tb.size:Nat):Int) (p:Int) (ptr ga) (ptr gb) (zeros 64))]::R) w28:=hA29
  refine vR hF<|vV O (dm O O O (show IntKind.i64.wrap (((256-p:Nat):Int)-1)=((255-p:Nat):Int) by rw [TB _ ag]; omega)) fun a hF=>?_
  refine au O (fun K hK=>ax hF O ae DL rfl rfl ?_)
  with_reducible refine (kN w0 _ ([row b21 117 (aC ta.key ent0 ((ta.size+tb.size:Nat):Int) (p:Int) (ptr ga) (ptr gb) (zeros 64))]::R) G (List.Subset.trans hG (aA (bu))) tb hgb gb gs 32 (255-p) ag ag hSm hTb hT hA29).mono ?_
  rintro e' w30 ⟨rfl,hA31⟩
  refine ⟨_,rfl,fun a hF=>hK _ _ ?_⟩
  refine vR hF<|vV O (dS (v:= .agg (dc (ta.lift 32 (255-p))++dc (tb.lift 32 (255-p))).toArray) (qs := #[(0,.agg (dc (ta.lift 32 (255-p))).toArray),(1,.agg (dc (tb.lift 32 (255-p))).toArray)]) O O (by exact F9 (Rx.lift_length _ _ _) (Rx.lift_length _ _ _))) fun a hF=>?_
  refine vR hF<|vX O<|vV O (yf 69 rfl Uj O yN O) fun a hF=>?_
  refine au O (fun K hK=>dE (new:=dc (ta.lift 32 (255-p))++dc (tb.lift 32 (255-p))) hF O O hA31 O O 0 O (by rw [hsl,aF hLn]; decide) (BC _ _) (by rw [hsl]; exact yN) (fun w32 hA33=>hK _ _ ?_))
  replace hA33:Hp w0 ([row b21 117 (splice (aC ta.key ent0 ((ta.size+tb.size:Nat):Int) (p:Int) (ptr ga) (ptr gb) (zeros 64)) 69 (dc (ta.lift 32 (255-p))++dc (tb.lift 32 (255-p))))]::R) w32:=hA33
  have hA34:Hp w0 ([row b21 117 (aC ta.key ent0 ((ta.size+tb.size:Nat):Int) (p:Int) (ptr ga) (ptr gb) (dc (ta.lift 32 (255-p))++dc (tb.lift 32 (255-p))))]::R) w32:=by
   rw [← show splice (aC ta.key ent0 ((ta.size+tb.size:Nat):Int) (p:Int) (ptr ga) (ptr gb) (zeros 64)) 69 (dc (ta.lift 32 (255-p))++dc (tb.lift 32 (255-p)))=aC ta.key ent0 ((ta.size+tb.size:Nat):Int) (p:Int) (ptr ga) (ptr gb) (dc (ta.lift 32 (255-p))++dc (tb.lift 32 (255-p))) from ((kH hLn 0 (by rw [hsl]; decide) _ _ _ _).trans (congrArg (aC _ _ _ _ _ _) (wF (by rw [hsl]; exact (List.length_replicate ..).symm))))]
   exact hA33
  refine az<|hK9 _ _ ?_
  refine wS hF fun K11 hK11=>vX O<|vX O<|vE hK11 fun a hF=>?_
  apply wp_ret
  refine aO hF Tryz.results75 O ?_
  exact ⟨b21,_,rfl,.inr ⟨hkz,rfl⟩,hA34⟩
theorem BX (w0 w:World) (R G:List Seg) (hG:G⊆R) (ta tb:Rx) (hga:ta.Good) (hgb:tb.Good) (ga gb:Nat) (p:Nat) (hpa:p<ta.bit) (hpb:p<tb.bit) (hsz:ta.size+tb.size≤1000000) (Ea sa:List Value) (pa qa:Value) (hLa:NodeL ta.key Ea sa) (hNa:Rw w0 G ga (aC ta.key Ea (ta.size:Int) (ta.bit:Int) pa qa sa)) (Eb sb:List Value) (pb qb:Value) (hLb:NodeL tb.key Eb sb) (hNb:Rw w0 G gb (aC tb.key Eb (tb.size:Int) (tb.bit:Int) pb qb sb)) (hA:Hp w0 R w):Calls Tryz.prog 75 #[.pointer (some ⟨ga,0,none⟩),.pointer (some ⟨gb,0,none⟩),.int .i64 (p:Int),.pointer none] w fun e w'=>∃ g Y,e= .returned (.pointer (some ⟨g,0,none⟩))∧JoinR false p ta tb ga gb g Y∧Hp w0 (Y::R) w':=by
 have hka:=hga.key
 have hkb:=hgb.key
 have hba:=Rx.bit_le hga
 have hbb:=Rx.bit_le hgb
 have hpp:p<256:=by omega
 refine aJ Tryz.func75 O Tryz.ntmps75 ai (fun a hF=>?_)
 refine wS hF fun K1 hK1=>vX O<|vE hK1<|wQ fun K2 hK2=>wQ fun K3 hK3 a hF=>?_
 by_cases hkz:bK ta.key p=1
 ·refine wp_region_lit ?_
  refine vR hF<|vX O<|vX O<|vV O (yf 0 O Uj O uX O)<|vV O (aQ O (Hq.sub hA.q (List.Subset.trans hG (bu))) O hNa 0 (by rw [aF hLa]; decide) rfl (dV hLa _ _ _ _) vw) fun a hF=>?_
  refine vR hF<|vX O fun a hF=>?_
  refine au O (fun K hK=>ax hF O ae GV rfl rfl ?_)
  with_reducible refine (gQ (w0:=w0) (R:=R) (z:=1) hkz hka hpp hA).mono ?_
  rintro e' w1 ⟨rfl,hA2⟩
  refine ⟨_,rfl,fun a hF=>hK _ _ ?_⟩
  replace hA2:Hp w0 (R) w1:=hA2
  rw [show ((1:Nat):Int)=1 from rfl] at hF
  refine vR hF<|vV O (aH O O O O (gJ ag))<|vE hK3<|vT1 O fun a hF=>?_
  refine wp_region_lit ?_
  refine vR hF<|vX O<|vX O<|vX O<|vX O<|vE hK2<|wQ fun K4 hK4 a hF=>?_
  have hLn:NodeL tb.key ent0 (zeros 64):=⟨hkb,gY,List.length_replicate ..⟩
  refine ak 19 [18,19] [0,1,2,3,4,5,6,7,8,9,10,11,12,13,14,15,16,17,18,19] _ af af (Hq.drew hA2.q) ?_
  have hA3:=Hl.drew hA2
  refine pR hF<|pX O O<|pX O O<|pW O O (fun _=>yf 0 O Uj O uX O)<|pV O O (fun x hx=>aQ O (Hq.sub hx (List.Subset.trans hG (bu))) O hNb 0 (by rw [aF hLb]; decide) rfl (dV hLb _ _ _ _) vw) fun a hF=>?_
  refine pR hF<|pX O O<|pX O O<|pW O O (fun _=>yf 65 rfl Uj O QY O)<|pV O O (fun x hx=>bD O (Hq.sub hx (List.Subset.trans hG (bu))) O hNb 65 (by rw [aF hLb]; decide) rfl (dY hLb _ _ _ _) Bq) fun a hF=>?_
  refine pR hF<|pX O O<|pX O O<|pW O O (fun _=>yf 65 rfl Uj O QY O)<|pV O O (fun x hx=>bD O (Hq.sub hx (List.Subset.trans hG (bu))) O hNa 65 (by rw [aF hLa]; decide) rfl (dY hLa _ _ _ _) Bq) fun a hF=>?_
  refine pR hF<|pW O O (fun _=>bH O O O (show IntKind.i64.wrap (((tb.size:Nat):Int)+((ta.size:Nat):Int))=((tb.size+ta.size:Nat):Int) by rw [TB _ ag]; omega)) fun a hF=>?_
  refine pR hF<|pX O O<|pX O O<|pX O O<|pW O O (fun _=>dS (qs := #[(0,ptr gb),(1,ptr ga)]) O O (uZ _ _))<|pW O O (fun _=>dS (v:= .agg (aC tb.key ent0 ((tb.size+ta.size:Nat):Int) (p:Int) (ptr gb) (ptr ga) (zeros 64)).toArray) (qs := #[(0,.agg (dc tb.key).toArray),(2,.int .i64 ((tb.size+ta.size:Nat):Int)),(3,.int .i64 (p:Int)),(4,.agg ([ptr gb,ptr ga]:List Value).toArray)]) O O (by exact vk hkb _ _ _ _)) fun a hF=>?_
  refine bM O O O (fun K hK=>bC (cs:=aC tb.key ent0 ((tb.size+ta.size:Nat):Int) (p:Int) (ptr gb) (ptr ga) (zeros 64)) hF O ae rfl hA3 O (fun b4 w5 a hb4 hF hA6=>hK _ _ (fun _=>?_) ?_))
  ·exact (qT hA6)
  refine bY hF O O O O ae _ (bJ O O) (fun h=>absurd h ae) (fun a hF=>?_)
  refine aB ?_
  refine hK4 _ _ ?_
  apply wp_seq_k; intro K5 hK5
  refine wS hF fun K6 hK6=>vX O<|vV O (jF O af rfl rfl)<|vE hK6<|vF1 O<|wKp hK5<|wT fun K7 hK7=>vX O<|vX O<|vE hK7 fun a hF=>?_
  apply wp_ret
  refine aO hF Tryz.results75 O ?_
  exact ⟨b4,_,rfl,.inl ⟨hkz,rfl⟩,hA6⟩
 ·have hkz0:bK ta.key p=0:=by have:=iT ta.key p; omega
  refine wp_region_lit ?_
  refine vR hF<|vX O<|vX O<|vV O (yf 0 O Uj O uX O)<|vV O (aQ O (Hq.sub hA.q (List.Subset.trans hG (bu))) O hNa 0 (by rw [aF hLa]; decide) rfl (dV hLa _ _ _ _) vw) fun a hF=>?_
  refine vR hF<|vX O fun a hF=>?_
  refine au O (fun K hK=>ax hF O ae GV rfl rfl ?_)
  with_reducible refine (gQ (w0:=w0) (R:=R) (z:=0) hkz0 hka hpp hA).mono ?_
  rintro e' w7 ⟨rfl,hA8⟩
  refine ⟨_,rfl,fun a hF=>hK _ _ ?_⟩
  replace hA8:Hp w0 (R) w7:=hA8
  rw [show ((0:Nat):Int)=0 from rfl] at hF
  refine vR hF<|vV O (aH O O O O (fJ ag))<|vE hK3<|vF1 O<|wKp hK2<|wQ fun K8 hK8 a hF=>?_
  have hLn:NodeL ta.key ent0 (zeros 64):=⟨hka,gY,List.length_replicate ..⟩
  refine ak 19 [18,19] [0,1,2,3,4,5,6,7,8,9,10,11,12,13,14,15,16,17,18,19] _ af af (Hq.drew hA8.q) ?_
  have hA9:=Hl.drew hA8
  refine pR hF<|pX O O<|pX O O<|pW O O (fun _=>yf 0 O Uj O uX O)<|pV O O (fun x hx=>aQ O (Hq.sub hx (List.Subset.trans hG (bu))) O hNa 0 (by rw [aF hLa]; decide) rfl (dV hLa _ _ _ _) vw) fun a hF=>?_
  refine pR hF<|pX O O<|pX O O<|pW O O (fun _=>yf 65 rfl Uj O QY O)<|pV O O (fun x hx=>bD O (Hq.sub hx (List.Subset.trans hG (bu))) O hNa 65 (by rw [aF hLa]; decide) rfl (dY hLa _ _ _ _) Bq) fun a hF=>?_
  refine pR hF<|pX O O<|pX O O<|pW O O (fun _=>yf 65 rfl Uj O QY O)<|pV O O (fun x hx=>bD O (Hq.sub hx (List.Subset.trans hG (bu))) O hNb 65 (by rw [aF hLb]; decide) rfl (dY hLb _ _ _ _) Bq) fun a hF=>?_
  refine pR hF<|pW O O (fun _=>bH O O O (show IntKind.i64.wrap (((ta.size:Nat):Int)+((tb.size:Nat):Int))=((ta.size+tb.size:Nat):Int) by rw [TB _ ag]; omega)) fun a hF=>?_
  refine pR hF<|pX O O<|pX O O<|pX O O<|pW O O (fun _=>dS (qs := #[(0,ptr ga),(1,ptr gb)]) O O (uZ _ _))<|pW O O (fun _=>dS (v:= .agg (aC ta.key ent0 ((ta.size+tb.size:Nat):Int) (p:Int) (ptr ga) (ptr gb) (zeros 64)).toArray) (qs := #[(0,.agg (dc ta.key).toArray),(2,.int .i64 ((ta.size+tb.size:Nat):Int)),(3,.int .i64 (p:Int)),(4,.agg ([ptr ga,ptr gb]:List Value).toArray)]) O O (by exact vk hka _ _ _ _)) fun a hF=>?_
  refine bM O O O (fun K hK=>bC (cs:=aC ta.key ent0 ((ta.size+tb.size:Nat):Int) (p:Int) (ptr ga) (ptr gb) (zeros 64)) hF O ae rfl hA9 O (fun b10 w11 a hb10 hF hA12=>hK _ _ (fun _=>?_) ?_))
  ·exact (qT hA12)
  refine bY hF O O O O ae _ (bJ O O) (fun h=>absurd h ae) (fun a hF=>?_)
  refine aB ?_
  refine hK8 _ _ ?_
  apply wp_seq_k; intro K9 hK9
  refine wS hF fun K10 hK10=>vX O<|vV O (jF O af rfl rfl)<|vE hK10<|vF1 O<|wKp hK9<|wT fun K11 hK11=>vX O<|vX O<|vE hK11 fun a hF=>?_
  apply wp_ret
  refine aO hF Tryz.results75 O ?_
  exact ⟨b10,_,rfl,.inr ⟨hkz,rfl⟩,hA12⟩
abbrev Su (w0:World) (i:Itm) (t:Rx):Prop:=∀ (w:World) (R G:List Seg),G⊆R→∀ gs gn:Nat,Sm w0 G 60 gs 32→Tr w0 G true t gn→Hp w0 R w→Calls Tryz.prog 54 #[.pointer (some ⟨gn,0,none⟩),.agg (dc i.k).toArray,.agg (.int .i64 i.ct::dc i.ch).toArray,.pointer (some ⟨gs,0,none⟩)] w fun e w'=>∃ g X,e= .returned (.pointer (some ⟨g,0,none⟩))∧Tr w0 (X::G) true (t.ins i) g∧Hp w0 (X::R) w'
abbrev Sv (w0:World) (i:Itm) (t:Rx):Prop:=∀ (w:World) (R:List Seg) (Y:Seg) (gn:Nat),TrO false t gn Y→Hp w0 (Y::R) w→Calls Tryz.prog 54 #[.pointer (some ⟨gn,0,none⟩),.agg (dc i.k).toArray,.agg (.int .i64 i.ct::dc i.ch).toArray,.pointer none] w fun e w'=>∃ g Y2,e= .returned (.pointer (some ⟨g,0,none⟩))∧TrO false (t.ins i) g Y2∧Hp w0 (Y2::R) w'
theorem zy {A X:Seg} {G:List Seg}:(X::G).flatten⊆((A++X)::G).flatten:=fun r hr=>by
 rw [List.flatten_cons] at hr ⊢
 rcases List.mem_append.1 hr with h | h
 ·exact TD _ (TE _ h)
 ·exact TE _ h
theorem Rw.monoF {w0:World} {R T:List Seg} {g:Nat} {W:List Value} (h:Rw w0 R g W) (hs:R.flatten⊆T.flatten):Rw w0 T g W:=fun x hx=>h x (hx.subF hs)
theorem Tr.monoF {w0:World} {R T:List Seg} {q:Bool} (hs:R.flatten⊆T.flatten):∀ {t:Rx} {g:Nat},Tr w0 R q t g→Tr w0 T q t g
 | .leaf _,_,h=>Rw.monoF h hs
 | .fork _ _ _,_,⟨gl,gr,h1,h2,h3⟩=>⟨gl,gr,Rw.monoF h1 hs,Tr.monoF hs h2,Tr.monoF hs h3⟩
theorem Tr.join {w0:World} {A X:Seg} {G:List Seg} {q:Bool} {t:Rx} {g:Nat} (h:Tr w0 (X::G) q t g):Tr w0 ((A++X)::G) q t g:=Tr.monoF zy h
theorem zW (w0:World) (i:Itm) (hi:i.OK) (hT:Tab w0) (j:Itm) (hg:j.OK) (w:World) (R G:List Seg) (hG:G⊆R) (gs gn:Nat) (hSm:Sm w0 G 60 gs 32) (hTr:Tr w0 G true (.leaf j) gn) (hA:Hp w0 R w):Calls Tryz.prog 54 #[.pointer (some ⟨gn,0,none⟩),.agg (dc i.k).toArray,.agg (.int .i64 i.ct::dc i.ch).toArray,.pointer (some ⟨gs,0,none⟩)] w fun e w'=>∃ g X,e= .returned (.pointer (some ⟨g,0,none⟩))∧Tr w0 (X::G) true ((Rx.leaf j).ins i) g∧Hp w0 (X::R) w':=by
 have hdk:(dc i.k).length=32:=by rw [aj,hi.k]
 have hde:(Value.int .i64 i.ct::dc i.ch).length=33:=by rw [List.length_cons,aj,hi.ch]
 have hL:=NodeL.leaf hg
 have hkl:=hg.k
 have hN:Rw w0 G gn (aC j.k j.ent 1 256 (.pointer none) (.pointer none) (List.replicate 64 (.int .u8 0))):=hTr
 have hsj:(Rx.leaf j).size=1:=rfl
 have hsi:(Rx.leaf i).size=1:=rfl
 refine aJ Tryz.func54 O Tryz.ntmps54 ai (fun a hF=>?_)
 refine wp_seq_k fun K1 hK1=>wp_region_lit ?_
 refine au O (fun K hK=>bC (cs:=dc i.k) hF O ae rfl hA O (fun b1 w2 a hb1 hF hA3=>hK _ _ ?_))
 refine au O (fun K hK=>bC (cs:= .int .i64 i.ct::dc i.ch) hF O ae rfl hA3 O (fun b4 w5 a hb4 hF hA6=>hK _ _ ?_))
 refine vR hF<|vX O<|vE hK1<|wT fun K2 hK2=>vV O (yZ (new:=dc i.k) rfl hA6.q O 1 O vw hdk)<|vV O (yZ (new:= .int .i64 i.ct::dc i.ch) rfl hA6.q O 0 O BN hde)<|vV O (dS (v:= .agg (aU i).toArray) (qs := #[(0,.agg (dc i.k).toArray),(1,.agg (.int .i64 i.ct::dc i.ch).toArray),(2,.int .i64 1),(3,.int .i64 256)]) O O (by exact rG hi)) fun a hF=>?_
 refine au O (fun K hK=>bC (cs:=aU i) hF O ae rfl hA6 O (fun b7 w8 a hb7 hF hA9=>hK _ _ ?_))
 refine vR hF<|vX O<|vE hK2<|wQ fun K3 hK3=>wT fun K4 hK4=>vX O<|vV O (iG O af rfl rfl)<|vE hK4<|vF1 O<|wKp hK3<|wQ fun K5 hK5 a hF=>?_
 refine ak 6 [5,6] [0,1,2,3,4,5,6] _ af af (Hq.drew hA9.q) ?_
 have hA10:=Hl.drew hA9
 refine pR hF<|pV O O (fun x hx=>yZ (new:=dc i.k) rfl hx O 2 O vw hdk)<|pX O O<|pX O O<|pW O O (fun _=>yf 0 O Uj O uX O)<|pV O O (fun x hx=>aQ O (Hq.sub hx (List.Subset.trans hG (aA (aA (aA (bu)))))) O hN 0 (by rw [aF hL]; decide) rfl (dV hL _ _ _ _) vw) fun a hF=>?_
 refine bM O O O (fun K hK=>ax hF O ae sQ rfl rfl ?_)
 with_reducible refine (o5 w0 _ ([row b7 117 (aU i)]::[row b4 27 (.int .i64 i.ct::dc i.ch)]::[row b1 25 (dc i.k)]::R) i.k j.k hi.k hkl hA10).mono ?_
 rintro e' w11 ⟨rfl,hA12⟩
 refine ⟨_,rfl,fun a hF=>hK _ _ (fun _=>?_) ?_⟩
 ·exact hA12.q
 replace hA12:Hp w0 ([row b7 117 (aU i)]::[row b4 27 (.int .i64 i.ct::dc i.ch)]::[row b1 25 (dc i.k)]::R) w11:=hA12
 refine bY hF O O O O ae _ (bJ O O) (fun h=>absurd h ae) (fun a hF=>?_)
 refine aB ?_
 refine hK5 _ _ ?_
 apply wp_seq_k; intro K6 hK6
 refine wS hF fun K7 hK7=>vX O<|vX O<|vX O<|vV O (yf 66 rfl Uj O QY O)<|vV O (bD O (Hq.sub hA12.q (List.Subset.trans hG (aA (aA (aA (bu)))))) O hN 66 (by rw [aF hL]; decide) rfl (dA hL _ _ _ _) Bq) fun a hF=>?_
 refine vR hF<|vV O (aH O O O O O)<|vE hK7 fun a hF=>?_
 by_cases hp:bI i.k j.k<256
 ·refine aZ hF O (dB ag) ?_
  have hgA:(Rx.leaf j).Good:=hg
  have hgI:(Rx.leaf i).Good:=hi
  have hpa:bI i.k j.k<(Rx.leaf j).bit:=hp
  have hpb:bI i.k j.k<(Rx.leaf i).bit:=by show _<256; omega
  refine wS hF fun K8 hK8=>vX O<|vX O<|vX O<|vX O fun a hF=>?_
  have hTb:Tr w0 ([row b7 117 (aU i)]::[row b4 27 (.int .i64 i.ct::dc i.ch)]::[row b1 25 (dc i.k)]::R) true (.leaf i) b7:=Rw.ofMem ((TF ..)) (List.mem_singleton.2 rfl)
  refine au O (fun K hK=>ax hF O ae sO rfl rfl ?_)
  with_reducible refine (BV w0 _ ([row b7 117 (aU i)]::[row b4 27 (.int .i64 i.ct::dc i.ch)]::[row b1 25 (dc i.k)]::R) _ bu (Rx.leaf j) (.leaf i) hgA hgI gn b7 (bI i.k j.k) hpa hpb (by rw [hsj,hsi]; omega) (hTr.mono (List.Subset.trans hG (aA (aA (aA (bu)))))) hTb gs (hSm.mono (List.Subset.trans hG (aA (aA (aA (bu)))))) hT hA12).mono ?_
  rintro e' w13 ⟨gj,J,rfl,hJ,hA14⟩
  refine ⟨_,rfl,fun a hF=>hK _ _ ?_⟩
  replace hA14:Hp w0 (J::[row b7 117 (aU i)]::[row b4 27 (.int .i64 i.ct::dc i.ch)]::[row b1 25 (dc i.k)]::R) w13:=hA14
  refine vR hF<|vX O<|vE hK8 fun a hF=>?_
  apply wp_ret
  simp only [Exit.then]
  refine aO hF Tryz.results54 O ?_
  rw [Rx.ins_join (t:=(Rx.leaf j)) hp]
  have hA15:Hp w0 (J::[row b7 117 (aU i)]::R) w13:=hpS 4 [0,1] [2,3] hA14 rfl
  exact ⟨gj,J++[row b7 117 (aU i)],rfl,hJ.tr (fun x hx=>⟨_,TF ..,TD _ hx⟩) (hTr.mono (List.subset_cons_of_subset _ (List.Subset.refl _))) (Rw.ofMem (TF ..) (TE _ (List.mem_singleton.2 rfl))),Hp.join hA15⟩
 ·refine aS hF O (dD ag) ?_
  apply wp_skip
  refine hK6 _ _ ?_
  apply wp_seq_k; intro K9 hK9
  refine wS hF fun K10 hK10=>vX O<|vX O<|vV O (yf 66 rfl Uj O QY O)<|vV O (bD O (Hq.sub hA12.q (List.Subset.trans hG (aA (aA (aA (bu)))))) O hN 66 (by rw [aF hL]; decide) rfl (dA hL _ _ _ _) Bq) fun a hF=>?_
  refine vR hF<|vV O (aH O O O O (gJ ag))<|vE hK10<|vT1 O<|wT fun K11 hK11=>vX O<|vX O<|vE hK11 fun a hF=>?_
  apply wp_ret
  simp only [Exit.then]
  refine aO hF Tryz.results54 O ?_
  have hA16:Hp w0 ([row b7 117 (aU i)]::R) w11:=hpS 3 [0] [1,2] hA12 rfl
  rw [Rx.ins_leaf hp]
  exact ⟨b7,_,rfl,Rw.ofMem (TF ..) (List.mem_singleton.2 rfl),hA16⟩
theorem zZ (w0:World) (i:Itm) (hi:i.OK) (j:Itm) (hg:j.OK) (w:World) (R:List Seg) (gn:Nat) (hA:Hp w0 ([row gn 117 (aU j)]::R) w):Calls Tryz.prog 54 #[.pointer (some ⟨gn,0,none⟩),.agg (dc i.k).toArray,.agg (.int .i64 i.ct::dc i.ch).toArray,.pointer none] w fun e w'=>∃ g Y2,e= .returned (.pointer (some ⟨g,0,none⟩))∧TrO false ((Rx.leaf j).ins i) g Y2∧Hp w0 (Y2::R) w':=by
 have hdk:(dc i.k).length=32:=by rw [aj,hi.k]
 have hde:(Value.int .i64 i.ct::dc i.ch).length=33:=by rw [List.length_cons,aj,hi.ch]
 have hL:=NodeL.leaf hg
 have hkl:=hg.k
 have hN:Rw w0 [[row gn 117 (aU j)]] gn (aC j.k j.ent 1 256 (.pointer none) (.pointer none) (List.replicate 64 (.int .u8 0))):=Rw.ofRow (i:=0) rfl
 have hsj:(Rx.leaf j).size=1:=rfl
 have hsi:(Rx.leaf i).size=1:=rfl
 refine aJ Tryz.func54 O Tryz.ntmps54 ai (fun a hF=>?_)
 refine wp_seq_k fun K1 hK1=>wp_region_lit ?_
 refine au O (fun K hK=>bC (cs:=dc i.k) hF O ae rfl hA O (fun b1 w2 a hb1 hF hA3=>hK _ _ ?_))
 refine au O (fun K hK=>bC (cs:= .int .i64 i.ct::dc i.ch) hF O ae rfl hA3 O (fun b4 w5 a hb4 hF hA6=>hK _ _ ?_))
 refine vR hF<|vX O<|vE hK1<|wT fun K2 hK2=>vV O (yZ (new:=dc i.k) rfl hA6.q O 1 O vw hdk)<|vV O (yZ (new:= .int .i64 i.ct::dc i.ch) rfl hA6.q O 0 O BN hde)<|vV O (dS (v:= .agg (aU i).toArray) (qs := #[(0,.agg (dc i.k).toArray),(1,.agg (.int .i64 i.ct::dc i.ch).toArray),(2,.int .i64 1),(3,.int .i64 256)]) O O (by exact rG hi)) fun a hF=>?_
 refine au O (fun K hK=>bC (cs:=aU i) hF O ae rfl hA6 O (fun b7 w8 a hb7 hF hA9=>hK _ _ ?_))
 refine vR hF<|vX O<|vE hK2<|wQ fun K3 hK3=>wT fun K4 hK4=>vX O<|vV O (iG O af rfl rfl)<|vE hK4<|vF1 O<|wKp hK3<|wQ fun K5 hK5 a hF=>?_
 refine ak 6 [5,6] [0,1,2,3,4,5,6] _ af af (Hq.drew hA9.q) ?_
 have hA10:=Hl.drew hA9
 refine pR hF<|pV O O (fun x hx=>yZ (new:=dc i.k) rfl hx O 2 O vw hdk)<|pX O O<|pX O O<|pW O O (fun _=>yf 0 O Uj O uX O)<|pV O O (fun x hx=>aQ O (Hq.sub hx (dZ (TI _ (TI _ (TI _ ((TF ..))))))) O hN 0 (by rw [aF hL]; decide) rfl (dV hL _ _ _ _) vw) fun a hF=>?_
 refine bM O O O (fun K hK=>ax hF O ae sQ rfl rfl ?_)
 with_reducible refine (o5 w0 _ ([row b7 117 (aU i)]::[row b4 27 (.int .i64 i.ct::dc i.ch)]::[row b1 25 (dc i.k)]::[row gn 117 (aU j)]::R) i.k j.k hi.k hkl hA10).mono ?_
 rintro e' w11 ⟨rfl,hA12⟩
 refine ⟨_,rfl,fun a hF=>hK _ _ (fun _=>?_) ?_⟩
 ·exact hA12.q
 replace hA12:Hp w0 ([row b7 117 (aU i)]::[row b4 27 (.int .i64 i.ct::dc i.ch)]::[row b1 25 (dc i.k)]::[row gn 117 (aU j)]::R) w11:=hA12
 refine bY hF O O O O ae _ (bJ O O) (fun h=>absurd h ae) (fun a hF=>?_)
 refine aB ?_
 refine hK5 _ _ ?_
 apply wp_seq_k; intro K6 hK6
 refine wS hF fun K7 hK7=>vX O<|vX O<|vX O<|vV O (yf 66 rfl Uj O QY O)<|vV O (bD O (Hq.sub hA12.q (dZ (TI _ (TI _ (TI _ ((TF ..))))))) O hN 66 (by rw [aF hL]; decide) rfl (dA hL _ _ _ _) Bq) fun a hF=>?_
 refine vR hF<|vV O (aH O O O O O)<|vE hK7 fun a hF=>?_
 by_cases hp:bI i.k j.k<256
 ·refine aZ hF O (dB ag) ?_
  have hgA:(Rx.leaf j).Good:=hg
  have hgI:(Rx.leaf i).Good:=hi
  have hpa:bI i.k j.k<(Rx.leaf j).bit:=hp
  have hpb:bI i.k j.k<(Rx.leaf i).bit:=by show _<256; omega
  refine wS hF fun K8 hK8=>vX O<|vX O<|vX O<|vX O fun a hF=>?_
  have hLa:NodeL (Rx.leaf j).key j.ent (List.replicate 64 (.int .u8 0)):=hL
  have hNa:Rw w0 ([row b7 117 (aU i)]::[row b4 27 (.int .i64 i.ct::dc i.ch)]::[row b1 25 (dc i.k)]::[row gn 117 (aU j)]::R) gn (aC (Rx.leaf j).key j.ent ((Rx.leaf j).size:Int) ((Rx.leaf j).bit:Int) (.pointer none) (.pointer none) (List.replicate 64 (.int .u8 0))):=Rw.ofMem (TI _ (TI _ (TI _ ((TF ..))))) (List.mem_singleton.2 rfl)
  have hLb:NodeL (Rx.leaf i).key i.ent (List.replicate 64 (.int .u8 0)):=NodeL.leaf hi
  have hNb:Rw w0 ([row b7 117 (aU i)]::[row b4 27 (.int .i64 i.ct::dc i.ch)]::[row b1 25 (dc i.k)]::[row gn 117 (aU j)]::R) b7 (aC (Rx.leaf i).key i.ent ((Rx.leaf i).size:Int) ((Rx.leaf i).bit:Int) (.pointer none) (.pointer none) (List.replicate 64 (.int .u8 0))):=Rw.ofMem ((TF ..)) (List.mem_singleton.2 rfl)
  refine au O (fun K hK=>ax hF O ae sO rfl rfl ?_)
  with_reducible refine (BX w0 _ ([row b7 117 (aU i)]::[row b4 27 (.int .i64 i.ct::dc i.ch)]::[row b1 25 (dc i.k)]::[row gn 117 (aU j)]::R) _ bu (Rx.leaf j) (.leaf i) hgA hgI gn b7 (bI i.k j.k) hpa hpb (by rw [hsj,hsi]; omega) j.ent (List.replicate 64 (.int .u8 0)) (.pointer none) (.pointer none) hLa hNa i.ent (List.replicate 64 (.int .u8 0)) (.pointer none) (.pointer none) hLb hNb hA12).mono ?_
  rintro e' w13 ⟨gj,J,rfl,hJ,hA14⟩
  refine ⟨_,rfl,fun a hF=>hK _ _ ?_⟩
  replace hA14:Hp w0 (J::[row b7 117 (aU i)]::[row b4 27 (.int .i64 i.ct::dc i.ch)]::[row b1 25 (dc i.k)]::[row gn 117 (aU j)]::R) w13:=hA14
  refine vR hF<|vX O<|vE hK8 fun a hF=>?_
  apply wp_ret
  simp only [Exit.then]
  refine aO hF Tryz.results54 O ?_
  rw [Rx.ins_join (t:=(Rx.leaf j)) hp]
  have hA15:Hp w0 (J::[row gn 117 (aU j)]::[row b7 117 (aU i)]::R) w13:=hpS 5 [0,4,1] [2,3] hA14 rfl
  obtain ⟨Z,hZ,hZp⟩:=hJ.tro (Ya:=[row gn 117 (aU j)]) (Yb:=[row b7 117 (aU i)]) rfl rfl
  exact ⟨gj,Z,rfl,hZ,Hp.permHead (Hp.cast hA15 (S':=(J++([row gn 117 (aU j)]++[row b7 117 (aU i)]))::R) (by simp only [List.flatten_cons,List.append_assoc,List.cons_append,List.nil_append])) hZp⟩
 ·refine aS hF O (dD ag) ?_
  apply wp_skip
  refine hK6 _ _ ?_
  apply wp_seq_k; intro K9 hK9
  refine wS hF fun K10 hK10=>vX O<|vX O<|vV O (yf 66 rfl Uj O QY O)<|vV O (bD O (Hq.sub hA12.q (dZ (TI _ (TI _ (TI _ ((TF ..))))))) O hN 66 (by rw [aF hL]; decide) rfl (dA hL _ _ _ _) Bq) fun a hF=>?_
  refine vR hF<|vV O (aH O O O O (gJ ag))<|vE hK10<|vT1 O<|wT fun K11 hK11=>vX O<|vX O<|vE hK11 fun a hF=>?_
  apply wp_ret
  simp only [Exit.then]
  refine aO hF Tryz.results54 O ?_
  have hA16:Hp w0 ([row b7 117 (aU i)]::R) w11:=hpS 4 [0] [1,2,3] hA12 rfl
  rw [Rx.ins_leaf hp]
  exact ⟨b7,_,rfl,rfl,hA16⟩
theorem zX (w0:World) (i:Itm) (hi:i.OK) (hT:Tab w0) (b:Nat) (l r:Rx) (hg:(Rx.fork b l r).Good) (hsz:(Rx.fork b l r).size≤100000) (ihl:Su w0 i l) (ihr:Su w0 i r) (w:World) (R G:List Seg) (hG:G⊆R) (gs gn:Nat) (hSm:Sm w0 G 60 gs 32) (hTr:Tr w0 G true (.fork b l r) gn) (hA:Hp w0 R w):Calls Tryz.prog 54 #[.pointer (some ⟨gn,0,none⟩),.agg (dc i.k).toArray,.agg (.int .i64 i.ct::dc i.ch).toArray,.pointer (some ⟨gs,0,none⟩)] w fun e w'=>∃ g X,e= .returned (.pointer (some ⟨g,0,none⟩))∧Tr w0 (X::G) true ((Rx.fork b l r).ins i) g∧Hp w0 (X::R) w':=by
 have hdk:(dc i.k).length=32:=by rw [aj,hi.k]
 have hde:(Value.int .i64 i.ct::dc i.ch).length=33:=by rw [List.length_cons,aj,hi.ch]
 have hkl:l.key.length=32:=hg.key
 obtain ⟨hgl,hgr,hbl,hbr,hil,hir⟩:=id hg
 have hll:=Rx.bit_le hgl
 have hrr:=Rx.bit_le hgr
 have hb:b<256:=by omega
 have hsl:=Rx.ins_size i l
 have hsr:=Rx.ins_size i r
 have hsF:(Rx.fork b l r).size=l.size+r.size:=rfl
 have hsi:(Rx.leaf i).size=1:=rfl
 obtain ⟨hL,gl,gr,hN,hTl,hTr2⟩:=Tr.viewF hg hTr
 refine aJ Tryz.func54 O Tryz.ntmps54 ai (fun a hF=>?_)
 refine wp_seq_k fun K1 hK1=>wp_region_lit ?_
 refine au O (fun K hK=>bC (cs:=dc i.k) hF O ae rfl hA O (fun b1 w2 a hb1 hF hA3=>hK _ _ ?_))
 refine au O (fun K hK=>bC (cs:= .int .i64 i.ct::dc i.ch) hF O ae rfl hA3 O (fun b4 w5 a hb4 hF hA6=>hK _ _ ?_))
 refine vR hF<|vX O<|vE hK1<|wT fun K2 hK2=>vV O (yZ (new:=dc i.k) rfl hA6.q O 1 O vw hdk)<|vV O (yZ (new:= .int .i64 i.ct::dc i.ch) rfl hA6.q O 0 O BN hde)<|vV O (dS (v:= .agg (aU i).toArray) (qs := #[(0,.agg (dc i.k).toArray),(1,.agg (.int .i64 i.ct::dc i.ch).toArray),(2,.int .i64 1),(3,.int .i64 256)]) O O (by exact rG hi)) fun a hF=>?_
 refine au O (fun K hK=>bC (cs:=aU i) hF O ae rfl hA6 O (fun b7 w8 a hb7 hF hA9=>hK _ _ ?_))
 refine vR hF<|vX O<|vE hK2<|wQ fun K3 hK3=>wT fun K4 hK4=>vX O<|vV O (iG O af rfl rfl)<|vE hK4<|vF1 O<|wKp hK3<|wQ fun K5 hK5 a hF=>?_
 refine ak 6 [5,6] [0,1,2,3,4,5,6] _ af af (Hq.drew hA9.q) ?_
 have hA10:=Hl.drew hA9
 refine pR hF<|pV O O (fun x hx=>yZ (new:=dc i.k) rfl hx O 2 O vw hdk)<|pX O O<|pX O O<|pW O O (fun _=>yf 0 O Uj O uX O)<|pV O O (fun x hx=>aQ O (Hq.sub hx (List.Subset.trans hG (aA (aA (aA (bu)))))) O hN 0 (by rw [aF hL]; decide) rfl (dV hL _ _ _ _) vw) fun a hF=>?_
 refine bM O O O (fun K hK=>ax hF O ae sQ rfl rfl ?_)
 with_reducible refine (o5 w0 _ ([row b7 117 (aU i)]::[row b4 27 (.int .i64 i.ct::dc i.ch)]::[row b1 25 (dc i.k)]::R) i.k l.key hi.k hkl hA10).mono ?_
 rintro e' w11 ⟨rfl,hA12⟩
 refine ⟨_,rfl,fun a hF=>hK _ _ (fun _=>?_) ?_⟩
 ·exact hA12.q
 replace hA12:Hp w0 ([row b7 117 (aU i)]::[row b4 27 (.int .i64 i.ct::dc i.ch)]::[row b1 25 (dc i.k)]::R) w11:=hA12
 refine bY hF O O O O ae _ (bJ O O) (fun h=>absurd h ae) (fun a hF=>?_)
 refine aB ?_
 refine hK5 _ _ ?_
 apply wp_seq_k; intro K6 hK6
 refine wS hF fun K7 hK7=>vX O<|vX O<|vX O<|vV O (yf 66 rfl Uj O QY O)<|vV O (bD O (Hq.sub hA12.q (List.Subset.trans hG (aA (aA (aA (bu)))))) O hN 66 (by rw [aF hL]; decide) rfl (dA hL _ _ _ _) Bq) fun a hF=>?_
 refine vR hF<|vV O (aH O O O O O)<|vE hK7 fun a hF=>?_
 by_cases hp:bI i.k l.key<b
 ·refine aZ hF O (dB ag) ?_
  have hgA:(Rx.fork b l r).Good:=hg
  have hgI:(Rx.leaf i).Good:=hi
  have hpa:bI i.k l.key<(Rx.fork b l r).bit:=hp
  have hpb:bI i.k l.key<(Rx.leaf i).bit:=by show _<256; omega
  refine wS hF fun K8 hK8=>vX O<|vX O<|vX O<|vX O fun a hF=>?_
  have hTb:Tr w0 ([row b7 117 (aU i)]::[row b4 27 (.int .i64 i.ct::dc i.ch)]::[row b1 25 (dc i.k)]::R) true (.leaf i) b7:=Rw.ofMem ((TF ..)) (List.mem_singleton.2 rfl)
  refine au O (fun K hK=>ax hF O ae sO rfl rfl ?_)
  with_reducible refine (BV w0 _ ([row b7 117 (aU i)]::[row b4 27 (.int .i64 i.ct::dc i.ch)]::[row b1 25 (dc i.k)]::R) _ bu (Rx.fork b l r) (.leaf i) hgA hgI gn b7 (bI i.k l.key) hpa hpb (by rw [hsF,hsi]; omega) (hTr.mono (List.Subset.trans hG (aA (aA (aA (bu)))))) hTb gs (hSm.mono (List.Subset.trans hG (aA (aA (aA (bu)))))) hT hA12).mono ?_
  rintro e' w13 ⟨gj,J,rfl,hJ,hA14⟩
  refine ⟨_,rfl,fun a hF=>hK _ _ ?_⟩
  replace hA14:Hp w0 (J::[row b7 117 (aU i)]::[row b4 27 (.int .i64 i.ct::dc i.ch)]::[row b1 25 (dc i.k)]::R) w13:=hA14
  refine vR hF<|vX O<|vE hK8 fun a hF=>?_
  apply wp_ret
  simp only [Exit.then]
  refine aO hF Tryz.results54 O ?_
  rw [Rx.ins_join (t:=(Rx.fork b l r)) hp]
  have hA15:Hp w0 (J::[row b7 117 (aU i)]::R) w13:=hpS 4 [0,1] [2,3] hA14 rfl
  exact ⟨gj,J++[row b7 117 (aU i)],rfl,hJ.tr (fun x hx=>⟨_,TF ..,TD _ hx⟩) (hTr.mono (List.subset_cons_of_subset _ (List.Subset.refl _))) (Rw.ofMem (TF ..) (TE _ (List.mem_singleton.2 rfl))),Hp.join hA15⟩
 ·refine aS hF O (dD ag) ?_
  apply wp_skip
  refine hK6 _ _ ?_
  apply wp_seq_k; intro K9 hK9
  refine wS hF fun K10 hK10=>vX O<|vX O<|vV O (yf 66 rfl Uj O QY O)<|vV O (bD O (Hq.sub hA12.q (List.Subset.trans hG (aA (aA (aA (bu)))))) O hN 66 (by rw [aF hL]; decide) rfl (dA hL _ _ _ _) Bq) fun a hF=>?_
  refine vR hF<|vV O (aH O O O O (fJ ag))<|vE hK10<|vF1 O<|wKp hK9<|wT fun K11 hK11=>vX O<|vX O<|vV O (aQ O (Hq.sub hA12.q (List.Subset.trans hG (aA (aA (aA (bu)))))) O hN 0 (by rw [aF hL]; decide) rfl (zn hL _ _ _ _) yX) fun a hF=>?_
  refine au O (fun K hK=>bG hF O ae rfl hA12 (yH) (fun b16 w17 a hb16 hF hA18=>hK _ _ ?_))
  refine au O (fun K hK=>aI (new:=aC l.key ent0 ((l.size+r.size:Nat):Int) (b:Int) (ptr gl) (ptr gr) (aN true b l r)) hF O O hA18 O O 0 O (by rw [aF hL]; rfl) (zl Dv (yO _ _ _ _) rfl rfl _ _) (by exact yM) (fun w19 hA20=>hK _ _ ?_))
  replace hA20:Hp w0 ([row b16 117 (aC l.key ent0 ((l.size+r.size:Nat):Int) (b:Int) (ptr gl) (ptr gr) (aN true b l r))]::[row b7 117 (aU i)]::[row b4 27 (.int .i64 i.ct::dc i.ch)]::[row b1 25 (dc i.k)]::R) w19:=hA20
  refine az<|hK11 _ _ ?_
  apply wp_seq_k; intro K12 hK12
  by_cases hkb:bK i.k b=0
  ·have hgF:(Rx.fork b (l.ins i) r).Good:=by have h:=(Rx.ins_good hi hg).1; rw [Rx.ins_l hp hkb] at h; exact h
   obtain ⟨hgl2,hgr2,hbl2,hbr2,_,_⟩:=id hgF
   have hll2:=Rx.bit_le hgl2
   have hrr2:=Rx.bit_le hgr2
   refine ak 6 [5,6] [0,1,2,3,4,5,6] _ af af (Hq.drew hA20.q) ?_
   have hA21:=Hl.drew hA20
   refine pR hF<|pV O O (fun x hx=>yZ (new:=dc i.k) rfl hx O 3 O vw hdk)<|pX O O<|pX O O<|pW O O (fun _=>yf 66 rfl Uj O QY O)<|pV O O (fun x hx=>bD O (Hq.sub hx (List.Subset.trans hG (aA (aA (aA (aA (bu))))))) O hN 66 (by rw [aF hL]; decide) rfl (dA hL _ _ _ _) Bq) fun a hF=>?_
   refine bM O O O (fun K hK=>ax hF O ae GV rfl rfl ?_)
   with_reducible refine (gQ (w0:=w0) (R:=([row b16 117 (aC l.key ent0 ((l.size+r.size:Nat):Int) (b:Int) (ptr gl) (ptr gr) (aN true b l r))]::[row b7 117 (aU i)]::[row b4 27 (.int .i64 i.ct::dc i.ch)]::[row b1 25 (dc i.k)]::R)) (z:=0) hkb hi.k hb hA21).mono ?_
   rintro e' w22 ⟨rfl,hA23⟩
   refine ⟨_,rfl,fun a hF=>hK _ _ (fun _=>?_) ?_⟩
   ·exact hA23.q
   replace hA23:Hp w0 ([row b16 117 (aC l.key ent0 ((l.size+r.size:Nat):Int) (b:Int) (ptr gl) (ptr gr) (aN true b l r))]::[row b7 117 (aU i)]::[row b4 27 (.int .i64 i.ct::dc i.ch)]::[row b1 25 (dc i.k)]::R) w22:=hA23
   rw [show ((0:Nat):Int)=0 from rfl] at hF
   refine bY hF O O O O ae _ (bJ O O) (fun h=>absurd h ae) (fun a hF=>?_)
   refine aB ?_
   refine hK12 _ _ ?_
   apply wp_seq_k; intro K13 hK13
   refine ak 13 [10,13] [0,1,2,3,4,5,6,7,8,9,11,10,12,13] _ af af (Hq.drew hA23.q) ?_
   have hA24:=Hl.drew hA23
   refine pR hF<|pX O O<|pX O O<|pX O O<|pX O O<|pW O O (fun _=>yf 67 rfl Uj O pF O)<|pW O O (fun _=>aP O Um Oo O O 0 O ae (rfl:(⟨_,67+0*1,none⟩:Addr)=⟨_,67,none⟩) (rfl:(none:Option Nat)=none))<|pV O O (fun x hx=>bD O (Hq.sub hx (List.Subset.trans hG (aA (aA (aA (aA (bu))))))) O hN 67 (by rw [aF hL]; decide) rfl (eX hL _ _ _ _) Pi) fun a hF=>?_
   refine pR hF<|pV O O (fun x hx=>yZ (new:=dc i.k) rfl hx O 3 O vw hdk)<|pV O O (fun x hx=>yZ (new:= .int .i64 i.ct::dc i.ch) rfl hx O 2 O BN hde)<|pX O O<|pW O O (fun _=>yf 67 rfl Uj O pF O) fun a hF=>?_
   refine bM O O O (fun K hK=>ax hF O ae sU rfl rfl ?_)
   with_reducible refine (ihl _ ([row b16 117 (aC l.key ent0 ((l.size+r.size:Nat):Int) (b:Int) (ptr gl) (ptr gr) (aN true b l r))]::[row b7 117 (aU i)]::[row b4 27 (.int .i64 i.ct::dc i.ch)]::[row b1 25 (dc i.k)]::R) G (List.Subset.trans hG (aA (aA (aA (aA (bu)))))) gs gl hSm hTl hA24).mono ?_
   rintro e' w25 ⟨g2,X,rfl,hT2,hA26⟩
   refine ⟨_,rfl,fun a hF=>hK _ _ (fun _=>?_) ?_⟩
   ·exact (qT hA26)
   refine pR hF<|pW O O (fun _=>aP O Um Oo O O 0 O ae (rfl:(⟨_,67+0*1,none⟩:Addr)=⟨_,67,none⟩) (rfl:(none:Option Nat)=none)) fun a hF=>?_
   refine bM O O O (fun K hK=>aW hF O O hA26 O O 1 O (by rw [aF hL]; decide) rfl Oo (fun w27 hA28=>hK _ _ (fun h=>absurd h ae) ?_))
   replace hA28:Hp w0 (X::[row b16 117 ((aC l.key ent0 ((l.size+r.size:Nat):Int) (b:Int) (ptr gl) (ptr gr) (aN true b l r)).set 67 (ptr g2))]::[row b7 117 (aU i)]::[row b4 27 (.int .i64 i.ct::dc i.ch)]::[row b1 25 (dc i.k)]::R) w27:=hA28
   have hA29:Hp w0 (X::[row b16 117 (aC l.key ent0 ((l.size+r.size:Nat):Int) (b:Int) (ptr g2) (ptr gr) (aN true b l r))]::[row b7 117 (aU i)]::[row b4 27 (.int .i64 i.ct::dc i.ch)]::[row b1 25 (dc i.k)]::R) w27:=by
    rw [← show (aC l.key ent0 ((l.size+r.size:Nat):Int) (b:Int) (ptr gl) (ptr gr) (aN true b l r)).set 67 (ptr g2)=aC l.key ent0 ((l.size+r.size:Nat):Int) (b:Int) (ptr g2) (ptr gr) (aN true b l r) from (xB hL _ _ _ _ _)]
    exact hA28
   refine aB ?_
   refine hK13 _ _ ?_
   apply wp_seq_k; intro K14 hK14
   obtain ⟨E2,p2,q2,s2,hL2,hN2⟩:=Tr.view hgl2 hT2
   obtain ⟨E3,p3,q3,s3,hL3,hN3⟩:=Tr.view hgr2 hTr2
   have hM:Rw w0 (X::[row b16 117 (aC l.key ent0 ((l.size+r.size:Nat):Int) (b:Int) (ptr g2) (ptr gr) (aN true b l r))]::[row b7 117 (aU i)]::[row b4 27 (.int .i64 i.ct::dc i.ch)]::[row b1 25 (dc i.k)]::R) b16 (aC l.key ent0 ((l.size+r.size:Nat):Int) (b:Int) (ptr g2) (ptr gr) (aN true b l r)):=Rw.ofRow (i:=1) rfl
   refine ak 14 [14] [0,1,2,3,4,5,6,7,8,9,10,11,12,13,14] _ af af (Hq.drew hA29.q) ?_
   have hA30:=Hl.drew hA29
   refine pR hF<|pW O O (fun _=>yf 67 rfl Uj O pF O)<|pW O O (fun _=>aP O Um Oo O O 0 O ae (rfl:(⟨_,67+0*1,none⟩:Addr)=⟨_,67,none⟩) (rfl:(none:Option Nat)=none))<|pV O O (fun x hx=>bD O hx O hM 67 (by rw [aF hL]; decide) rfl (eX hL _ _ _ _) Pi) fun a hF=>?_
   refine pR hF<|pX O O<|pW O O (fun _=>yf 65 rfl Uj O QY O)<|pV O O (fun x hx=>bD O (Hq.sub hx (dR ((TF ..)) (List.Subset.trans hG (aA (aA (aA (aA (aA (bu))))))))) O hN2 65 (by rw [aF hL2]; decide) rfl (dY hL2 _ _ _ _) Bq) fun a hF=>?_
   refine pR hF<|pW O O (fun _=>yf 67 rfl Uj O pF O)<|pW O O (fun _=>aP O Um Oo O O 1 O ae (rfl:(⟨_,67+1*1,none⟩:Addr)=⟨_,68,none⟩) (rfl:(none:Option Nat)=none))<|pV O O (fun x hx=>bD O hx O hM 68 (by rw [aF hL]; decide) rfl (gI hL _ _ _ _) Pi) fun a hF=>?_
   refine pR hF<|pX O O<|pW O O (fun _=>yf 65 rfl Uj O QY O)<|pV O O (fun x hx=>bD O (Hq.sub hx (List.Subset.trans hG (aA (aA (aA (aA (aA (bu)))))))) O hN3 65 (by rw [aF hL3]; decide) rfl (dY hL3 _ _ _ _) Bq) fun a hF=>?_
   refine pR hF<|pW O O (fun _=>bH O O O (show IntKind.i64.wrap ((((l.ins i).size:Nat):Int)+((r.size:Nat):Int))=(((l.ins i).size+r.size:Nat):Int) by rw [TB _ ag]; omega)) fun a hF=>?_
   refine pR hF<|pW O O (fun _=>yf 65 rfl Uj O QY O) fun a hF=>?_
   refine bM O O O (fun K hK=>aW hF O O hA30 O O 1 O (by rw [aF hL]; decide) rfl QY (fun w31 hA32=>hK _ _ (fun h=>absurd h ae) ?_))
   replace hA32:Hp w0 (X::[row b16 117 ((aC l.key ent0 ((l.size+r.size:Nat):Int) (b:Int) (ptr g2) (ptr gr) (aN true b l r)).set 65 (.int .i64 (((l.ins i).size+r.size:Nat):Int)))]::[row b7 117 (aU i)]::[row b4 27 (.int .i64 i.ct::dc i.ch)]::[row b1 25 (dc i.k)]::R) w31:=hA32
   have hA33:Hp w0 (X::[row b16 117 (aC l.key ent0 (((l.ins i).size+r.size:Nat):Int) (b:Int) (ptr g2) (ptr gr) (aN true b l r))]::[row b7 117 (aU i)]::[row b4 27 (.int .i64 i.ct::dc i.ch)]::[row b1 25 (dc i.k)]::R) w31:=by
    rw [← show (aC l.key ent0 ((l.size+r.size:Nat):Int) (b:Int) (ptr g2) (ptr gr) (aN true b l r)).set 65 (.int .i64 (((l.ins i).size+r.size:Nat):Int))=aC l.key ent0 (((l.ins i).size+r.size:Nat):Int) (b:Int) (ptr g2) (ptr gr) (aN true b l r) from (oC hL _ _ _ _ _)]
    exact hA32
   refine aB ?_
   refine hK14 _ _ ?_
   apply wp_seq_k; intro K15 hK15
   have hM2:Rw w0 (X::[row b16 117 (aC l.key ent0 (((l.ins i).size+r.size:Nat):Int) (b:Int) (ptr g2) (ptr gr) (aN true b l r))]::[row b7 117 (aU i)]::[row b4 27 (.int .i64 i.ct::dc i.ch)]::[row b1 25 (dc i.k)]::R) b16 (aC l.key ent0 (((l.ins i).size+r.size:Nat):Int) (b:Int) (ptr g2) (ptr gr) (aN true b l r)):=Rw.ofRow (i:=1) rfl
   have hk2:(l.ins i).key.length=32:=hgl2.key
   have hdk2:(dc (l.ins i).key).length=32:=by rw [aj,hk2]
   have hLm:NodeL (l.ins i).key ent0 (aN true b l r):=⟨hk2,gY,kD ..⟩
   refine wp_region_lit ?_
   refine vR hF<|vV O (yf 67 rfl Uj O pF O)<|vV O (aP O Um Oo O O 0 O ae (rfl:(⟨_,67+0*1,none⟩:Addr)=⟨_,67,none⟩) (rfl:(none:Option Nat)=none))<|vV O (bD O hA33.q O hM2 67 (by rw [aF hL]; decide) rfl (eX hL _ _ _ _) Pi) fun a hF=>?_
   refine vR hF<|vX O<|vV O (yf 0 O Uj O uX O)<|vV O (aQ O (Hq.sub hA33.q (dR ((TF ..)) (List.Subset.trans hG (aA (aA (aA (aA (aA (bu))))))))) O hN2 0 (by rw [aF hL2]; decide) rfl (dV hL2 _ _ _ _) vw) fun a hF=>?_
   refine vR hF<|vV O (yf 0 O Uj O uX O) fun a hF=>?_
   refine au O (fun K hK=>dE (new:=dc (l.ins i).key) hF O O hA33 O O 1 O (by rw [hdk2,aF hL]; decide) (bz _) (by rw [hdk2]; exact uX) (fun w34 hA35=>hK _ _ ?_))
   replace hA35:Hp w0 (X::[row b16 117 (splice (aC l.key ent0 (((l.ins i).size+r.size:Nat):Int) (b:Int) (ptr g2) (ptr gr) (aN true b l r)) 0 (dc (l.ins i).key))]::[row b7 117 (aU i)]::[row b4 27 (.int .i64 i.ct::dc i.ch)]::[row b1 25 (dc i.k)]::R) w34:=hA35
   have hA36:Hp w0 (X::[row b16 117 (aC (l.ins i).key ent0 (((l.ins i).size+r.size:Nat):Int) (b:Int) (ptr g2) (ptr gr) (aN true b l r))]::[row b7 117 (aU i)]::[row b4 27 (.int .i64 i.ct::dc i.ch)]::[row b1 25 (dc i.k)]::R) w34:=by
    rw [← show splice (aC l.key ent0 (((l.ins i).size+r.size:Nat):Int) (b:Int) (ptr g2) (ptr gr) (aN true b l r)) 0 (dc (l.ins i).key)=aC (l.ins i).key ent0 (((l.ins i).size+r.size:Nat):Int) (b:Int) (ptr g2) (ptr gr) (aN true b l r) from (oD hL hk2 _ _ _ _)]
    exact hA35
   refine az<|hK15 _ _ ?_
   apply wp_seq_k; intro K16 hK16
   refine wS hF fun K17 hK17=>vX O<|vV O (lF O af rfl rfl)<|vE hK17<|vT1 O fun a hF=>?_
   have hM3:Rw w0 (X::[row b16 117 (aC (l.ins i).key ent0 (((l.ins i).size+r.size:Nat):Int) (b:Int) (ptr g2) (ptr gr) (aN true b l r))]::[row b7 117 (aU i)]::[row b4 27 (.int .i64 i.ct::dc i.ch)]::[row b1 25 (dc i.k)]::R) b16 (aC (l.ins i).key ent0 (((l.ins i).size+r.size:Nat):Int) (b:Int) (ptr g2) (ptr gr) (aN true b l r)):=Rw.ofRow (i:=1) rfl
   have hdl:(dc ((l.ins i).lift 32 (255-b))).length=32:=by rw [aj,Rx.lift_length]
   refine ak 11 [6,8,11] [0,1,2,3,4,5,9,6,7,8,10,11] _ af af (Hq.drew hA36.q) ?_
   have hA37:=Hl.drew hA36
   refine pR hF<|pX O O<|pX O O<|pX O O<|pW O O (fun _=>yf 67 rfl Uj O pF O)<|pW O O (fun _=>aP O Um Oo O O 0 O ae (rfl:(⟨_,67+0*1,none⟩:Addr)=⟨_,67,none⟩) (rfl:(none:Option Nat)=none))<|pV O O (fun x hx=>bD O hx O hM3 67 (by rw [aF hLm]; decide) rfl (eX hLm _ _ _ _) Pi) fun a hF=>?_
   refine pR hF<|pW O O (fun _=>yf 69 rfl Uj O yN O) fun a hF=>?_
   refine bM O O O (fun K hK=>ax hF O ae xQ rfl rfl ?_)
   with_reducible refine (iy w0 _ (X::[row b16 117 (aC (l.ins i).key ent0 (((l.ins i).size+r.size:Nat):Int) (b:Int) (ptr g2) (ptr gr) (aN true b l r))]::[row b7 117 (aU i)]::[row b4 27 (.int .i64 i.ct::dc i.ch)]::[row b1 25 (dc i.k)]::R) _ bu (l.ins i).key ent0 (aN true b l r) _ b (ptr g2) (ptr gr) hLm b16 (Rw.ofRow (i:=1) rfl) ag hA37).mono ?_
   rintro e' w38 ⟨rfl,hA39⟩
   refine ⟨_,rfl,fun a hF=>hK _ _ (fun _=>?_) ?_⟩
   ·exact hA39.q
   replace hA39:Hp w0 (X::[row b16 117 (aC (l.ins i).key ent0 (((l.ins i).size+r.size:Nat):Int) (b:Int) (ptr g2) (ptr gr) (aN true b l r))]::[row b7 117 (aU i)]::[row b4 27 (.int .i64 i.ct::dc i.ch)]::[row b1 25 (dc i.k)]::R) w38:=hA39
   refine pR hF<|pW O O (fun _=>dm O O O (show IntKind.i64.wrap (((256-b:Nat):Int)-1)=((255-b:Nat):Int) by rw [TB _ ag]; omega)) fun a hF=>?_
   refine bM O O O (fun K hK=>ax hF O ae DL rfl rfl ?_)
   with_reducible refine (kN w0 _ (X::[row b16 117 (aC (l.ins i).key ent0 (((l.ins i).size+r.size:Nat):Int) (b:Int) (ptr g2) (ptr gr) (aN true b l r))]::[row b7 117 (aU i)]::[row b4 27 (.int .i64 i.ct::dc i.ch)]::[row b1 25 (dc i.k)]::R) (X::G) (dR ((TF ..)) (List.Subset.trans hG (aA (aA (aA (aA (aA (bu)))))))) (l.ins i) hgl2 g2 gs 32 (255-b) ag ag (hSm.mono (List.subset_cons_of_subset _ (List.Subset.refl _))) hT2 hT hA39).mono ?_
   rintro e' w40 ⟨rfl,hA41⟩
   refine ⟨_,rfl,fun a hF=>hK _ _ (fun _=>?_) ?_⟩
   ·exact hA41.q
   refine pR hF<|pW O O (fun _=>aP O Un uX O O 0 O ae (rfl:(⟨_,69+0*32,none⟩:Addr)=⟨_,69,none⟩) (rfl:(none:Option Nat)=none)) fun a hF=>?_
   refine bM O O O (fun K hK=>dE (new:=dc ((l.ins i).lift 32 (255-b))) hF O O hA41 O O 1 O (by rw [hdl,aF hLm]; decide) (bz _) (by rw [hdl]; exact uX) (fun w42 hA43=>hK _ _ (fun h=>absurd h ae) ?_))
   replace hA43:Hp w0 (X::[row b16 117 (splice (aC (l.ins i).key ent0 (((l.ins i).size+r.size:Nat):Int) (b:Int) (ptr g2) (ptr gr) (aN true b l r)) 69 (dc ((l.ins i).lift 32 (255-b))))]::[row b7 117 (aU i)]::[row b4 27 (.int .i64 i.ct::dc i.ch)]::[row b1 25 (dc i.k)]::R) w42:=hA43
   have hA44:Hp w0 (X::[row b16 117 (aC (l.ins i).key ent0 (((l.ins i).size+r.size:Nat):Int) (b:Int) (ptr g2) (ptr gr) (aN true b (l.ins i) r))]::[row b7 117 (aU i)]::[row b4 27 (.int .i64 i.ct::dc i.ch)]::[row b1 25 (dc i.k)]::R) w42:=by
    rw [← show splice (aC (l.ins i).key ent0 (((l.ins i).size+r.size:Nat):Int) (b:Int) (ptr g2) (ptr gr) (aN true b l r)) 69 (dc ((l.ins i).lift 32 (255-b)))=aC (l.ins i).key ent0 (((l.ins i).size+r.size:Nat):Int) (b:Int) (ptr g2) (ptr gr) (aN true b (l.ins i) r) from ((kH hLm 0 (by rw [hdl]; decide) _ _ _ _).trans (congrArg (aC _ _ _ _ _ _) (yQ (by rw [hdl,aj,Rx.lift_length]))))]
    exact hA43
   refine aB ?_
   refine hK16 _ _ ?_
   refine wS hF fun K18 hK18=>vX O<|vE hK18 fun a hF=>?_
   apply wp_ret
   refine aO hF Tryz.results54 O ?_
   rw [Rx.ins_l hp hkb]
   have hA45:Hp w0 ([row b16 117 (aC (l.ins i).key ent0 (((l.ins i).size+r.size:Nat):Int) (b:Int) (ptr g2) (ptr gr) (aN true b (l.ins i) r))]::X::R) w42:=hpS 5 [1,0] [2,3,4] hA44 rfl
   exact ⟨b16,_,rfl,⟨g2,gr,Rw.ofMem (TF ..) (TD _ (List.mem_singleton.2 rfl)),hT2.join,Tr.mono (List.subset_cons_of_subset _ (List.Subset.refl _)) hTr2⟩,Hp.join hA45⟩
  ·have hkb1:bK i.k b=1:=by have:=iT i.k b; omega
   have hgF:(Rx.fork b l (r.ins i)).Good:=by have h:=(Rx.ins_good hi hg).1; rw [Rx.ins_r hp hkb] at h; exact h
   obtain ⟨hgl2,hgr2,hbl2,hbr2,_,_⟩:=id hgF
   have hll2:=Rx.bit_le hgl2
   have hrr2:=Rx.bit_le hgr2
   refine ak 6 [5,6] [0,1,2,3,4,5,6] _ af af (Hq.drew hA20.q) ?_
   have hA46:=Hl.drew hA20
   refine pR hF<|pV O O (fun x hx=>yZ (new:=dc i.k) rfl hx O 3 O vw hdk)<|pX O O<|pX O O<|pW O O (fun _=>yf 66 rfl Uj O QY O)<|pV O O (fun x hx=>bD O (Hq.sub hx (List.Subset.trans hG (aA (aA (aA (aA (bu))))))) O hN 66 (by rw [aF hL]; decide) rfl (dA hL _ _ _ _) Bq) fun a hF=>?_
   refine bM O O O (fun K hK=>ax hF O ae GV rfl rfl ?_)
   with_reducible refine (gQ (w0:=w0) (R:=([row b16 117 (aC l.key ent0 ((l.size+r.size:Nat):Int) (b:Int) (ptr gl) (ptr gr) (aN true b l r))]::[row b7 117 (aU i)]::[row b4 27 (.int .i64 i.ct::dc i.ch)]::[row b1 25 (dc i.k)]::R)) (z:=1) hkb1 hi.k hb hA46).mono ?_
   rintro e' w47 ⟨rfl,hA48⟩
   refine ⟨_,rfl,fun a hF=>hK _ _ (fun _=>?_) ?_⟩
   ·exact hA48.q
   replace hA48:Hp w0 ([row b16 117 (aC l.key ent0 ((l.size+r.size:Nat):Int) (b:Int) (ptr gl) (ptr gr) (aN true b l r))]::[row b7 117 (aU i)]::[row b4 27 (.int .i64 i.ct::dc i.ch)]::[row b1 25 (dc i.k)]::R) w47:=hA48
   rw [show ((1:Nat):Int)=1 from rfl] at hF
   refine bY hF O O O O ae _ (bJ O O) (fun h=>absurd h ae) (fun a hF=>?_)
   refine aB ?_
   refine hK12 _ _ ?_
   apply wp_seq_k; intro K19 hK19
   refine ak 13 [10,13] [0,1,2,3,4,5,6,7,8,9,11,10,12,13] _ af af (Hq.drew hA48.q) ?_
   have hA49:=Hl.drew hA48
   refine pR hF<|pX O O<|pX O O<|pX O O<|pX O O<|pW O O (fun _=>yf 67 rfl Uj O pF O)<|pW O O (fun _=>aP O Um Oo O O 1 O ae (rfl:(⟨_,67+1*1,none⟩:Addr)=⟨_,68,none⟩) (rfl:(none:Option Nat)=none))<|pV O O (fun x hx=>bD O (Hq.sub hx (List.Subset.trans hG (aA (aA (aA (aA (bu))))))) O hN 68 (by rw [aF hL]; decide) rfl (gI hL _ _ _ _) Pi) fun a hF=>?_
   refine pR hF<|pV O O (fun x hx=>yZ (new:=dc i.k) rfl hx O 3 O vw hdk)<|pV O O (fun x hx=>yZ (new:= .int .i64 i.ct::dc i.ch) rfl hx O 2 O BN hde)<|pX O O<|pW O O (fun _=>yf 67 rfl Uj O pF O) fun a hF=>?_
   refine bM O O O (fun K hK=>ax hF O ae sU rfl rfl ?_)
   with_reducible refine (ihr _ ([row b16 117 (aC l.key ent0 ((l.size+r.size:Nat):Int) (b:Int) (ptr gl) (ptr gr) (aN true b l r))]::[row b7 117 (aU i)]::[row b4 27 (.int .i64 i.ct::dc i.ch)]::[row b1 25 (dc i.k)]::R) G (List.Subset.trans hG (aA (aA (aA (aA (bu)))))) gs gr hSm hTr2 hA49).mono ?_
   rintro e' w50 ⟨g2,X,rfl,hT2,hA51⟩
   refine ⟨_,rfl,fun a hF=>hK _ _ (fun _=>?_) ?_⟩
   ·exact (qT hA51)
   refine pR hF<|pW O O (fun _=>aP O Um Oo O O 1 O ae (rfl:(⟨_,67+1*1,none⟩:Addr)=⟨_,68,none⟩) (rfl:(none:Option Nat)=none)) fun a hF=>?_
   refine bM O O O (fun K hK=>aW hF O O hA51 O O 1 O (by rw [aF hL]; decide) rfl Oo (fun w52 hA53=>hK _ _ (fun h=>absurd h ae) ?_))
   replace hA53:Hp w0 (X::[row b16 117 ((aC l.key ent0 ((l.size+r.size:Nat):Int) (b:Int) (ptr gl) (ptr gr) (aN true b l r)).set 68 (ptr g2))]::[row b7 117 (aU i)]::[row b4 27 (.int .i64 i.ct::dc i.ch)]::[row b1 25 (dc i.k)]::R) w52:=hA53
   have hA54:Hp w0 (X::[row b16 117 (aC l.key ent0 ((l.size+r.size:Nat):Int) (b:Int) (ptr gl) (ptr g2) (aN true b l r))]::[row b7 117 (aU i)]::[row b4 27 (.int .i64 i.ct::dc i.ch)]::[row b1 25 (dc i.k)]::R) w52:=by
    rw [← show (aC l.key ent0 ((l.size+r.size:Nat):Int) (b:Int) (ptr gl) (ptr gr) (aN true b l r)).set 68 (ptr g2)=aC l.key ent0 ((l.size+r.size:Nat):Int) (b:Int) (ptr gl) (ptr g2) (aN true b l r) from (xA hL _ _ _ _ _)]
    exact hA53
   refine aB ?_
   refine hK19 _ _ ?_
   apply wp_seq_k; intro K20 hK20
   obtain ⟨E2,p2,q2,s2,hL2,hN2⟩:=Tr.view hgr2 hT2
   obtain ⟨E3,p3,q3,s3,hL3,hN3⟩:=Tr.view hgl2 hTl
   have hM:Rw w0 (X::[row b16 117 (aC l.key ent0 ((l.size+r.size:Nat):Int) (b:Int) (ptr gl) (ptr g2) (aN true b l r))]::[row b7 117 (aU i)]::[row b4 27 (.int .i64 i.ct::dc i.ch)]::[row b1 25 (dc i.k)]::R) b16 (aC l.key ent0 ((l.size+r.size:Nat):Int) (b:Int) (ptr gl) (ptr g2) (aN true b l r)):=Rw.ofRow (i:=1) rfl
   refine ak 14 [14] [0,1,2,3,4,5,6,7,8,9,10,11,12,13,14] _ af af (Hq.drew hA54.q) ?_
   have hA55:=Hl.drew hA54
   refine pR hF<|pW O O (fun _=>yf 67 rfl Uj O pF O)<|pW O O (fun _=>aP O Um Oo O O 0 O ae (rfl:(⟨_,67+0*1,none⟩:Addr)=⟨_,67,none⟩) (rfl:(none:Option Nat)=none))<|pV O O (fun x hx=>bD O hx O hM 67 (by rw [aF hL]; decide) rfl (eX hL _ _ _ _) Pi) fun a hF=>?_
   refine pR hF<|pX O O<|pW O O (fun _=>yf 65 rfl Uj O QY O)<|pV O O (fun x hx=>bD O (Hq.sub hx (List.Subset.trans hG (aA (aA (aA (aA (aA (bu)))))))) O hN3 65 (by rw [aF hL3]; decide) rfl (dY hL3 _ _ _ _) Bq) fun a hF=>?_
   refine pR hF<|pW O O (fun _=>yf 67 rfl Uj O pF O)<|pW O O (fun _=>aP O Um Oo O O 1 O ae (rfl:(⟨_,67+1*1,none⟩:Addr)=⟨_,68,none⟩) (rfl:(none:Option Nat)=none))<|pV O O (fun x hx=>bD O hx O hM 68 (by rw [aF hL]; decide) rfl (gI hL _ _ _ _) Pi) fun a hF=>?_
   refine pR hF<|pX O O<|pW O O (fun _=>yf 65 rfl Uj O QY O)<|pV O O (fun x hx=>bD O (Hq.sub hx (dR ((TF ..)) (List.Subset.trans hG (aA (aA (aA (aA (aA (bu))))))))) O hN2 65 (by rw [aF hL2]; decide) rfl (dY hL2 _ _ _ _) Bq) fun a hF=>?_
   refine pR hF<|pW O O (fun _=>bH O O O (show IntKind.i64.wrap (((l.size:Nat):Int)+(((r.ins i).size:Nat):Int))=((l.size+(r.ins i).size:Nat):Int) by rw [TB _ ag]; omega)) fun a hF=>?_
   refine pR hF<|pW O O (fun _=>yf 65 rfl Uj O QY O) fun a hF=>?_
   refine bM O O O (fun K hK=>aW hF O O hA55 O O 1 O (by rw [aF hL]; decide) rfl QY (fun w56 hA57=>hK _ _ (fun h=>absurd h ae) ?_))
   replace hA57:Hp w0 (X::[row b16 117 ((aC l.key ent0 ((l.size+r.size:Nat):Int) (b:Int) (ptr gl) (ptr g2) (aN true b l r)).set 65 (.int .i64 ((l.size+(r.ins i).size:Nat):Int)))]::[row b7 117 (aU i)]::[row b4 27 (.int .i64 i.ct::dc i.ch)]::[row b1 25 (dc i.k)]::R) w56:=hA57
   have hA58:Hp w0 (X::[row b16 117 (aC l.key ent0 ((l.size+(r.ins i).size:Nat):Int) (b:Int) (ptr gl) (ptr g2) (aN true b l r))]::[row b7 117 (aU i)]::[row b4 27 (.int .i64 i.ct::dc i.ch)]::[row b1 25 (dc i.k)]::R) w56:=by
    rw [← show (aC l.key ent0 ((l.size+r.size:Nat):Int) (b:Int) (ptr gl) (ptr g2) (aN true b l r)).set 65 (.int .i64 ((l.size+(r.ins i).size:Nat):Int))=aC l.key ent0 ((l.size+(r.ins i).size:Nat):Int) (b:Int) (ptr gl) (ptr g2) (aN true b l r) from (oC hL _ _ _ _ _)]
    exact hA57
   refine aB ?_
   refine hK20 _ _ ?_
   apply wp_seq_k; intro K21 hK21
   have hM2:Rw w0 (X::[row b16 117 (aC l.key ent0 ((l.size+(r.ins i).size:Nat):Int) (b:Int) (ptr gl) (ptr g2) (aN true b l r))]::[row b7 117 (aU i)]::[row b4 27 (.int .i64 i.ct::dc i.ch)]::[row b1 25 (dc i.k)]::R) b16 (aC l.key ent0 ((l.size+(r.ins i).size:Nat):Int) (b:Int) (ptr gl) (ptr g2) (aN true b l r)):=Rw.ofRow (i:=1) rfl
   have hk2:l.key.length=32:=hgl2.key
   have hdk2:(dc l.key).length=32:=by rw [aj,hk2]
   have hLm:NodeL l.key ent0 (aN true b l r):=⟨hk2,gY,kD ..⟩
   refine wp_region_lit ?_
   refine vR hF<|vV O (yf 67 rfl Uj O pF O)<|vV O (aP O Um Oo O O 0 O ae (rfl:(⟨_,67+0*1,none⟩:Addr)=⟨_,67,none⟩) (rfl:(none:Option Nat)=none))<|vV O (bD O hA58.q O hM2 67 (by rw [aF hL]; decide) rfl (eX hL _ _ _ _) Pi) fun a hF=>?_
   refine vR hF<|vX O<|vV O (yf 0 O Uj O uX O)<|vV O (aQ O (Hq.sub hA58.q (List.Subset.trans hG (aA (aA (aA (aA (aA (bu)))))))) O hN3 0 (by rw [aF hL3]; decide) rfl (dV hL3 _ _ _ _) vw) fun a hF=>?_
   refine vR hF<|vV O (yf 0 O Uj O uX O) fun a hF=>?_
   refine au O (fun K hK=>dE (new:=dc l.key) hF O O hA58 O O 1 O (by rw [hdk2,aF hL]; decide) (bz _) (by rw [hdk2]; exact uX) (fun w59 hA60=>hK _ _ ?_))
   replace hA60:Hp w0 (X::[row b16 117 (splice (aC l.key ent0 ((l.size+(r.ins i).size:Nat):Int) (b:Int) (ptr gl) (ptr g2) (aN true b l r)) 0 (dc l.key))]::[row b7 117 (aU i)]::[row b4 27 (.int .i64 i.ct::dc i.ch)]::[row b1 25 (dc i.k)]::R) w59:=hA60
   have hA61:Hp w0 (X::[row b16 117 (aC l.key ent0 ((l.size+(r.ins i).size:Nat):Int) (b:Int) (ptr gl) (ptr g2) (aN true b l r))]::[row b7 117 (aU i)]::[row b4 27 (.int .i64 i.ct::dc i.ch)]::[row b1 25 (dc i.k)]::R) w59:=by
    rw [← show splice (aC l.key ent0 ((l.size+(r.ins i).size:Nat):Int) (b:Int) (ptr gl) (ptr g2) (aN true b l r)) 0 (dc l.key)=aC l.key ent0 ((l.size+(r.ins i).size:Nat):Int) (b:Int) (ptr gl) (ptr g2) (aN true b l r) from (oD hL hk2 _ _ _ _)]
    exact hA60
   refine az<|hK21 _ _ ?_
   apply wp_seq_k; intro K22 hK22
   refine wS hF fun K23 hK23=>vX O<|vV O (lF O af rfl rfl)<|vE hK23<|vT1 O fun a hF=>?_
   have hM3:Rw w0 (X::[row b16 117 (aC l.key ent0 ((l.size+(r.ins i).size:Nat):Int) (b:Int) (ptr gl) (ptr g2) (aN true b l r))]::[row b7 117 (aU i)]::[row b4 27 (.int .i64 i.ct::dc i.ch)]::[row b1 25 (dc i.k)]::R) b16 (aC l.key ent0 ((l.size+(r.ins i).size:Nat):Int) (b:Int) (ptr gl) (ptr g2) (aN true b l r)):=Rw.ofRow (i:=1) rfl
   have hdl:(dc ((r.ins i).lift 32 (255-b))).length=32:=by rw [aj,Rx.lift_length]
   refine ak 11 [6,8,11] [0,1,2,3,4,5,9,6,7,8,10,11] _ af af (Hq.drew hA61.q) ?_
   have hA62:=Hl.drew hA61
   refine pR hF<|pX O O<|pX O O<|pX O O<|pW O O (fun _=>yf 67 rfl Uj O pF O)<|pW O O (fun _=>aP O Um Oo O O 1 O ae (rfl:(⟨_,67+1*1,none⟩:Addr)=⟨_,68,none⟩) (rfl:(none:Option Nat)=none))<|pV O O (fun x hx=>bD O hx O hM3 68 (by rw [aF hLm]; decide) rfl (gI hLm _ _ _ _) Pi) fun a hF=>?_
   refine pR hF<|pW O O (fun _=>yf 69 rfl Uj O yN O) fun a hF=>?_
   refine bM O O O (fun K hK=>ax hF O ae xQ rfl rfl ?_)
   with_reducible refine (iy w0 _ (X::[row b16 117 (aC l.key ent0 ((l.size+(r.ins i).size:Nat):Int) (b:Int) (ptr gl) (ptr g2) (aN true b l r))]::[row b7 117 (aU i)]::[row b4 27 (.int .i64 i.ct::dc i.ch)]::[row b1 25 (dc i.k)]::R) _ bu l.key ent0 (aN true b l r) _ b (ptr gl) (ptr g2) hLm b16 (Rw.ofRow (i:=1) rfl) ag hA62).mono ?_
   rintro e' w63 ⟨rfl,hA64⟩
   refine ⟨_,rfl,fun a hF=>hK _ _ (fun _=>?_) ?_⟩
   ·exact hA64.q
   replace hA64:Hp w0 (X::[row b16 117 (aC l.key ent0 ((l.size+(r.ins i).size:Nat):Int) (b:Int) (ptr gl) (ptr g2) (aN true b l r))]::[row b7 117 (aU i)]::[row b4 27 (.int .i64 i.ct::dc i.ch)]::[row b1 25 (dc i.k)]::R) w63:=hA64
   refine pR hF<|pW O O (fun _=>dm O O O (show IntKind.i64.wrap (((256-b:Nat):Int)-1)=((255-b:Nat):Int) by rw [TB _ ag]; omega)) fun a hF=>?_
   refine bM O O O (fun K hK=>ax hF O ae DL rfl rfl ?_)
   with_reducible refine (kN w0 _ (X::[row b16 117 (aC l.key ent0 ((l.size+(r.ins i).size:Nat):Int) (b:Int) (ptr gl) (ptr g2) (aN true b l r))]::[row b7 117 (aU i)]::[row b4 27 (.int .i64 i.ct::dc i.ch)]::[row b1 25 (dc i.k)]::R) (X::G) (dR ((TF ..)) (List.Subset.trans hG (aA (aA (aA (aA (aA (bu)))))))) (r.ins i) hgr2 g2 gs 32 (255-b) ag ag (hSm.mono (List.subset_cons_of_subset _ (List.Subset.refl _))) hT2 hT hA64).mono ?_
   rintro e' w65 ⟨rfl,hA66⟩
   refine ⟨_,rfl,fun a hF=>hK _ _ (fun _=>?_) ?_⟩
   ·exact hA66.q
   refine pR hF<|pW O O (fun _=>aP O Un uX O O 1 O ae (rfl:(⟨_,69+1*32,none⟩:Addr)=⟨_,101,none⟩) (rfl:(none:Option Nat)=none)) fun a hF=>?_
   refine bM O O O (fun K hK=>dE (new:=dc ((r.ins i).lift 32 (255-b))) hF O O hA66 O O 1 O (by rw [hdl,aF hLm]; decide) (bz _) (by rw [hdl]; exact uX) (fun w67 hA68=>hK _ _ (fun h=>absurd h ae) ?_))
   replace hA68:Hp w0 (X::[row b16 117 (splice (aC l.key ent0 ((l.size+(r.ins i).size:Nat):Int) (b:Int) (ptr gl) (ptr g2) (aN true b l r)) 101 (dc ((r.ins i).lift 32 (255-b))))]::[row b7 117 (aU i)]::[row b4 27 (.int .i64 i.ct::dc i.ch)]::[row b1 25 (dc i.k)]::R) w67:=hA68
   have hA69:Hp w0 (X::[row b16 117 (aC l.key ent0 ((l.size+(r.ins i).size:Nat):Int) (b:Int) (ptr gl) (ptr g2) (aN true b l (r.ins i)))]::[row b7 117 (aU i)]::[row b4 27 (.int .i64 i.ct::dc i.ch)]::[row b1 25 (dc i.k)]::R) w67:=by
    rw [← show splice (aC l.key ent0 ((l.size+(r.ins i).size:Nat):Int) (b:Int) (ptr gl) (ptr g2) (aN true b l r)) 101 (dc ((r.ins i).lift 32 (255-b)))=aC l.key ent0 ((l.size+(r.ins i).size:Nat):Int) (b:Int) (ptr gl) (ptr g2) (aN true b l (r.ins i)) from ((kH hLm 32 (by rw [hdl]; decide) _ _ _ _).trans (congrArg (aC _ _ _ _ _ _) (yR (by rw [aj,Rx.lift_length]) (by rw [hdl,aj,Rx.lift_length]))))]
    exact hA68
   refine aB ?_
   refine hK22 _ _ ?_
   refine wS hF fun K24 hK24=>vX O<|vE hK24 fun a hF=>?_
   apply wp_ret
   refine aO hF Tryz.results54 O ?_
   rw [Rx.ins_r hp hkb]
   have hA70:Hp w0 ([row b16 117 (aC l.key ent0 ((l.size+(r.ins i).size:Nat):Int) (b:Int) (ptr gl) (ptr g2) (aN true b l (r.ins i)))]::X::R) w67:=hpS 5 [1,0] [2,3,4] hA69 rfl
   exact ⟨b16,_,rfl,⟨gl,g2,Rw.ofMem (TF ..) (TD _ (List.mem_singleton.2 rfl)),Tr.mono (List.subset_cons_of_subset _ (List.Subset.refl _)) hTl,hT2.join⟩,Hp.join hA70⟩
theorem Aa (w0:World) (i:Itm) (hi:i.OK) (b:Nat) (l r:Rx) (hg:(Rx.fork b l r).Good) (hsz:(Rx.fork b l r).size≤100000) (ihl:Sv w0 i l) (ihr:Sv w0 i r) (w:World) (R:List Seg) (gn gl gr:Nat) (Yl Yr:Seg) (hl:TrO false l gl Yl) (hr:TrO false r gr Yr) (hA:Hp w0 ([row gn 117 (aC l.key ent0 ((l.size+r.size:Nat):Int) (b:Int) (ptr gl) (ptr gr) (aN false b l r))]::Yl::Yr::R) w):Calls Tryz.prog 54 #[.pointer (some ⟨gn,0,none⟩),.agg (dc i.k).toArray,.agg (.int .i64 i.ct::dc i.ch).toArray,.pointer none] w fun e w'=>∃ g Y2,e= .returned (.pointer (some ⟨g,0,none⟩))∧TrO false ((Rx.fork b l r).ins i) g Y2∧Hp w0 (Y2::R) w':=by
 have hdk:(dc i.k).length=32:=by rw [aj,hi.k]
 have hde:(Value.int .i64 i.ct::dc i.ch).length=33:=by rw [List.length_cons,aj,hi.ch]
 have hkl:l.key.length=32:=hg.key
 obtain ⟨hgl,hgr,hbl,hbr,hil,hir⟩:=id hg
 have hll:=Rx.bit_le hgl
 have hrr:=Rx.bit_le hgr
 have hb:b<256:=by omega
 have hsl:=Rx.ins_size i l
 have hsr:=Rx.ins_size i r
 have hsF:(Rx.fork b l r).size=l.size+r.size:=rfl
 have hsi:(Rx.leaf i).size=1:=rfl
 have hL:NodeL l.key ent0 (aN false b l r):=⟨hkl,gY,kD ..⟩
 have hN:Rw w0 [[row gn 117 (aC l.key ent0 ((l.size+r.size:Nat):Int) (b:Int) (ptr gl) (ptr gr) (aN false b l r))]] gn (aC l.key ent0 ((l.size+r.size:Nat):Int) (b:Int) (ptr gl) (ptr gr) (aN false b l r)):=Rw.ofRow (i:=0) rfl
 refine aJ Tryz.func54 O Tryz.ntmps54 ai (fun a hF=>?_)
 refine wp_seq_k fun K1 hK1=>wp_region_lit ?_
 refine au O (fun K hK=>bC (cs:=dc i.k) hF O ae rfl hA O (fun b1 w2 a hb1 hF hA3=>hK _ _ ?_))
 refine au O (fun K hK=>bC (cs:= .int .i64 i.ct::dc i.ch) hF O ae rfl hA3 O (fun b4 w5 a hb4 hF hA6=>hK _ _ ?_))
 refine vR hF<|vX O<|vE hK1<|wT fun K2 hK2=>vV O (yZ (new:=dc i.k) rfl hA6.q O 1 O vw hdk)<|vV O (yZ (new:= .int .i64 i.ct::dc i.ch) rfl hA6.q O 0 O BN hde)<|vV O (dS (v:= .agg (aU i).toArray) (qs := #[(0,.agg (dc i.k).toArray),(1,.agg (.int .i64 i.ct::dc i.ch).toArray),(2,.int .i64 1),(3,.int .i64 256)]) O O (by exact rG hi)) fun a hF=>?_
 refine au O (fun K hK=>bC (cs:=aU i) hF O ae rfl hA6 O (fun b7 w8 a hb7 hF hA9=>hK _ _ ?_))
 refine vR hF<|vX O<|vE hK2<|wQ fun K3 hK3=>wT fun K4 hK4=>vX O<|vV O (iG O af rfl rfl)<|vE hK4<|vF1 O<|wKp hK3<|wQ fun K5 hK5 a hF=>?_
 refine ak 6 [5,6] [0,1,2,3,4,5,6] _ af af (Hq.drew hA9.q) ?_
 have hA10:=Hl.drew hA9
 refine pR hF<|pV O O (fun x hx=>yZ (new:=dc i.k) rfl hx O 2 O vw hdk)<|pX O O<|pX O O<|pW O O (fun _=>yf 0 O Uj O uX O)<|pV O O (fun x hx=>aQ O (Hq.sub hx (dZ (TI _ (TI _ (TI _ ((TF ..))))))) O hN 0 (by rw [aF hL]; decide) rfl (dV hL _ _ _ _) vw) fun a hF=>?_
 refine bM O O O (fun K hK=>ax hF O ae sQ rfl rfl ?_)
 with_reducible refine (o5 w0 _ ([row b7 117 (aU i)]::[row b4 27 (.int .i64 i.ct::dc i.ch)]::[row b1 25 (dc i.k)]::[row gn 117 (aC l.key ent0 ((l.size+r.size:Nat):Int) (b:Int) (ptr gl) (ptr gr) (aN false b l r))]::Yl::Yr::R) i.k l.key hi.k hkl hA10).mono ?_
 rintro e' w11 ⟨rfl,hA12⟩
 refine ⟨_,rfl,fun a hF=>hK _ _ (fun _=>?_) ?_⟩
 ·exact hA12.q
 replace hA12:Hp w0 ([row b7 117 (aU i)]::[row b4 27 (.int .i64 i.ct::dc i.ch)]::[row b1 25 (dc i.k)]::[row gn 117 (aC l.key ent0 ((l.size+r.size:Nat):Int) (b:Int) (ptr gl) (ptr gr) (aN false b l r))]::Yl::Yr::R) w11:=hA12
 refine bY hF O O O O ae _ (bJ O O) (fun h=>absurd h ae) (fun a hF=>?_)
 refine aB ?_
 refine hK5 _ _ ?_
 apply wp_seq_k; intro K6 hK6
 refine wS hF fun K7 hK7=>vX O<|vX O<|vX O<|vV O (yf 66 rfl Uj O QY O)<|vV O (bD O (Hq.sub hA12.q (dZ (TI _ (TI _ (TI _ ((TF ..))))))) O hN 66 (by rw [aF hL]; decide) rfl (dA hL _ _ _ _) Bq) fun a hF=>?_
 refine vR hF<|vV O (aH O O O O O)<|vE hK7 fun a hF=>?_
 by_cases hp:bI i.k l.key<b
 ·refine aZ hF O (dB ag) ?_
  have hgA:(Rx.fork b l r).Good:=hg
  have hgI:(Rx.leaf i).Good:=hi
  have hpa:bI i.k l.key<(Rx.fork b l r).bit:=hp
  have hpb:bI i.k l.key<(Rx.leaf i).bit:=by show _<256; omega
  refine wS hF fun K8 hK8=>vX O<|vX O<|vX O<|vX O fun a hF=>?_
  have hLa:NodeL (Rx.fork b l r).key ent0 (aN false b l r):=hL
  have hNa:Rw w0 ([row b7 117 (aU i)]::[row b4 27 (.int .i64 i.ct::dc i.ch)]::[row b1 25 (dc i.k)]::[row gn 117 (aC l.key ent0 ((l.size+r.size:Nat):Int) (b:Int) (ptr gl) (ptr gr) (aN false b l r))]::Yl::Yr::R) gn (aC (Rx.fork b l r).key ent0 ((Rx.fork b l r).size:Int) ((Rx.fork b l r).bit:Int) (ptr gl) (ptr gr) (aN false b l r)):=Rw.ofMem (TI _ (TI _ (TI _ ((TF ..))))) (List.mem_singleton.2 rfl)
  have hLb:NodeL (Rx.leaf i).key i.ent (List.replicate 64 (.int .u8 0)):=NodeL.leaf hi
  have hNb:Rw w0 ([row b7 117 (aU i)]::[row b4 27 (.int .i64 i.ct::dc i.ch)]::[row b1 25 (dc i.k)]::[row gn 117 (aC l.key ent0 ((l.size+r.size:Nat):Int) (b:Int) (ptr gl) (ptr gr) (aN false b l r))]::Yl::Yr::R) b7 (aC (Rx.leaf i).key i.ent ((Rx.leaf i).size:Int) ((Rx.leaf i).bit:Int) (.pointer none) (.pointer none) (List.replicate 64 (.int .u8 0))):=Rw.ofMem ((TF ..)) (List.mem_singleton.2 rfl)
  refine au O (fun K hK=>ax hF O ae sO rfl rfl ?_)
  with_reducible refine (BX w0 _ ([row b7 117 (aU i)]::[row b4 27 (.int .i64 i.ct::dc i.ch)]::[row b1 25 (dc i.k)]::[row gn 117 (aC l.key ent0 ((l.size+r.size:Nat):Int) (b:Int) (ptr gl) (ptr gr) (aN false b l r))]::Yl::Yr::R) _ bu (Rx.fork b l r) (.leaf i) hgA hgI gn b7 (bI i.k l.key) hpa hpb (by rw [hsF,hsi]; omega) ent0 (aN false b l r) (ptr gl) (ptr gr) hLa hNa i.ent (List.replicate 64 (.int .u8 0)) (.pointer none) (.pointer none) hLb hNb hA12).mono ?_
  rintro e' w13 ⟨gj,J,rfl,hJ,hA14⟩
  refine ⟨_,rfl,fun a hF=>hK _ _ ?_⟩
  replace hA14:Hp w0 (J::[row b7 117 (aU i)]::[row b4 27 (.int .i64 i.ct::dc i.ch)]::[row b1 25 (dc i.k)]::[row gn 117 (aC l.key ent0 ((l.size+r.size:Nat):Int) (b:Int) (ptr gl) (ptr gr) (aN false b l r))]::Yl::Yr::R) w13:=hA14
  refine vR hF<|vX O<|vE hK8 fun a hF=>?_
  apply wp_ret
  simp only [Exit.then]
  refine aO hF Tryz.results54 O ?_
  rw [Rx.ins_join (t:=(Rx.fork b l r)) hp]
  have hA15:Hp w0 (J::[row gn 117 (aC l.key ent0 ((l.size+r.size:Nat):Int) (b:Int) (ptr gl) (ptr gr) (aN false b l r))]::Yl::Yr::[row b7 117 (aU i)]::R) w13:=hpS 7 [0,4,5,6,1] [2,3] hA14 rfl
  obtain ⟨Z,hZ,hZp⟩:=hJ.tro (Ya:=row gn 117 (aC l.key ent0 ((l.size+r.size:Nat):Int) (b:Int) (ptr gl) (ptr gr) (aN false b l r))::(Yl++Yr)) (Yb:=[row b7 117 (aU i)]) ⟨gl,gr,Yl,Yr,rfl,hl,hr⟩ rfl
  exact ⟨gj,Z,rfl,hZ,Hp.permHead (Hp.cast hA15 (S':=(J++((row gn 117 (aC l.key ent0 ((l.size+r.size:Nat):Int) (b:Int) (ptr gl) (ptr gr) (aN false b l r))::(Yl++Yr))++[row b7 117 (aU i)]))::R) (by simp only [List.flatten_cons,List.append_assoc,List.cons_append,List.nil_append])) hZp⟩
 ·refine aS hF O (dD ag) ?_
  apply wp_skip
  refine hK6 _ _ ?_
  apply wp_seq_k; intro K9 hK9
  refine wS hF fun K10 hK10=>vX O<|vX O<|vV O (yf 66 rfl Uj O QY O)<|vV O (bD O (Hq.sub hA12.q (dZ (TI _ (TI _ (TI _ ((TF ..))))))) O hN 66 (by rw [aF hL]; decide) rfl (dA hL _ _ _ _) Bq) fun a hF=>?_
  refine vR hF<|vV O (aH O O O O (fJ ag))<|vE hK10<|vF1 O<|wKp hK9<|wT fun K11 hK11=>vX O<|vX O<|vV O (aQ O (Hq.sub hA12.q (dZ (TI _ (TI _ (TI _ ((TF ..))))))) O hN 0 (by rw [aF hL]; decide) rfl (zn hL _ _ _ _) yX) fun a hF=>?_
  refine au O (fun K hK=>bG hF O ae rfl hA12 (yH) (fun b16 w17 a hb16 hF hA18=>hK _ _ ?_))
  refine au O (fun K hK=>aI (new:=aC l.key ent0 ((l.size+r.size:Nat):Int) (b:Int) (ptr gl) (ptr gr) (aN false b l r)) hF O O hA18 O O 0 O (by rw [aF hL]; rfl) (zl Dv (yO _ _ _ _) rfl rfl _ _) (by exact yM) (fun w19 hA20=>hK _ _ ?_))
  replace hA20:Hp w0 ([row b16 117 (aC l.key ent0 ((l.size+r.size:Nat):Int) (b:Int) (ptr gl) (ptr gr) (aN false b l r))]::[row b7 117 (aU i)]::[row b4 27 (.int .i64 i.ct::dc i.ch)]::[row b1 25 (dc i.k)]::[row gn 117 (aC l.key ent0 ((l.size+r.size:Nat):Int) (b:Int) (ptr gl) (ptr gr) (aN false b l r))]::Yl::Yr::R) w19:=hA20
  refine az<|hK11 _ _ ?_
  apply wp_seq_k; intro K12 hK12
  by_cases hkb:bK i.k b=0
  ·have hgF:(Rx.fork b (l.ins i) r).Good:=by have h:=(Rx.ins_good hi hg).1; rw [Rx.ins_l hp hkb] at h; exact h
   obtain ⟨hgl2,hgr2,hbl2,hbr2,_,_⟩:=id hgF
   have hll2:=Rx.bit_le hgl2
   have hrr2:=Rx.bit_le hgr2
   refine ak 6 [5,6] [0,1,2,3,4,5,6] _ af af (Hq.drew hA20.q) ?_
   have hA21:=Hl.drew hA20
   refine pR hF<|pV O O (fun x hx=>yZ (new:=dc i.k) rfl hx O 3 O vw hdk)<|pX O O<|pX O O<|pW O O (fun _=>yf 66 rfl Uj O QY O)<|pV O O (fun x hx=>bD O (Hq.sub hx (dZ (TI _ (TI _ (TI _ (TI _ ((TF ..)))))))) O hN 66 (by rw [aF hL]; decide) rfl (dA hL _ _ _ _) Bq) fun a hF=>?_
   refine bM O O O (fun K hK=>ax hF O ae GV rfl rfl ?_)
   with_reducible refine (gQ (w0:=w0) (R:=([row b16 117 (aC l.key ent0 ((l.size+r.size:Nat):Int) (b:Int) (ptr gl) (ptr gr) (aN false b l r))]::[row b7 117 (aU i)]::[row b4 27 (.int .i64 i.ct::dc i.ch)]::[row b1 25 (dc i.k)]::[row gn 117 (aC l.key ent0 ((l.size+r.size:Nat):Int) (b:Int) (ptr gl) (ptr gr) (aN false b l r))]::Yl::Yr::R)) (z:=0) hkb hi.k hb hA21).mono ?_
   rintro e' w22 ⟨rfl,hA23⟩
   refine ⟨_,rfl,fun a hF=>hK _ _ (fun _=>?_) ?_⟩
   ·exact hA23.q
   replace hA23:Hp w0 ([row b16 117 (aC l.key ent0 ((l.size+r.size:Nat):Int) (b:Int) (ptr gl) (ptr gr) (aN false b l r))]::[row b7 117 (aU i)]::[row b4 27 (.int .i64 i.ct::dc i.ch)]::[row b1 25 (dc i.k)]::[row gn 117 (aC l.key ent0 ((l.size+r.size:Nat):Int) (b:Int) (ptr gl) (ptr gr) (aN false b l r))]::Yl::Yr::R) w22:=hA23
   rw [show ((0:Nat):Int)=0 from rfl] at hF
   refine bY hF O O O O ae _ (bJ O O) (fun h=>absurd h ae) (fun a hF=>?_)
   refine aB ?_
   refine hK12 _ _ ?_
   apply wp_seq_k; intro K13 hK13
   refine ak 13 [10,13] [0,1,2,3,4,5,6,7,8,9,11,10,12,13] (fun x=>Hq w0 ([row b16 117 (aC l.key ent0 ((l.size+r.size:Nat):Int) (b:Int) (ptr gl) (ptr gr) (aN false b l r))]::[row b7 117 (aU i)]::[row b4 27 (.int .i64 i.ct::dc i.ch)]::[row b1 25 (dc i.k)]::[row gn 117 (aC l.key ent0 ((l.size+r.size:Nat):Int) (b:Int) (ptr gl) (ptr gr) (aN false b l r))]::Yr::R) x) af af (Hq.drew (Hp.qp [[row b16 117 (aC l.key ent0 ((l.size+r.size:Nat):Int) (b:Int) (ptr gl) (ptr gr) (aN false b l r))],[row b7 117 (aU i)],[row b4 27 (.int .i64 i.ct::dc i.ch)],[row b1 25 (dc i.k)],[row gn 117 (aC l.key ent0 ((l.size+r.size:Nat):Int) (b:Int) (ptr gl) (ptr gr) (aN false b l r))],Yl,Yr] R [0,1,2,3,4,6] hA23)) ?_
   have hA24:=Hl.drew hA23
   refine pR hF<|pX O O<|pX O O<|pX O O<|pX O O<|pW O O (fun _=>yf 67 rfl Uj O pF O)<|pW O O (fun _=>aP O Um Oo O O 0 O ae (rfl:(⟨_,67+0*1,none⟩:Addr)=⟨_,67,none⟩) (rfl:(none:Option Nat)=none))<|pV O O (fun x hx=>bD O (Hq.sub hx (dZ (TI _ (TI _ (TI _ (TI _ ((TF ..)))))))) O hN 67 (by rw [aF hL]; decide) rfl (eX hL _ _ _ _) Pi) fun a hF=>?_
   refine pR hF<|pV O O (fun x hx=>yZ (new:=dc i.k) rfl hx O 3 O vw hdk)<|pV O O (fun x hx=>yZ (new:= .int .i64 i.ct::dc i.ch) rfl hx O 2 O BN hde)<|pX O O<|pW O O (fun _=>yf 67 rfl Uj O pF O) fun a hF=>?_
   have hA25:Hp w0 (Yl::[row b16 117 (aC l.key ent0 ((l.size+r.size:Nat):Int) (b:Int) (ptr gl) (ptr gr) (aN false b l r))]::[row b7 117 (aU i)]::[row b4 27 (.int .i64 i.ct::dc i.ch)]::[row b1 25 (dc i.k)]::[row gn 117 (aC l.key ent0 ((l.size+r.size:Nat):Int) (b:Int) (ptr gl) (ptr gr) (aN false b l r))]::Yr::R) w22.drew:=hpO 7 [5,0,1,2,3,4,6] hA24 rfl
   refine bM O O O (fun K hK=>ax hF O ae sU rfl rfl ?_)
   with_reducible refine (ihl _ ([row b16 117 (aC l.key ent0 ((l.size+r.size:Nat):Int) (b:Int) (ptr gl) (ptr gr) (aN false b l r))]::[row b7 117 (aU i)]::[row b4 27 (.int .i64 i.ct::dc i.ch)]::[row b1 25 (dc i.k)]::[row gn 117 (aC l.key ent0 ((l.size+r.size:Nat):Int) (b:Int) (ptr gl) (ptr gr) (aN false b l r))]::Yr::R) Yl gl hl hA25).mono ?_
   rintro e' w26 ⟨g2,Y2,rfl,h2,hA27⟩
   refine ⟨_,rfl,fun a hF=>hK _ _ (fun _=>?_) ?_⟩
   ·exact (qT hA27)
   refine pR hF<|pW O O (fun _=>aP O Um Oo O O 0 O ae (rfl:(⟨_,67+0*1,none⟩:Addr)=⟨_,67,none⟩) (rfl:(none:Option Nat)=none)) fun a hF=>?_
   refine bM O O O (fun K hK=>aW hF O O hA27 O O 1 O (by rw [aF hL]; decide) rfl Oo (fun w28 hA29=>hK _ _ (fun h=>absurd h ae) ?_))
   replace hA29:Hp w0 (Y2::[row b16 117 ((aC l.key ent0 ((l.size+r.size:Nat):Int) (b:Int) (ptr gl) (ptr gr) (aN false b l r)).set 67 (ptr g2))]::[row b7 117 (aU i)]::[row b4 27 (.int .i64 i.ct::dc i.ch)]::[row b1 25 (dc i.k)]::[row gn 117 (aC l.key ent0 ((l.size+r.size:Nat):Int) (b:Int) (ptr gl) (ptr gr) (aN false b l r))]::Yr::R) w28:=hA29
   have hA30:Hp w0 (Y2::[row b16 117 (aC l.key ent0 ((l.size+r.size:Nat):Int) (b:Int) (ptr g2) (ptr gr) (aN false b l r))]::[row b7 117 (aU i)]::[row b4 27 (.int .i64 i.ct::dc i.ch)]::[row b1 25 (dc i.k)]::[row gn 117 (aC l.key ent0 ((l.size+r.size:Nat):Int) (b:Int) (ptr gl) (ptr gr) (aN false b l r))]::Yr::R) w28:=by
    rw [← show (aC l.key ent0 ((l.size+r.size:Nat):Int) (b:Int) (ptr gl) (ptr gr) (aN false b l r)).set 67 (ptr g2)=aC l.key ent0 ((l.size+r.size:Nat):Int) (b:Int) (ptr g2) (ptr gr) (aN false b l r) from (xB hL _ _ _ _ _)]
    exact hA29
   refine aB ?_
   refine hK13 _ _ ?_
   apply wp_seq_k; intro K14 hK14
   obtain ⟨E2,p2,q2,s2,hL2,hN2⟩:=Tr.view hgl2 (h2.tr (w0:=w0) (R:=[Y2]) (List.mem_singleton.2 rfl))
   obtain ⟨E3,p3,q3,s3,hL3,hN3⟩:=Tr.view hgr2 (hr.tr (w0:=w0) (R:=[Yr]) (List.mem_singleton.2 rfl))
   have hM:Rw w0 (Y2::[row b16 117 (aC l.key ent0 ((l.size+r.size:Nat):Int) (b:Int) (ptr g2) (ptr gr) (aN false b l r))]::[row b7 117 (aU i)]::[row b4 27 (.int .i64 i.ct::dc i.ch)]::[row b1 25 (dc i.k)]::[row gn 117 (aC l.key ent0 ((l.size+r.size:Nat):Int) (b:Int) (ptr gl) (ptr gr) (aN false b l r))]::Yr::R) b16 (aC l.key ent0 ((l.size+r.size:Nat):Int) (b:Int) (ptr g2) (ptr gr) (aN false b l r)):=Rw.ofRow (i:=1) rfl
   refine ak 14 [14] [0,1,2,3,4,5,6,7,8,9,10,11,12,13,14] _ af af (Hq.drew hA30.q) ?_
   have hA31:=Hl.drew hA30
   refine pR hF<|pW O O (fun _=>yf 67 rfl Uj O pF O)<|pW O O (fun _=>aP O Um Oo O O 0 O ae (rfl:(⟨_,67+0*1,none⟩:Addr)=⟨_,67,none⟩) (rfl:(none:Option Nat)=none))<|pV O O (fun x hx=>bD O hx O hM 67 (by rw [aF hL]; decide) rfl (eX hL _ _ _ _) Pi) fun a hF=>?_
   refine pR hF<|pX O O<|pW O O (fun _=>yf 65 rfl Uj O QY O)<|pV O O (fun x hx=>bD O (Hq.sub hx (dZ ((TF ..)))) O hN2 65 (by rw [aF hL2]; decide) rfl (dY hL2 _ _ _ _) Bq) fun a hF=>?_
   refine pR hF<|pW O O (fun _=>yf 67 rfl Uj O pF O)<|pW O O (fun _=>aP O Um Oo O O 1 O ae (rfl:(⟨_,67+1*1,none⟩:Addr)=⟨_,68,none⟩) (rfl:(none:Option Nat)=none))<|pV O O (fun x hx=>bD O hx O hM 68 (by rw [aF hL]; decide) rfl (gI hL _ _ _ _) Pi) fun a hF=>?_
   refine pR hF<|pX O O<|pW O O (fun _=>yf 65 rfl Uj O QY O)<|pV O O (fun x hx=>bD O (Hq.sub hx (dZ (TI _ (TI _ (TI _ (TI _ (TI _ (TI _ ((TF ..)))))))))) O hN3 65 (by rw [aF hL3]; decide) rfl (dY hL3 _ _ _ _) Bq) fun a hF=>?_
   refine pR hF<|pW O O (fun _=>bH O O O (show IntKind.i64.wrap ((((l.ins i).size:Nat):Int)+((r.size:Nat):Int))=(((l.ins i).size+r.size:Nat):Int) by rw [TB _ ag]; omega)) fun a hF=>?_
   refine pR hF<|pW O O (fun _=>yf 65 rfl Uj O QY O) fun a hF=>?_
   refine bM O O O (fun K hK=>aW hF O O hA31 O O 1 O (by rw [aF hL]; decide) rfl QY (fun w32 hA33=>hK _ _ (fun h=>absurd h ae) ?_))
   replace hA33:Hp w0 (Y2::[row b16 117 ((aC l.key ent0 ((l.size+r.size:Nat):Int) (b:Int) (ptr g2) (ptr gr) (aN false b l r)).set 65 (.int .i64 (((l.ins i).size+r.size:Nat):Int)))]::[row b7 117 (aU i)]::[row b4 27 (.int .i64 i.ct::dc i.ch)]::[row b1 25 (dc i.k)]::[row gn 117 (aC l.key ent0 ((l.size+r.size:Nat):Int) (b:Int) (ptr gl) (ptr gr) (aN false b l r))]::Yr::R) w32:=hA33
   have hA34:Hp w0 (Y2::[row b16 117 (aC l.key ent0 (((l.ins i).size+r.size:Nat):Int) (b:Int) (ptr g2) (ptr gr) (aN false b l r))]::[row b7 117 (aU i)]::[row b4 27 (.int .i64 i.ct::dc i.ch)]::[row b1 25 (dc i.k)]::[row gn 117 (aC l.key ent0 ((l.size+r.size:Nat):Int) (b:Int) (ptr gl) (ptr gr) (aN false b l r))]::Yr::R) w32:=by
    rw [← show (aC l.key ent0 ((l.size+r.size:Nat):Int) (b:Int) (ptr g2) (ptr gr) (aN false b l r)).set 65 (.int .i64 (((l.ins i).size+r.size:Nat):Int))=aC l.key ent0 (((l.ins i).size+r.size:Nat):Int) (b:Int) (ptr g2) (ptr gr) (aN false b l r) from (oC hL _ _ _ _ _)]
    exact hA33
   refine aB ?_
   refine hK14 _ _ ?_
   apply wp_seq_k; intro K15 hK15
   have hM2:Rw w0 (Y2::[row b16 117 (aC l.key ent0 (((l.ins i).size+r.size:Nat):Int) (b:Int) (ptr g2) (ptr gr) (aN false b l r))]::[row b7 117 (aU i)]::[row b4 27 (.int .i64 i.ct::dc i.ch)]::[row b1 25 (dc i.k)]::[row gn 117 (aC l.key ent0 ((l.size+r.size:Nat):Int) (b:Int) (ptr gl) (ptr gr) (aN false b l r))]::Yr::R) b16 (aC l.key ent0 (((l.ins i).size+r.size:Nat):Int) (b:Int) (ptr g2) (ptr gr) (aN false b l r)):=Rw.ofRow (i:=1) rfl
   have hk2:(l.ins i).key.length=32:=hgl2.key
   have hdk2:(dc (l.ins i).key).length=32:=by rw [aj,hk2]
   have hLm:NodeL (l.ins i).key ent0 (aN false b l r):=⟨hk2,gY,kD ..⟩
   refine wp_region_lit ?_
   refine vR hF<|vV O (yf 67 rfl Uj O pF O)<|vV O (aP O Um Oo O O 0 O ae (rfl:(⟨_,67+0*1,none⟩:Addr)=⟨_,67,none⟩) (rfl:(none:Option Nat)=none))<|vV O (bD O hA34.q O hM2 67 (by rw [aF hL]; decide) rfl (eX hL _ _ _ _) Pi) fun a hF=>?_
   refine vR hF<|vX O<|vV O (yf 0 O Uj O uX O)<|vV O (aQ O (Hq.sub hA34.q (dZ ((TF ..)))) O hN2 0 (by rw [aF hL2]; decide) rfl (dV hL2 _ _ _ _) vw) fun a hF=>?_
   refine vR hF<|vV O (yf 0 O Uj O uX O) fun a hF=>?_
   refine au O (fun K hK=>dE (new:=dc (l.ins i).key) hF O O hA34 O O 1 O (by rw [hdk2,aF hL]; decide) (bz _) (by rw [hdk2]; exact uX) (fun w35 hA36=>hK _ _ ?_))
   replace hA36:Hp w0 (Y2::[row b16 117 (splice (aC l.key ent0 (((l.ins i).size+r.size:Nat):Int) (b:Int) (ptr g2) (ptr gr) (aN false b l r)) 0 (dc (l.ins i).key))]::[row b7 117 (aU i)]::[row b4 27 (.int .i64 i.ct::dc i.ch)]::[row b1 25 (dc i.k)]::[row gn 117 (aC l.key ent0 ((l.size+r.size:Nat):Int) (b:Int) (ptr gl) (ptr gr) (aN false b l r))]::Yr::R) w35:=hA36
   have hA37:Hp w0 (Y2::[row b16 117 (aC (l.ins i).key ent0 (((l.ins i).size+r.size:Nat):Int) (b:Int) (ptr g2) (ptr gr) (aN false b l r))]::[row b7 117 (aU i)]::[row b4 27 (.int .i64 i.ct::dc i.ch)]::[row b1 25 (dc i.k)]::[row gn 117 (aC l.key ent0 ((l.size+r.size:Nat):Int) (b:Int) (ptr gl) (ptr gr) (aN false b l r))]::Yr::R) w35:=by
    rw [← show splice (aC l.key ent0 (((l.ins i).size+r.size:Nat):Int) (b:Int) (ptr g2) (ptr gr) (aN false b l r)) 0 (dc (l.ins i).key)=aC (l.ins i).key ent0 (((l.ins i).size+r.size:Nat):Int) (b:Int) (ptr g2) (ptr gr) (aN false b l r) from (oD hL hk2 _ _ _ _)]
    exact hA36
   refine az<|hK15 _ _ ?_
   apply wp_seq_k; intro K16 hK16
   refine wS hF fun K17 hK17=>vX O<|vV O (jF O af rfl rfl)<|vE hK17<|vF1 O fun a hF=>?_
   have hA38:Hp w0 (Y2::[row b16 117 (aC (l.ins i).key ent0 (((l.ins i).size+r.size:Nat):Int) (b:Int) (ptr g2) (ptr gr) (aN false b (l.ins i) r))]::[row b7 117 (aU i)]::[row b4 27 (.int .i64 i.ct::dc i.ch)]::[row b1 25 (dc i.k)]::[row gn 117 (aC l.key ent0 ((l.size+r.size:Nat):Int) (b:Int) (ptr gl) (ptr gr) (aN false b l r))]::Yr::R) w35:=by
    rw [← show aC (l.ins i).key ent0 (((l.ins i).size+r.size:Nat):Int) (b:Int) (ptr g2) (ptr gr) (aN false b l r)=aC (l.ins i).key ent0 (((l.ins i).size+r.size:Nat):Int) (b:Int) (ptr g2) (ptr gr) (aN false b (l.ins i) r) from rfl]
    exact hA37
   apply wp_skip
   refine hK16 _ _ ?_
   refine wS hF fun K18 hK18=>vX O<|vE hK18 fun a hF=>?_
   apply wp_ret
   refine aO hF Tryz.results54 O ?_
   rw [Rx.ins_l hp hkb]
   have hA39:Hp w0 ([row b16 117 (aC (l.ins i).key ent0 (((l.ins i).size+r.size:Nat):Int) (b:Int) (ptr g2) (ptr gr) (aN false b (l.ins i) r))]::Y2::Yr::R) w35:=hpS 7 [1,0,6] [2,3,4,5] hA38 rfl
   exact ⟨b16,_,rfl,⟨g2,gr,Y2,Yr,rfl,h2,hr⟩,Hp.cast hA39 (by simp only [List.flatten_cons,List.append_assoc,List.cons_append,List.nil_append])⟩
  ·have hkb1:bK i.k b=1:=by have:=iT i.k b; omega
   have hgF:(Rx.fork b l (r.ins i)).Good:=by have h:=(Rx.ins_good hi hg).1; rw [Rx.ins_r hp hkb] at h; exact h
   obtain ⟨hgl2,hgr2,hbl2,hbr2,_,_⟩:=id hgF
   have hll2:=Rx.bit_le hgl2
   have hrr2:=Rx.bit_le hgr2
   refine ak 6 [5,6] [0,1,2,3,4,5,6] _ af af (Hq.drew hA20.q) ?_
   have hA40:=Hl.drew hA20
   refine pR hF<|pV O O (fun x hx=>yZ (new:=dc i.k) rfl hx O 3 O vw hdk)<|pX O O<|pX O O<|pW O O (fun _=>yf 66 rfl Uj O QY O)<|pV O O (fun x hx=>bD O (Hq.sub hx (dZ (TI _ (TI _ (TI _ (TI _ ((TF ..)))))))) O hN 66 (by rw [aF hL]; decide) rfl (dA hL _ _ _ _) Bq) fun a hF=>?_
   refine bM O O O (fun K hK=>ax hF O ae GV rfl rfl ?_)
   with_reducible refine (gQ (w0:=w0) (R:=([row b16 117 (aC l.key ent0 ((l.size+r.size:Nat):Int) (b:Int) (ptr gl) (ptr gr) (aN false b l r))]::[row b7 117 (aU i)]::[row b4 27 (.int .i64 i.ct::dc i.ch)]::[row b1 25 (dc i.k)]::[row gn 117 (aC l.key ent0 ((l.size+r.size:Nat):Int) (b:Int) (ptr gl) (ptr gr) (aN false b l r))]::Yl::Yr::R)) (z:=1) hkb1 hi.k hb hA40).mono ?_
   rintro e' w41 ⟨rfl,hA42⟩
   refine ⟨_,rfl,fun a hF=>hK _ _ (fun _=>?_) ?_⟩
   ·exact hA42.q
   replace hA42:Hp w0 ([row b16 117 (aC l.key ent0 ((l.size+r.size:Nat):Int) (b:Int) (ptr gl) (ptr gr) (aN false b l r))]::[row b7 117 (aU i)]::[row b4 27 (.int .i64 i.ct::dc i.ch)]::[row b1 25 (dc i.k)]::[row gn 117 (aC l.key ent0 ((l.size+r.size:Nat):Int) (b:Int) (ptr gl) (ptr gr) (aN false b l r))]::Yl::Yr::R) w41:=hA42
   rw [show ((1:Nat):Int)=1 from rfl] at hF
   refine bY hF O O O O ae _ (bJ O O) (fun h=>absurd h ae) (fun a hF=>?_)
   refine aB ?_
   refine hK12 _ _ ?_
   apply wp_seq_k; intro K19 hK19
   refine ak 13 [10,13] [0,1,2,3,4,5,6,7,8,9,11,10,12,13] (fun x=>Hq w0 ([row b16 117 (aC l.key ent0 ((l.size+r.size:Nat):Int) (b:Int) (ptr gl) (ptr gr) (aN false b l r))]::[row b7 117 (aU i)]::[row b4 27 (.int .i64 i.ct::dc i.ch)]::[row b1 25 (dc i.k)]::[row gn 117 (aC l.key ent0 ((l.size+r.size:Nat):Int) (b:Int) (ptr gl) (ptr gr) (aN false b l r))]::Yl::R) x) af af (Hq.drew (Hp.qp [[row b16 117 (aC l.key ent0 ((l.size+r.size:Nat):Int) (b:Int) (ptr gl) (ptr gr) (aN false b l r))],[row b7 117 (aU i)],[row b4 27 (.int .i64 i.ct::dc i.ch)],[row b1 25 (dc i.k)],[row gn 117 (aC l.key ent0 ((l.size+r.size:Nat):Int) (b:Int) (ptr gl) (ptr gr) (aN false b l r))],Yl,Yr] R [0,1,2,3,4,5] hA42)) ?_
   have hA43:=Hl.drew hA42
   refine pR hF<|pX O O<|pX O O<|pX O O<|pX O O<|pW O O (fun _=>yf 67 rfl Uj O pF O)<|pW O O (fun _=>aP O Um Oo O O 1 O ae (rfl:(⟨_,67+1*1,none⟩:Addr)=⟨_,68,none⟩) (rfl:(none:Option Nat)=none))<|pV O O (fun x hx=>bD O (Hq.sub hx (dZ (TI _ (TI _ (TI _ (TI _ ((TF ..)))))))) O hN 68 (by rw [aF hL]; decide) rfl (gI hL _ _ _ _) Pi) fun a hF=>?_
   refine pR hF<|pV O O (fun x hx=>yZ (new:=dc i.k) rfl hx O 3 O vw hdk)<|pV O O (fun x hx=>yZ (new:= .int .i64 i.ct::dc i.ch) rfl hx O 2 O BN hde)<|pX O O<|pW O O (fun _=>yf 67 rfl Uj O pF O) fun a hF=>?_
   have hA44:Hp w0 (Yr::[row b16 117 (aC l.key ent0 ((l.size+r.size:Nat):Int) (b:Int) (ptr gl) (ptr gr) (aN false b l r))]::[row b7 117 (aU i)]::[row b4 27 (.int .i64 i.ct::dc i.ch)]::[row b1 25 (dc i.k)]::[row gn 117 (aC l.key ent0 ((l.size+r.size:Nat):Int) (b:Int) (ptr gl) (ptr gr) (aN false b l r))]::Yl::R) w41.drew:=hpO 7 [6,0,1,2,3,4,5] hA43 rfl
   refine bM O O O (fun K hK=>ax hF O ae sU rfl rfl ?_)
   with_reducible refine (ihr _ ([row b16 117 (aC l.key ent0 ((l.size+r.size:Nat):Int) (b:Int) (ptr gl) (ptr gr) (aN false b l r))]::[row b7 117 (aU i)]::[row b4 27 (.int .i64 i.ct::dc i.ch)]::[row b1 25 (dc i.k)]::[row gn 117 (aC l.key ent0 ((l.size+r.size:Nat):Int) (b:Int) (ptr gl) (ptr gr) (aN false b l r))]::Yl::R) Yr gr hr hA44).mono ?_
   rintro e' w45 ⟨g2,Y2,rfl,h2,hA46⟩
   refine ⟨_,rfl,fun a hF=>hK _ _ (fun _=>?_) ?_⟩
   ·exact (qT hA46)
   refine pR hF<|pW O O (fun _=>aP O Um Oo O O 1 O ae (rfl:(⟨_,67+1*1,none⟩:Addr)=⟨_,68,none⟩) (rfl:(none:Option Nat)=none)) fun a hF=>?_
   refine bM O O O (fun K hK=>aW hF O O hA46 O O 1 O (by rw [aF hL]; decide) rfl Oo (fun w47 hA48=>hK _ _ (fun h=>absurd h ae) ?_))
   replace hA48:Hp w0 (Y2::[row b16 117 ((aC l.key ent0 ((l.size+r.size:Nat):Int) (b:Int) (ptr gl) (ptr gr) (aN false b l r)).set 68 (ptr g2))]::[row b7 117 (aU i)]::[row b4 27 (.int .i64 i.ct::dc i.ch)]::[row b1 25 (dc i.k)]::[row gn 117 (aC l.key ent0 ((l.size+r.size:Nat):Int) (b:Int) (ptr gl) (ptr gr) (aN false b l r))]::Yl::R) w47:=hA48
   have hA49:Hp w0 (Y2::[row b16 117 (aC l.key ent0 ((l.size+r.size:Nat):Int) (b:Int) (ptr gl) (ptr g2) (aN false b l r))]::[row b7 117 (aU i)]::[row b4 27 (.int .i64 i.ct::dc i.ch)]::[row b1 25 (dc i.k)]::[row gn 117 (aC l.key ent0 ((l.size+r.size:Nat):Int) (b:Int) (ptr gl) (ptr gr) (aN false b l r))]::Yl::R) w47:=by
    rw [← show (aC l.key ent0 ((l.size+r.size:Nat):Int) (b:Int) (ptr gl) (ptr gr) (aN false b l r)).set 68 (ptr g2)=aC l.key ent0 ((l.size+r.size:Nat):Int) (b:Int) (ptr gl) (ptr g2) (aN false b l r) from (xA hL _ _ _ _ _)]
    exact hA48
   refine aB ?_
   refine hK19 _ _ ?_
   apply wp_seq_k; intro K20 hK20
   obtain ⟨E2,p2,q2,s2,hL2,hN2⟩:=Tr.view hgr2 (h2.tr (w0:=w0) (R:=[Y2]) (List.mem_singleton.2 rfl))
   obtain ⟨E3,p3,q3,s3,hL3,hN3⟩:=Tr.view hgl2 (hl.tr (w0:=w0) (R:=[Yl]) (List.mem_singleton.2 rfl))
   have hM:Rw w0 (Y2::[row b16 117 (aC l.key ent0 ((l.size+r.size:Nat):Int) (b:Int) (ptr gl) (ptr g2) (aN false b l r))]::[row b7 117 (aU i)]::[row b4 27 (.int .i64 i.ct::dc i.ch)]::[row b1 25 (dc i.k)]::[row gn 117 (aC l.key ent0 ((l.size+r.size:Nat):Int) (b:Int) (ptr gl) (ptr gr) (aN false b l r))]::Yl::R) b16 (aC l.key ent0 ((l.size+r.size:Nat):Int) (b:Int) (ptr gl) (ptr g2) (aN false b l r)):=Rw.ofRow (i:=1) rfl
   refine ak 14 [14] [0,1,2,3,4,5,6,7,8,9,10,11,12,13,14] _ af af (Hq.drew hA49.q) ?_
   have hA50:=Hl.drew hA49
   refine pR hF<|pW O O (fun _=>yf 67 rfl Uj O pF O)<|pW O O (fun _=>aP O Um Oo O O 0 O ae (rfl:(⟨_,67+0*1,none⟩:Addr)=⟨_,67,none⟩) (rfl:(none:Option Nat)=none))<|pV O O (fun x hx=>bD O hx O hM 67 (by rw [aF hL]; decide) rfl (eX hL _ _ _ _) Pi) fun a hF=>?_
   refine pR hF<|pX O O<|pW O O (fun _=>yf 65 rfl Uj O QY O)<|pV O O (fun x hx=>bD O (Hq.sub hx (dZ (TI _ (TI _ (TI _ (TI _ (TI _ (TI _ ((TF ..)))))))))) O hN3 65 (by rw [aF hL3]; decide) rfl (dY hL3 _ _ _ _) Bq) fun a hF=>?_
   refine pR hF<|pW O O (fun _=>yf 67 rfl Uj O pF O)<|pW O O (fun _=>aP O Um Oo O O 1 O ae (rfl:(⟨_,67+1*1,none⟩:Addr)=⟨_,68,none⟩) (rfl:(none:Option Nat)=none))<|pV O O (fun x hx=>bD O hx O hM 68 (by rw [aF hL]; decide) rfl (gI hL _ _ _ _) Pi) fun a hF=>?_
   refine pR hF<|pX O O<|pW O O (fun _=>yf 65 rfl Uj O QY O)<|pV O O (fun x hx=>bD O (Hq.sub hx (dZ ((TF ..)))) O hN2 65 (by rw [aF hL2]; decide) rfl (dY hL2 _ _ _ _) Bq) fun a hF=>?_
   refine pR hF<|pW O O (fun _=>bH O O O (show IntKind.i64.wrap (((l.size:Nat):Int)+(((r.ins i).size:Nat):Int))=((l.size+(r.ins i).size:Nat):Int) by rw [TB _ ag]; omega)) fun a hF=>?_
   refine pR hF<|pW O O (fun _=>yf 65 rfl Uj O QY O) fun a hF=>?_
   refine bM O O O (fun K hK=>aW hF O O hA50 O O 1 O (by rw [aF hL]; decide) rfl QY (fun w51 hA52=>hK _ _ (fun h=>absurd h ae) ?_))
   replace hA52:Hp w0 (Y2::[row b16 117 ((aC l.key ent0 ((l.size+r.size:Nat):Int) (b:Int) (ptr gl) (ptr g2) (aN false b l r)).set 65 (.int .i64 ((l.size+(r.ins i).size:Nat):Int)))]::[row b7 117 (aU i)]::[row b4 27 (.int .i64 i.ct::dc i.ch)]::[row b1 25 (dc i.k)]::[row gn 117 (aC l.key ent0 ((l.size+r.size:Nat):Int) (b:Int) (ptr gl) (ptr gr) (aN false b l r))]::Yl::R) w51:=hA52
   have hA53:Hp w0 (Y2::[row b16 117 (aC l.key ent0 ((l.size+(r.ins i).size:Nat):Int) (b:Int) (ptr gl) (ptr g2) (aN false b l r))]::[row b7 117 (aU i)]::[row b4 27 (.int .i64 i.ct::dc i.ch)]::[row b1 25 (dc i.k)]::[row gn 117 (aC l.key ent0 ((l.size+r.size:Nat):Int) (b:Int) (ptr gl) (ptr gr) (aN false b l r))]::Yl::R) w51:=by
    rw [← show (aC l.key ent0 ((l.size+r.size:Nat):Int) (b:Int) (ptr gl) (ptr g2) (aN false b l r)).set 65 (.int .i64 ((l.size+(r.ins i).size:Nat):Int))=aC l.key ent0 ((l.size+(r.ins i).size:Nat):Int) (b:Int) (ptr gl) (ptr g2) (aN false b l r) from (oC hL _ _ _ _ _)]
    exact hA52
   refine aB ?_
   refine hK20 _ _ ?_
   apply wp_seq_k; intro K21 hK21
   have hM2:Rw w0 (Y2::[row b16 117 (aC l.key ent0 ((l.size+(r.ins i).size:Nat):Int) (b:Int) (ptr gl) (ptr g2) (aN false b l r))]::[row b7 117 (aU i)]::[row b4 27 (.int .i64 i.ct::dc i.ch)]::[row b1 25 (dc i.k)]::[row gn 117 (aC l.key ent0 ((l.size+r.size:Nat):Int) (b:Int) (ptr gl) (ptr gr) (aN false b l r))]::Yl::R) b16 (aC l.key ent0 ((l.size+(r.ins i).size:Nat):Int) (b:Int) (ptr gl) (ptr g2) (aN false b l r)):=Rw.ofRow (i:=1) rfl
   have hk2:l.key.length=32:=hgl2.key
   have hdk2:(dc l.key).length=32:=by rw [aj,hk2]
   have hLm:NodeL l.key ent0 (aN false b l r):=⟨hk2,gY,kD ..⟩
   refine wp_region_lit ?_
   refine vR hF<|vV O (yf 67 rfl Uj O pF O)<|vV O (aP O Um Oo O O 0 O ae (rfl:(⟨_,67+0*1,none⟩:Addr)=⟨_,67,none⟩) (rfl:(none:Option Nat)=none))<|vV O (bD O hA53.q O hM2 67 (by rw [aF hL]; decide) rfl (eX hL _ _ _ _) Pi) fun a hF=>?_
   refine vR hF<|vX O<|vV O (yf 0 O Uj O uX O)<|vV O (aQ O (Hq.sub hA53.q (dZ (TI _ (TI _ (TI _ (TI _ (TI _ (TI _ ((TF ..)))))))))) O hN3 0 (by rw [aF hL3]; decide) rfl (dV hL3 _ _ _ _) vw) fun a hF=>?_
   refine vR hF<|vV O (yf 0 O Uj O uX O) fun a hF=>?_
   refine au O (fun K hK=>dE (new:=dc l.key) hF O O hA53 O O 1 O (by rw [hdk2,aF hL]; decide) (bz _) (by rw [hdk2]; exact uX) (fun w54 hA55=>hK _ _ ?_))
   replace hA55:Hp w0 (Y2::[row b16 117 (splice (aC l.key ent0 ((l.size+(r.ins i).size:Nat):Int) (b:Int) (ptr gl) (ptr g2) (aN false b l r)) 0 (dc l.key))]::[row b7 117 (aU i)]::[row b4 27 (.int .i64 i.ct::dc i.ch)]::[row b1 25 (dc i.k)]::[row gn 117 (aC l.key ent0 ((l.size+r.size:Nat):Int) (b:Int) (ptr gl) (ptr gr) (aN false b l r))]::Yl::R) w54:=hA55
   have hA56:Hp w0 (Y2::[row b16 117 (aC l.key ent0 ((l.size+(r.ins i).size:Nat):Int) (b:Int) (ptr gl) (ptr g2) (aN false b l r))]::[row b7 117 (aU i)]::[row b4 27 (.int .i64 i.ct::dc i.ch)]::[row b1 25 (dc i.k)]::[row gn 117 (aC l.key ent0 ((l.size+r.size:Nat):Int) (b:Int) (ptr gl) (ptr gr) (aN false b l r))]::Yl::R) w54:=by
    rw [← show splice (aC l.key ent0 ((l.size+(r.ins i).size:Nat):Int) (b:Int) (ptr gl) (ptr g2) (aN false b l r)) 0 (dc l.key)=aC l.key ent0 ((l.size+(r.ins i).size:Nat):Int) (b:Int) (ptr gl) (ptr g2) (aN false b l r) from (oD hL hk2 _ _ _ _)]
    exact hA55
   refine az<|hK21 _ _ ?_
   apply wp_seq_k; intro K22 hK22
   refine wS hF fun K23 hK23=>vX O<|vV O (jF O af rfl rfl)<|vE hK23<|vF1 O fun a hF=>?_
   have hA57:Hp w0 (Y2::[row b16 117 (aC l.key ent0 ((l.size+(r.ins i).size:Nat):Int) (b:Int) (ptr gl) (ptr g2) (aN false b l (r.ins i)))]::[row b7 117 (aU i)]::[row b4 27 (.int .i64 i.ct::dc i.ch)]::[row b1 25 (dc i.k)]::[row gn 117 (aC l.key ent0 ((l.size+r.size:Nat):Int) (b:Int) (ptr gl) (ptr gr) (aN false b l r))]::Yl::R) w54:=by
    rw [← show aC l.key ent0 ((l.size+(r.ins i).size:Nat):Int) (b:Int) (ptr gl) (ptr g2) (aN false b l r)=aC l.key ent0 ((l.size+(r.ins i).size:Nat):Int) (b:Int) (ptr gl) (ptr g2) (aN false b l (r.ins i)) from rfl]
    exact hA56
   apply wp_skip
   refine hK22 _ _ ?_
   refine wS hF fun K24 hK24=>vX O<|vE hK24 fun a hF=>?_
   apply wp_ret
   refine aO hF Tryz.results54 O ?_
   rw [Rx.ins_r hp hkb]
   have hA58:Hp w0 ([row b16 117 (aC l.key ent0 ((l.size+(r.ins i).size:Nat):Int) (b:Int) (ptr gl) (ptr g2) (aN false b l (r.ins i)))]::Yl::Y2::R) w54:=hpS 7 [1,6,0] [2,3,4,5] hA57 rfl
   exact ⟨b16,_,rfl,⟨gl,g2,Yl,Y2,rfl,hl,h2⟩,Hp.cast hA58 (by simp only [List.flatten_cons,List.append_assoc,List.cons_append,List.nil_append])⟩
theorem zY (w0:World) (i:Itm) (hi:i.OK) (hT:Tab w0):∀ t:Rx,t.Good→t.size≤100000→Su w0 i t
 | .leaf j,hg,_=>fun w R G hG gs gn hSm hTr hA=>zW w0 i hi hT j hg w R G hG gs gn hSm hTr hA
 | .fork b l r,hg,hs=>zX w0 i hi hT b l r hg hs (zY w0 i hi hT l hg.1 (Nat.le_trans (Nat.le_add_right _ _) hs)) (zY w0 i hi hT r hg.2.1 (Nat.le_trans (Nat.le_add_left _ _) hs))
theorem Ac (w0:World) (i:Itm) (hi:i.OK):∀ t:Rx,t.Good→t.size≤100000→Sv w0 i t
 | .leaf j,hg,_=>fun w R Y gn hT hA=>by
  have hY:Y=[row gn 117 (aU j)]:=hT
  subst hY
  exact zZ w0 i hi j hg w R gn hA
 | .fork b l r,hg,hs=>fun w R Y gn hT hA=>by
  obtain ⟨gl,gr,Yl,Yr,hY,hl,hr⟩:=hT
  subst hY
  exact Aa w0 i hi b l r hg hs (Ac w0 i hi l hg.1 (Nat.le_trans (Nat.le_add_right _ _) hs)) (Ac w0 i hi r hg.2.1 (Nat.le_trans (Nat.le_add_left _ _) hs)) w R gn gl gr Yl Yr hl hr (Hp.cast hA (by simp only [List.flatten_cons,List.append_assoc,List.cons_append,List.nil_append]))
abbrev NV (w0:World) (t:Rx):Prop:=∀ (w:World) (R G:List Seg),G⊆R→∀ (Y:Seg) (gs gn:Nat),Sm w0 G 60 gs 32→TrO false t gn Y→Hp w0 (Y::R) w→Calls Tryz.prog 55 #[.pointer (some ⟨gn,0,none⟩),.pointer (some ⟨gs,0,none⟩)] w fun e w'=>e= .returned (.tuple #[])∧∃ Y2,TrO true t gn Y2∧Hp w0 (Y2::R) w'
def Qz (m:Nat) (l r:Rx) (b:Nat):List Value:=match m with
 | 0=>zeros 64
 | 1=>dc (l.lift 32 (255-b))++zeros 32
 | _=>dc (l.lift 32 (255-b))++dc (r.lift 32 (255-b))
theorem wX (w0:World) (hT:Tab w0) (b:Nat) (l r:Rx) (hg:(Rx.fork b l r).Good) (ihl:NV w0 l) (ihr:NV w0 r) (w:World) (R G:List Seg) (hG:G⊆R) (gs gn gl gr:Nat) (Yl Yr:Seg) (hSm:Sm w0 G 60 gs 32) (hl:TrO false l gl Yl) (hr:TrO false r gr Yr) (hA:Hp w0 ([row gn 117 (aC l.key ent0 ((l.size+r.size:Nat):Int) (b:Int) (ptr gl) (ptr gr) (zeros 64))]::Yl::Yr::R) w):Calls Tryz.prog 55 #[.pointer (some ⟨gn,0,none⟩),.pointer (some ⟨gs,0,none⟩)] w fun e w'=>e= .returned (.tuple #[])∧∃ Y2,TrO true (.fork b l r) gn Y2∧Hp w0 (Y2::R) w':=by
 have hkl:l.key.length=32:=hg.key
 obtain ⟨hgl,hgr,hbl,hbr,hil,hir⟩:=id hg
 have hll:=Rx.bit_le hgl
 have hrr:=Rx.bit_le hgr
 have hb:b<256:=by omega
 have hL:NodeL l.key ent0 (zeros 64):=⟨hkl,gY,List.length_replicate ..⟩
 have hN:Rw w0 [[row gn 117 (aC l.key ent0 ((l.size+r.size:Nat):Int) (b:Int) (ptr gl) (ptr gr) (zeros 64))]] gn (aC l.key ent0 ((l.size+r.size:Nat):Int) (b:Int) (ptr gl) (ptr gr) (zeros 64)):=Rw.ofRow (i:=0) rfl
 refine aJ Tryz.func55 O Tryz.ntmps55 ai (fun a hF=>?_)
 apply wp_seq_k; intro K1 hK1
 refine wS hF fun K2 hK2=>vX O<|vV O (iG O af rfl rfl)<|vX O<|vG O (bT O O)<|vG O (bP O O)<|vG O (yf 66 rfl Uj O QY O)<|vG O (bD O (Hq.sub hA.q (dZ ((TF ..)))) O hN 66 (by rw [aF hL]; decide) rfl (dA hL _ _ _ _) Bq) fun a hF=>?_
 refine vR hF<|vG O (aH O O O O (fJ ag))<|vV O (bg O O O)<|vE hK2<|vF1 O<|wKp hK1<|wT fun K3 hK3=>vX O<|vX O<|vV O (yf 67 rfl Uj O pF O)<|vV O (aQ O (Hq.sub hA.q (dZ ((TF ..)))) O hN 67 (by rw [aF hL]; decide) rfl (Fb hL _ _ _ _) Ia) fun a hF=>?_
 refine vR hF<|vX O<|vE hK3<|wBk fun a hF=>?_
 refine bQ (G:=Nat × Seg × Seg) (fun gh a x=>gh.1≤2∧TrO (decide (0<gh.1)) l gl gh.2.1∧TrO (decide (1<gh.1)) r gr gh.2.2∧Fr 38 [(19,.int .i64 (gh.1:Int)),(18,.agg ([ptr gl,ptr gr]:List Value).toArray),(0,.pointer (some ⟨gn,0,none⟩)),(1,.pointer (some ⟨gs,0,none⟩))] a∧Hp w0 ([row gn 117 (aC l.key ent0 ((l.size+r.size:Nat):Int) (b:Int) (ptr gl) (ptr gr) (Qz gh.1 l r b))]::gh.2.1::gh.2.2::R) x) (fun gh=>2-gh.1) (0,Yl,Yr) (⟨Tv _,hl,hr,hF.keep [19,18,0,1] rfl,hA⟩) ?_
 clear hF
 rintro gh a w2 ⟨hm,hl1,hr1,hF,hA1⟩
 obtain ⟨m,Yl1,Yr1⟩:=gh
 simp only at hm hl1 hr1 hF
 have hA3:Hp w0 ([row gn 117 (aC l.key ent0 ((l.size+r.size:Nat):Int) (b:Int) (ptr gl) (ptr gr) (Qz m l r b))]::Yl1::Yr1::R) w2:=hA1
 refine wS hF fun K4 hK4=>vV O (aH O O O O O)<|vE hK4<|wQ fun K5 hK5 a hF=>?_
 by_cases hlt:m<2
 ·refine aZ hF O (dB ag) ?_
  by_cases hm0:m=0
  ·obtain rfl:m=0:=by omega
   have hA4:Hp w0 ([row gn 117 (aC l.key ent0 ((l.size+r.size:Nat):Int) (b:Int) (ptr gl) (ptr gr) (zeros 64))]::Yl1::Yr1::R) w2:=hA3
   have hdl:(dc (l.lift 32 (255-b))).length=32:=by rw [aj,Rx.lift_length]
   have hLz:NodeL l.key ent0 (zeros 64):=⟨hkl,gY,List.length_replicate ..⟩
   have hNz:Rw w0 [[row gn 117 (aC l.key ent0 ((l.size+r.size:Nat):Int) (b:Int) (ptr gl) (ptr gr) (zeros 64))]] gn (aC l.key ent0 ((l.size+r.size:Nat):Int) (b:Int) (ptr gl) (ptr gr) (zeros 64)):=Rw.ofRow (i:=0) rfl
   have hkt:TrO false l gl Yl1:=hl1
   apply wp_skip
   refine hK5 _ _ ?_
   apply wp_seq_k; intro K6 hK6
   apply wp_block
   refine wS hF fun K7 hK7=>vX O<|vV O (Bf O Um Tryz.underlying35 Oo O O 0 O ae rfl)<|vX O<|vX O<|vE hK7<|wT fun K8 hK8=>vX O<|vX O fun a hF=>?_
   have hG2:G⊆([row gn 117 (aC l.key ent0 ((l.size+r.size:Nat):Int) (b:Int) (ptr gl) (ptr gr) (zeros 64))]::Yr1::R):=List.Subset.trans hG (aA (aA (bu)))
   have hA5:Hp w0 (Yl1::[row gn 117 (aC l.key ent0 ((l.size+r.size:Nat):Int) (b:Int) (ptr gl) (ptr gr) (zeros 64))]::Yr1::R) w2:=hpO 3 [1,0,2] hA4 rfl
   refine au O (fun K hK=>ax hF O ae DK rfl rfl ?_)
   with_reducible refine (ihl _ ([row gn 117 (aC l.key ent0 ((l.size+r.size:Nat):Int) (b:Int) (ptr gl) (ptr gr) (zeros 64))]::Yr1::R) G hG2 Yl1 gs gl hSm hkt hA5).mono ?_
   rintro e' w6 ⟨rfl,Y2,h2,hA7⟩
   refine ⟨_,rfl,fun a hF=>hK _ _ ?_⟩
   replace hA7:Hp w0 (Y2::[row gn 117 (aC l.key ent0 ((l.size+r.size:Nat):Int) (b:Int) (ptr gl) (ptr gr) (zeros 64))]::Yr1::R) w6:=hA7
   refine az<|hK8 _ _ ?_
   refine ak 11 [5,7,11] [0,1,2,3,4,8,9,5,6,7,10,11] _ af af (Hq.drew hA7.q) ?_
   have hA8:=Hl.drew hA7
   refine pR hF<|pX O O<|pX O O<|pX O O<|pX O O<|pX O O<|pX O O<|pW O O (fun _=>yf 69 rfl Uj O yN O) fun a hF=>?_
   refine bM O O O (fun K hK=>ax hF O ae xQ rfl rfl ?_)
   with_reducible refine (iy w0 _ (Y2::[row gn 117 (aC l.key ent0 ((l.size+r.size:Nat):Int) (b:Int) (ptr gl) (ptr gr) (zeros 64))]::Yr1::R) _ bu l.key ent0 (zeros 64) _ b (ptr gl) (ptr gr) hLz gn (Rw.ofRow (i:=1) rfl) ag hA8).mono ?_
   rintro e' w9 ⟨rfl,hA10⟩
   refine ⟨_,rfl,fun a hF=>hK _ _ (fun _=>?_) ?_⟩
   ·exact hA10.q
   replace hA10:Hp w0 (Y2::[row gn 117 (aC l.key ent0 ((l.size+r.size:Nat):Int) (b:Int) (ptr gl) (ptr gr) (zeros 64))]::Yr1::R) w9:=hA10
   refine pR hF<|pW O O (fun _=>dm O O O (show IntKind.i64.wrap (((256-b:Nat):Int)-1)=((255-b:Nat):Int) by rw [TB _ ag]; omega)) fun a hF=>?_
   refine bM O O O (fun K hK=>ax hF O ae DL rfl rfl ?_)
   with_reducible refine (kN w0 _ (Y2::[row gn 117 (aC l.key ent0 ((l.size+r.size:Nat):Int) (b:Int) (ptr gl) (ptr gr) (zeros 64))]::Yr1::R) _ bu l hgl gl gs 32 (255-b) ag ag (hSm.mono (List.Subset.trans hG (aA (aA (aA (bu)))))) (h2.tr ((TF ..))) hT hA10).mono ?_
   rintro e' w11 ⟨rfl,hA12⟩
   refine ⟨_,rfl,fun a hF=>hK _ _ (fun _=>?_) ?_⟩
   ·exact hA12.q
   refine pR hF<|pW O O (fun _=>aP O Un uX O O 0 O ae (rfl:(⟨_,69+0*32,none⟩:Addr)=⟨_,69,none⟩) (rfl:(none:Option Nat)=none)) fun a hF=>?_
   refine bM O O O (fun K hK=>dE (new:=dc (l.lift 32 (255-b))) hF O O hA12 O O 1 O (by rw [hdl,aF hLz]; decide) (bz _) (by rw [hdl]; exact uX) (fun w13 hA14=>hK _ _ (fun h=>absurd h ae) ?_))
   replace hA14:Hp w0 (Y2::[row gn 117 (splice (aC l.key ent0 ((l.size+r.size:Nat):Int) (b:Int) (ptr gl) (ptr gr) (zeros 64)) 69 (dc (l.lift 32 (255-b))))]::Yr1::R) w13:=hA14
   have hA15:Hp w0 (Y2::[row gn 117 (aC l.key ent0 ((l.size+r.size:Nat):Int) (b:Int) (ptr gl) (ptr gr) (dc (l.lift 32 (255-b))++zeros 32))]::Yr1::R) w13:=by
    rw [← show splice (aC l.key ent0 ((l.size+r.size:Nat):Int) (b:Int) (ptr gl) (ptr gr) (zeros 64)) 69 (dc (l.lift 32 (255-b)))=aC l.key ent0 ((l.size+r.size:Nat):Int) (b:Int) (ptr gl) (ptr gr) (dc (l.lift 32 (255-b))++zeros 32) from ((kH hLz 0 (by rw [hdl]; decide) _ _ _ _).trans (congrArg (aC _ _ _ _ _ _) (yQ (s:=zeros 32) (t:=zeros 32) (by rw [hdl]; exact (List.length_replicate ..).symm))))]
    exact hA14
   refine aB ?_
   refine hK6 _ _ ?_
   refine wp_region_lit ?_
   refine vR hF<|vV O (bH O O O (show IntKind.i64.wrap (((0:Nat):Int)+1)=((1:Nat):Int) by rw [TB _ ag]; rfl)) fun a hF=>?_
   refine vR hF<|vX O fun a hF=>?_
   refine az ?_
   have hA16:Hp w0 ([row gn 117 (aC l.key ent0 ((l.size+r.size:Nat):Int) (b:Int) (ptr gl) (ptr gr) (dc (l.lift 32 (255-b))++zeros 32))]::Y2::Yr1::R) w13:=hpO 3 [1,0,2] hA15 rfl
   exact ⟨(1,Y2,Yr1),(by show 2-1<2-0; decide),(by show 1≤2; decide),h2,hr1,hF.keep [19,18,0,1] rfl,hA16⟩
  ·obtain rfl:m=1:=by omega
   have hA17:Hp w0 ([row gn 117 (aC l.key ent0 ((l.size+r.size:Nat):Int) (b:Int) (ptr gl) (ptr gr) (dc (l.lift 32 (255-b))++zeros 32))]::Yl1::Yr1::R) w2:=hA3
   have hdl:(dc (r.lift 32 (255-b))).length=32:=by rw [aj,Rx.lift_length]
   have hLz:NodeL l.key ent0 (dc (l.lift 32 (255-b))++zeros 32):=⟨hkl,gY,by rw [List.length_append,aj,Rx.lift_length]; rfl⟩
   have hNz:Rw w0 [[row gn 117 (aC l.key ent0 ((l.size+r.size:Nat):Int) (b:Int) (ptr gl) (ptr gr) (dc (l.lift 32 (255-b))++zeros 32))]] gn (aC l.key ent0 ((l.size+r.size:Nat):Int) (b:Int) (ptr gl) (ptr gr) (dc (l.lift 32 (255-b))++zeros 32)):=Rw.ofRow (i:=0) rfl
   have hkt:TrO false r gr Yr1:=hr1
   apply wp_skip
   refine hK5 _ _ ?_
   apply wp_seq_k; intro K9 hK9
   apply wp_block
   refine wS hF fun K10 hK10=>vX O<|vV O (Bf O Um Tryz.underlying35 Oo O O 1 O ae rfl)<|vX O<|vX O<|vE hK10<|wT fun K11 hK11=>vX O<|vX O fun a hF=>?_
   have hG2:G⊆([row gn 117 (aC l.key ent0 ((l.size+r.size:Nat):Int) (b:Int) (ptr gl) (ptr gr) (dc (l.lift 32 (255-b))++zeros 32))]::Yl1::R):=List.Subset.trans hG (aA (aA (bu)))
   have hA18:Hp w0 (Yr1::[row gn 117 (aC l.key ent0 ((l.size+r.size:Nat):Int) (b:Int) (ptr gl) (ptr gr) (dc (l.lift 32 (255-b))++zeros 32))]::Yl1::R) w2:=hpO 3 [2,0,1] hA17 rfl
   refine au O (fun K hK=>ax hF O ae DK rfl rfl ?_)
   with_reducible refine (ihr _ ([row gn 117 (aC l.key ent0 ((l.size+r.size:Nat):Int) (b:Int) (ptr gl) (ptr gr) (dc (l.lift 32 (255-b))++zeros 32))]::Yl1::R) G hG2 Yr1 gs gr hSm hkt hA18).mono ?_
   rintro e' w19 ⟨rfl,Y2,h2,hA20⟩
   refine ⟨_,rfl,fun a hF=>hK _ _ ?_⟩
   replace hA20:Hp w0 (Y2::[row gn 117 (aC l.key ent0 ((l.size+r.size:Nat):Int) (b:Int) (ptr gl) (ptr gr) (dc (l.lift 32 (255-b))++zeros 32))]::Yl1::R) w19:=hA20
   refine az<|hK11 _ _ ?_
   refine ak 11 [5,7,11] [0,1,2,3,4,8,9,5,6,7,10,11] _ af af (Hq.drew hA20.q) ?_
   have hA21:=Hl.drew hA20
   refine pR hF<|pX O O<|pX O O<|pX O O<|pX O O<|pX O O<|pX O O<|pW O O (fun _=>yf 69 rfl Uj O yN O) fun a hF=>?_
   refine bM O O O (fun K hK=>ax hF O ae xQ rfl rfl ?_)
   with_reducible refine (iy w0 _ (Y2::[row gn 117 (aC l.key ent0 ((l.size+r.size:Nat):Int) (b:Int) (ptr gl) (ptr gr) (dc (l.lift 32 (255-b))++zeros 32))]::Yl1::R) _ bu l.key ent0 (dc (l.lift 32 (255-b))++zeros 32) _ b (ptr gl) (ptr gr) hLz gn (Rw.ofRow (i:=1) rfl) ag hA21).mono ?_
   rintro e' w22 ⟨rfl,hA23⟩
   refine ⟨_,rfl,fun a hF=>hK _ _ (fun _=>?_) ?_⟩
   ·exact hA23.q
   replace hA23:Hp w0 (Y2::[row gn 117 (aC l.key ent0 ((l.size+r.size:Nat):Int) (b:Int) (ptr gl) (ptr gr) (dc (l.lift 32 (255-b))++zeros 32))]::Yl1::R) w22:=hA23
   refine pR hF<|pW O O (fun _=>dm O O O (show IntKind.i64.wrap (((256-b:Nat):Int)-1)=((255-b:Nat):Int) by rw [TB _ ag]; omega)) fun a hF=>?_
   refine bM O O O (fun K hK=>ax hF O ae DL rfl rfl ?_)
   with_reducible refine (kN w0 _ (Y2::[row gn 117 (aC l.key ent0 ((l.size+r.size:Nat):Int) (b:Int) (ptr gl) (ptr gr) (dc (l.lift 32 (255-b))++zeros 32))]::Yl1::R) _ bu r hgr gr gs 32 (255-b) ag ag (hSm.mono (List.Subset.trans hG (aA (aA (aA (bu)))))) (h2.tr ((TF ..))) hT hA23).mono ?_
   rintro e' w24 ⟨rfl,hA25⟩
   refine ⟨_,rfl,fun a hF=>hK _ _ (fun _=>?_) ?_⟩
   ·exact hA25.q
   refine pR hF<|pW O O (fun _=>aP O Un uX O O 1 O ae (rfl:(⟨_,69+1*32,none⟩:Addr)=⟨_,101,none⟩) (rfl:(none:Option Nat)=none)) fun a hF=>?_
   refine bM O O O (fun K hK=>dE (new:=dc (r.lift 32 (255-b))) hF O O hA25 O O 1 O (by rw [hdl,aF hLz]; decide) (bz _) (by rw [hdl]; exact uX) (fun w26 hA27=>hK _ _ (fun h=>absurd h ae) ?_))
   replace hA27:Hp w0 (Y2::[row gn 117 (splice (aC l.key ent0 ((l.size+r.size:Nat):Int) (b:Int) (ptr gl) (ptr gr) (dc (l.lift 32 (255-b))++zeros 32)) 101 (dc (r.lift 32 (255-b))))]::Yl1::R) w26:=hA27
   have hA28:Hp w0 (Y2::[row gn 117 (aC l.key ent0 ((l.size+r.size:Nat):Int) (b:Int) (ptr gl) (ptr gr) (dc (l.lift 32 (255-b))++dc (r.lift 32 (255-b))))]::Yl1::R) w26:=by
    rw [← show splice (aC l.key ent0 ((l.size+r.size:Nat):Int) (b:Int) (ptr gl) (ptr gr) (dc (l.lift 32 (255-b))++zeros 32)) 101 (dc (r.lift 32 (255-b)))=aC l.key ent0 ((l.size+r.size:Nat):Int) (b:Int) (ptr gl) (ptr gr) (dc (l.lift 32 (255-b))++dc (r.lift 32 (255-b))) from ((kH hLz 32 (by rw [hdl]; decide) _ _ _ _).trans (congrArg (aC _ _ _ _ _ _) (yR (by rw [aj,Rx.lift_length]) (by rw [hdl]; exact (List.length_replicate ..).symm))))]
    exact hA27
   refine aB ?_
   refine hK9 _ _ ?_
   refine wp_region_lit ?_
   refine vR hF<|vV O (bH O O O (show IntKind.i64.wrap (((1:Nat):Int)+1)=((2:Nat):Int) by rw [TB _ ag]; rfl)) fun a hF=>?_
   refine vR hF<|vX O fun a hF=>?_
   refine az ?_
   have hA29:Hp w0 ([row gn 117 (aC l.key ent0 ((l.size+r.size:Nat):Int) (b:Int) (ptr gl) (ptr gr) (dc (l.lift 32 (255-b))++dc (r.lift 32 (255-b))))]::Yl1::Y2::R) w26:=hpO 3 [1,2,0] hA28 rfl
   exact ⟨(2,Yl1,Y2),(by show 2-2<2-1; decide),(by show 2≤2; decide),hl1,h2,hF.keep [19,18,0,1] rfl,hA29⟩
 ·refine aS hF O (dD ag) ?_
  obtain rfl:m=2:=by omega
  apply wp_exit
  simp only [Exit.then,Exit.inBlock,↓reduceIte]
  refine jJ hF Tryz.results55 ?_
  exact ⟨rfl,_,⟨gl,gr,Yl1,Yr1,rfl,hl1,hr1⟩,Hp.cast (S:=[row gn 117 (aC l.key ent0 ((l.size+r.size:Nat):Int) (b:Int) (ptr gl) (ptr gr) (aN true b l r))]::Yl1::Yr1::R) hA3 (by simp only [List.flatten_cons,List.append_assoc,List.cons_append,List.nil_append])⟩
theorem wW (w0:World) (j:Itm) (hg:j.OK) (w:World) (R:List Seg) (gs gn:Nat) (hA:Hp w0 ([row gn 117 (aU j)]::R) w):Calls Tryz.prog 55 #[.pointer (some ⟨gn,0,none⟩),.pointer (some ⟨gs,0,none⟩)] w fun e w'=>e= .returned (.tuple #[])∧∃ Y2,TrO true (.leaf j) gn Y2∧Hp w0 (Y2::R) w':=by
 have hL:=NodeL.leaf hg
 have hN:Rw w0 [[row gn 117 (aU j)]] gn (aC j.k j.ent 1 256 (.pointer none) (.pointer none) (List.replicate 64 (.int .u8 0))):=Rw.ofRow (i:=0) rfl
 refine aJ Tryz.func55 O Tryz.ntmps55 ai (fun a hF=>?_)
 apply wp_seq_k; intro K1 hK1
 refine wS hF fun K2 hK2=>vX O<|vV O (iG O af rfl rfl)<|vX O<|vG O (bT O O)<|vG O (bP O O)<|vG O (yf 66 rfl Uj O QY O)<|vG O (bD O (Hq.sub hA.q (dZ ((TF ..)))) O hN 66 (by rw [aF hL]; decide) rfl (dA hL _ _ _ _) Bq) fun a hF=>?_
 refine vR hF<|vG O (aH O O O O (gJ ag))<|vV O (bg O O O)<|vE hK2<|vT1 O fun a hF=>?_
 apply wp_ret
 simp only [Exit.then]
 refine FT hF O ?_
 exact ⟨rfl,_,rfl,hA⟩
theorem tX (w0:World) (hT:Tab w0):∀ t:Rx,t.Good→NV w0 t
 | .leaf j,hg=>fun w R G _ Y gs gn _ hTr hA=>by
  have hY:Y=[row gn 117 (aU j)]:=hTr
  subst hY
  exact wW w0 j hg w R gs gn hA
 | .fork b l r,hg=>fun w R G hG Y gs gn hSm hTr hA=>by
  obtain ⟨gl,gr,Yl,Yr,hY,hl,hr⟩:=hTr
  subst hY
  exact wX w0 hT b l r hg (tX w0 hT l hg.1) (tX w0 hT r hg.2.1) w R G hG gs gn gl gr Yl Yr hSm hl hr (Hp.cast hA (by simp only [List.flatten_cons,List.append_assoc,List.cons_append,List.nil_append,Ot]))
end Go.Proofs.YtpomngkcfbnjoaaGreatDoor
