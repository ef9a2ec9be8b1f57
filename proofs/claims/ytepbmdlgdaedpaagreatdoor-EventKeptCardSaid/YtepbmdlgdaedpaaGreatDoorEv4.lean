/- A value's bytes are laid: PutValue. -/
import Derived.Test.YtepbmdlgdaedpaaGreatDoorEv3
import Derived.Test.YtepbmdlgdaedpaaGreatDoorEvW
/- A value's bytes are laid: PutValue. -/
namespace Go.Proofs.YtepbmdlgdaedpaaGreatDoor
open Go.RowKit Go.Dk
theorem A7:aK Tryz.prog 75:=⟨_,Tryz.func75,af,af⟩
theorem IV:aK Tryz.prog 91:=⟨_,Tryz.func91,af,af⟩
theorem Gh:aK Tryz.prog 106:=⟨_,Tryz.func106,af,af⟩
theorem jE (n:Int):IntKind.u64.wrap n=((u64 n:Nat):Int):=by
 rw [IntKind.wrap_u64]
 unfold u64
 omega
theorem pI {s:List (List UInt8)} (h1:s.length≤64) (h2:∀ m∈s,m.length≤1024):(fJ s).length≤65664:=by
 have h:∀ l:List (List UInt8),(∀ m∈l,m.length≤1024)→(fJ l).length≤l.length*1026:=by
  intro l
  induction l with
  | nil=>intro _; exact Nv _
  | cons a l ih =>
   intro h
   have h3:=h a (Nu ..)
   have h4:=ih fun m hm=>h m (Nw _ hm)
   unfold fJ at h4 ⊢
   rw [List.flatMap_cons,List.length_append,List.length_append,bf,List.length_cons]
   omega
 have:=h s h2
 omega
theorem JK {v:Val} {l:List UInt8} (h:¬ v.right=0):l=l++v.put:=by unfold Val.put; rw [if_neg h,List.append_nil]
theorem put_eq {v:Val} (h:v.right=0):v.put=v.bytes:=if_pos h
theorem BA {v:Val} (hk:v.k=1∨v.k=4):v.bytes=be 1 v.k.toNat++be 8 (u64 v.n):=by unfold Val.bytes; rw [if_pos hk]
theorem Bz {v:Val} (hk:v.k=2):v.bytes=be 1 v.k.toNat++[if v.n=1 then 1 else 0]:=by unfold Val.bytes; rw [if_neg (show ¬ (v.k=1∨v.k=4) by omega),if_pos hk]
theorem Bv {v:Val} (hk:v.k=3):v.bytes=be 1 v.k.toNat++(be 2 v.t.length++v.t):=by unfold Val.bytes; rw [if_neg (show ¬ (v.k=1∨v.k=4) by omega),if_neg (show ¬ v.k=2 by omega),if_pos hk]
theorem Bq {v:Val} (hk:v.k=5):v.bytes=be 1 v.k.toNat++(be 2 v.s.length++fJ v.s):=by unfold Val.bytes; rw [if_neg (show ¬ (v.k=1∨v.k=4) by omega),if_neg (show ¬ v.k=2 by omega),if_neg (show ¬ v.k=3 by omega),if_pos hk]
theorem BB {v:Val} (h1:¬ v.k=1) (h4:¬ v.k=4) (h2:¬ v.k=2) (h3:¬ v.k=3) (h5:¬ v.k=5):v.bytes=be 1 v.k.toNat:=by unfold Val.bytes; rw [if_neg (show ¬ (v.k=1∨v.k=4) by omega),if_neg h2,if_neg h3,if_neg h5,List.append_nil]
theorem Jt {v:Val} {l:List UInt8} (h:v.right=0) (hk:v.k=1∨v.k=4):l++be 1 v.k.toNat++be 8 (u64 v.n)=l++v.put:=by rw [put_eq h,BA hk,List.append_assoc]
theorem Ls {v:Val} {l:List UInt8} (h:v.right=0) (hk:v.k=2):l++be 1 v.k.toNat++[if aI .eql v.n 1=true then 1 else 0]=l++v.put:=by
 rw [put_eq h,Bz hk,List.append_assoc]
 simp [aI]
theorem iq {t:List UInt8} {m:Int} (h0:0≤m) (h1:m≤65535) (ht:(t.length:Int)≤m):pJ t m=nameB t:=by
 unfold pJ
 rw [wF h0 h1,if_neg ag]
 rfl
theorem Lr {v:Val} {l:List UInt8} (h:v.right=0) (hk:v.k=3):l++be 1 v.k.toNat++pJ v.t 1024=l++v.put:=by
 rw [put_eq h,Bv hk,List.append_assoc,iq ae ae (by have:=(Val.rt h).tl; omega)]
 rfl
theorem Lp {v:Val} {l:List UInt8} (h:v.right=0) (hk:v.k=5):l++be 1 v.k.toNat++jh v.s 64 1024=l++v.put:=by
 have R:=Val.rt h
 have hr:fC v.s v.s.length=true:=by
  rcases R.k with h | h | h | h | h | h
  ·omega
  ·omega
  ·omega
  ·omega
  ·omega
  ·exact h.2.2
 rw [put_eq h,Bq hk,List.append_assoc,jh,if_pos (tJ R.sl R.ml hr)]
theorem Lt {v:Val} {l:List UInt8} (h:v.right=0) (h1:¬ v.k=1) (h4:¬ v.k=4) (h2:¬ v.k=2) (h3:¬ v.k=3) (h5:¬ v.k=5):l++be 1 v.k.toNat=l++v.put:=by rw [put_eq h,BB h1 h4 h2 h3 h5]
theorem zZ {v:Val} (h:v.right=0):v.put.length≤65667:=by
 have R:=Val.rt h
 have h5:=pI R.sl R.ml
 have h3:=R.tl
 rw [put_eq h]
 by_cases c1:v.k=1∨v.k=4
 ·rw [BA c1,List.length_append,bf,bf]; omega
 by_cases c2:v.k=2
 ·rw [Bz c2,List.length_append,bf]; simp
 by_cases c3:v.k=3
 ·rw [Bv c3,List.length_append,List.length_append,bf,bf]; omega
 by_cases c5:v.k=5
 ·rw [Bq c5,List.length_append,List.length_append,bf,bf]; omega
 ·rw [BB (fun h=>c1 (.inl h)) (fun h=>c1 (.inr h)) c2 c3 c5,bf]; omega
set_option maxRecDepth 100000 in
set_option maxHeartbeats 2000000 in
theorem zA {w0:World} {R:List Seg} {G:List Seg} (wb:Nat) (l:List UInt8) (Y:Seg) (va:VA) (w:World) (hV:va.Ok w0 G) (hG:G⊆R) (hY:WrS wb l Y) (hA:Hp w0 (Y::R) w) (hl:l.length<140737499000000):Calls Tryz.prog 48 #[.pointer (some ⟨wb,0,none⟩),.agg va.cells.toArray] w fun e w'=>∃ Y',e= .returned (.int .i64 (va.v.right:Nat))∧WrS wb (l++va.v.put) Y'∧Hp w0 (Y'::R) w':=by
 have hvn:=hV.n
 refine aP Tryz.func48 O Tryz.ntmps48 ai (fun a hF=>?_)
 refine wp_seq_k fun K1 hK1=>wp_region_lit ?_
 refine ax O (fun K hK=>ed (cs:=[.int .i64 va.v.k,.int .i64 va.v.n,aj va.v.t,.slice va.sA va.v.s.length va.sC]) hF O ae rfl hA O (fun b1 w2 a hb1 hF hA3=>hK _ _ ?_))
 refine vR hF<|vX O<|vE hK1<|wQ fun K2 hK2=>wT fun K3 hK3=>vX O<|vV O (gy O af rfl rfl)<|vE hK3<|vF1 O<|wKp hK2<|wQ fun K4 hK4=>wT fun K5 hK5=>vV O (cZ (new:=[.int .i64 va.v.k,.int .i64 va.v.n,aj va.v.t,.slice va.sA va.v.s.length va.sC]) O hA3.q O 0 O Ho ai rfl) fun a hF=>?_
 refine ax O (fun K hK=>ay hF O ae Gl rfl rfl ?_)
 with_reducible refine (rO va _ hV (List.Subset.trans hG (bM (bM (dR)))) hA3).mono ?_
 rintro e' w4 ⟨rfl,hA5⟩
 refine ⟨_,rfl,fun a hF=>hK _ _ ?_⟩
 replace hA5:Hp w0 ([row b1 25 [.int .i64 va.v.k,.int .i64 va.v.n,aj va.v.t,.slice va.sA va.v.s.length va.sC]]::Y::R) w4:=hA5
 refine vR hF<|vX O<|vE hK5<|wT fun K6 hK6=>vX O<|vV O (aF O O O O O)<|vE hK6 fun a hF=>?_
 rcases tf (aI .neq (((va.v.right:Nat):Int)) (0)) with hr | hr
 ·refine au hF O hr ?_
  have h0:=oV hr
  have hRt:=Val.rt h0
  have hk:0≤va.v.k∧va.v.k≤5:=by rcases hRt.k with h | h | h | h | h | h <;> omega
  have hks:va.v.k=((va.v.k.toNat:Nat):Int):=by omega
  apply wp_skip
  refine hK4 _ _ ?_
  refine wS hF fun K7 hK7=>vX O<|vV O (yf 0 O ND O iZ O)<|vV O (aU O hA5.q O 0 O O ja)<|vV O (bW O NH NI O (show IntKind.u8.wrap (va.v.k)=va.v.k by rw [IntKind.wrap_u8]; omega)) fun a hF=>?_
  have hA6:Hp w0 (Y::[row b1 25 [.int .i64 va.v.k,.int .i64 va.v.n,aj va.v.t,.slice va.sA va.v.s.length va.sC]]::R) w4:=hpO 2 [1,0] hA5 rfl
  refine ax O (fun K hK=>ay hF O ae A8 rfl rfl ?_)
  with_reducible refine (fP w0 _ ([row b1 25 [.int .i64 va.v.k,.int .i64 va.v.n,aj va.v.t,.slice va.sA va.v.s.length va.sC]]::R) wb _ _ va.v.k.toNat (by show va.v.k.toNat<256; omega) va.v.k hks hY hA6 ag).mono ?_
  rintro e' w7 ⟨Y1,rfl,hY,hA8⟩
  refine ⟨_,rfl,fun a hF=>hK _ _ ?_⟩
  replace hA8:Hp w0 (Y1::[row b1 25 [.int .i64 va.v.k,.int .i64 va.v.n,aj va.v.t,.slice va.sA va.v.s.length va.sC]]::R) w7:=hA8
  refine aH<|hK7 _ _ ?_
  apply wp_seq_k; intro K8 hK8
  refine wS hF fun K9 hK9=>vV O (yf 0 O ND O iZ O)<|vV O (aU O hA8.q O 1 O O ja)<|vE hK9<|wBk<|wQ fun K10 hK10=>wT fun K11 hK11=>vV O (aF O O O O O)<|vX O<|vE hK11 fun a hF=>?_
  by_cases hk1:va.v.k=1
  ·refine aG hF O (fF ag) ?_
   apply wp_skip
   refine hK10 _ _ ?_
   refine aG hF O (fF ag) ?_
   refine wp_region_lit ?_
   refine vR hF<|vX O<|vV O (yf 1 O ND O gZ O)<|vV O (aU O hA8.q O 1 O O jZ)<|vV O (bW O NC NJ O (jE _)) fun a hF=>?_
   refine ax O (fun K hK=>ay hF O ae A7 rfl rfl ?_)
   with_reducible refine (fU w0 _ ([row b1 25 [.int .i64 va.v.k,.int .i64 va.v.n,aj va.v.t,.slice va.sA va.v.s.length va.sC]]::R) wb _ _ (u64 va.v.n) (iQ _) _ O hY hA8 (by rw [List.length_append,bf]; omega)).mono ?_
   rintro e' w9 ⟨Y2,rfl,hY,hA10⟩
   refine ⟨_,rfl,fun a hF=>hK _ _ ?_⟩
   replace hA10:Hp w0 (Y2::[row b1 25 [.int .i64 va.v.k,.int .i64 va.v.n,aj va.v.t,.slice va.sA va.v.s.length va.sC]]::R) w9:=hA10
   refine aH<|hK8 _ _ ?_
   refine wS hF fun K12 hK12=>vX O<|vE hK12 fun a hF=>?_
   apply wp_ret
   refine aO hF Tryz.results48 O ?_
   have hA11:Hp w0 (Y2::R) w9:=hpS 2 [0] [1] hA10 rfl
   exact ⟨_,by rw [h0]; rfl,hY.same (Jt h0 (.inl hk1)),hA11⟩
  ·by_cases hk4:va.v.k=4
   ·refine au hF O (bU ag) ?_
    refine wp_region_lit ?_
    refine vR hF<|vV O (aF O O O O O)<|vX O<|vE hK10 fun a hF=>?_
    refine aG hF O (fF ag) ?_
    refine wp_region_lit ?_
    refine vR hF<|vX O<|vV O (yf 1 O ND O gZ O)<|vV O (aU O hA8.q O 1 O O jZ)<|vV O (bW O NC NJ O (jE _)) fun a hF=>?_
    refine ax O (fun K hK=>ay hF O ae A7 rfl rfl ?_)
    with_reducible refine (fU w0 _ ([row b1 25 [.int .i64 va.v.k,.int .i64 va.v.n,aj va.v.t,.slice va.sA va.v.s.length va.sC]]::R) wb _ _ (u64 va.v.n) (iQ _) _ O hY hA8 (by rw [List.length_append,bf]; omega)).mono ?_
    rintro e' w12 ⟨Y2,rfl,hY,hA13⟩
    refine ⟨_,rfl,fun a hF=>hK _ _ ?_⟩
    replace hA13:Hp w0 (Y2::[row b1 25 [.int .i64 va.v.k,.int .i64 va.v.n,aj va.v.t,.slice va.sA va.v.s.length va.sC]]::R) w12:=hA13
    refine aH<|hK8 _ _ ?_
    refine wS hF fun K13 hK13=>vX O<|vE hK13 fun a hF=>?_
    apply wp_ret
    refine aO hF Tryz.results48 O ?_
    have hA14:Hp w0 (Y2::R) w12:=hpS 2 [0] [1] hA13 rfl
    exact ⟨_,by rw [h0]; rfl,hY.same (Jt h0 (.inr hk4)),hA14⟩
   ·by_cases hk2:va.v.k=2
    ·refine au hF O (bU ag) ?_
     refine wp_region_lit ?_
     refine vR hF<|vV O (aF O O O O O)<|vX O<|vE hK10 fun a hF=>?_
     refine au hF O (bU ag) ?_
     refine wS hF fun K14 hK14=>vV O (aF O O O O O)<|vX O<|vE hK14 fun a hF=>?_
     refine aG hF O (fF ag) ?_
     refine wp_region_lit ?_
     refine vR hF<|vX O<|vV O (yf 1 O ND O gZ O)<|vV O (aU O hA8.q O 1 O O jZ)<|vV O (aF O O O O O) fun a hF=>?_
     refine ax O (fun K hK=>ay hF O ae IV rfl rfl ?_)
     with_reducible refine (Aq w0 _ ([row b1 25 [.int .i64 va.v.k,.int .i64 va.v.n,aj va.v.t,.slice va.sA va.v.s.length va.sC]]::R) wb _ _ (aI .eql va.v.n 1) hY hA8 (by rw [List.length_append,bf]; omega)).mono ?_
     rintro e' w15 ⟨Y2,rfl,hY,hA16⟩
     refine ⟨_,rfl,fun a hF=>hK _ _ ?_⟩
     replace hA16:Hp w0 (Y2::[row b1 25 [.int .i64 va.v.k,.int .i64 va.v.n,aj va.v.t,.slice va.sA va.v.s.length va.sC]]::R) w15:=hA16
     refine aH<|hK8 _ _ ?_
     refine wS hF fun K15 hK15=>vX O<|vE hK15 fun a hF=>?_
     apply wp_ret
     refine aO hF Tryz.results48 O ?_
     have hA17:Hp w0 (Y2::R) w15:=hpS 2 [0] [1] hA16 rfl
     exact ⟨_,by rw [h0]; rfl,hY.same (Ls h0 hk2),hA17⟩
    ·by_cases hk3:va.v.k=3
     ·refine au hF O (bU ag) ?_
      refine wp_region_lit ?_
      refine vR hF<|vV O (aF O O O O O)<|vX O<|vE hK10 fun a hF=>?_
      refine au hF O (bU ag) ?_
      refine wS hF fun K16 hK16=>vV O (aF O O O O O)<|vX O<|vE hK16 fun a hF=>?_
      refine au hF O (bU ag) ?_
      refine wS hF fun K17 hK17=>vV O (aF O O O O O)<|vX O<|vE hK17 fun a hF=>?_
      refine aG hF O (fF ag) ?_
      refine wp_region_lit ?_
      refine vR hF<|vX O<|vV O (yf 2 O ND O uB O)<|vV O (aU O hA8.q O 1 O O uU) fun a hF=>?_
      refine ax O (fun K hK=>ay hF O ae Ja rfl rfl ?_)
      with_reducible refine (jY w0 _ ([row b1 25 [.int .i64 va.v.k,.int .i64 va.v.n,aj va.v.t,.slice va.sA va.v.s.length va.sC]]::R) wb _ _ va.v.t 1024 hY hA8 (by have:=hRt.tl; rw [List.length_append,bf]; omega)).mono ?_
      rintro e' w18 ⟨Y2,rfl,hY,hA19⟩
      refine ⟨_,rfl,fun a hF=>hK _ _ ?_⟩
      replace hA19:Hp w0 (Y2::[row b1 25 [.int .i64 va.v.k,.int .i64 va.v.n,aj va.v.t,.slice va.sA va.v.s.length va.sC]]::R) w18:=hA19
      refine aH<|hK8 _ _ ?_
      refine wS hF fun K18 hK18=>vX O<|vE hK18 fun a hF=>?_
      apply wp_ret
      refine aO hF Tryz.results48 O ?_
      have hA20:Hp w0 (Y2::R) w18:=hpS 2 [0] [1] hA19 rfl
      exact ⟨_,by rw [h0]; rfl,hY.same (Lr h0 hk3),hA20⟩
     ·by_cases hk5:va.v.k=5
      ·refine au hF O (bU ag) ?_
       refine wp_region_lit ?_
       refine vR hF<|vV O (aF O O O O O)<|vX O<|vE hK10 fun a hF=>?_
       refine au hF O (bU ag) ?_
       refine wS hF fun K19 hK19=>vV O (aF O O O O O)<|vX O<|vE hK19 fun a hF=>?_
       refine au hF O (bU ag) ?_
       refine wS hF fun K20 hK20=>vV O (aF O O O O O)<|vX O<|vE hK20 fun a hF=>?_
       refine au hF O (bU ag) ?_
       refine wS hF fun K21 hK21=>vV O (aF O O O O O)<|vX O<|vE hK21 fun a hF=>?_
       refine aG hF O (fF ag) ?_
       refine wp_region_lit ?_
       refine vR hF<|vX O<|vV O (yf 3 O ND O mf O)<|vV O (aU O hA8.q O 1 O O mi) fun a hF=>?_
       refine ax O (fun K hK=>ay hF O ae Gh rfl rfl ?_)
       with_reducible refine (EG w0 _ ([row b1 25 [.int .i64 va.v.k,.int .i64 va.v.n,aj va.v.t,.slice va.sA va.v.s.length va.sC]]::R) wb _ _ va.sA va.v.s va.sC (hV.rc.mono (List.Subset.trans hG (bM (dR)))) 64 1024 hY hA8 (by have:=pI hRt.sl hRt.ml; rw [List.length_append,bf]; omega) hvn).mono ?_
       rintro e' w21 ⟨Y2,rfl,hY,hA22⟩
       refine ⟨_,rfl,fun a hF=>hK _ _ ?_⟩
       replace hA22:Hp w0 (Y2::[row b1 25 [.int .i64 va.v.k,.int .i64 va.v.n,aj va.v.t,.slice va.sA va.v.s.length va.sC]]::R) w21:=hA22
       refine aH<|hK8 _ _ ?_
       refine wS hF fun K22 hK22=>vX O<|vE hK22 fun a hF=>?_
       apply wp_ret
       refine aO hF Tryz.results48 O ?_
       have hA23:Hp w0 (Y2::R) w21:=hpS 2 [0] [1] hA22 rfl
       exact ⟨_,by rw [h0]; rfl,hY.same (Lp h0 hk5),hA23⟩
      ·refine au hF O (bU ag) ?_
       refine wp_region_lit ?_
       refine vR hF<|vV O (aF O O O O O)<|vX O<|vE hK10 fun a hF=>?_
       refine au hF O (bU ag) ?_
       refine wS hF fun K23 hK23=>vV O (aF O O O O O)<|vX O<|vE hK23 fun a hF=>?_
       refine au hF O (bU ag) ?_
       refine wS hF fun K24 hK24=>vV O (aF O O O O O)<|vX O<|vE hK24 fun a hF=>?_
       refine au hF O (bU ag) ?_
       refine wS hF fun K25 hK25=>vV O (aF O O O O O)<|vX O<|vE hK25 fun a hF=>?_
       refine au hF O (bU ag) ?_
       apply wp_skip
       refine hK8 _ _ ?_
       refine wS hF fun K26 hK26=>vX O<|vE hK26 fun a hF=>?_
       apply wp_ret
       refine aO hF Tryz.results48 O ?_
       have hA24:Hp w0 (Y1::R) w7:=hpS 2 [0] [1] hA8 rfl
       exact ⟨_,by rw [h0]; rfl,hY.same (Lt h0 hk1 hk4 hk2 hk3 hk5),hA24⟩
 ·refine aG hF O hr ?_
  refine wS hF fun K27 hK27=>vX O<|vX O<|vE hK27 fun a hF=>?_
  apply wp_ret
  simp only [Exit.then]
  refine aO hF Tryz.results48 O ?_
  have hA25:Hp w0 (Y::R) w4:=hpS 2 [1] [0] hA5 rfl
  exact ⟨_,rfl,hY.same (JK (jW hr)),hA25⟩
end Go.Proofs.YtepbmdlgdaedpaaGreatDoor
