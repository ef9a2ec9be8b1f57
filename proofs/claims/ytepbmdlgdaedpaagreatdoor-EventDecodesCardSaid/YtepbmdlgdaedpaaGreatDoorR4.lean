/- The document's own: the taker. -/
import Derived.Test.YtepbmdlgdaedpaaGreatDoorR3
import Derived.Test.YtepbmdlgdaedpaaGreatDoorLawValues
/- The document's own: the taker. -/
namespace Go.Proofs.YtepbmdlgdaedpaaGreatDoor
open Go.RowKit Go.Dk
theorem Ef:aQ Tryz.prog 54:=⟨_,Tryz.func54,af,af⟩
theorem iZ:aQ Tryz.prog 132:=⟨_,Tryz.func132,af,af⟩
set_option maxRecDepth 100000 in
set_option maxHeartbeats 8000000 in
theorem jy {w0:World} {R:List Seg} (tb:Nat) (m e:Int) (sv:Value) (bd:Bool) (w:World) (he:e≠0) (hA:Hp w0 ([row tb 187 [sv,.bool bd]]::R) w):Calls Tryz.prog 132 #[.pointer (some ⟨tb,0,none⟩),.int .i64 m,.int .i64 e] w fun e' w'=>e'= .returned (.tuple #[])∧Hp w0 ([row tb 187 [.slice none 0 0,.bool true]]::R) w':=by
 refine aO Tryz.func132 O Tryz.ntmps132 ai (fun a hF=>?_)
 apply wp_seq_k; intro K1 hK1
 refine wS hF fun K2 hK2=>vX O<|vV O (aG O O O O (fO he))<|vX O fun a hF=>?_
 refine au hF O O O O O (ax rfl) ae (fun a hF=>?_)
 refine au hF O O O O O (ax rfl) ae (fun a hF=>?_)
 refine au hF O O O O O (ax rfl) ae (fun a hF=>?_)
 refine au hF O O O O O (ax rfl) ae (fun a hF=>?_)
 refine au hF O O O O O (ax rfl) ae (fun a hF=>?_)
 refine au hF O O O O O (ax rfl) ae (fun a hF=>?_)
 refine au hF O O O O O (ax rfl) ae (fun a hF=>?_)
 refine vR hF<|vV O (aT O O O O)<|vE hK2 fun a hF=>?_
 refine aF hF O O ?_
 refine wS hF fun K3 hK3=>vX O<|vX O<|vV O (yf 1 O LQ O jJ O) fun a hF=>?_
 refine aH O (fun K hK=>bz hF O O hA O O 0 O (by simp) rfl jJ (fun w1 hA2=>hK _ _ ?_))
 replace hA2:Hp w0 ([row tb 187 [sv,.bool true]]::R) w1:=hA2
 refine aK<|hK3 _ _ ?_
 refine wS hF fun K4 hK4=>vX O<|vX O<|vV O (yf 0 O LQ O dV O) fun a hF=>?_
 refine aH O (fun K hK=>bz hF O O hA2 O O 0 O (by simp) rfl dV (fun w3 hA4=>hK _ _ ?_))
 replace hA4:Hp w0 ([row tb 187 [.slice none 0 0,.bool true]]::R) w3:=hA4
 refine aK<|hK4 _ _ ?_
 apply wp_ret
 simp only [Exit.then]
 refine Fq hF O ?_
 exact ⟨rfl,hA4⟩
set_option maxRecDepth 100000 in
set_option maxHeartbeats 8000000 in
theorem kw {w0:World} {R:List Seg} (tb:Nat) (m:Nat) (Ab:Option Addr) (n cb:Nat) (bd:Bool) (w:World) (hm:m≤n) (hn:n≤cb) (hA:Hp w0 ([row tb 187 [.slice Ab n cb,.bool bd]]::R) w):Calls Tryz.prog 132 #[.pointer (some ⟨tb,0,none⟩),.int .i64 (m:Nat),.int .i64 ((0:Nat):Int)] w fun e' w'=>e'= .returned (.tuple #[])∧Hp w0 ([row tb 187 [.slice (sub Ab m cb 1) (n-m) (cb-m),.bool bd]]::R) w':=by
 refine aO Tryz.func132 O Tryz.ntmps132 ai (fun a hF=>?_)
 apply wp_seq_k; intro K1 hK1
 refine wS hF fun K2 hK2=>vX O<|vV O (aG O O O O (eP rfl))<|vX O fun a hF=>?_
 refine aB hF O O O O (aj rfl) ae _ (aX O O) (fun a hF=>?_)
 refine aB hF O O O O (aj rfl) ae _ (aX O O) (fun a hF=>?_)
 refine aB hF O O O O (aj rfl) ae _ (dC O O) (fun a hF=>?_)
 refine aB hF O O O O (aj rfl) ae _ (yf 0 O LQ O dV O) (fun a hF=>?_)
 refine aB hF O O O O (aj rfl) ae _ (aW O hA.q O 0 O O iQ) (fun a hF=>?_)
 refine aB hF O O O O (aj rfl) ae _ (aZ O KY O O) (fun a hF=>?_)
 refine aB hF O O O O (aj rfl) ae _ (aG O O O O (fC ag)) (fun a hF=>?_)
 refine vR hF<|vV O (aS O O O O)<|vE hK2 fun a hF=>?_
 refine ay hF O O ?_
 apply wp_skip
 refine hK1 _ _ ?_
 refine wp_region_lit ?_
 refine vR hF<|vX O<|vX O<|vX O<|vV O (yf 0 O LQ O dV O)<|vV O (aW O hA.q O 0 O O iQ)<|vX O<|vV O (eX O KY eG rfl (.some (k:=m) rfl rfl) (.none _) hm hn rfl)<|vX O<|vV O (yf 0 O LQ O dV O) fun a hF=>?_
 refine aH O (fun K hK=>bz hF O O hA O O 0 O (by simp) rfl dV (fun w1 hA2=>hK _ _ ?_))
 replace hA2:Hp w0 ([row tb 187 [.slice (sub Ab m cb 1) (n-m) (cb-m),.bool bd]]::R) w1:=hA2
 refine aK ?_
 refine iC hF Tryz.results132 ?_
 exact ⟨rfl,hA2⟩
def aU (raw:List UInt8) (p y:Nat):List UInt8:=if y=0 then raw.drop p else []
theorem gJ (raw:List UInt8) (p:Nat):aU raw p 0=raw.drop p:=if_pos rfl
theorem ng (raw:List UInt8) (p:Nat) {y:Nat} (h:¬ y=0):aU raw p y=[]:=if_neg h
theorem left_le (raw:List UInt8) (p y:Nat):(aU raw p y).length≤raw.length:=by
 unfold aU
 split
 ·rw [List.length_drop]; omega
 ·exact KW _
abbrev TkS (w0:World) (G:List Seg) (Ab:Option Addr) (cb:Nat) (raw:List UInt8) (p y:Nat):Prop:=Rd w0 G Ab (aU raw p y)∧(aU raw p y).length≤cb
abbrev lq (tb:Nat) (Ab:Option Addr) (cb:Nat) (raw:List UInt8) (p y:Nat):Seg:=[row tb 187 [.slice Ab (aU raw p y).length cb,.bool (decide (y≠0))]]
theorem sU {w0:World} {G:List Seg} {Ab:Option Addr} {cb:Nat} {raw:List UInt8} {p n:Nat} (h:TkS w0 G Ab cb raw p 0) (hn:n≤(raw.drop p).length):TkS w0 G (sub Ab n cb 1) (cb-n) raw (p+n) 0:=by
 obtain ⟨h1,h2⟩:=h
 rw [gJ] at h1 h2
 show Rd w0 G _ (aU raw (p+n) 0)∧(aU raw (p+n) 0).length≤_
 rw [gJ,← List.drop_drop]
 exact ⟨Rd.drop h1 n h2,by rw [List.length_drop]; omega⟩
theorem oI {w0:World} {G:List Seg} {raw:List UInt8} {p y:Nat} (h:¬ y=0):TkS w0 G none 0 raw p y:=by
 show Rd w0 G _ (aU raw p y)∧(aU raw p y).length≤_
 rw [ng raw p h]
 exact ⟨Rc.nil,KZ _⟩
theorem kz {tb:Nat} {Ab:Option Addr} {cb:Nat} {raw:List UInt8} {p n:Nat}:([row tb 187 [.slice (sub Ab n cb 1) ((aU raw p 0).length-n) (cb-n),.bool (decide ((0:Nat)≠0))]]:Seg)=lq tb (sub Ab n cb 1) (cb-n) raw (p+n) 0:=by
 unfold lq
 rw [gJ,gJ,← List.drop_drop,List.length_drop (i:=n)]
theorem kV {tb:Nat} {raw:List UInt8} {p y:Nat} (h:¬ y=0):([row tb 187 [.slice none 0 0,.bool true]]:Seg)=lq tb none 0 raw p y:=by
 unfold lq
 rw [ng raw p h,decide_eq_true h]
 rfl
theorem yG {α:Type} {r:List UInt8→Res α} {d:α} {raw:List UInt8} {p y:Nat} (hnil:(r []).why 0≠0) (h:(r (aU raw p y)).why 0=0):y=0∧got r d raw p y=⟨(r (aU raw p y)).val d 0,p+(r (aU raw p y)).pl 0 0,0⟩:=by
 by_cases hy:y=0
 ·subst hy
  rw [gJ] at h ⊢
  refine ⟨rfl,?_⟩
  unfold got
  rw [h]
  have:=xM (r (raw.drop p)) p 0 0
  rw [Nat.add_zero] at this
  rw [this]
 ·rw [ng raw p hy] at h; exact absurd h hnil
theorem yH {α:Type} {r:List UInt8→Res α} {d:α} {raw:List UInt8} {p y:Nat} (hnil:(r []).val d 0=d) (h:¬ (r (aU raw p y)).why 0=0):∃ y1,¬ y1=0∧got r d raw p y=⟨(r (aU raw p y)).val d 0,p,y1⟩:=by
 by_cases hy:y=0
 ·subst hy
  rw [gJ] at h ⊢
  refine ⟨(r (raw.drop p)).why 0,h,?_⟩
  unfold got
  have:=xM (r (raw.drop p)) p 0 0
  rw [Nat.add_zero,pK h,Nat.add_zero] at this
  rw [this]
 ·rw [ng raw p hy]
  refine ⟨y,hy,?_⟩
  unfold got
  rw [(Res.skip _ d p y hy).1,(Res.skip _ d p y hy).2.1,(Res.skip _ d p y hy).2.2,hnil]
theorem I8 {K:Nat} (hK:0<K):cO K []= .no 8:=if_pos hK
set_option maxRecDepth 100000 in
set_option maxHeartbeats 8000000 in
theorem kU {w0:World} {R:List Seg} {G:List Seg} (tb:Nat) (Ab:Option Addr) (cb:Nat) (raw:List UInt8) (p y:Nat) (w:World) (hT:TkS w0 G Ab cb raw p y) (hG:G⊆R) (hp:p≤raw.length) (hl:raw.length<140737488354000) (hA:Hp w0 (lq tb Ab cb raw p y::R) w) (kk:Nat) (z:Int) (hz:z=kk) (hK0:0<kk) (hKK:kk≤8):Calls Tryz.prog 129 #[.pointer (some ⟨tb,0,none⟩),.int .i64 z] w fun e w'=>∃ (k p1 y1:Nat) (Ab1:Option Addr) (cb1:Nat),e= .returned (.int .i64 (i64 k))∧got (cO kk) 0 raw p y=⟨k,p1,y1⟩∧p1≤raw.length∧k<256 ^ kk∧TkS w0 G Ab1 cb1 raw p1 y1∧Hp w0 (lq tb Ab1 cb1 raw p1 y1::R) w':=by
 have hlt:=left_le raw p y
 have hnil:=I8 hK0
 have hvl:(cO kk (aU raw p y)).val 0 0<256 ^ kk:=jO kk (aU raw p y) 0 0
 have hv64:(cO kk (aU raw p y)).val 0 0<18446744073709551616:=Nat.lt_of_lt_of_le hvl (Nat.pow_le_pow_right ae hKK)
 refine aO Tryz.func129 O Tryz.ntmps129 ai (fun a hF=>?_)
 refine wS hF fun K1 hK1=>vX O<|vE hK1<|wT fun K2 hK2=>vX O<|vX O<|vV O (yf 0 O LQ O dV O)<|vV O (aW O hA.q O 0 O O iQ)<|vX O fun a hF=>?_
 refine aH O (fun K hK=>aI hF O ae mJ rfl rfl ?_)
 with_reducible refine (iY w0 _ ([row tb 187 [.slice Ab ((aU raw p y).length) cb,.bool (decide (y≠0))]]::R) Ab (aU raw p y) cb kk z hz hKK (hT.1.mono (List.Subset.trans hG (bF (dH)))) hA ag).mono ?_
 rintro e' w3 ⟨rfl,rfl⟩
 refine ⟨_,rfl,fun a hF=>hK _ _ ?_⟩
 refine vR hF<|vX O<|vV O (aJ (v:= .int .u64 ((((cO kk (aU raw p y)).val 0 0):Nat):Int)) O O O)<|vV O (aJ (v:= .int .i64 ((((cO kk (aU raw p y)).pl 0 0):Nat):Int)) O O O)<|vV O (aJ (v:= .int .i64 ((((cO kk (aU raw p y)).why 0):Nat):Int)) O O O)<|vX O<|vX O<|vX O<|vE hK2<|wQ fun K3 hK3 a hF=>?_
 by_cases hw:((cO kk (aU raw p y)).why 0)=0
 ·obtain ⟨hy,hgo⟩:=yG (d:=0) (by rw [hnil]; decide) hw
  subst hy
  have hpl0:=xQ (aU raw p 0) kk
  have hpl:(cO kk (aU raw p 0)).pl 0 0≤(raw.drop p).length:=by rw [← gJ raw p]; exact hpl0
  rw [hw] at hF
  refine wp_region_lit ?_
  refine vR hF<|vX O<|vX O<|vX O fun a hF=>?_
  refine aH O (fun K hK=>aI hF O ae iZ rfl rfl ?_)
  with_reducible refine (kw tb _ Ab _ cb _ _ hpl0 hT.2 hA).mono ?_
  rintro e' w4 ⟨rfl,hA5⟩
  refine ⟨_,rfl,fun a hF=>hK _ _ ?_⟩
  replace hA5:Hp w0 ([row tb 187 [.slice (sub Ab ((cO kk (aU raw p 0)).pl 0 0) cb 1) ((aU raw p 0).length-(cO kk (aU raw p 0)).pl 0 0) (cb-(cO kk (aU raw p 0)).pl 0 0),.bool (decide ((0:Nat)≠0))]]::R) w4:=hA5
  refine aK<|hK3 _ _ ?_
  refine wS hF fun K4 hK4=>vX O<|vV O (bI O Lu Lh O (iI hv64))<|vX O<|vE hK4 fun a hF=>?_
  apply wp_ret
  refine aN hF Tryz.results129 O ?_
  rw [kz] at hA5
  exact ⟨_,_,_,_,_,rfl,hgo,by rw [List.length_drop] at hpl; omega,hvl,sU hT (by rw [gJ] at hpl0; exact hpl0),hA5⟩
 ·obtain ⟨y1,hy1,hgo⟩:=yH (d:=0) (by rw [hnil]; rfl) hw
  refine wp_region_lit ?_
  refine vR hF<|vX O<|vX O<|vX O fun a hF=>?_
  refine aH O (fun K hK=>aI hF O ae iZ rfl rfl ?_)
  with_reducible refine (jy tb _ _ _ _ _ ag hA).mono ?_
  rintro e' w6 ⟨rfl,hA7⟩
  refine ⟨_,rfl,fun a hF=>hK _ _ ?_⟩
  replace hA7:Hp w0 ([row tb 187 [.slice none 0 0,.bool true]]::R) w6:=hA7
  refine aK<|hK3 _ _ ?_
  refine wS hF fun K5 hK5=>vX O<|vV O (bI O Lu Lh O (iI hv64))<|vX O<|vE hK5 fun a hF=>?_
  apply wp_ret
  refine aN hF Tryz.results129 O ?_
  rw [kV (raw:=raw) (p:=p) hy1] at hA7
  exact ⟨_,_,_,_,_,rfl,hgo,hp,hvl,oI hy1,hA7⟩
theorem xB (r:List UInt8) (m:Int):((bW r m).val [] 0).length≤r.length:=by
 cases h:bW r m with
 | no e=>exact KW _
 | ok v k=>exact Nat.le_trans (kD h).2 (kD h).1
set_option maxRecDepth 100000 in
set_option maxHeartbeats 8000000 in
theorem sS {w0:World} {R:List Seg} {G:List Seg} (tb:Nat) (Ab:Option Addr) (cb:Nat) (raw:List UInt8) (p y:Nat) (w:World) (hT:TkS w0 G Ab cb raw p y) (hG:G⊆R) (hp:p≤raw.length) (hl:raw.length<140737488354000) (hA:Hp w0 (lq tb Ab cb raw p y::R) w):Calls Tryz.prog 130 #[.pointer (some ⟨tb,0,none⟩)] w fun e w'=>∃ (s:List UInt8) (p1 y1:Nat) (Ab1:Option Addr) (cb1:Nat),e= .returned (ak s)∧got (bW · 64) [] raw p y=⟨s,p1,y1⟩∧p1≤raw.length∧s.length≤raw.length∧TkS w0 G Ab1 cb1 raw p1 y1∧Hp w0 (lq tb Ab1 cb1 raw p1 y1::R) w':=by
 have hlt:=left_le raw p y
 have hnil:bW [] 64= .no 8:=rfl
 have hvl:((bW (aU raw p y) 64).val [] 0).length≤raw.length:=Nat.le_trans (xB _ 64) hlt
 refine aO Tryz.func130 O Tryz.ntmps130 ai (fun a hF=>?_)
 refine wS hF fun K1 hK1=>vX O<|vE hK1<|wT fun K2 hK2=>vX O<|vX O<|vV O (yf 0 O LQ O dV O)<|vV O (aW O hA.q O 0 O O iQ) fun a hF=>?_
 refine aH O (fun K hK=>aI hF O ae xk rfl rfl ?_)
 with_reducible refine (oK w0 _ ([row tb 187 [.slice Ab ((aU raw p y).length) cb,.bool (decide (y≠0))]]::R) Ab (aU raw p y) cb (aU raw p y).length 64 rfl hT.2 (hT.1.mono (List.Subset.trans hG (bF (dH)))) hA ag).mono ?_
 rintro e' w1 ⟨k3,rfl,hk3e,hA2⟩
 refine ⟨_,rfl,fun a hF=>hK _ _ ?_⟩
 replace hA2:Hp w0 ([row tb 187 [.slice Ab ((aU raw p y).length) cb,.bool (decide (y≠0))]]::R) w1:=hA2
 refine vR hF<|vX O<|vV O (aJ (v:=ak ((bW (aU raw p y) 64).val [] 0)) O O O)<|vV O (aJ (v:= .int .i64 ((k3:Nat):Int)) O O O)<|vV O (aJ (v:= .int .i64 (((bW (aU raw p y) 64).why 0:Nat):Int)) O O O)<|vX O<|vX O<|vX O<|vE hK2<|wQ fun K3 hK3 a hF=>?_
 by_cases hw:(bW (aU raw p y) 64).why 0=0
 ·obtain ⟨hy,hgo⟩:=yG (r:=(bW · 64)) (d:=[]) (by rw [hnil]; decide) hw
  subst hy
  obtain rfl:=hk3e hw
  have hpl0:=yI (aU raw p 0) 64
  have hpl:(bW (aU raw p 0) 64).pl 0 0≤(raw.drop p).length:=by rw [gJ] at hpl0 ⊢; exact hpl0
  rw [hw] at hF
  refine wp_region_lit ?_
  refine vR hF<|vX O<|vX O<|vX O fun a hF=>?_
  refine aH O (fun K hK=>aI hF O ae iZ rfl rfl ?_)
  with_reducible refine (kw tb _ Ab _ cb _ _ hpl0 hT.2 hA2).mono ?_
  rintro e' w3 ⟨rfl,hA4⟩
  refine ⟨_,rfl,fun a hF=>hK _ _ ?_⟩
  replace hA4:Hp w0 ([row tb 187 [.slice (sub Ab ((bW (aU raw p 0) 64).pl 0 0) cb 1) ((aU raw p 0).length-(bW (aU raw p 0) 64).pl 0 0) (cb-(bW (aU raw p 0) 64).pl 0 0),.bool (decide ((0:Nat)≠0))]]::R) w3:=hA4
  refine aK<|hK3 _ _ ?_
  refine wS hF fun K4 hK4=>vX O<|vX O<|vE hK4 fun a hF=>?_
  apply wp_ret
  refine aN hF Tryz.results130 O ?_
  rw [kz] at hA4
  exact ⟨_,_,_,_,_,rfl,hgo,by rw [List.length_drop] at hpl; omega,hvl,sU hT hpl,hA4⟩
 ·obtain ⟨y1,hy1,hgo⟩:=yH (r:=(bW · 64)) (d:=[]) (by rw [hnil]; rfl) hw
  refine wp_region_lit ?_
  refine vR hF<|vX O<|vX O<|vX O fun a hF=>?_
  refine aH O (fun K hK=>aI hF O ae iZ rfl rfl ?_)
  with_reducible refine (jy tb _ _ _ _ _ ag hA2).mono ?_
  rintro e' w5 ⟨rfl,hA6⟩
  refine ⟨_,rfl,fun a hF=>hK _ _ ?_⟩
  replace hA6:Hp w0 ([row tb 187 [.slice none 0 0,.bool true]]::R) w5:=hA6
  refine aK<|hK3 _ _ ?_
  refine wS hF fun K5 hK5=>vX O<|vX O<|vE hK5 fun a hF=>?_
  apply wp_ret
  refine aN hF Tryz.results130 O ?_
  rw [kV (raw:=raw) (p:=p) hy1] at hA6
  exact ⟨_,_,_,_,_,rfl,hgo,hp,hvl,oI hy1,hA6⟩
theorem Iz {raw:List UInt8} {p y:Nat} (h:(bu (aU raw p y) 0 0).y=0):y=0∧bu raw p y=⟨(bu (aU raw p y) 0 0).v,p+(bu (aU raw p y) 0 0).p,0⟩:=by
 by_cases hy:y=0
 ·subst hy
  rw [gJ] at h ⊢
  exact ⟨rfl,by rw [mf,h]⟩
 ·rw [ng raw p hy] at h; exact absurd h ae
theorem IA {raw:List UInt8} {p y:Nat} (hp:p≤raw.length) (hn:(bu (aU raw p y) 0 0).p≤(aU raw p y).length) (h:¬ (bu (aU raw p y) 0 0).y=0):∃ p1 y1,¬ y1=0∧p1≤raw.length∧bu raw p y=⟨(bu (aU raw p y) 0 0).v,p1,y1⟩:=by
 by_cases hy:y=0
 ·subst hy
  rw [gJ] at h hn ⊢
  rw [List.length_drop] at hn
  exact ⟨_,_,h,ag,mf raw p⟩
 ·rw [ng raw p hy]
  exact ⟨p,y,hy,hp,xY raw p hy⟩
set_option maxRecDepth 100000 in
set_option maxHeartbeats 8000000 in
theorem uQ {w0:World} {R:List Seg} {G:List Seg} (tb:Nat) (Ab:Option Addr) (cb:Nat) (raw:List UInt8) (p y:Nat) (w:World) (hT:TkS w0 G Ab cb raw p y) (hG:G⊆R) (hp:p≤raw.length) (hl:raw.length<140737488354000) (hA:Hp w0 (lq tb Ab cb raw p y::R) w):Calls Tryz.prog 133 #[.pointer (some ⟨tb,0,none⟩)] w fun e w'=>∃ (va:VA) (Z:Seg) (p1 y1:Nat) (Ab1:Option Addr) (cb1:Nat),e= .returned (.agg va.cells.toArray)∧bu raw p y=⟨va.v,p1,y1⟩∧va.Ok w0 [Z]∧p1≤raw.length∧TkS w0 G Ab1 cb1 raw p1 y1∧Hp w0 (Z::lq tb Ab1 cb1 raw p1 y1::R) w':=by
 have hlt:=left_le raw p y
 refine aO Tryz.func133 O Tryz.ntmps133 ai (fun a hF=>?_)
 refine wp_seq_k fun K1 hK1=>wp_region_lit ?_
 refine aH O (fun K hK=>dw hF O ae rfl hA (yE) (fun b1 w2 a hb1 hF hA3=>hK _ _ ?_))
 refine aK<|hK1 _ _ ?_
 refine wS hF fun K2 hK2=>vX O<|vX O<|vV O (yf 0 O LQ O dV O)<|vV O (aW O hA3.q O 1 O O iQ) fun a hF=>?_
 refine aH O (fun K hK=>aI hF O ae Ef rfl rfl ?_)
 with_reducible refine (FI Ab (aU raw p y) cb _ hT.1 hT.2 ag (List.Subset.trans hG (bF (bF (dH)))) hA3).mono ?_
 rintro e' w4 ⟨va,ZT,rfl,hva,hvo,hn2,hA5⟩
 refine ⟨_,rfl,fun a hF=>hK _ _ ?_⟩
 refine vR hF<|vX O<|vV O (aJ (v:= .agg ([.int .i64 va.v.k,.int .i64 va.v.n,ak va.v.t,.slice va.sA va.v.s.length va.sC]).toArray) rfl rfl rfl)<|vV O (aJ (v:= .int .i64 (((bu (aU raw p y) 0 0).p:Nat):Int)) O O O)<|vV O (aJ (v:= .int .i64 (((bu (aU raw p y) 0 0).y:Nat):Int)) O O O) fun a hF=>?_
 refine aH O (fun K hK=>dw hF O ae rfl hA5 (yE) (fun b6 w7 a hb6 hF hA8=>hK _ _ ?_))
 refine aH O (fun K hK=>bg (new:=[.int .i64 va.v.k,.int .i64 va.v.n,ak va.v.t,.slice va.sA va.v.s.length va.sC]) hF O O hA8 O O 0 O O (by simp [Value.oneCell']) lV (fun w9 hA10=>hK _ _ ?_))
 replace hA10:Hp w0 ([row b6 25 [.int .i64 va.v.k,.int .i64 va.v.n,ak va.v.t,.slice va.sA va.v.s.length va.sC]]::ZT::[row b1 25 [.int .i64 0,.int .i64 0,.string (⟨#[]⟩),.slice none 0 0]]::[row tb 187 [.slice Ab ((aU raw p y).length) cb,.bool (decide (y≠0))]]::R) w9:=hA10
 refine vR hF<|vX O<|vX O<|vE hK2<|wQ fun K3 hK3 a hF=>?_
 by_cases hw:(bu (aU raw p y) 0 0).y=0
 ·obtain ⟨hy,hgo⟩:=Iz hw
  subst hy
  have hpl:(bu (aU raw p 0) 0 0).p≤(raw.drop p).length:=by rw [gJ] at hn2 ⊢; exact hn2
  rw [hw] at hF
  refine wp_region_lit ?_
  refine vR hF<|vX O<|vX O<|vX O fun a hF=>?_
  have hA11:Hp w0 ([row tb 187 [.slice Ab ((aU raw p 0).length) cb,.bool (decide ((0:Nat)≠0))]]::[row b6 25 [.int .i64 va.v.k,.int .i64 va.v.n,ak va.v.t,.slice va.sA va.v.s.length va.sC]]::ZT::[row b1 25 [.int .i64 0,.int .i64 0,.string (⟨#[]⟩),.slice none 0 0]]::R) w9:=hpO 4 [3,0,1,2] hA10 rfl
  refine aH O (fun K hK=>aI hF O ae iZ rfl rfl ?_)
  with_reducible refine (kw tb _ Ab _ cb _ _ hn2 hT.2 hA11).mono ?_
  rintro e' w12 ⟨rfl,hA13⟩
  refine ⟨_,rfl,fun a hF=>hK _ _ ?_⟩
  replace hA13:Hp w0 ([row tb 187 [.slice (sub Ab ((bu (aU raw p 0) 0 0).p) cb 1) ((aU raw p 0).length-(bu (aU raw p 0) 0 0).p) (cb-(bu (aU raw p 0) 0 0).p),.bool (decide ((0:Nat)≠0))]]::[row b6 25 [.int .i64 va.v.k,.int .i64 va.v.n,ak va.v.t,.slice va.sA va.v.s.length va.sC]]::ZT::[row b1 25 [.int .i64 0,.int .i64 0,.string (⟨#[]⟩),.slice none 0 0]]::R) w12:=hA13
  refine aK<|hK3 _ _ ?_
  refine wS hF fun K4 hK4=>vV O (dm (new:=[.int .i64 va.v.k,.int .i64 va.v.n,ak va.v.t,.slice va.sA va.v.s.length va.sC]) O hA13.q O 1 O FD ai rfl) fun a hF=>?_
  refine aH O (fun K hK=>bg (new:=[.int .i64 va.v.k,.int .i64 va.v.n,ak va.v.t,.slice va.sA va.v.s.length va.sC]) hF O O hA13 O O 3 O O (by simp [Value.oneCell']) lV (fun w14 hA15=>hK _ _ ?_))
  replace hA15:Hp w0 ([row tb 187 [.slice (sub Ab ((bu (aU raw p 0) 0 0).p) cb 1) ((aU raw p 0).length-(bu (aU raw p 0) 0 0).p) (cb-(bu (aU raw p 0) 0 0).p),.bool (decide ((0:Nat)≠0))]]::[row b6 25 [.int .i64 va.v.k,.int .i64 va.v.n,ak va.v.t,.slice va.sA va.v.s.length va.sC]]::ZT::[row b1 25 [.int .i64 va.v.k,.int .i64 va.v.n,ak va.v.t,.slice va.sA va.v.s.length va.sC]]::R) w14:=hA15
  refine aK<|hK4 _ _ ?_
  apply wp_ret
  refine sO hF Tryz.results133 hA15.q O 3 O (by exact FD) ?_
  have hA16:Hp w0 (ZT::[row tb 187 [.slice (sub Ab ((bu (aU raw p 0) 0 0).p) cb 1) ((aU raw p 0).length-(bu (aU raw p 0) 0 0).p) (cb-(bu (aU raw p 0) 0 0).p),.bool (decide ((0:Nat)≠0))]]::R) w14:=hpS 4 [2,0] [1,3] hA15 rfl
  rw [kz] at hA16
  exact ⟨va,ZT,_,_,_,_,rfl,by rw [hgo,hva],hvo,by rw [List.length_drop] at hpl; omega,sU hT hpl,hA16⟩
 ·obtain ⟨p1,y1,hy1,hp1,hgo⟩:=IA hp hn2 hw
  refine wp_region_lit ?_
  refine vR hF<|vX O<|vX O<|vX O fun a hF=>?_
  have hA17:Hp w0 ([row tb 187 [.slice Ab ((aU raw p y).length) cb,.bool (decide (y≠0))]]::[row b6 25 [.int .i64 va.v.k,.int .i64 va.v.n,ak va.v.t,.slice va.sA va.v.s.length va.sC]]::ZT::[row b1 25 [.int .i64 0,.int .i64 0,.string (⟨#[]⟩),.slice none 0 0]]::R) w9:=hpO 4 [3,0,1,2] hA10 rfl
  refine aH O (fun K hK=>aI hF O ae iZ rfl rfl ?_)
  with_reducible refine (jy tb _ _ _ _ _ ag hA17).mono ?_
  rintro e' w18 ⟨rfl,hA19⟩
  refine ⟨_,rfl,fun a hF=>hK _ _ ?_⟩
  replace hA19:Hp w0 ([row tb 187 [.slice none 0 0,.bool true]]::[row b6 25 [.int .i64 va.v.k,.int .i64 va.v.n,ak va.v.t,.slice va.sA va.v.s.length va.sC]]::ZT::[row b1 25 [.int .i64 0,.int .i64 0,.string (⟨#[]⟩),.slice none 0 0]]::R) w18:=hA19
  refine aK<|hK3 _ _ ?_
  refine wS hF fun K5 hK5=>vV O (dm (new:=[.int .i64 va.v.k,.int .i64 va.v.n,ak va.v.t,.slice va.sA va.v.s.length va.sC]) O hA19.q O 1 O FD ai rfl) fun a hF=>?_
  refine aH O (fun K hK=>bg (new:=[.int .i64 va.v.k,.int .i64 va.v.n,ak va.v.t,.slice va.sA va.v.s.length va.sC]) hF O O hA19 O O 3 O O (by simp [Value.oneCell']) lV (fun w20 hA21=>hK _ _ ?_))
  replace hA21:Hp w0 ([row tb 187 [.slice none 0 0,.bool true]]::[row b6 25 [.int .i64 va.v.k,.int .i64 va.v.n,ak va.v.t,.slice va.sA va.v.s.length va.sC]]::ZT::[row b1 25 [.int .i64 va.v.k,.int .i64 va.v.n,ak va.v.t,.slice va.sA va.v.s.length va.sC]]::R) w20:=hA21
  refine aK<|hK5 _ _ ?_
  apply wp_ret
  refine sO hF Tryz.results133 hA21.q O 3 O (by exact FD) ?_
  have hA22:Hp w0 (ZT::[row tb 187 [.slice none 0 0,.bool true]]::R) w20:=hpS 4 [2,0] [1,3] hA21 rfl
  rw [kV (raw:=raw) (p:=p1) hy1] at hA22
  exact ⟨va,ZT,p1,y1,_,_,rfl,by rw [hgo,hva],hvo,hp1,oI hy1,hA22⟩
end Go.Proofs.YtepbmdlgdaedpaaGreatDoor
