/- Texts that belong together, one behind the other. -/
import Derived.Test.YtepbmdlgdaedpaaGreatDoorEv6
import Derived.Test.YtepbmdlgdaedpaaGreatDoorEvW
import Derived.Test.YtepbmdlgdaedpaaGreatDoorProg
import Derived.Test.YtepbmdlgdaedpaaGreatDoorHr
namespace Go.Proofs.YtepbmdlgdaedpaaGreatDoor
open Go.RowKit Go.Dk
theorem En:noVal.In:=⟨⟨ ae,ae⟩,⟨ ae,ae⟩⟩
end Go.Proofs.YtepbmdlgdaedpaaGreatDoor
namespace Go.Proofs.YtepbmdlgdaedpaaGreatDoor
open Go.RowKit Go.Dk
def jd (l:List (List UInt8 × Val)) (nm:List UInt8):Val:=((l.find? fun b=>decide (b.1=nm)).map (·.2)).getD noVal
def qX (op cl:List (List UInt8)) (nm:List UInt8):Nat:=if nm∈op then 1 else if nm∈cl then 2 else 0
def nV (b:Bool):List UInt8:=[if b then 1 else 0]
def stB (typ:List UInt8) (cnt:Int) (ch:List UInt8) (vs:List Val) (lf:List Nat) (mk:List Bool):List UInt8 :=
  nameB typ++be 8 (u64 cnt)++ch++be 2 vs.length++vs.flatMap Val.put++be 2 lf.length++lf.flatMap (be 1)++be 2 mk.length++mk.flatMap nV
def stE (typ:List UInt8) (vs:List Val) (k1 k2 k3:Nat):Nat:=if bY typ=false then 34 else if 64<max (max k1 k2) k3 then 7 else dU vs
theorem lZ {α:Type} {a b c d:List α} (h:a.length=b.length) (e:a++c=b++d):a=b∧c=d:=List.append_inj e h
theorem wG {K m n:Nat} (hm:m<256 ^ K) (hn:n<256 ^ K) (h:be K m=be K n):m=n:=by
  have h1:=uS hm []
  have h2:=uS hn []
  rw [h,h2] at h1
  injection h1 with h3
  exact h3.symm
theorem Cf {s t c d:List UInt8} (hs:s.length≤64) (ht:t.length≤64) (h:nameB s++c=nameB t++d):s=t∧c=d:=by
  unfold nameB at h
  rw [List.append_assoc,List.append_assoc] at h
  obtain ⟨h1,h2⟩:=lZ (by rw [bf,bf]) h
  have h3:s.length=t.length:=wG (K:=2) (by show s.length<65536; omega) (by show t.length<65536; omega) h1
  exact lZ h3 h2
end Go.Proofs.YtepbmdlgdaedpaaGreatDoor
namespace Go.Proofs.YtepbmdlgdaedpaaGreatDoor
open Go.RowKit Go.Dk
theorem uX:bi Tryz.prog 5=true:=af
theorem uV:bi Tryz.prog 9=true:=af
theorem uD:(Tryz.prog.info? 5).map (·.size)=some 1:=af
theorem uC:(Tryz.prog.info? 9).map (·.size)=some 1:=af
theorem qG (l:List UInt8):bJ .neq l l=false:=by simp [bJ]
theorem yM {l m:List UInt8} (h:¬ l=m):bJ .neq l m=true:=by simp [bJ,h]
set_option maxRecDepth 100000 in
set_option maxHeartbeats 1000000 in
theorem lu (w0 w:World) (R:List Seg) (pa pb:Option Addr) (xs ys:List (List UInt8)) (ca cb:Nat) (hX:Rc w0 R pa (xs.map aj)) (hY:Rc w0 R pb (ys.map aj)) (hA:Hp w0 R w) (hn:xs.length≤9223372036854775807):Calls Tryz.prog 92 #[.slice pa xs.length ca,.slice pb ys.length cb] w fun e w'=>e= .returned (.bool (decide (xs=ys)))∧Hp w0 R w':=by
 refine aP Tryz.func92 O Tryz.ntmps92 ai (fun a hF=>?_)
 refine wS hF fun K1 hK1=>vX O<|vE hK1<|wQ fun K2 hK2=>wT fun K3 hK3=>vX O<|vV O (aT O Nk O O)<|vX O<|vV O (aT O Nk O O)<|vV O (aF O O O O O)<|vE hK3 fun a hF=>?_
 by_cases hne:(xs.length:Int)≠(ys.length:Int)
 ·refine aG hF O (iF ag) ?_
  refine wS hF fun K4 hK4=>vX O<|vE hK4 fun a hF=>?_
  apply wp_ret
  simp only [Exit.then]
  refine aO hF Tryz.results92 O ?_
  rw [decide_eq_false (fun e=>by rw [e] at hne; exact hne rfl)]
  exact ⟨rfl,hA⟩
 ·refine au hF O (fK ag) ?_
  replace hne:xs.length=ys.length:=by omega
  apply wp_skip
  refine hK2 _ _ ?_
  apply wp_seq_k; intro K5 hK5
  refine wS hF fun K6 hK6=>vX O<|vE hK6<|wBk fun a hF=>?_
  refine bH (G:=Nat) (fun i a x=>i≤xs.length∧xs.take i=ys.take i∧Fr 26 [(5,.int .i64 (i:Int)),(0,.slice pa xs.length ca),(1,.slice pb ys.length cb)] a∧Hp w0 (R) x) (fun i=>xs.length-i) 0 (⟨Nl _,rfl,hF.keep [5,0,1] rfl,hA⟩) ?_
  clear hF
  rintro i a w2 ⟨hi,hE,hF,hA1⟩
  apply wp_seq_k; intro K7 hK7
  refine wS hF fun K8 hK8=>vX O<|vX O<|vV O (aT O Nk O O)<|vV O (aF O O O O O)<|vE hK8 fun a hF=>?_
  by_cases hlt:i<xs.length
  ·refine aG hF O (dF ag) ?_
   obtain ⟨q,hp⟩:∃ q,xs[i]? = some q:=⟨_,List.getElem?_eq_getElem hlt⟩
   obtain ⟨u,hu⟩:∃ u,ys[i]? = some u:=⟨_,List.getElem?_eq_getElem ag⟩
   have hT:xs.take (i+1)=xs.take i++[q]∧ys.take (i+1)=ys.take i++[u]:=⟨by rw [List.take_add_one,hp]; rfl,by rw [List.take_add_one,hu]; rfl⟩
   obtain ⟨b1,o0,rfl,hc0⟩:=hX.ne (i:=i) (by rw [List.length_map]; omega)
   obtain ⟨b2,o1,rfl,hc1⟩:=hY.ne (i:=i) (by rw [List.length_map]; omega)
   by_cases hqu:q=u
   ·apply wp_skip
    refine hK7 _ _ ?_
    apply wp_seq_k; intro K9 hK9
    apply wp_block
    apply wp_seq_k; intro K10 hK10
    refine aQ 8 [8] [0,1,2,3,4,5,6,7,8] _ af af (Hq.drew hA1.q) ?_
    have hA3:=Hl.drew hA1
    refine pR hF<|pX O O<|pX O O<|pW O O (fun _=>aY O Nk uC O O i rfl hlt (ad2 _ _ _))<|pV O O (fun x hx=>bV (u:=aj q) rfl hx O hc0 i (by rw [List.length_map]; omega) rfl (by rw [List.getElem?_map,hp]; rfl) uV) fun a hF=>?_
    refine pR hF<|pX O O<|pX O O<|pW O O (fun _=>aY O Nk uC O O i rfl ag (ad2 _ _ _))<|pV O O (fun x hx=>bV (u:=aj u) rfl hx O hc1 i (by rw [List.length_map]; omega) rfl (by rw [List.getElem?_map,hu]; rfl) uV) fun a hF=>?_
    refine dG hF O O O O ae _ (fA (c:=false) rfl rfl rfl rfl (by subst hqu; exact qG _)) (fun h=>absurd h ae) (fun a hF=>?_)
    refine bI ?_
    refine hK10 _ _ ?_
    refine dn hF O ?_
    apply wp_skip
    refine hK9 _ _ ?_
    refine wp_region_lit ?_
    refine vR hF<|vX O<|vV O (bT O O O (Np _ ag))<|vX O fun a hF=>?_
    refine aH ?_
    exact ⟨i+1,ag,ag,by rw [hT.1,hT.2,hE,hqu],hF.keep [5,0,1] rfl,hA3⟩
   ·apply wp_skip
    refine hK7 _ _ ?_
    apply wp_seq_k; intro K11 hK11
    apply wp_block
    apply wp_seq_k; intro K12 hK12
    refine aQ 8 [8] [0,1,2,3,4,5,6,7,8] _ af af (Hq.drew hA1.q) ?_
    have hA4:=Hl.drew hA1
    refine pR hF<|pX O O<|pX O O<|pW O O (fun _=>aY O Nk uC O O i rfl hlt (ad2 _ _ _))<|pV O O (fun x hx=>bV (u:=aj q) rfl hx O hc0 i (by rw [List.length_map]; omega) rfl (by rw [List.getElem?_map,hp]; rfl) uV) fun a hF=>?_
    refine pR hF<|pX O O<|pX O O<|pW O O (fun _=>aY O Nk uC O O i rfl ag (ad2 _ _ _))<|pV O O (fun x hx=>bV (u:=aj u) rfl hx O hc1 i (by rw [List.length_map]; omega) rfl (by rw [List.getElem?_map,hu]; rfl) uV) fun a hF=>?_
    refine dG hF O O O O ae _ (fA (c:=true) rfl rfl rfl rfl (yM hqu)) (fun h=>absurd h ae) (fun a hF=>?_)
    refine bI ?_
    refine hK12 _ _ ?_
    refine gz hF O ?_
    refine wS hF fun K13 hK13=>vX O<|vE hK13 fun a hF=>?_
    apply wp_ret
    simp only [Exit.then,Exit.inBlock]
    refine aO hF Tryz.results92 O ?_
    rw [decide_eq_false (fun e=>by rw [e,hu] at hp; exact hqu (Option.some.inj hp).symm)]
    exact ⟨rfl,hA4⟩
  ·refine au hF O (dE ag) ?_
   obtain rfl:i=xs.length:=by omega
   rw [List.take_length,hne,List.take_length] at hE
   apply wp_exit
   refine hK5 _ _ ?_
   refine wS hF fun K14 hK14=>vX O<|vE hK14 fun a hF=>?_
   apply wp_ret
   refine aO hF Tryz.results92 O ?_
   rw [decide_eq_true hE]
   exact ⟨rfl,hA1⟩
set_option maxRecDepth 100000 in
set_option maxHeartbeats 1000000 in
theorem mW (w0 w:World) (R:List Seg) (pa pb:Option Addr) (xs ys:List (UInt8)) (ca cb:Nat) (hX:Rc w0 R pa (dc xs)) (hY:Rc w0 R pb (dc ys)) (hA:Hp w0 R w) (hn:xs.length≤9223372036854775807):Calls Tryz.prog 86 #[.slice pa xs.length ca,.slice pb ys.length cb] w fun e w'=>e= .returned (.bool (decide (xs=ys)))∧Hp w0 R w':=by
 refine aP Tryz.func86 O Tryz.ntmps86 ai (fun a hF=>?_)
 refine wS hF fun K1 hK1=>vX O<|vE hK1<|wQ fun K2 hK2=>wT fun K3 hK3=>vX O<|vV O (aT O Nq O O)<|vX O<|vV O (aT O Nq O O)<|vV O (aF O O O O O)<|vE hK3 fun a hF=>?_
 by_cases hne:(xs.length:Int)≠(ys.length:Int)
 ·refine aG hF O (iF ag) ?_
  refine wS hF fun K4 hK4=>vX O<|vE hK4 fun a hF=>?_
  apply wp_ret
  simp only [Exit.then]
  refine aO hF Tryz.results86 O ?_
  rw [decide_eq_false (fun e=>by rw [e] at hne; exact hne rfl)]
  exact ⟨rfl,hA⟩
 ·refine au hF O (fK ag) ?_
  replace hne:xs.length=ys.length:=by omega
  apply wp_skip
  refine hK2 _ _ ?_
  apply wp_seq_k; intro K5 hK5
  refine wS hF fun K6 hK6=>vX O<|vE hK6<|wBk fun a hF=>?_
  refine bH (G:=Nat) (fun i a x=>i≤xs.length∧xs.take i=ys.take i∧Fr 26 [(5,.int .i64 (i:Int)),(0,.slice pa xs.length ca),(1,.slice pb ys.length cb)] a∧Hp w0 (R) x) (fun i=>xs.length-i) 0 (⟨Nl _,rfl,hF.keep [5,0,1] rfl,hA⟩) ?_
  clear hF
  rintro i a w2 ⟨hi,hE,hF,hA1⟩
  apply wp_seq_k; intro K7 hK7
  refine wS hF fun K8 hK8=>vX O<|vX O<|vV O (aT O Nq O O)<|vV O (aF O O O O O)<|vE hK8 fun a hF=>?_
  by_cases hlt:i<xs.length
  ·refine aG hF O (dF ag) ?_
   obtain ⟨q,hp⟩:∃ q,xs[i]? = some q:=⟨_,List.getElem?_eq_getElem hlt⟩
   obtain ⟨u,hu⟩:∃ u,ys[i]? = some u:=⟨_,List.getElem?_eq_getElem ag⟩
   have hT:xs.take (i+1)=xs.take i++[q]∧ys.take (i+1)=ys.take i++[u]:=⟨by rw [List.take_add_one,hp]; rfl,by rw [List.take_add_one,hu]; rfl⟩
   obtain ⟨b1,o0,rfl,hc0⟩:=hX.ne (i:=i) (by rw [aW]; omega)
   obtain ⟨b2,o1,rfl,hc1⟩:=hY.ne (i:=i) (by rw [aW]; omega)
   by_cases hqu:q=u
   ·apply wp_skip
    refine hK7 _ _ ?_
    apply wp_seq_k; intro K9 hK9
    apply wp_block
    apply wp_seq_k; intro K10 hK10
    refine aQ 8 [8] [0,1,2,3,4,5,6,7,8] _ af af (Hq.drew hA1.q) ?_
    have hA3:=Hl.drew hA1
    refine pR hF<|pX O O<|pX O O<|pW O O (fun _=>aY O Nq uD O O i rfl hlt (ad2 _ _ _))<|pV O O (fun x hx=>bV (u:= .int .u8 (q.toNat:Int)) O hx O hc0 i (by rw [aW]; omega) rfl (by unfold dc; rw [List.getElem?_map,hp]; rfl) uX) fun a hF=>?_
    refine pR hF<|pX O O<|pX O O<|pW O O (fun _=>aY O Nq uD O O i rfl ag (ad2 _ _ _))<|pV O O (fun x hx=>bV (u:= .int .u8 (u.toNat:Int)) O hx O hc1 i (by rw [aW]; omega) rfl (by unfold dc; rw [List.getElem?_map,hu]; rfl) uX) fun a hF=>?_
    refine dG hF O O O O ae _ (aF O O O O (fK (by rw [hqu]))) (fun h=>absurd h ae) (fun a hF=>?_)
    refine bI ?_
    refine hK10 _ _ ?_
    refine dn hF O ?_
    apply wp_skip
    refine hK9 _ _ ?_
    refine wp_region_lit ?_
    refine vR hF<|vX O<|vV O (bT O O O (Np _ ag))<|vX O fun a hF=>?_
    refine aH ?_
    exact ⟨i+1,ag,ag,by rw [hT.1,hT.2,hE,hqu],hF.keep [5,0,1] rfl,hA3⟩
   ·apply wp_skip
    refine hK7 _ _ ?_
    apply wp_seq_k; intro K11 hK11
    apply wp_block
    apply wp_seq_k; intro K12 hK12
    refine aQ 8 [8] [0,1,2,3,4,5,6,7,8] _ af af (Hq.drew hA1.q) ?_
    have hA4:=Hl.drew hA1
    refine pR hF<|pX O O<|pX O O<|pW O O (fun _=>aY O Nq uD O O i rfl hlt (ad2 _ _ _))<|pV O O (fun x hx=>bV (u:= .int .u8 (q.toNat:Int)) O hx O hc0 i (by rw [aW]; omega) rfl (by unfold dc; rw [List.getElem?_map,hp]; rfl) uX) fun a hF=>?_
    refine pR hF<|pX O O<|pX O O<|pW O O (fun _=>aY O Nq uD O O i rfl ag (ad2 _ _ _))<|pV O O (fun x hx=>bV (u:= .int .u8 (u.toNat:Int)) O hx O hc1 i (by rw [aW]; omega) rfl (by unfold dc; rw [List.getElem?_map,hu]; rfl) uX) fun a hF=>?_
    refine dG hF O O O O ae _ (aF O O O O (iF (fun h=>hqu (UInt8.toNat_inj.1 (Int.ofNat.inj h))))) (fun h=>absurd h ae) (fun a hF=>?_)
    refine bI ?_
    refine hK12 _ _ ?_
    refine gz hF O ?_
    refine wS hF fun K13 hK13=>vX O<|vE hK13 fun a hF=>?_
    apply wp_ret
    simp only [Exit.then,Exit.inBlock]
    refine aO hF Tryz.results86 O ?_
    rw [decide_eq_false (fun e=>by rw [e,hu] at hp; exact hqu (Option.some.inj hp).symm)]
    exact ⟨rfl,hA4⟩
  ·refine au hF O (dE ag) ?_
   obtain rfl:i=xs.length:=by omega
   rw [List.take_length,hne,List.take_length] at hE
   apply wp_exit
   refine hK5 _ _ ?_
   refine wS hF fun K14 hK14=>vX O<|vE hK14 fun a hF=>?_
   apply wp_ret
   refine aO hF Tryz.results86 O ?_
   rw [decide_eq_true hE]
   exact ⟨rfl,hA1⟩
end Go.Proofs.YtepbmdlgdaedpaaGreatDoor
