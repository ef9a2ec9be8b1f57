/- octet's Reader over segments. -/
import Derived.Test.YtepbmdlgdaedpaaGreatDoorOctetH
import Derived.Test.YtepbmdlgdaedpaaGreatDoorOctetR
/- octet's Reader over segments. -/
namespace Go.Proofs.YtepbmdlgdaedpaaGreatDoor
open Go.RowKit Go.Dk
inductive Res (α:Type) where
 | ok (v:α) (k:Nat)
 | no (e:Nat)
def Res.val {α:Type} (r:Res α) (d:α) (y:Nat):α:=if y=0 then (match r with | .ok v _=>v | .no _=>d) else d
def Res.pl {α:Type} (r:Res α) (p y:Nat):Nat:=if y=0 then (match r with | .ok _ k=>p+k | .no _=>p) else p
def Res.why {α:Type} (r:Res α) (y:Nat):Nat:=if y=0 then (match r with | .ok _ _=>0 | .no e=>e) else y
theorem Res.skip {α:Type} (r:Res α) (d:α) (p y:Nat) (h:y≠0):r.val d y=d∧r.pl p y=p∧r.why y=y:=⟨if_neg h,if_neg h,if_neg h⟩
def eF (r:List UInt8) (n:Int):Res (List UInt8):=if n<0∨(r.length:Int)<n then .no 8 else .ok (r.take n.toNat) n.toNat
def eQ (K:Nat) (r:List UInt8):Res Nat:=if r.length<K then .no 8 else .ok (num (r.take K)) K
def jl (r:List UInt8):Res Bool:=if r.length<1∨1<num (r.take 1) then .no 8 else .ok (num (r.take 1) == 1) 1
def iE (K e:Nat) (r:List UInt8) (b:Int):Res (List UInt8) :=
 if r.length<K then .no 8 else if b<(num (r.take K):Int) then .no e else if r.length-K<num (r.take K) then .no 8 else .ok ((r.drop K).take (num (r.take K))) (K+num (r.take K))
abbrev eU (r:List UInt8) (most:Int):Res (List UInt8):=iE 2 6 r (bnd most 65535)
abbrev iK (r:List UInt8) (most:Int):Res (List UInt8):=iE 4 6 r (bnd most 2147483647)
theorem nR (K:Nat) (l:List UInt8) (p y:Nat) (hp:p≤l.length):tkN K l p y=(eQ K (l.drop p)).val 0 y∧tkP K l p y=(eQ K (l.drop p)).pl p y∧tkY K l p y=(eQ K (l.drop p)).why y:=by
 unfold tkN tkP tkY ahN jQ eQ Res.val Res.pl Res.why
 rw [List.length_drop]
 by_cases hy:y=0
 ·subst hy
  by_cases h:p+K≤l.length
  ·have h4:¬ l.length-p<K:=by omega
   simp [h,h4]
  ·have h4:l.length-p<K:=by omega
   simp [h,h4]
 ·simp [hy]
theorem fR (l:List UInt8) (p y:Nat) (hp:p≤l.length):flB l p y=(jl (l.drop p)).val false y∧flP l p y=(jl (l.drop p)).pl p y∧flY l p y=(jl (l.drop p)).why y:=by
 unfold flB flP flY vM jl Res.val Res.pl Res.why jf ahN
 rw [List.length_drop]
 by_cases hy:y=0
 ·subst hy
  by_cases h:p+1≤l.length
  ·by_cases h2:num ((l.drop p).take 1)≤1
   ·have h3:¬ 1<num ((l.drop p).take 1):=by omega
    have h4:¬ l.length-p<1:=by omega
    simp [h,h2,h3,h4]
   ·have h3:1<num ((l.drop p).take 1):=by omega
    have h4:¬ num ((l.drop p).take 1)=1:=by omega
    simp [h,h2,h3,h4]
  ·have h4:l.length-p<1:=by omega
   simp [h,h4]
 ·simp [hy]
theorem bridge {w0 w:World} {R:List Seg} {X:Seg} {rb:Nat} {vs:List Value} {A:Option Addr} {l:List UInt8} {c:Nat} (hA:Hp w0 ([row rb 152 vs]::X::R) w) (hO:Buf 5 1 X (.slice A l.length c) l.length (dc l)) :
  (∀ (v:List Value) (x:World),At w ((rb,152,v)::[]) x→Bts x A l)∧l.length≤c∧Bts w A l∧Rd w0 (X::R) A l:=by
 obtain ⟨_,A',c',h1,h2,h3⟩:=hO.rd (w0:=w0) (R:=X::R) (Nu ..)
 injection h1 with h1 _ h1c
 subst h1 h1c
 have hB:Bts w A l:=Rc.bts h3 (Hq.sub hA.q (fun _ h=>Nw _ h))
 refine ⟨fun v x hx=>hB.at_ hx (fun r hr=>?_),h2,hB,h3⟩
 simp only [List.mem_cons,List.not_mem_nil,or_false] at hr
 subst hr
 rcases hO.2 with ⟨h4,_,_⟩ | ⟨g,c2,B,Z,h4,_,_,h5⟩
 ·injection h4 with h4; intro ad he; rw [h4] at he; cases he
 ·injection h4 with h4
  intro ad he
  rw [h4] at he
  injection he with he
  subst he
  have hd:=hA.dist
  rw [h5] at hd
  simp only [List.flatten_cons,List.map_append,List.map_cons,List.map_nil,List.cons_append,List.nil_append,List.nodup_cons,List.mem_cons,not_or] at hd
  exact fun e=>hd.1.1 e.symm
theorem Bf:aK Tryz.prog 34:=⟨_,Tryz.func34,af,af⟩
theorem yD:aK Tryz.prog 141:=⟨_,Tryz.func141,af,af⟩
theorem yC:aK Tryz.prog 142:=⟨_,Tryz.func142,af,af⟩
theorem sN (w0 w:World) (R:List Seg) (rb:Nat) (A:Option Addr) (l:List UInt8) (c p y:Nat) (X:Seg) (hO:Buf 5 1 X (.slice A l.length c) l.length (dc l)) (hA:Hp w0 ([row rb 152 [.slice A l.length c,.int .i64 (p:Nat),.int .i64 (y:Nat)]]::X::R) w) (hp:p≤l.length) (hl:l.length<140737488354000):Calls Tryz.prog 32 #[.pointer (some ⟨rb,0,none⟩)] w fun e w'=>e= .returned (.int .u8 ((eQ 1 (l.drop p)).val 0 y:Nat))∧Hp w0 ([row rb 152 [.slice A l.length c,.int .i64 ((eQ 1 (l.drop p)).pl p y:Nat),.int .i64 ((eQ 1 (l.drop p)).why y:Nat)]]::X::R) w':=by
 obtain ⟨hB,hc,_,_⟩:=bridge hA hO
 obtain ⟨e1,e2,e3⟩:=nR 1 l p y hp
 refine (sH w w rb [] A l c p y hB hc (hA.at1 (i:=0) rfl) hp hl).mono fun e w' ⟨h1,h2⟩=>⟨by rw [h1,e1],?_⟩
 have h3:=Hp.then1 hA (i:=0) rfl h2
 rw [e2,e3] at h3
 exact h3
theorem ry (w0 w:World) (R:List Seg) (rb:Nat) (A:Option Addr) (l:List UInt8) (c p y:Nat) (X:Seg) (hO:Buf 5 1 X (.slice A l.length c) l.length (dc l)) (hA:Hp w0 ([row rb 152 [.slice A l.length c,.int .i64 (p:Nat),.int .i64 (y:Nat)]]::X::R) w) (hp:p≤l.length) (hl:l.length<140737488354000):Calls Tryz.prog 33 #[.pointer (some ⟨rb,0,none⟩)] w fun e w'=>e= .returned (.int .u16 ((eQ 2 (l.drop p)).val 0 y:Nat))∧Hp w0 ([row rb 152 [.slice A l.length c,.int .i64 ((eQ 2 (l.drop p)).pl p y:Nat),.int .i64 ((eQ 2 (l.drop p)).why y:Nat)]]::X::R) w':=by
 obtain ⟨hB,hc,_,_⟩:=bridge hA hO
 obtain ⟨e1,e2,e3⟩:=nR 2 l p y hp
 refine (qU w w rb [] A l c p y hB hc (hA.at1 (i:=0) rfl) hp hl).mono fun e w' ⟨h1,h2⟩=>⟨by rw [h1,e1],?_⟩
 have h3:=Hp.then1 hA (i:=0) rfl h2
 rw [e2,e3] at h3
 exact h3
theorem ru (w0 w:World) (R:List Seg) (rb:Nat) (A:Option Addr) (l:List UInt8) (c p y:Nat) (X:Seg) (hO:Buf 5 1 X (.slice A l.length c) l.length (dc l)) (hA:Hp w0 ([row rb 152 [.slice A l.length c,.int .i64 (p:Nat),.int .i64 (y:Nat)]]::X::R) w) (hp:p≤l.length) (hl:l.length<140737488354000):Calls Tryz.prog 80 #[.pointer (some ⟨rb,0,none⟩)] w fun e w'=>e= .returned (.int .u64 ((eQ 8 (l.drop p)).val 0 y:Nat))∧Hp w0 ([row rb 152 [.slice A l.length c,.int .i64 ((eQ 8 (l.drop p)).pl p y:Nat),.int .i64 ((eQ 8 (l.drop p)).why y:Nat)]]::X::R) w':=by
 obtain ⟨hB,hc,_,_⟩:=bridge hA hO
 obtain ⟨e1,e2,e3⟩:=nR 8 l p y hp
 refine (qR w w rb [] A l c p y hB hc (hA.at1 (i:=0) rfl) hp hl).mono fun e w' ⟨h1,h2⟩=>⟨by rw [h1,e1],?_⟩
 have h3:=Hp.then1 hA (i:=0) rfl h2
 rw [e2,e3] at h3
 exact h3
theorem iJ (w0 w:World) (R:List Seg) (rb:Nat) (A:Option Addr) (l:List UInt8) (c p y:Nat) (X:Seg) (q:Nat) (hO:Buf 5 1 X (.slice A l.length c) l.length (dc l)) (hA:Hp w0 ([row rb 152 [.slice A l.length c,.int .i64 (p:Nat),.int .i64 (y:Nat)]]::X::R) w) (hl:l.length<140737488354000) (hq:q≤l.length):Calls Tryz.prog 98 #[.pointer (some ⟨rb,0,none⟩),.int .i64 (q:Int)] w fun e w'=>e= .returned (.tuple #[.int .u16 (ahN 2 l q:Int),.int .i64 (jQ 2 l q:Int),.bool (jf 2 l q)])∧w=w':=by
 obtain ⟨hB,hc,_,_⟩:=bridge hA hO
 exact ji w w rb [] A l c p y q hB hc (hA.at1 (i:=0) rfl) hl hq
theorem lq (w0 w:World) (R:List Seg) (rb:Nat) (A:Option Addr) (l:List UInt8) (c p y:Nat) (X:Seg) (q:Nat) (hO:Buf 5 1 X (.slice A l.length c) l.length (dc l)) (hA:Hp w0 ([row rb 152 [.slice A l.length c,.int .i64 (p:Nat),.int .i64 (y:Nat)]]::X::R) w) (hl:l.length<140737488354000) (hq:q≤l.length):Calls Tryz.prog 142 #[.pointer (some ⟨rb,0,none⟩),.int .i64 (q:Int)] w fun e w'=>e= .returned (.tuple #[.int .u32 (ahN 4 l q:Int),.int .i64 (jQ 4 l q:Int),.bool (jf 4 l q)])∧w=w':=by
 obtain ⟨hB,hc,_,_⟩:=bridge hA hO
 exact qf w w rb [] A l c p y q hB hc (hA.at1 (i:=0) rfl) hl hq
theorem gY (w0 w:World) (R:List Seg) (rb:Nat) (A:Option Addr) (l:List UInt8) (c p y:Nat) (X:Seg) (e:Nat) (z:Int) (hz:z=e) (hy:y=0) (hA:Hp w0 ([row rb 152 [.slice A l.length c,.int .i64 (p:Nat),.int .i64 (y:Nat)]]::X::R) w):Calls Tryz.prog 97 #[.pointer (some ⟨rb,0,none⟩),.int .i64 z] w fun e' w'=>e'= .returned (.tuple #[])∧Hp w0 ([row rb 152 [.slice A l.length c,.int .i64 (p:Nat),.int .i64 (e:Nat)]]::X::R) w':=by
 refine (jC w w rb [] A l c p y e z hz (hA.at1 (i:=0) rfl)).mono fun e' w' ⟨h1,h2⟩=>⟨h1,?_⟩
 have h3:=Hp.then1 hA (i:=0) rfl h2
 rw [if_pos hy] at h3
 exact h3
theorem Ip (w0 w:World) (R:List Seg) (rb:Nat) (A:Option Addr) (l:List UInt8) (c p y:Nat) (X:Seg) (hO:Buf 5 1 X (.slice A l.length c) l.length (dc l)) (hA:Hp w0 ([row rb 152 [.slice A l.length c,.int .i64 (p:Nat),.int .i64 (y:Nat)]]::X::R) w) (hp:p≤l.length) (hl:l.length<140737488354000):Calls Tryz.prog 99 #[.pointer (some ⟨rb,0,none⟩)] w fun e w'=>e= .returned (.bool ((jl (l.drop p)).val false y))∧Hp w0 ([row rb 152 [.slice A l.length c,.int .i64 ((jl (l.drop p)).pl p y:Nat),.int .i64 ((jl (l.drop p)).why y:Nat)]]::X::R) w':=by
 obtain ⟨hB,hc,_,_⟩:=bridge hA hO
 obtain ⟨e1,e2,e3⟩:=fR l p y hp
 refine (H5 w w rb [] A l c p y hB hc (hA.at1 (i:=0) rfl) hp hl).mono fun e w' ⟨h1,h2⟩=>⟨by rw [h1,e1],?_⟩
 have h3:=Hp.then1 hA (i:=0) rfl h2
 rw [e2,e3] at h3
 exact h3
theorem o6 (w0 w:World) (R:List Seg) (rb:Nat) (A:Option Addr) (l:List UInt8) (c p y:Nat) (X:Seg) (hO:Buf 5 1 X (.slice A l.length c) l.length (dc l)) (hA:Hp w0 ([row rb 152 [.slice A l.length c,.int .i64 (p:Nat),.int .i64 (y:Nat)]]::X::R) w):Calls Tryz.prog 53 #[.pointer (some ⟨rb,0,none⟩)] w fun e w'=>e= .returned (.int .i64 (y:Int))∧Hp w0 ([row rb 152 [.slice A l.length c,.int .i64 (p:Nat),.int .i64 (y:Nat)]]::X::R) w':=by
 refine (JW w w rb [] A l c p y (hA.at1 (i:=0) rfl)).mono fun e w' ⟨h1,h2⟩=>⟨h1,?_⟩
 exact Hp.then1 hA (i:=0) rfl h2
theorem Iq (w0 w:World) (R:List Seg) (rb:Nat) (A:Option Addr) (l:List UInt8) (c p y:Nat) (X:Seg) (hO:Buf 5 1 X (.slice A l.length c) l.length (dc l)) (hA:Hp w0 ([row rb 152 [.slice A l.length c,.int .i64 (p:Nat),.int .i64 (y:Nat)]]::X::R) w) (hp:p≤l.length) (hl:l.length<140737488354000):Calls Tryz.prog 84 #[.pointer (some ⟨rb,0,none⟩)] w fun e w'=>e= .returned (.int .i64 ((if y=0∧p<l.length then 8 else y:Nat):Int))∧Hp w0 ([row rb 152 [.slice A l.length c,.int .i64 (p:Nat),.int .i64 (y:Nat)]]::X::R) w':=by
 refine (H6 w w rb [] A l c p y (hA.at1 (i:=0) rfl) hp hl).mono fun e w' ⟨h1,h2⟩=>⟨h1,?_⟩
 exact Hp.then1 hA (i:=0) rfl h2
set_option maxRecDepth 100000 in
set_option maxHeartbeats 1000000 in
theorem Au (w0 w:World) (R:List Seg) (A:Option Addr) (l:List UInt8) (c:Nat) (hB:Rd w0 R A l) (hA:Hp w0 R w) (hl:l.length<140737488354000):Calls Tryz.prog 31 #[.slice A l.length c] w fun e w'=>∃ g A2 c2 X,e= .returned (.pointer (some ⟨g,0,none⟩))∧Buf 5 1 X (.slice A2 l.length c2) l.length (dc l)∧Hp w0 ([row g 152 [.slice A2 l.length c2,.int .i64 (0:Nat),.int .i64 (0:Nat)]]::X::R) w':=by
 have hA0:=Hp.nil hA
 refine aP Tryz.func31 O Tryz.ntmps31 ai (fun a hF=>?_)
 refine wS hF fun K1 hK1=>vX O<|vE hK1<|wT fun K2 hK2=>vX O fun a hF=>?_
 refine ax O (fun K hK=>cO hF O ae rfl hA0 0 O (Buf.nil 5 1) Nq gQ rfl rfl ((hB.bts (Hq.sub hA0.q (fun _ h=>Nw _ h))).src Nq) ag ae (fun v2 X2 w1 a hO2 hF hA2=>hK _ _ ?_))
 replace hA2:Hp w0 (X2::R) w1:=hA2
 rw [List.nil_append,Nat.zero_add] at hO2
 obtain ⟨_,A2,c2,rfl,hc2,_⟩:=hO2.rd (w0:=w0) (R:=[X2]) (Nu ..)
 refine vR hF<|vV O (Dt O O (Eg A2 l.length c2)) fun a hF=>?_
 refine ax O (fun K hK=>ed (cs:=[.slice A2 l.length c2,.int .i64 ((0:Nat):Int),.int .i64 ((0:Nat):Int)]) hF O ae rfl hA2 O (fun b3 w4 a hb3 hF hA5=>hK _ _ ?_))
 refine vR hF<|vX O<|vE hK2 fun a hF=>?_
 apply wp_ret
 refine aO hF Tryz.results31 O ?_
 exact ⟨_,A2,c2,X2,rfl,hO2,hA5⟩
set_option maxRecDepth 100000 in
set_option maxHeartbeats 1000000 in
theorem vw (w0 w:World) (R:List Seg) (rb:Nat) (A:Option Addr) (l:List UInt8) (c p y:Nat) (X:Seg) (n:Int) (hO:Buf 5 1 X (.slice A l.length c) l.length (dc l)) (hA:Hp w0 ([row rb 152 [.slice A l.length c,.int .i64 (p:Nat),.int .i64 (y:Nat)]]::X::R) w) (hp:p≤l.length) (hl:l.length<140737488354000) (hn64 : -9223372036854775808≤n∧n≤9223372036854775807):Calls Tryz.prog 34 #[.pointer (some ⟨rb,0,none⟩),.int .i64 n] w fun e w'=>∃ v Z,e= .returned v∧Buf 5 1 Z v ((eF (l.drop p) n).val [] y).length (dc ((eF (l.drop p) n).val [] y))∧Hp w0 (Z::[row rb 152 [.slice A l.length c,.int .i64 ((eF (l.drop p) n).pl p y:Nat),.int .i64 ((eF (l.drop p) n).why y:Nat)]]::X::R) w':=by
 refine aP Tryz.func34 O Tryz.ntmps34 ai (fun a hF=>?_)
 refine wS hF fun K1 hK1=>vX O<|vE hK1<|wQ fun K2 hK2=>wT fun K3 hK3=>vX O<|vX O<|vV O (yf 2 O N7 O dO O)<|vV O (aU O hA.q O 0 O O eG)<|vV O (aF O O O O O)<|vE hK3 fun a hF=>?_
 by_cases hy:y≠0
 ·refine aG hF O (iF ag) ?_
  refine wS hF fun K4 hK4=>vX O<|vE hK4 fun a hF=>?_
  apply wp_ret
  simp only [Exit.then]
  refine aO hF Tryz.results34 O ?_
  obtain ⟨e1,e2,e3⟩:=Res.skip (eF (l.drop p) n) [] p y hy
  rw [e1,e2,e3]
  exact ⟨_,[],rfl,Buf.nil _ _,Hp.nil hA⟩
 ·obtain rfl:y=0:=by omega
  refine au hF O (fK rfl) ?_
  by_cases hn:n<0
  ·have e1:eF (l.drop p) n= .no 8:=if_pos (.inl hn)
   apply wp_skip
   refine hK2 _ _ ?_
   apply wp_seq_k; intro K5 hK5
   apply wp_seq_k; intro K6 hK6
   refine aQ 15 [15] [0,1,2,3,4,5,6,7,8,9,10,11,12,13,14,15] _ af af (Hq.drew hA.q) ?_
   have hA1:=Hl.drew hA
   refine pR hF<|pX O O<|pW O O (fun _=>aF O O O O (dF ag))<|pX O O<|pS O O<|pS O O<|pS O O<|pS O O<|pS O O<|pS O O<|pS O O<|pS O O<|pS O O<|pS O O<|pS O O<|pS O O fun a hF=>?_
   refine dG hF O O O O ae _ (bP O O O) (fun h=>absurd h ae) (fun a hF=>?_)
   refine bI ?_
   refine hK6 _ _ ?_
   refine gz hF O ?_
   refine wS hF fun K7 hK7=>vX O fun a hF=>?_
   refine ax O (fun K hK=>ay hF O ae oh rfl rfl ?_)
   with_reducible refine (gY w0 _ _ rb A l c p _ X 8 8 O O hA1).mono ?_
   rintro e' w2 ⟨rfl,hA3⟩
   refine ⟨_,rfl,fun a hF=>hK _ _ ?_⟩
   replace hA3:Hp w0 ([row rb 152 [.slice A l.length c,.int .i64 (p:Int),.int .i64 ((8:Nat):Int)]]::X::R) w2:=hA3
   refine aH<|hK7 _ _ ?_
   refine wS hF fun K8 hK8=>vX O<|vE hK8 fun a hF=>?_
   apply wp_ret
   simp only [Exit.then]
   refine aO hF Tryz.results34 O ?_
   rw [e1]
   exact ⟨_,[],rfl,Buf.nil _ _,Hp.nil hA3⟩
  ·by_cases hg:(l.length:Int)-p<n
   ·have e1:eF (l.drop p) n= .no 8:=if_pos (.inr (by rw [List.length_drop]; omega))
    apply wp_skip
    refine hK2 _ _ ?_
    apply wp_seq_k; intro K9 hK9
    apply wp_seq_k; intro K10 hK10
    refine aQ 15 [15] [0,1,2,3,4,5,6,7,8,9,10,11,12,13,14,15] _ af af (Hq.drew hA.q) ?_
    have hA4:=Hl.drew hA
    refine pR hF<|pX O O<|pW O O (fun _=>aF O O O O (dE ag))<|pX O O<|pG O O (fun _=>aV O O)<|pG O O (fun _=>aV O O)<|pG O O (fun _=>aZ O O)<|pG O O (fun _=>yf 0 O N7 O dP O) fun a hF=>?_
    refine dD hF O O O O O O O ae _ (fun x hx=>aU O hx O 0 O O jr) (fun a hF=>?_)
    refine pR hF<|pG O O (fun _=>aT O Nq O O)<|pG O O (fun _=>aV O O)<|pG O O (fun _=>aZ O O)<|pG O O (fun _=>yf 1 O N7 O gZ O) fun a hF=>?_
    refine dD hF O O O O O O O ae _ (fun x hx=>aU O hx O 0 O O jZ) (fun a hF=>?_)
    refine pR hF<|pG O O (fun _=>eu O O O (Np _ ag))<|pG O O (fun _=>aF O O O O (dY ag)) fun a hF=>?_
    refine dG hF O O O O ae _ (bP O O O) (fun h=>absurd h ae) (fun a hF=>?_)
    refine bI ?_
    refine hK10 _ _ ?_
    refine gz hF O ?_
    refine wS hF fun K11 hK11=>vX O fun a hF=>?_
    refine ax O (fun K hK=>ay hF O ae oh rfl rfl ?_)
    with_reducible refine (gY w0 _ _ rb A l c p _ X 8 8 O O hA4).mono ?_
    rintro e' w5 ⟨rfl,hA6⟩
    refine ⟨_,rfl,fun a hF=>hK _ _ ?_⟩
    replace hA6:Hp w0 ([row rb 152 [.slice A l.length c,.int .i64 (p:Int),.int .i64 ((8:Nat):Int)]]::X::R) w5:=hA6
    refine aH<|hK11 _ _ ?_
    refine wS hF fun K12 hK12=>vX O<|vE hK12 fun a hF=>?_
    apply wp_ret
    simp only [Exit.then]
    refine aO hF Tryz.results34 O ?_
    rw [e1]
    exact ⟨_,[],rfl,Buf.nil _ _,Hp.nil hA6⟩
   ·obtain ⟨k,rfl⟩:=Int.eq_ofNat_of_zero_le (show 0≤n by omega)
    have hk:p+k≤l.length:=by omega
    have e1:eF (l.drop p) (k:Int)= .ok ((l.drop p).take k) k:=if_neg (by rw [List.length_drop]; omega)
    obtain ⟨_,hc,_,hB⟩:=bridge hA hO
    apply wp_skip
    refine hK2 _ _ ?_
    apply wp_seq_k; intro K13 hK13
    apply wp_seq_k; intro K14 hK14
    refine aQ 15 [15] [0,1,2,3,4,5,6,7,8,9,10,11,12,13,14,15] _ af af (Hq.drew hA.q) ?_
    have hA7:=Hl.drew hA
    refine pR hF<|pX O O<|pW O O (fun _=>aF O O O O (dE ag))<|pX O O<|pG O O (fun _=>aV O O)<|pG O O (fun _=>aV O O)<|pG O O (fun _=>aZ O O)<|pG O O (fun _=>yf 0 O N7 O dP O) fun a hF=>?_
    refine dD hF O O O O O O O ae _ (fun x hx=>aU O hx O 0 O O jr) (fun a hF=>?_)
    refine pR hF<|pG O O (fun _=>aT O Nq O O)<|pG O O (fun _=>aV O O)<|pG O O (fun _=>aZ O O)<|pG O O (fun _=>yf 1 O N7 O gZ O) fun a hF=>?_
    refine dD hF O O O O O O O ae _ (fun x hx=>aU O hx O 0 O O jZ) (fun a hF=>?_)
    refine pR hF<|pG O O (fun _=>eu O O O (Np _ ag))<|pG O O (fun _=>aF O O O O (fE ag)) fun a hF=>?_
    refine dG hF O O O O ae _ (bP O O O) (fun h=>absurd h ae) (fun a hF=>?_)
    refine bI ?_
    refine hK14 _ _ ?_
    refine dn hF O ?_
    apply wp_skip
    refine hK13 _ _ ?_
    refine wS hF fun K15 hK15=>vX O<|vX O<|vV O (yf 1 O N7 O gZ O)<|vV O (aU O hA7.q O 0 O O jZ)<|vX O<|vV O (bT O O O (show IntKind.i64.wrap ((p:Int)+(k:Int))=((p+k:Nat):Int) by rw [Np _ ag]; omega)) fun a hF=>?_
    refine vR hF<|vX O<|vV O (yf 1 O N7 O gZ O) fun a hF=>?_
    refine ax O (fun K hK=>aX hF O O hA7 O O 0 O (by simp) rfl gZ (fun w8 hA9=>hK _ _ ?_))
    replace hA9:Hp w0 ([row rb 152 [.slice A l.length c,.int .i64 ((p+k:Nat):Int),.int .i64 ((0:Nat):Int)]]::X::R) w8:=hA9
    refine aH<|hK15 _ _ ?_
    apply wp_seq_k; intro K16 hK16
    refine aQ 15 [15,16] [0,1,2,3,4,5,6,7,8,9,10,11,12,13,14,15,16] _ af af (Hq.drew hA9.q) ?_
    have hA10:=Hl.drew hA9
    refine pR hF<|pX O O<|pX O O<|pW O O (fun _=>yf 0 O N7 O dP O)<|pV O O (fun x hx=>aU O hx O 0 O O jr)<|pX O O<|pX O O<|pW O O (fun _=>yf 1 O N7 O gZ O)<|pV O O (fun x hx=>aU O hx O 0 O O jZ)<|pX O O<|pW O O (fun _=>eu O O O (show IntKind.i64.wrap (((p+k:Nat):Int)-(k:Int))=(p:Int) by rw [Np _ ag]; omega)) fun a hF=>?_
    refine pR hF<|pX O O<|pX O O<|pW O O (fun _=>yf 1 O N7 O gZ O)<|pV O O (fun x hx=>aU O hx O 0 O O jZ)<|pW O O (fun _=>dW O Nq iR rfl (.some rfl rfl) (.some rfl rfl) (Nat.le_add_right p k) ag (show Value.slice (sub A p c 1) (p+k-p) (c-p)= .slice (sub A p c 1) ((l.drop p).take k).length (c-p) by rw [show p+k-p=((l.drop p).take k).length by rw [List.length_take,List.length_drop]; omega])) fun a hF=>?_
    have hA11:Hp w0 (([]:Seg)::[row rb 152 [.slice A l.length c,.int .i64 ((p+k:Nat):Int),.int .i64 ((0:Nat):Int)]]::X::R) w8.drew:=Hp.nil hA10
    refine fG O O O (fun K hK=>cO hF O ae rfl hA11 0 O (Buf.nil 5 1) Nq gQ rfl rfl (Rc.src ((hB.drop p hc).take k) (Hq.sub hA11.q (fun _ h=>Nw _ (Nw _ h))) Nq) (by rw [List.length_take,List.length_drop]; omega) ae (fun v2 X2 w12 a hO2 hF hA13=>hK _ _ (fun h=>absurd h ae) ?_))
    replace hA13:Hp w0 (X2::[row rb 152 [.slice A l.length c,.int .i64 ((p+k:Nat):Int),.int .i64 ((0:Nat):Int)]]::X::R) w12:=hA13
    rw [List.nil_append,Nat.zero_add] at hO2
    refine dG hF O O O O ae _ (fO O O) (fun h=>absurd h ae) (fun a hF=>?_)
    refine bI ?_
    refine hK16 _ _ ?_
    apply wp_ret
    refine aO hF Tryz.results34 O ?_
    rw [e1]
    exact ⟨v2,X2,rfl,hO2,hA13⟩
theorem Js (r:List UInt8) (y:Nat):((eF r 32).val [] y=[]∧(eF r 32).val (List.replicate 32 0) y=List.replicate 32 0)∨((eF r 32).val [] y=(eF r 32).val (List.replicate 32 0) y∧((eF r 32).val (List.replicate 32 0) y).length=32):=by
 unfold Res.val eF
 by_cases hy:y=0
 ·by_cases h:(32:Int)<0∨(r.length:Int)<32
  ·rw [if_pos hy,if_pos hy,if_pos h]; exact .inl ⟨rfl,rfl⟩
  ·rw [if_pos hy,if_pos hy,if_neg h]
   refine .inr ⟨rfl,?_⟩
   show (r.take 32).length=32
   rw [List.length_take]; omega
 ·rw [if_neg hy,if_neg hy]; exact .inl ⟨rfl,rfl⟩
set_option maxRecDepth 100000 in
set_option maxHeartbeats 1000000 in
theorem Cm (w0 w:World) (R:List Seg) (rb:Nat) (A:Option Addr) (l:List UInt8) (c p y:Nat) (X:Seg) (hO:Buf 5 1 X (.slice A l.length c) l.length (dc l)) (hA:Hp w0 ([row rb 152 [.slice A l.length c,.int .i64 (p:Nat),.int .i64 (y:Nat)]]::X::R) w) (hp:p≤l.length) (hl:l.length<140737488354000):Calls Tryz.prog 83 #[.pointer (some ⟨rb,0,none⟩)] w fun e w'=>e= .returned (.agg (dc ((eF (l.drop p) 32).val (List.replicate 32 0) y)).toArray)∧Hp w0 ([row rb 152 [.slice A l.length c,.int .i64 ((eF (l.drop p) 32).pl p y:Nat),.int .i64 ((eF (l.drop p) 32).why y:Nat)]]::X::R) w':=by
 obtain ⟨V,hV⟩:∃ V,V=(eF (l.drop p) 32).val [] y:=⟨_,rfl⟩
 obtain ⟨D,hD⟩:∃ D,D=(eF (l.drop p) 32).val (List.replicate 32 0) y:=⟨_,rfl⟩
 have hVD:=Js (l.drop p) y
 rw [← hV,← hD] at hVD
 rw [← hD]
 refine aP Tryz.func83 O Tryz.ntmps83 ai (fun a hF=>?_)
 refine wp_seq_k fun K1 hK1=>wp_region_lit ?_
 refine ax O (fun K hK=>dC hF O ae rfl hA (GG) (fun b1 w2 a hb1 hF hA3=>hK _ _ ?_))
 refine aH<|hK1 _ _ ?_
 refine wp_seq_k fun K2 hK2=>wp_region_lit ?_
 refine ax O (fun K hK=>dC hF O ae rfl hA3 (GG) (fun b4 w5 a hb4 hF hA6=>hK _ _ ?_))
 refine aH<|hK2 _ _ ?_
 apply wp_seq_k; intro K3 hK3
 refine aQ 3 [2,3] [0,1,2,3] (fun x=>Hq w0 (R) x) af af (Hq.drew (Hp.qp [[row b4 29 (dc (List.replicate 32 0))],[row b1 29 (dc (List.replicate 32 0))],[row rb 152 [.slice A l.length c,.int .i64 (p:Int),.int .i64 (y:Int)]],X] R [] hA6)) ?_
 have hA7:=Hl.drew hA6
 refine pR hF<|pW O O (fun _=>qy O NK iR rfl (.none 0) (.none 32) ag ag jc)<|pX O O fun a hF=>?_
 have hA8:Hp w0 ([row rb 152 [.slice A l.length c,.int .i64 (p:Int),.int .i64 (y:Int)]]::X::[row b4 29 (dc (List.replicate 32 0))]::[row b1 29 (dc (List.replicate 32 0))]::R) w5.drew:=hpO 4 [2,3,0,1] hA7 rfl
 refine fG O O O (fun K hK=>ay hF O ae Bf rfl rfl ?_)
 with_reducible refine (vw w0 _ _ rb A l c p y X 32 hO hA8 hp hl ae).mono ?_
 rintro e' w9 ⟨v,Z,rfl,hZ,hA10⟩
 refine ⟨_,rfl,fun a hF=>hK _ _ (fun _=>?_) ?_⟩
 ·exact Hp.qp [Z,[row rb 152 [.slice A l.length c,.int .i64 ((eF (l.drop p) 32).pl p y:Nat),.int .i64 ((eF (l.drop p) 32).why y:Nat)]],X,[row b4 29 (dc (List.replicate 32 0))],[row b1 29 (dc (List.replicate 32 0))]] R [] hA10
 replace hA10:Hp w0 (Z::[row rb 152 [.slice A l.length c,.int .i64 ((eF (l.drop p) 32).pl p y:Nat),.int .i64 ((eF (l.drop p) 32).why y:Nat)]]::X::[row b4 29 (dc (List.replicate 32 0))]::[row b1 29 (dc (List.replicate 32 0))]::R) w9:=hA10
 rw [← hV] at hZ
 obtain ⟨_,A2,c2,rfl,hc2,hB2⟩:=hZ.rd (w0:=w0) (R:=[Z]) (Nu ..)
 have hmin:V.length=Nat.min V.length 32:=by
  rcases hVD with ⟨h1,_⟩ | ⟨h1,h2⟩
  ·rw [h1]; rfl
  ·rw [h1,h2]; rfl
 have hfit:0+V.length≤(dc (List.replicate 32 0)).length:=by
  rw [aW,List.length_replicate]
  rcases hVD with ⟨h1,_⟩ | ⟨h1,h2⟩
  ·rw [h1]; decide
  ·rw [h1,h2]; decide
 refine fG O O O (fun K hK=>Il hF O ae rfl hA10 Nq iR rfl rfl V hmin (hB2.bts (Hq.sub hA10.q (fun x hx=>by rw [List.mem_singleton] at hx; subst hx; simp))) 0 3 O (fun _=>rfl) hfit (fun w11 a hF hA12=>hK _ _ (fun h=>absurd h ae) ?_))
 replace hA12:Hp w0 (Z::[row rb 152 [.slice A l.length c,.int .i64 ((eF (l.drop p) 32).pl p y:Nat),.int .i64 ((eF (l.drop p) 32).why y:Nat)]]::X::[row b4 29 (splice (dc (List.replicate 32 0)) 0 (dc V))]::[row b1 29 (dc (List.replicate 32 0))]::R) w11:=hA12
 have hD32:(dc D).length=32:=by
  rw [aW]
  rcases hVD with ⟨_,h2⟩ | ⟨_,h2⟩
  ·rw [h2]; rfl
  ·exact h2
 have hsp:splice (dc (List.replicate 32 0)) 0 (dc V)=dc D:=by
  rcases hVD with ⟨h1,h2⟩ | ⟨h1,h2⟩
  ·rw [h1,h2]; rfl
  ·rw [h1]; exact pK _ _ (by rw [hD32,aW]; rfl)
 have hA13:Hp w0 (Z::[row rb 152 [.slice A l.length c,.int .i64 ((eF (l.drop p) 32).pl p y:Nat),.int .i64 ((eF (l.drop p) 32).why y:Nat)]]::X::[row b4 29 (dc D)]::[row b1 29 (dc (List.replicate 32 0))]::R) w11:=by rw [← hsp]; exact hA12
 refine bI ?_
 refine hK3 _ _ ?_
 apply wp_seq_k; intro K4 hK4
 refine wp_region_lit ?_
 refine vR hF<|vV O (yZ (new:=dc D) rfl hA13.q O 3 O Hm hD32) fun a hF=>?_
 refine ax O (fun K hK=>bG (new:=dc D) hF O O hA13 O O 4 O (by rw [hD32,aW,List.length_replicate]) (pq _) (by rw [aW,List.length_replicate]; exact zV) (fun w14 hA15=>hK _ _ ?_))
 replace hA15:Hp w0 (Z::[row rb 152 [.slice A l.length c,.int .i64 ((eF (l.drop p) 32).pl p y:Nat),.int .i64 ((eF (l.drop p) 32).why y:Nat)]]::X::[row b4 29 (dc D)]::[row b1 29 (dc D)]::R) w14:=hA15
 refine aH<|hK4 _ _ ?_
 apply wp_ret
 refine qj hF Tryz.results83 hA15.q O 4 O (by rw [hD32]; exact Hm) ?_
 have hA16:Hp w0 ([row rb 152 [.slice A l.length c,.int .i64 ((eF (l.drop p) 32).pl p y:Nat),.int .i64 ((eF (l.drop p) 32).why y:Nat)]]::X::R) w14:=hpS 5 [1,2] [0,3,4] hA15 rfl
 exact ⟨rfl,hA16⟩
theorem pM {K e:Nat} {r:List UInt8} {b:Int} (h:r.length<K):iE K e r b= .no 8:=if_pos h
theorem qI {K e:Nat} {r:List UInt8} {b:Int} (h:¬ r.length<K) (h2:b<(num (r.take K):Int)):iE K e r b= .no e:=by rw [iE,if_neg h,if_pos h2]
theorem qJ {K e:Nat} {r:List UInt8} {b:Int} (h:¬ r.length<K) (h2:¬ b<(num (r.take K):Int)) (h3:r.length-K<num (r.take K)):iE K e r b= .no 8:=by rw [iE,if_neg h,if_neg h2,if_pos h3]
theorem xe {K e:Nat} {r:List UInt8} {b:Int} (h:¬ r.length<K) (h2:¬ b<(num (r.take K):Int)) (h3:¬ r.length-K<num (r.take K)):iE K e r b= .ok ((r.drop K).take (num (r.take K))) (K+num (r.take K)):=by rw [iE,if_neg h,if_neg h2,if_neg h3]
theorem xg {K e e':Nat} {r:List UInt8} {b:Int} (h:iE K e r b= .no e'):e'=8∨e'=e:=by
 unfold iE at h
 split at h
 ·injection h with h; exact .inl h.symm
 ·split at h
  ·injection h with h; exact .inr h.symm
  ·split at h
   ·injection h with h; exact .inl h.symm
   ·cases h
theorem xh {K e k:Nat} {r v:List UInt8} {b:Int} (h:iE K e r b= .ok v k):k≤r.length∧v.length≤k:=by
 unfold iE at h
 split at h
 ·cases h
 ·split at h
  ·cases h
  ·split at h
   ·cases h
   ·injection h with h1 h2
    subst h1 h2
    rw [List.length_take,List.length_drop]
    omega
theorem Ag (l:List UInt8):num (l.take 2)<65536:=Nat.lt_of_lt_of_le (lJ _) (Nat.le_trans (Nat.pow_le_pow_right ae (show (l.take 2).length≤2 by rw [List.length_take]; omega)) ae)
theorem Ei (l:List UInt8):num (l.take 4)<4294967296:=Nat.lt_of_lt_of_le (lJ _) (Nat.le_trans (Nat.pow_le_pow_right ae (show (l.take 4).length≤4 by rw [List.length_take]; omega)) ae)
theorem oK {K:Nat} {l:List UInt8} {q:Nat} (h:q+K≤l.length):jf K l q=true∧jQ K l q=q+K∧ahN K l q=num ((l.drop q).take K):=⟨decide_eq_true h,if_pos h,if_pos h⟩
theorem oM {K:Nat} {l:List UInt8} {q:Nat} (h:¬ q+K≤l.length):jf K l q=false∧jQ K l q=q∧ahN K l q=0:=⟨decide_eq_false h,if_neg h,if_neg h⟩
set_option maxRecDepth 100000 in
set_option maxHeartbeats 1000000 in
theorem uh (w0 w:World) (R:List Seg) (rb:Nat) (A:Option Addr) (l:List UInt8) (c p y:Nat) (X:Seg) (q:Nat) (most:Int) (hO:Buf 5 1 X (.slice A l.length c) l.length (dc l)) (hA:Hp w0 ([row rb 152 [.slice A l.length c,.int .i64 (p:Nat),.int .i64 (y:Nat)]]::X::R) w) (hl:l.length<140737488354000) (hq:q≤l.length):Calls Tryz.prog 141 #[.pointer (some ⟨rb,0,none⟩),.int .i64 (q:Int),.int .i64 most] w fun e w'=>∃ to:Nat,e= .returned (.tuple #[aj ((eU (l.drop q) most).val [] 0),.int .i64 (to:Int),.int .i64 ((eU (l.drop q) most).why 0:Nat)])∧w=w'∧∀ v k,eU (l.drop q) most= .ok v k→to=q+k:=by
 have hn:=Ag (l.drop q)
 have hbl:=kw most 65535
 have hlen:(l.drop q).length=l.length-q:=List.length_drop
 by_cases hK:q+2≤l.length
 ·have hs:¬ (l.drop q).length<2:=by omega
  obtain ⟨_,hc,hBw,_⟩:=bridge hA hO
  refine aP Tryz.func141 O Tryz.ntmps141 ai (fun a hF=>?_)
  refine wS hF fun K1 hK1=>vX O<|vX O<|vX O<|vE hK1 fun a hF=>?_
  clear hK1 K1
  refine wS hF fun K2 hK2=>vX O<|vX O fun a hF=>?_
  refine ax O (fun K hK=>ay hF O ae AQ rfl rfl ?_)
  with_reducible refine (iJ w0 _ R rb A l c p y X q hO hA hl ag).mono ?_
  rintro e' w3 ⟨rfl,rfl⟩
  refine ⟨_,rfl,fun a hF=>hK _ _ ?_⟩
  clear hK K
  rw [(oK (q:=q) hK).1,(oK (q:=q) hK).2.1,(oK (q:=q) hK).2.2] at hF
  refine vR hF<|vX O<|vV O (aN (v:= .int .u16 (num ((l.drop q).take 2):Nat)) O O O)<|vV O (aN (v:= .int .i64 ((q+2:Nat):Int)) O O O)<|vV O (aN (v:= .bool true) rfl rfl rfl)<|vX O<|vX O<|vX O<|vE hK2 fun a hF=>?_
  clear hK2 K2
  apply wp_seq_k; intro K3 hK3
  apply wp_block
  refine wS hF fun K4 hK4=>vX O<|vV O (dm O O O)<|vX O<|vE hK4 fun a hF=>?_
  clear hK4 K4
  refine dn hF O ?_
  refine wS hF fun K5 hK5=>vX O<|vV O (bW O NY NC O (Np _ ag))<|vX O fun a hF=>?_
  refine ax O (fun K hK=>ay hF O ae oG rfl rfl ?_)
  with_reducible refine (jK w _ _).mono ?_
  rintro e' w6 ⟨rfl,rfl⟩
  refine ⟨_,rfl,fun a hF=>hK _ _ ?_⟩
  clear hK K
  refine vR hF<|vV O (aF O O O O O)<|vX O<|vE hK5 fun a hF=>?_
  clear hK5 K5
  by_cases h1:bnd most 65535<(num ((l.drop q).take 2):Int)
  ·refine aG hF O (dY ag) ?_
   refine wS hF fun K6 hK6=>vX O<|vX O<|vX O<|vX O<|vE hK6 fun a hF=>?_
   clear hK6 K6
   apply wp_ret
   simp only [Exit.then,Exit.inBlock]
   refine iG hF Tryz.results141 O O O ?_
   rw [eU,qI hs h1]
   exact ⟨_,rfl,rfl,fun _ _ h=>by cases h⟩
  ·refine au hF O (fE ag) ?_
   refine wS hF fun K7 hK7=>vX O<|vV O (bW O NY NC O (Np _ ag))<|vX O<|vX O<|vV O (yf 0 O N7 O dP O)<|vV O (aU O hA.q O 0 O O jr)<|vV O (aT O Nq O O)<|vX O<|vV O (eu O O O (Np _ ag))<|vV O (aF O O O O O)<|vX O<|vE hK7 fun a hF=>?_
   clear hK7 K7
   have hcm:((num ((l.drop q).take 2):Nat):Int)>(l.length:Int)-((q+2:Nat):Int)↔l.length-(q+2)<num ((l.drop q).take 2):=by omega
   by_cases h2:l.length-(q+2)<num ((l.drop q).take 2)
   ·refine aG hF O (dY ag) ?_
    refine wS hF fun K8 hK8=>vX O<|vX O<|vX O<|vX O<|vE hK8 fun a hF=>?_
    clear hK8 K8
    apply wp_ret
    simp only [Exit.then,Exit.inBlock]
    refine iG hF Tryz.results141 O O O ?_
    rw [eU,qJ hs h1 ag]
    exact ⟨_,rfl,rfl,fun _ _ h=>by cases h⟩
   ·refine au hF O (fE ag) ?_
    obtain ⟨n,hnn⟩:∃ n,n=num ((l.drop q).take 2):=⟨_,rfl⟩
    have hr:=xe (K:=2) (e:=6) hs h1 ag
    rw [← hnn] at hr hn h1 h2
    rw [← hnn] at hF
    have hB2:Bts w (sub A (q+2) c 1) (((l.drop q).drop 2).take n):=by
     rw [List.drop_drop]
     exact (hBw.drop (q+2) hc).take n
    apply wp_skip
    refine hK3 _ _ ?_; clear  hK3 K3
    refine wS hF fun K9 hK9=>vX O<|vX O<|vV O (yf 0 O N7 O dP O)<|vV O (aU O hA.q O 0 O O jr)<|vX O<|vX O<|vX O<|vV O (bW O NY NC O (Np _ ag))<|vV O (bT O O O (show IntKind.i64.wrap (((q+2:Nat):Int)+(n:Int))=((q+2+n:Nat):Int) by rw [Np _ ag]; omega)) fun a hF=>?_
    refine vR hF<|vV O (dW O Nq iR rfl (.some rfl rfl) (.some rfl rfl) (Nat.le_add_right (q+2) n) ag (show Value.slice (sub A (q+2) c 1) (q+2+n-(q+2)) (c-(q+2))= .slice (sub A (q+2) c 1) (((l.drop q).drop 2).take n).length (c-(q+2)) by rw [show q+2+n-(q+2)=(((l.drop q).drop 2).take n).length by rw [List.length_take,List.length_drop,List.length_drop]; omega])) fun a hF=>?_
    refine vR hF<|vV O (l7 O Nq NI Nz O O hB2)<|vX O<|vX O<|vV O (bW O NY NC O (Np _ ag))<|vV O (bT O O O (show IntKind.i64.wrap (((q+2:Nat):Int)+(n:Int))=((q+2+n:Nat):Int) by rw [Np _ ag]; omega)) fun a hF=>?_
    refine vR hF<|vX O<|vX O<|vX O<|vE hK9 fun a hF=>?_
    clear hK9 K9
    apply wp_ret
    refine iG hF Tryz.results141 O O O ?_
    rw [eU,hr]
    refine ⟨q+2+n,rfl,rfl,fun v k h=>?_⟩
    injection h with _ h
    omega
 ·refine aP Tryz.func141 O Tryz.ntmps141 ai (fun a hF=>?_)
  refine wS hF fun K10 hK10=>vX O<|vX O<|vX O<|vE hK10 fun a hF=>?_
  clear hK10 K10
  refine wS hF fun K11 hK11=>vX O<|vX O fun a hF=>?_
  refine ax O (fun K hK=>ay hF O ae AQ rfl rfl ?_)
  with_reducible refine (iJ w0 _ R rb A l c p y X q hO hA hl ag).mono ?_
  rintro e' w9 ⟨rfl,rfl⟩
  refine ⟨_,rfl,fun a hF=>hK _ _ ?_⟩
  clear hK K
  rw [(oM (q:=q) hK).1,(oM (q:=q) hK).2.1,(oM (q:=q) hK).2.2] at hF
  refine vR hF<|vX O<|vV O (aN (v:= .int .u16 0) rfl rfl rfl)<|vV O (aN (v:= .int .i64 (q:Int)) O O O)<|vV O (aN (v:= .bool false) rfl rfl rfl)<|vX O<|vX O<|vX O<|vE hK11 fun a hF=>?_
  clear hK11 K11
  apply wp_seq_k; intro K12 hK12
  apply wp_block
  refine wS hF fun K13 hK13=>vX O<|vV O (dm O O O)<|vX O<|vE hK13 fun a hF=>?_
  clear hK13 K13
  refine gz hF O ?_
  refine wS hF fun K14 hK14=>vX O<|vX O<|vX O<|vX O<|vE hK14 fun a hF=>?_
  clear hK14 K14
  apply wp_ret
  simp only [Exit.then,Exit.inBlock]
  refine iG hF Tryz.results141 O O O ?_
  rw [eU,pM ag]
  exact ⟨_,rfl,rfl,fun _ _ h=>by cases h⟩
set_option maxRecDepth 100000 in
set_option maxHeartbeats 1000000 in
theorem Io (w0 w:World) (R:List Seg) (rb:Nat) (A:Option Addr) (l:List UInt8) (c p y:Nat) (X:Seg) (most:Int) (hO:Buf 5 1 X (.slice A l.length c) l.length (dc l)) (hA:Hp w0 ([row rb 152 [.slice A l.length c,.int .i64 (p:Nat),.int .i64 (y:Nat)]]::X::R) w) (hp:p≤l.length) (hl:l.length<140737488354000):Calls Tryz.prog 81 #[.pointer (some ⟨rb,0,none⟩),.int .i64 most] w fun e w'=>e= .returned (aj ((eU (l.drop p) most).val [] y))∧Hp w0 ([row rb 152 [.slice A l.length c,.int .i64 ((eU (l.drop p) most).pl p y:Nat),.int .i64 ((eU (l.drop p) most).why y:Nat)]]::X::R) w':=by
 refine aP Tryz.func81 O Tryz.ntmps81 ai (fun a hF=>?_)
 refine wS hF fun K1 hK1=>vX O<|vE hK1<|wQ fun K2 hK2=>wT fun K3 hK3=>vX O<|vX O<|vV O (yf 2 O N7 O dO O)<|vV O (aU O hA.q O 0 O O eG)<|vV O (aF O O O O O)<|vE hK3 fun a hF=>?_
 by_cases hy:y≠0
 ·refine aG hF O (iF ag) ?_
  refine wS hF fun K4 hK4=>vX O<|vE hK4 fun a hF=>?_
  apply wp_ret
  simp only [Exit.then]
  refine aO hF Tryz.results81 O ?_
  obtain ⟨e1,e2,e3⟩:=Res.skip (eU (l.drop p) most) [] p y hy
  rw [e1,e2,e3]
  exact ⟨rfl,hA⟩
 ·obtain rfl:y=0:=by omega
  refine au hF O (fK rfl) ?_
  apply wp_skip
  refine hK2 _ _ ?_
  refine wS hF fun K5 hK5=>vX O<|vX O<|vX O<|vV O (yf 1 O N7 O gZ O)<|vV O (aU O hA.q O 0 O O jZ)<|vX O fun a hF=>?_
  refine ax O (fun K hK=>ay hF O ae yD rfl rfl ?_)
  with_reducible refine (uh w0 _ R rb A l c p 0 X p most hO hA hl hp).mono ?_
  rintro e' w3 ⟨to,rfl,rfl,hto⟩
  refine ⟨_,rfl,fun a hF=>hK _ _ ?_⟩
  refine vR hF<|vX O<|vV O (aN (v:=aj ((eU (l.drop p) most).val [] 0)) O O O)<|vV O (aN (v:= .int .i64 (to:Int)) O O O)<|vV O (aN (v:= .int .i64 ((eU (l.drop p) most).why 0:Nat)) O O O)<|vX O<|vX O<|vX O<|vE hK5<|wQ fun K6 hK6=>wT fun K7 hK7=>vX O<|vV O (aF O O O O O)<|vE hK7 fun a hF=>?_
  cases hr:eU (l.drop p) most with
  | no e =>
   have he:=xg hr
   rw [hr,show (Res.no e:Res (List UInt8)).why 0=e from rfl] at hF
   refine aG hF O (iF (show (e:Int)≠0 by omega)) ?_
   refine wS hF fun K8 hK8=>vX O<|vX O fun a hF=>?_
   refine ax O (fun K hK=>ay hF O ae oh rfl rfl ?_)
   with_reducible refine (gY w0 _ _ rb A l c p 0 X e _ O O hA).mono ?_
   rintro e' w4 ⟨rfl,hA5⟩
   refine ⟨_,rfl,fun a hF=>hK _ _ ?_⟩
   replace hA5:Hp w0 ([row rb 152 [.slice A l.length c,.int .i64 (p:Int),.int .i64 ((e:Nat):Int)]]::X::R) w4:=hA5
   refine aH<|hK8 _ _ ?_
   refine wS hF fun K9 hK9=>vX O<|vE hK9 fun a hF=>?_
   apply wp_ret
   simp only [Exit.then]
   refine aO hF Tryz.results81 O ?_
   exact ⟨rfl,hA5⟩
  | ok t k =>
   obtain rfl:=hto t k hr
   rw [hr] at hF
   refine au hF O (fK rfl) ?_
   apply wp_skip
   refine hK6 _ _ ?_
   refine wS hF fun K10 hK10=>vX O<|vX O<|vX O<|vV O (yf 1 O N7 O gZ O) fun a hF=>?_
   refine ax O (fun K hK=>aX hF O O hA O O 0 O (by simp) rfl gZ (fun w6 hA7=>hK _ _ ?_))
   replace hA7:Hp w0 ([row rb 152 [.slice A l.length c,.int .i64 ((p+k:Nat):Int),.int .i64 ((0:Nat):Int)]]::X::R) w6:=hA7
   refine aH<|hK10 _ _ ?_
   refine wS hF fun K11 hK11=>vX O<|vX O<|vE hK11 fun a hF=>?_
   apply wp_ret
   refine aO hF Tryz.results81 O ?_
   rw [hr]
   exact ⟨rfl,hA7⟩
set_option maxRecDepth 100000 in
set_option maxHeartbeats 1000000 in
theorem EJ (w0 w:World) (R:List Seg) (rb:Nat) (A:Option Addr) (l:List UInt8) (c p y:Nat) (X:Seg) (most:Int) (hO:Buf 5 1 X (.slice A l.length c) l.length (dc l)) (hA:Hp w0 ([row rb 152 [.slice A l.length c,.int .i64 (p:Nat),.int .i64 (y:Nat)]]::X::R) w) (hp:p≤l.length) (hl:l.length<140737488354000):Calls Tryz.prog 82 #[.pointer (some ⟨rb,0,none⟩),.int .i64 most] w fun e w'=>∃ v Z,e= .returned v∧Buf 5 1 Z v ((iK (l.drop p) most).val [] y).length (dc ((iK (l.drop p) most).val [] y))∧Hp w0 (Z::[row rb 152 [.slice A l.length c,.int .i64 ((iK (l.drop p) most).pl p y:Nat),.int .i64 ((iK (l.drop p) most).why y:Nat)]]::X::R) w':=by
 refine aP Tryz.func82 O Tryz.ntmps82 ai (fun a hF=>?_)
 refine wS hF fun K1 hK1=>vX O<|vE hK1 fun a hF=>?_
 clear hK1 K1
 apply wp_seq_k; intro K2 hK2
 refine wS hF fun K3 hK3=>vX O<|vX O<|vV O (yf 2 O N7 O dO O)<|vV O (aU O hA.q O 0 O O eG)<|vV O (aF O O O O O)<|vE hK3 fun a hF=>?_
 clear hK3 K3
 by_cases hy:y≠0
 ·refine aG hF O (iF ag) ?_
  refine wS hF fun K4 hK4=>vX O<|vE hK4 fun a hF=>?_
  clear hK4 K4
  apply wp_ret
  simp only [Exit.then]
  refine aO hF Tryz.results82 O ?_
  obtain ⟨e1,e2,e3⟩:=Res.skip (iK (l.drop p) most) [] p y hy
  rw [e1,e2,e3]
  exact ⟨_,[],rfl,Buf.nil _ _,Hp.nil hA⟩
 ·obtain rfl:y=0:=by omega
  refine au hF O (fK rfl) ?_
  have hn:=Ei (l.drop p)
  have hbl:=kw most 2147483647
  have hlen:(l.drop p).length=l.length-p:=List.length_drop
  by_cases hK:p+4≤l.length
  ·have hs:¬ (l.drop p).length<4:=by omega
   apply wp_skip
   refine hK2 _ _ ?_; clear  hK2 K2
   refine wS hF fun K5 hK5=>vX O<|vX O<|vX O<|vV O (yf 1 O N7 O gZ O)<|vV O (aU O hA.q O 0 O O jZ) fun a hF=>?_
   refine ax O (fun K hK=>ay hF O ae yC rfl rfl ?_)
   with_reducible refine (lq w0 _ R rb A l c p 0 X p hO hA hl ag).mono ?_
   rintro e' w3 ⟨rfl,rfl⟩
   refine ⟨_,rfl,fun a hF=>hK _ _ ?_⟩
   clear hK K
   rw [(oK (q:=p) hK).1,(oK (q:=p) hK).2.1,(oK (q:=p) hK).2.2] at hF
   refine vR hF<|vX O<|vV O (aN (v:= .int .u32 (num ((l.drop p).take 4):Nat)) O O O)<|vV O (aN (v:= .int .i64 ((p+4:Nat):Int)) O O O)<|vV O (aN (v:= .bool true) rfl rfl rfl)<|vX O<|vX O<|vX O<|vE hK5 fun a hF=>?_
   clear hK5 K5
   apply wp_seq_k; intro K6 hK6
   apply wp_block
   refine wS hF fun K7 hK7=>vX O<|vV O (dm O O O)<|vX O<|vE hK7 fun a hF=>?_
   clear hK7 K7
   refine dn hF O ?_
   refine wS hF fun K8 hK8=>vX O<|vV O (bW O NZ NC O (Np _ ag))<|vX O fun a hF=>?_
   refine ax O (fun K hK=>ay hF O ae oG rfl rfl ?_)
   with_reducible refine (jK w _ _).mono ?_
   rintro e' w6 ⟨rfl,rfl⟩
   refine ⟨_,rfl,fun a hF=>hK _ _ ?_⟩
   clear hK K
   refine vR hF<|vV O (aF O O O O O)<|vX O<|vE hK8 fun a hF=>?_
   clear hK8 K8
   by_cases h1:bnd most 2147483647<(num ((l.drop p).take 4):Int)
   ·refine aG hF O (dY ag) ?_
    refine wp_region_lit ?_
    refine vR hF<|vX O fun a hF=>?_
    refine ax O (fun K hK=>ay hF O ae oh rfl rfl ?_)
    with_reducible refine (gY w0 _ _ rb A l c p _ X 6 6 O O hA).mono ?_
    rintro e' w7 ⟨rfl,hA8⟩
    refine ⟨_,rfl,fun a hF=>hK _ _ ?_⟩
    clear hK K
    replace hA8:Hp w0 ([row rb 152 [.slice A l.length c,.int .i64 (p:Int),.int .i64 ((6:Nat):Int)]]::X::R) w7:=hA8
    refine aH<|hK6 _ _ ?_
    clear hK6 K6
    refine wS hF fun K9 hK9=>vX O<|vE hK9 fun a hF=>?_
    clear hK9 K9
    apply wp_ret
    refine aO hF Tryz.results82 O ?_
    rw [iK,qI hs h1]
    exact ⟨_,[],rfl,Buf.nil _ _,Hp.nil hA8⟩
   ·refine au hF O (fE ag) ?_
    refine wS hF fun K10 hK10=>vX O<|vV O (bW O NZ NC O (Np _ ag))<|vX O<|vX O<|vV O (yf 0 O N7 O dP O)<|vV O (aU O hA.q O 0 O O jr)<|vV O (aT O Nq O O)<|vX O<|vV O (eu O O O (Np _ ag))<|vV O (aF O O O O O)<|vX O<|vE hK10 fun a hF=>?_
    clear hK10 K10
    by_cases h2:l.length-(p+4)<num ((l.drop p).take 4)
    ·refine aG hF O (dY ag) ?_
     refine wp_region_lit ?_
     refine vR hF<|vX O fun a hF=>?_
     refine ax O (fun K hK=>ay hF O ae oh rfl rfl ?_)
     with_reducible refine (gY w0 _ _ rb A l c p _ X 8 8 O O hA).mono ?_
     rintro e' w9 ⟨rfl,hA10⟩
     refine ⟨_,rfl,fun a hF=>hK _ _ ?_⟩
     clear hK K
     replace hA10:Hp w0 ([row rb 152 [.slice A l.length c,.int .i64 (p:Int),.int .i64 ((8:Nat):Int)]]::X::R) w9:=hA10
     refine aH<|hK6 _ _ ?_
     clear hK6 K6
     refine wS hF fun K11 hK11=>vX O<|vE hK11 fun a hF=>?_
     clear hK11 K11
     apply wp_ret
     refine aO hF Tryz.results82 O ?_
     rw [iK,qJ hs h1 ag]
     exact ⟨_,[],rfl,Buf.nil _ _,Hp.nil hA10⟩
    ·refine au hF O (fE ag) ?_
     obtain ⟨n,hnn⟩:∃ n,n=num ((l.drop p).take 4):=⟨_,rfl⟩
     have hr:=xe (K:=4) (e:=6) hs h1 ag
     rw [← hnn] at hr hn h1 h2
     rw [← hnn] at hF
     rw [iK,hr]
     refine wS hF fun K12 hK12=>vX O<|vX O<|vX O<|vV O (yf 1 O N7 O gZ O) fun a hF=>?_
     refine ax O (fun K hK=>aX hF O O hA O O 0 O (by simp) rfl gZ (fun w11 hA12=>hK _ _ ?_))
     clear hK K
     replace hA12:Hp w0 ([row rb 152 [.slice A l.length c,.int .i64 ((p+4:Nat):Int),.int .i64 ((0:Nat):Int)]]::X::R) w11:=hA12
     refine aH<|hK12 _ _ ?_
     clear hK12 K12
     refine wS hF fun K13 hK13=>vX O<|vX O<|vV O (bW O NZ NC O (Np _ ag)) fun a hF=>?_
     refine ax O (fun K hK=>ay hF O ae Bf rfl rfl ?_)
     with_reducible refine (vw w0 _ R rb A l c (p+4) 0 X (n:Int) hO hA12 ag hl ag).mono ?_
     rintro e' w13 ⟨v,Z,rfl,hZ,hA14⟩
     refine ⟨_,rfl,fun a hF=>hK _ _ ?_⟩
     clear hK K
     replace hA14:Hp w0 (Z::[row rb 152 [.slice A l.length c,.int .i64 ((eF (l.drop (p+4)) (n:Int)).pl (p+4) 0:Nat),.int .i64 ((eF (l.drop (p+4)) (n:Int)).why 0:Nat)]]::X::R) w13:=hA14
     have hrr:eF (l.drop (p+4)) (n:Int)= .ok (((l.drop p).drop 4).take n) n:=by
      rw [List.drop_drop]
      exact if_neg (by rw [List.length_drop]; omega)
     refine vR hF<|vX O<|vE hK13 fun a hF=>?_
     clear hK13 K13
     apply wp_ret
     simp only [Exit.then,Exit.inBlock]
     refine aO hF Tryz.results82 O ?_
     rw [hrr] at hZ hA14
     exact ⟨v,Z,rfl,hZ,(show Hp w0 (Z::[row rb 152 [.slice A l.length c,.int .i64 (p+(4+n):Nat),.int .i64 (0:Nat)]]::X::R) _ from (Nat.add_assoc p 4 n) ▸ hA14)⟩
  ·apply wp_skip
   refine hK2 _ _ ?_; clear  hK2 K2
   refine wS hF fun K14 hK14=>vX O<|vX O<|vX O<|vV O (yf 1 O N7 O gZ O)<|vV O (aU O hA.q O 0 O O jZ) fun a hF=>?_
   refine ax O (fun K hK=>ay hF O ae yC rfl rfl ?_)
   with_reducible refine (lq w0 _ R rb A l c p 0 X p hO hA hl ag).mono ?_
   rintro e' w17 ⟨rfl,rfl⟩
   refine ⟨_,rfl,fun a hF=>hK _ _ ?_⟩
   clear hK K
   rw [(oM (q:=p) hK).1,(oM (q:=p) hK).2.1,(oM (q:=p) hK).2.2] at hF
   refine vR hF<|vX O<|vV O (aN (v:= .int .u32 0) rfl rfl rfl)<|vV O (aN (v:= .int .i64 (p:Int)) O O O)<|vV O (aN (v:= .bool false) rfl rfl rfl)<|vX O<|vX O<|vX O<|vE hK14 fun a hF=>?_
   clear hK14 K14
   apply wp_seq_k; intro K15 hK15
   apply wp_block
   refine wS hF fun K16 hK16=>vX O<|vV O (dm O O O)<|vX O<|vE hK16 fun a hF=>?_
   clear hK16 K16
   refine gz hF O ?_
   refine wp_region_lit ?_
   refine vR hF<|vX O fun a hF=>?_
   refine ax O (fun K hK=>ay hF O ae oh rfl rfl ?_)
   with_reducible refine (gY w0 _ _ rb A l c p _ X 8 8 O O hA).mono ?_
   rintro e' w18 ⟨rfl,hA19⟩
   refine ⟨_,rfl,fun a hF=>hK _ _ ?_⟩
   clear hK K
   replace hA19:Hp w0 ([row rb 152 [.slice A l.length c,.int .i64 (p:Int),.int .i64 ((8:Nat):Int)]]::X::R) w18:=hA19
   refine aH<|hK15 _ _ ?_
   clear hK15 K15
   refine wS hF fun K17 hK17=>vX O<|vE hK17 fun a hF=>?_
   clear hK17 K17
   apply wp_ret
   refine aO hF Tryz.results82 O ?_
   rw [iK,pM ag]
   exact ⟨_,[],rfl,Buf.nil _ _,Hp.nil hA19⟩
def iH (each:Int):Nat→List (List UInt8)→Nat→List UInt8→Res (List (List UInt8))
 | 0,acc,at_,_=> .ok acc at_
 | k+1,acc,at_,r=>match eU r each with
  | .no e=> .no e
  | .ok s j=>if acc≠[]∧bJ .geq (acc.getLastD []) s=true then .no 8 else iH each k (acc++[s]) (at_+j) (r.drop j)
def fZ (r:List UInt8) (most each:Int):Res (List (List UInt8)):=if r.length<2 then .no 8 else if bnd most 65535<(num (r.take 2):Int) then .no 7 else iH each (num (r.take 2)) [] 2 (r.drop 2)
theorem rD:gV Tryz.prog 9 1 16:=iC (z:=aj []) af af
theorem rE (s:List UInt8) (w:World):(Instr.buildSlice 23 1 #[(0,aj s)]).run Tryz.prog w= .ok (.slice (some ⟨w.heap.size,0,none⟩) 1 1) (w.alloc (.cells #[aj s] 9)):=af
set_option maxRecDepth 100000 in
set_option maxHeartbeats 1000000 in
theorem EI (w0 w:World) (R:List Seg) (rb:Nat) (A:Option Addr) (l:List UInt8) (c p y:Nat) (X:Seg) (most each:Int) (hO:Buf 5 1 X (.slice A l.length c) l.length (dc l)) (hA:Hp w0 ([row rb 152 [.slice A l.length c,.int .i64 (p:Nat),.int .i64 (y:Nat)]]::X::R) w) (hp:p≤l.length) (hl:l.length<140737488354000):Calls Tryz.prog 100 #[.pointer (some ⟨rb,0,none⟩),.int .i64 most,.int .i64 each] w fun e w'=>∃ v Z,e= .returned v∧Buf 9 1 Z v ((fZ (l.drop p) most each).val [] y).length (((fZ (l.drop p) most each).val [] y).map aj)∧Hp w0 (Z::[row rb 152 [.slice A l.length c,.int .i64 ((fZ (l.drop p) most each).pl p y:Nat),.int .i64 ((fZ (l.drop p) most each).why y:Nat)]]::X::R) w':=by
 refine aP Tryz.func100 O Tryz.ntmps100 ai (fun a hF=>?_)
 refine wS hF fun K1 hK1=>vX O<|vE hK1 fun a hF=>?_
 clear hK1 K1
 apply wp_seq_k; intro K2 hK2
 refine wS hF fun K3 hK3=>vX O<|vX O<|vV O (yf 2 O N7 O dO O)<|vV O (aU O hA.q O 0 O O eG)<|vV O (aF O O O O O)<|vE hK3 fun a hF=>?_
 clear hK3 K3
 by_cases hy:y≠0
 ·refine aG hF O (iF ag) ?_
  refine wS hF fun K4 hK4=>vX O<|vE hK4 fun a hF=>?_
  clear hK4 K4
  apply wp_ret
  simp only [Exit.then]
  refine aO hF Tryz.results100 O ?_
  obtain ⟨e1,e2,e3⟩:=Res.skip (fZ (l.drop p) most each) [] p y hy
  rw [e1,e2,e3]
  exact ⟨_,[],rfl,Buf.nil _ _,Hp.nil hA⟩
 ·obtain rfl:y=0:=by omega
  refine au hF O (fK rfl) ?_
  have hn:=Ag (l.drop p)
  have hbl:=kw most 65535
  have hlen:(l.drop p).length=l.length-p:=List.length_drop
  by_cases hK:p+2≤l.length
  ·have hs:¬ (l.drop p).length<2:=by omega
   apply wp_skip
   refine hK2 _ _ ?_; clear  hK2 K2
   refine wS hF fun K5 hK5=>vX O<|vX O<|vX O<|vV O (yf 1 O N7 O gZ O)<|vV O (aU O hA.q O 0 O O jZ) fun a hF=>?_
   refine ax O (fun K hK=>ay hF O ae AQ rfl rfl ?_)
   with_reducible refine (iJ w0 _ R rb A l c p 0 X p hO hA hl ag).mono ?_
   rintro e' w3 ⟨rfl,rfl⟩
   refine ⟨_,rfl,fun a hF=>hK _ _ ?_⟩
   clear hK K
   rw [(oK (q:=p) hK).1,(oK (q:=p) hK).2.1,(oK (q:=p) hK).2.2] at hF
   refine vR hF<|vX O<|vV O (aN (v:= .int .u16 (num ((l.drop p).take 2):Nat)) O O O)<|vV O (aN (v:= .int .i64 ((p+2:Nat):Int)) O O O)<|vV O (aN (v:= .bool true) rfl rfl rfl)<|vX O<|vX O<|vX O<|vE hK5 fun a hF=>?_
   clear hK5 K5
   apply wp_seq_k; intro K6 hK6
   refine wS hF fun K7 hK7=>vX O<|vV O (dm O O O)<|vE hK7 fun a hF=>?_
   clear hK7 K7
   refine dn hF O ?_
   apply wp_skip
   refine hK6 _ _ ?_; clear  hK6 K6
   apply wp_seq_k; intro K8 hK8
   refine wS hF fun K9 hK9=>vX O<|vV O (bW O NY NC O (Np _ ag))<|vX O fun a hF=>?_
   refine ax O (fun K hK=>ay hF O ae oG rfl rfl ?_)
   with_reducible refine (jK w _ _).mono ?_
   rintro e' w6 ⟨rfl,rfl⟩
   refine ⟨_,rfl,fun a hF=>hK _ _ ?_⟩
   clear hK K
   refine vR hF<|vV O (aF O O O O O)<|vE hK9 fun a hF=>?_
   clear hK9 K9
   by_cases h1:bnd most 65535<(num ((l.drop p).take 2):Int)
   ·refine aG hF O (dY ag) ?_
    have e1:fZ (l.drop p) most each= .no 7:=by rw [fZ,if_neg hs,if_pos h1]
    refine wS hF fun K10 hK10=>vX O fun a hF=>?_
    refine ax O (fun K hK=>ay hF O ae oh rfl rfl ?_)
    with_reducible refine (gY w0 _ _ rb A l c p _ X 7 7 O O hA).mono ?_
    rintro e' w7 ⟨rfl,hA8⟩
    refine ⟨_,rfl,fun a hF=>hK _ _ ?_⟩
    clear hK K
    replace hA8:Hp w0 ([row rb 152 [.slice A l.length c,.int .i64 (p:Int),.int .i64 ((7:Nat):Int)]]::X::R) w7:=hA8
    refine aH<|hK10 _ _ ?_
    clear hK10 K10
    refine wS hF fun K11 hK11=>vX O<|vE hK11 fun a hF=>?_
    clear hK11 K11
    apply wp_ret
    simp only [Exit.then]
    refine aO hF Tryz.results100 O ?_
    rw [e1]
    exact ⟨_,[],rfl,Buf.nil _ _,Hp.nil hA8⟩
   ·refine au hF O (fE ag) ?_
    obtain ⟨n,hnn⟩:∃ n,n=num ((l.drop p).take 2):=⟨_,rfl⟩
    have hE:fZ (l.drop p) most each=iH each n [] 2 ((l.drop p).drop 2):=by rw [fZ,if_neg hs,if_neg h1,← hnn]
    rw [← hnn] at hn h1
    rw [← hnn] at hF
    apply wp_skip
    refine hK8 _ _ ?_; clear  hK8 K8
    refine wS hF fun K12 hK12=>vX O<|vE hK12 fun a hF=>?_
    clear hK12 K12
    apply wp_seq_k; intro K13 hK13
    refine wS hF fun K14 hK14=>vX O<|vV O (bW O NY NC O (Np _ ag))<|vX O<|vE hK14 fun a hF=>?_
    clear hK14 K14
    apply wp_block
    have hA9:Hp w0 (([]:Seg)::[row rb 152 [.slice A l.length c,.int .i64 (p:Int),.int .i64 ((0:Nat):Int)]]::X::R) w:=Hp.nil hA
    refine bH (G:=Nat) (fun i a x=>∃ (v1:Value) (Z1:Seg) (ss:List (List UInt8)) (at_:Nat) (q:Nat),i≤n∧ss.length=i∧p+at_=q∧q≤l.length∧fZ (l.drop p) most each=iH each (n-i) ss at_ (l.drop q)∧Buf 9 1 Z1 v1 ss.length (ss.map aj)∧Fr 85 [(42,.int .i64 (i:Int)),(10,v1),(8,.int .i64 (q:Int)),(0,.pointer (some ⟨rb,0,none⟩)),(1,.int .i64 most),(2,.int .i64 each),(41,.int .i64 (n:Int))] a∧Hp w0 (Z1::[row rb 152 [.slice A l.length c,.int .i64 (p:Int),.int .i64 ((0:Nat):Int)]]::X::R) x) (fun i=>n-i) 0 (⟨.slice none 0 0,[],[],2,p+2,Nl _,rfl,rfl,ag,by rw [hE,List.drop_drop]; rfl,Buf.nil _ _,hF.keep [42,10,8,0,1,2,41] rfl,hA9⟩) ?_
    clear hF
    rintro i a w11 ⟨v1,Z1,ss,at_,q,hi,hss,hq,hql,hE,hZ,hF,hA10⟩
    refine wS hF fun K15 hK15=>vV O (aF O O O O O)<|vE hK15 fun a hF=>?_
    clear hK15 K15
    apply wp_seq_k; intro K16 hK16
    by_cases hlt:i<n
    ·refine aG hF O (dF ag) ?_
     rw [show n-i=(n-(i+1))+1 by omega,iH] at hE
     obtain ⟨A1,c1,rfl,hc1,hR1⟩:=hZ.rc (w0:=w0) (R:=[Z1]) (Nu ..)
     apply wp_skip
     refine hK16 _ _ ?_; clear  hK16 K16
     apply wp_seq_k; intro K17 hK17
     apply wp_block
     refine wS hF fun K18 hK18=>vX O<|vX O<|vX O fun a hF=>?_
     have hA12:Hp w0 ([row rb 152 [.slice A l.length c,.int .i64 (p:Int),.int .i64 ((0:Nat):Int)]]::X::Z1::R) w11:=hpO 3 [1,2,0] hA10 rfl
     refine ax O (fun K hK=>ay hF O ae yD rfl rfl ?_)
     with_reducible refine (uh w0 _ _ rb A l c p 0 X q each hO hA12 hl hql).mono ?_
     rintro e' w15 ⟨to,rfl,rfl,hto⟩
     refine ⟨_,rfl,fun a hF=>hK _ _ ?_⟩
     clear hK K
     refine vR hF<|vX O<|vV O (aN (v:=aj ((eU (l.drop q) each).val [] 0)) O O O)<|vV O (aN (v:= .int .i64 (to:Int)) O O O)<|vV O (aN (v:= .int .i64 ((eU (l.drop q) each).why 0:Nat)) O O O)<|vX O<|vX O<|vX O<|vE hK18 fun a hF=>?_
     clear hK18 K18
     apply wp_seq_k; intro K19 hK19
     apply wp_seq_k; intro K20 hK20
     cases hr:eU (l.drop q) each with
     | no e =>
      have he:=xg hr
      rw [hr,show (Res.no e:Res (List UInt8)).why 0=e from rfl] at hF
      rw [hr] at hE
      simp only at hE
      refine wp_region_lit ?_
      refine vR hF<|vX O<|vV O (aF O O O O (bU ag))<|vX O<|vS O<|vS O<|vS O<|vV O (bP O O O)<|vX O<|vS O<|vS O<|vS O<|vS O<|vS O<|vS O<|vS O<|vS O<|vV O (bP O O O)<|vE hK20 fun a hF=>?_
      clear hK20 K20
      refine dn hF O ?_
      apply wp_skip
      refine hK19 _ _ ?_; clear  hK19 K19
      apply wp_seq_k; intro K21 hK21
      refine wS hF fun K22 hK22=>vX O<|vV O (aF O O O O O)<|vE hK22 fun a hF=>?_
      clear hK22 K22
      refine aG hF O (iF (show (e:Int)≠0 by omega)) ?_
      refine wS hF fun K23 hK23=>vX O<|vX O fun a hF=>?_
      refine ax O (fun K hK=>ay hF O ae oh rfl rfl ?_)
      with_reducible refine (gY w0 _ _ rb A l c p 0 X e _ O O hA12).mono ?_
      rintro e' w16 ⟨rfl,hA17⟩
      refine ⟨_,rfl,fun a hF=>hK _ _ ?_⟩
      clear hK K
      replace hA17:Hp w0 ([row rb 152 [.slice A l.length c,.int .i64 (p:Int),.int .i64 ((e:Nat):Int)]]::X::Z1::R) w16:=hA17
      refine aH<|hK23 _ _ ?_
      clear hK23 K23
      refine wS hF fun K24 hK24=>vX O<|vE hK24 fun a hF=>?_
      clear hK24 K24
      apply wp_ret
      simp only [Exit.then,Exit.inBlock]
      refine aO hF Tryz.results100 O ?_
      have hA18:Hp w0 ([row rb 152 [.slice A l.length c,.int .i64 (p:Int),.int .i64 ((e:Nat):Int)]]::X::R) w16:=hpS 3 [0,1] [2] hA17 rfl
      rw [hE]
      exact ⟨_,[],rfl,Buf.nil _ _,Hp.nil hA18⟩
     | ok t k =>
      have hle:=xh hr
      rw [List.length_drop] at hle
      obtain rfl:=hto t k hr
      rw [hr,show (Res.ok t k:Res (List UInt8)).why 0=0 from rfl,show (Res.ok t k:Res (List UInt8)).val [] 0=t from rfl] at hF
      rw [hr] at hE
      simp only at hE
      by_cases h0:ss.length=0
      ·have h00:ss=[]:=List.length_eq_zero_iff.1 ag
       rw [if_neg (fun h=>absurd h00 h.1)] at hE
       refine wp_region_lit ?_
       refine vR hF<|vX O<|vV O (aF O O O O (fF ag))<|vX O<|vG O (aV O O)<|vG O (aT O Nk O O)<|vG O (aF O O O O (fE ag))<|vV O (bP O O O)<|vX O<|vS O<|vS O<|vS O<|vS O<|vS O<|vS O<|vS O<|vS O<|vV O (bP O O O)<|vE hK20 fun a hF=>?_
       clear hK20 K20
       refine dn hF O ?_
       apply wp_skip
       refine hK19 _ _ ?_; clear  hK19 K19
       apply wp_seq_k; intro K25 hK25
       refine wS hF fun K26 hK26=>vX O<|vV O (aF O O O O O)<|vE hK26 fun a hF=>?_
       clear hK26 K26
       refine au hF O (fK rfl) ?_
       apply wp_skip
       refine hK25 _ _ ?_; clear  hK25 K25
       refine wp_region_lit ?_
       refine vR hF<|vX O<|vX O fun a hF=>?_
       refine ax O (fun K hK=>jL hF O ae rfl hA12 O (rE t) (fun b19 w20 a hb19 hF hA21=>hK _ _ ?_))
       clear hK K
       refine ax O (fun K hK=>cO hF O ae rfl hA21 3 O hZ Nk rD rfl rfl (Rc.srcC (W:=[aj t]) (m:=1) (size:=1) (R:=[row b19 9 [aj t]]::[row rb 152 [.slice A l.length c,.int .i64 (p:Int),.int .i64 ((0:Nat):Int)]]::X::Z1::R) (Rc.ofRow (i:=0) (off:=0) rfl rfl) hA21.q Nk ae rfl (by simp [Value.oneCell'])) ag ae (fun v2 Z2 w22 a hZ2 hF hA23=>hK _ _ ?_))
       clear hK K
       replace hA23:Hp w0 ([row b19 9 [aj t]]::[row rb 152 [.slice A l.length c,.int .i64 (p:Int),.int .i64 ((0:Nat):Int)]]::X::Z2::R) w22:=hA23
       replace hZ2:Buf 9 1 Z2 v2 (ss++[t]).length ((ss++[t]).map aj):=by rw [List.length_append,List.map_append]; exact hZ2
       refine vR hF<|vX O<|vX O<|vX O fun a hF=>aH<|hK17 _ _ ?_
       clear hK17 K17
       refine wp_region_lit ?_
       refine vR hF<|vV O (bT O O O (Np _ ag))<|vX O fun a hF=>?_
       refine aH ?_
       have hA24:Hp w0 (Z2::[row rb 152 [.slice A l.length c,.int .i64 (p:Int),.int .i64 ((0:Nat):Int)]]::X::R) w22:=hpS 4 [3,1,2] [0] hA23 rfl
       exact ⟨i+1,ag,v2,Z2,ss++[t],at_+k,q+k,ag,by rw [List.length_append,hss]; rfl,ag,ag,by rw [hE,List.drop_drop],hZ2,hF.keep [42,10,8,0,1,2,41] rfl,hA24⟩
      ·obtain ⟨u,hu⟩:∃ u,ss[ss.length-1]? = some u:=⟨_,List.getElem?_eq_getElem ag⟩
       have hlast:ss.getLastD []=u:=by rw [List.getLastD_eq_getLast?,List.getLast?_eq_getElem?,hu]; rfl
       obtain ⟨b1,o1,rfl,hcc⟩:=hR1.ne (i:=ss.length-1) (by rw [List.length_map]; omega)
       rw [hlast] at hE
       by_cases hge:bJ .geq u t=true
       ·rw [if_pos (show ss≠[]∧bJ .geq u t=true from ⟨fun e=>by rw [e] at h0; exact h0 rfl,hge⟩)] at hE
        refine wp_region_lit ?_
        refine vR hF<|vX O<|vV O (aF O O O O (fF ag))<|vX O<|vG O (aV O O)<|vG O (aT O Nk O O)<|vG O (aF O O O O (dY ag))<|vV O (bP O O O)<|vX O<|vG O (aV O O)<|vG O (aV O O)<|vG O (aT O Nk O O)<|vG O (eu O O O (Np _ ag))<|vG O (aY O Nk uB O O (ss.length-1) ag ag (ad2 _ _ _))<|vG O (bV (u:=aj u) rfl (Hq.sub hA12.q (fun x hx=>by rw [List.mem_singleton] at hx; subst hx; simp)) O hcc (ss.length-1) (by rw [List.length_map]; omega) rfl (by rw [List.getElem?_map,hu]; rfl) uU) fun a hF=>?_
        refine vR hF<|vG O (aV O O)<|vG O (fA O O O O (hge))<|vV O (bP O O O)<|vE hK20 fun a hF=>?_
        clear hK20 K20
        refine gz hF O ?_
        refine wp_region_lit ?_
        refine vR hF<|vX O<|vE hK19 fun a hF=>?_
        clear hK19 K19
        apply wp_seq_k; intro K27 hK27
        refine wS hF fun K28 hK28=>vX O<|vV O (aF O O O O O)<|vE hK28 fun a hF=>?_
        clear hK28 K28
        refine aG hF O (iF ae) ?_
        refine wS hF fun K29 hK29=>vX O<|vX O fun a hF=>?_
        refine ax O (fun K hK=>ay hF O ae oh rfl rfl ?_)
        with_reducible refine (gY w0 _ _ rb A l c p 0 X 8 8 O O hA12).mono ?_
        rintro e' w25 ⟨rfl,hA26⟩
        refine ⟨_,rfl,fun a hF=>hK _ _ ?_⟩
        clear hK K
        replace hA26:Hp w0 ([row rb 152 [.slice A l.length c,.int .i64 (p:Int),.int .i64 ((8:Nat):Int)]]::X::Z1::R) w25:=hA26
        refine aH<|hK29 _ _ ?_
        clear hK29 K29
        refine wS hF fun K30 hK30=>vX O<|vE hK30 fun a hF=>?_
        clear hK30 K30
        apply wp_ret
        simp only [Exit.then,Exit.inBlock]
        refine aO hF Tryz.results100 O ?_
        have hA27:Hp w0 ([row rb 152 [.slice A l.length c,.int .i64 (p:Int),.int .i64 ((8:Nat):Int)]]::X::R) w25:=hpS 3 [0,1] [2] hA26 rfl
        rw [hE]
        exact ⟨_,[],rfl,Buf.nil _ _,Hp.nil hA27⟩
       ·replace hge:bJ .geq u t=false:=by simpa using hge
        rw [if_neg (fun h=>by rw [hge] at h; exact absurd h.2 ae)] at hE
        refine wp_region_lit ?_
        refine vR hF<|vX O<|vV O (aF O O O O (fF ag))<|vX O<|vG O (aV O O)<|vG O (aT O Nk O O)<|vG O (aF O O O O (dY ag))<|vV O (bP O O O)<|vX O<|vG O (aV O O)<|vG O (aV O O)<|vG O (aT O Nk O O)<|vG O (eu O O O (Np _ ag))<|vG O (aY O Nk uB O O (ss.length-1) ag ag (ad2 _ _ _))<|vG O (bV (u:=aj u) rfl (Hq.sub hA12.q (fun x hx=>by rw [List.mem_singleton] at hx; subst hx; simp)) O hcc (ss.length-1) (by rw [List.length_map]; omega) rfl (by rw [List.getElem?_map,hu]; rfl) uU) fun a hF=>?_
        refine vR hF<|vG O (aV O O)<|vG O (fA O O O O (hge))<|vV O (bP O O O)<|vE hK20 fun a hF=>?_
        clear hK20 K20
        refine dn hF O ?_
        apply wp_skip
        refine hK19 _ _ ?_; clear  hK19 K19
        apply wp_seq_k; intro K31 hK31
        refine wS hF fun K32 hK32=>vX O<|vV O (aF O O O O O)<|vE hK32 fun a hF=>?_
        clear hK32 K32
        refine au hF O (fK rfl) ?_
        apply wp_skip
        refine hK31 _ _ ?_; clear  hK31 K31
        refine wp_region_lit ?_
        refine vR hF<|vX O<|vX O fun a hF=>?_
        refine ax O (fun K hK=>jL hF O ae rfl hA12 O (rE t) (fun b28 w29 a hb28 hF hA30=>hK _ _ ?_))
        clear hK K
        refine ax O (fun K hK=>cO hF O ae rfl hA30 3 O hZ Nk rD rfl rfl (Rc.srcC (W:=[aj t]) (m:=1) (size:=1) (R:=[row b28 9 [aj t]]::[row rb 152 [.slice A l.length c,.int .i64 (p:Int),.int .i64 ((0:Nat):Int)]]::X::Z1::R) (Rc.ofRow (i:=0) (off:=0) rfl rfl) hA30.q Nk ae rfl (by simp [Value.oneCell'])) ag ae (fun v2 Z2 w31 a hZ2 hF hA32=>hK _ _ ?_))
        clear hK K
        replace hA32:Hp w0 ([row b28 9 [aj t]]::[row rb 152 [.slice A l.length c,.int .i64 (p:Int),.int .i64 ((0:Nat):Int)]]::X::Z2::R) w31:=hA32
        replace hZ2:Buf 9 1 Z2 v2 (ss++[t]).length ((ss++[t]).map aj):=by rw [List.length_append,List.map_append]; exact hZ2
        refine vR hF<|vX O<|vX O<|vX O fun a hF=>aH<|hK17 _ _ ?_
        clear hK17 K17
        refine wp_region_lit ?_
        refine vR hF<|vV O (bT O O O (Np _ ag))<|vX O fun a hF=>?_
        refine aH ?_
        have hA33:Hp w0 (Z2::[row rb 152 [.slice A l.length c,.int .i64 (p:Int),.int .i64 ((0:Nat):Int)]]::X::R) w31:=hpS 4 [3,1,2] [0] hA32 rfl
        exact ⟨i+1,ag,v2,Z2,ss++[t],at_+k,q+k,ag,by rw [List.length_append,hss]; rfl,ag,ag,by rw [hE,List.drop_drop],hZ2,hF.keep [42,10,8,0,1,2,41] rfl,hA33⟩
    ·refine au hF O (dE ag) ?_
     obtain rfl:i=n:=by omega
     rw [Nat.sub_self,iH] at hE
     subst hq
     apply wp_exit
     refine hK13 _ _ ?_; clear hK16 K16 hK13 K13
     refine wS hF fun K33 hK33=>vX O<|vX O<|vX O<|vV O (yf 1 O N7 O gZ O) fun a hF=>?_
     refine ax O (fun K hK=>aX hF O O hA10 O O 1 O (by simp) rfl gZ (fun w34 hA35=>hK _ _ ?_))
     clear hK K
     replace hA35:Hp w0 (Z1::[row rb 152 [.slice A l.length c,.int .i64 ((p+at_:Nat):Int),.int .i64 ((0:Nat):Int)]]::X::R) w34:=hA35
     refine aH<|hK33 _ _ ?_
     clear hK33 K33
     refine wS hF fun K34 hK34=>vX O<|vX O<|vE hK34 fun a hF=>?_
     clear hK34 K34
     apply wp_ret
     refine aO hF Tryz.results100 O ?_
     rw [hE]
     exact ⟨v1,Z1,rfl,hZ,hA35⟩
  ·have e1:fZ (l.drop p) most each= .no 8:=if_pos ag
   apply wp_skip
   refine hK2 _ _ ?_; clear  hK2 K2
   refine wS hF fun K35 hK35=>vX O<|vX O<|vX O<|vV O (yf 1 O N7 O gZ O)<|vV O (aU O hA.q O 0 O O jZ) fun a hF=>?_
   refine ax O (fun K hK=>ay hF O ae AQ rfl rfl ?_)
   with_reducible refine (iJ w0 _ R rb A l c p 0 X p hO hA hl ag).mono ?_
   rintro e' w38 ⟨rfl,rfl⟩
   refine ⟨_,rfl,fun a hF=>hK _ _ ?_⟩
   clear hK K
   rw [(oM (q:=p) hK).1,(oM (q:=p) hK).2.1,(oM (q:=p) hK).2.2] at hF
   refine vR hF<|vX O<|vV O (aN (v:= .int .u16 0) rfl rfl rfl)<|vV O (aN (v:= .int .i64 (p:Int)) O O O)<|vV O (aN (v:= .bool false) rfl rfl rfl)<|vX O<|vX O<|vX O<|vE hK35 fun a hF=>?_
   clear hK35 K35
   apply wp_seq_k; intro K36 hK36
   refine wS hF fun K37 hK37=>vX O<|vV O (dm O O O)<|vE hK37 fun a hF=>?_
   clear hK37 K37
   refine gz hF O ?_
   refine wS hF fun K38 hK38=>vX O fun a hF=>?_
   refine ax O (fun K hK=>ay hF O ae oh rfl rfl ?_)
   with_reducible refine (gY w0 _ _ rb A l c p _ X 8 8 O O hA).mono ?_
   rintro e' w39 ⟨rfl,hA40⟩
   refine ⟨_,rfl,fun a hF=>hK _ _ ?_⟩
   clear hK K
   replace hA40:Hp w0 ([row rb 152 [.slice A l.length c,.int .i64 (p:Int),.int .i64 ((8:Nat):Int)]]::X::R) w39:=hA40
   refine aH<|hK38 _ _ ?_
   clear hK38 K38
   refine wS hF fun K39 hK39=>vX O<|vE hK39 fun a hF=>?_
   clear hK39 K39
   apply wp_ret
   simp only [Exit.then]
   refine aO hF Tryz.results100 O ?_
   rw [e1]
   exact ⟨_,[],rfl,Buf.nil _ _,Hp.nil hA40⟩
end Go.Proofs.YtepbmdlgdaedpaaGreatDoor
