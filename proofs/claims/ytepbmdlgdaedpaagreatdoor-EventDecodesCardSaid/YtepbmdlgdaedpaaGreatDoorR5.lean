/- The document's own: what bytes tell of an event. -/
import Derived.Test.YtepbmdlgdaedpaaGreatDoorR4
/- The document's own: what bytes tell of an event. -/
namespace Go.Proofs.YtepbmdlgdaedpaaGreatDoor
open Go.RowKit Go.Dk
theorem Ed:aQ Tryz.prog 68:=⟨_,Tryz.func68,af,af⟩
theorem lm:aQ Tryz.prog 129:=⟨_,Tryz.func129,af,af⟩
theorem nH:aQ Tryz.prog 130:=⟨_,Tryz.func130,af,af⟩
theorem Bj:aQ Tryz.prog 131:=⟨_,Tryz.func131,af,af⟩
theorem su:aQ Tryz.prog 133:=⟨_,Tryz.func133,af,af⟩
theorem Bi:aQ Tryz.prog 134:=⟨_,Tryz.func134,af,af⟩
def J9 (o:Int):Fld:=⟨az .leq o 2,az .geq o 2 && az .leq o 4,az .eql o 3 || az .eql o 4,az .eql o 3,az .eql o 4,az .eql o 1⟩
theorem zo {o:Int} (h:fJ o):J9 o=dE o:=by rcases lh h with h | h | h | h | h <;> subst h <;> rfl
theorem rM {k:Nat} (h:k<256):i64 k=((k:Nat):Int):=if_pos ag
theorem JG (A:Option Addr) (n c:Nat) (w:World):(Instr.build 187 #[(0,.slice A n c)]).run Tryz.prog w= .ok (.agg ([.slice A n c,.bool false]:List Value).toArray) w:=af
theorem EU (r:List UInt8) (m:Int):(di r m).pl 0 0≤r.length:=rH fun _ _ h=>jB h
theorem GL (r:List UInt8):(fQ r 1).why 0=(bY r 32).why 0∧(fQ r 1).pl 0 0=(bY r 32).pl 0 0∧((bY r 32).why 0=0→(fQ r 1).val [] 0=[(bY r 32).val (List.replicate 32 0) 0]):=by
 by_cases h:r.length<32
 ·have e1:fQ r 1= .no 8:=if_pos (.inr ag)
  have e2:bY r 32= .no 8:=if_pos (.inr ag)
  rw [e1,e2]
  exact ⟨rfl,rfl,fun h=>absurd h ae⟩
 ·have e1:fQ r 1= .ok (chunks 1 r) 32:=if_neg ag
  have e2:bY r 32= .ok (r.take 32) 32:=if_neg ag
  rw [e1,e2]
  exact ⟨rfl,rfl,fun _=>rfl⟩
theorem Bc {e:Ev} {raw:List UInt8} (h:((az .neq (((dX e:Nat):Int)) (0)) || (bf .neq (fD e) raw))=false):dX e=0∧fD e=raw:=by
 rw [Bool.or_eq_false_iff] at h
 refine ⟨lJ h.1,?_⟩
 have h2:=h.2
 unfold bf at h2
 simpa using h2
theorem GH {raw:List UInt8} {e:Ev} {p:Nat} (hG:fP raw=⟨e,p,0⟩) (h:((az .neq (((dX e:Nat):Int)) (0)) || (bf .neq (fD e) raw))=true):¬ ik raw:=fun hd=>by
 obtain ⟨_,_,_,_,h5,h6⟩:=hd
 rw [hG] at h5 h6
 rw [Bool.or_eq_true] at h
 rcases h with h | h
 ·exact iR h h5
 ·rw [show fD e=raw from h6] at h
  unfold bf at h
  simp at h
set_option maxRecDepth 100000 in
set_option maxHeartbeats 8000000 in
theorem Ag {w0:World} {R:List Seg} {G:List Seg} (A:Option Addr) (raw:List UInt8) (c:Nat) (w:World) (hTR:yD w0) (hR:Rd w0 G A raw) (hc:raw.length≤c) (hG:G⊆R) (hl:raw.length<140737488354000) (hA:Hp w0 R w):Calls Tryz.prog 71 #[.slice A raw.length c] w fun e w'=>∃ (ea:EA) (Z:Seg),e= .returned (.tuple #[.agg ea.cells.toArray,.int .i64 (lS raw:Nat)])∧ea.ev=mr raw∧ea.Ok w0 [Z]∧ea.cas.length≤raw.length∧Hp w0 (Z::R) w':=by
 refine aO Tryz.func71 O Tryz.ntmps71 ai (fun a hF=>?_)
 refine wp_seq_k fun K1 hK1=>wp_region_lit ?_
 refine aH O (fun K hK=>dw hF O ae rfl hA qw (fun b1 w2 a hb1 hF hA3=>hK _ _ ?_))
 refine vR hF<|vX O<|vE hK1<|wT fun K2 hK2=>vX O<|vV O (fU (qs := #[(0,.slice A raw.length c)]) O O (JG _ _ _)) fun a hF=>?_
 refine aH O (fun K hK=>eY (cs:=[.slice A raw.length c,.bool false]) hF O ae rfl hA3 O (fun b4 w5 a hb4 hF hA6=>hK _ _ ?_))
 refine vR hF<|vX O<|vE hK2<|wT fun K3 hK3=>vV O (dS O kK) fun a hF=>?_
 refine aH O (fun K hK=>dw hF O ae rfl hA6 qw (fun b7 w8 a hb7 hF hA9=>hK _ _ ?_))
 refine aH O (fun K hK=>bg (new:=noEA.cells) hF O O hA9 O O 0 O O (fun v hv=>gp (e:=noEA) hv) gZ (fun w10 hA11=>hK _ _ ?_))
 replace hA11:Hp w0 ([row b7 31 noEA.cells]::[row b4 187 [.slice A raw.length c,.bool false]]::[row b1 31 noEA.cells]::R) w10:=hA11
 refine aK<|hK3 _ _ ?_
 apply wp_seq_k; intro K4 hK4
 have hA12:Hp w0 ([row b7 31 ([.int .i64 0,.int .i64 0,.int .i64 0,ak [],ak [],ak [],.int .i64 0,.int .i64 0,ak [],.slice none 0 0,.slice none 0 0,.slice none 0 0]++dc (List.replicate 32 0))]::[row b4 187 [.slice A ((aU raw 0 0).length) c,.bool (decide ((0:Nat)≠0))]]::[row b1 31 noEA.cells]::R) w10:=hA11
 have hT0:TkS w0 G A c raw 0 0:=⟨hR,hc⟩
 have hp0:0≤raw.length:=KW _
 refine wp_region_lit ?_
 refine vR hF<|vX O fun a hF=>?_
 have hA13:Hp w0 ([row b4 187 [.slice A ((aU raw 0 0).length) c,.bool (decide ((0:Nat)≠0))]]::[row b7 31 ([.int .i64 0,.int .i64 0,.int .i64 0,ak [],ak [],ak [],.int .i64 0,.int .i64 0,ak [],.slice none 0 0,.slice none 0 0,.slice none 0 0]++dc (List.replicate 32 0))]::[row b1 31 noEA.cells]::R) w10:=hpO 3 [1,0,2] hA12 rfl
 refine aH O (fun K hK=>aI hF O ae lm rfl rfl ?_)
 with_reducible refine (kU b4 A c raw 0 0 _ hT0 (List.Subset.trans hG (bF (bF (dH)))) hp0 hl hA13 1 1 O ae ae).mono ?_
 rintro e' w14 ⟨k,p1,y1,A1,cb1,rfl,hg1,hp1,hk,hT1,hA15⟩
 refine ⟨_,rfl,fun a hF=>hK _ _ ?_⟩
 replace hA15:Hp w0 ([row b4 187 [.slice A1 ((aU raw p1 y1).length) cb1,.bool (decide (y1≠0))]]::[row b7 31 ([.int .i64 0,.int .i64 0,.int .i64 0,ak [],ak [],ak [],.int .i64 0,.int .i64 0,ak [],.slice none 0 0,.slice none 0 0,.slice none 0 0]++dc (List.replicate 32 0))]::[row b1 31 noEA.cells]::R) w14:=hA15
 replace hk:k<256:=hk
 rw [rM hk] at hF
 refine vR hF<|vV O (yf 0 O Lm O gU O) fun a hF=>?_
 refine aH O (fun K hK=>bz hF O O hA15 O O 1 O (by simp) rfl gU (fun w16 hA17=>hK _ _ ?_))
 replace hA17:Hp w0 ([row b4 187 [.slice A1 ((aU raw p1 y1).length) cb1,.bool (decide (y1≠0))]]::[row b7 31 ([.int .i64 ((k:Nat):Int),.int .i64 0,.int .i64 0,ak [],ak [],ak [],.int .i64 0,.int .i64 0,ak [],.slice none 0 0,.slice none 0 0,.slice none 0 0]++dc (List.replicate 32 0))]::[row b1 31 noEA.cells]::R) w16:=hA17
 refine aK<|hK4 _ _ ?_
 refine wS hF fun K5 hK5=>vX O fun a hF=>?_
 refine aH O (fun K hK=>aI hF O ae lm rfl rfl ?_)
 with_reducible refine (kU b4 A1 cb1 raw p1 y1 _ hT1 (List.Subset.trans hG (bF (bF (dH)))) hp1 hl hA17 8 8 O ae ae).mono ?_
 rintro e' w18 ⟨n,p2,y2,A2,cb2,rfl,hg2,hp2,hn,hT2,hA19⟩
 refine ⟨_,rfl,fun a hF=>hK _ _ ?_⟩
 replace hA19:Hp w0 ([row b4 187 [.slice A2 ((aU raw p2 y2).length) cb2,.bool (decide (y2≠0))]]::[row b7 31 ([.int .i64 ((k:Nat):Int),.int .i64 0,.int .i64 0,ak [],ak [],ak [],.int .i64 0,.int .i64 0,ak [],.slice none 0 0,.slice none 0 0,.slice none 0 0]++dc (List.replicate 32 0))]::[row b1 31 noEA.cells]::R) w18:=hA19
 replace hn:n<18446744073709551616:=hn
 refine vR hF<|vV O (yf 1 O Lm O gU O) fun a hF=>?_
 refine aH O (fun K hK=>bz hF O O hA19 O O 1 O (by simp) rfl gU (fun w20 hA21=>hK _ _ ?_))
 replace hA21:Hp w0 ([row b4 187 [.slice A2 ((aU raw p2 y2).length) cb2,.bool (decide (y2≠0))]]::[row b7 31 ([.int .i64 ((k:Nat):Int),.int .i64 (i64 n),.int .i64 0,ak [],ak [],ak [],.int .i64 0,.int .i64 0,ak [],.slice none 0 0,.slice none 0 0,.slice none 0 0]++dc (List.replicate 32 0))]::[row b1 31 noEA.cells]::R) w20:=hA21
 refine aK<|hK5 _ _ ?_
 refine wS hF fun K6 hK6=>vX O fun a hF=>?_
 refine aH O (fun K hK=>aI hF O ae lm rfl rfl ?_)
 with_reducible refine (kU b4 A2 cb2 raw p2 y2 _ hT2 (List.Subset.trans hG (bF (bF (dH)))) hp2 hl hA21 8 8 O ae ae).mono ?_
 rintro e' w22 ⟨cl,p3,y3,A3,cb3,rfl,hg3,hp3,hcl,hT3,hA23⟩
 refine ⟨_,rfl,fun a hF=>hK _ _ ?_⟩
 replace hA23:Hp w0 ([row b4 187 [.slice A3 ((aU raw p3 y3).length) cb3,.bool (decide (y3≠0))]]::[row b7 31 ([.int .i64 ((k:Nat):Int),.int .i64 (i64 n),.int .i64 0,ak [],ak [],ak [],.int .i64 0,.int .i64 0,ak [],.slice none 0 0,.slice none 0 0,.slice none 0 0]++dc (List.replicate 32 0))]::[row b1 31 noEA.cells]::R) w22:=hA23
 replace hcl:cl<18446744073709551616:=hcl
 refine vR hF<|vV O (yf 2 O Lm O gU O) fun a hF=>?_
 refine aH O (fun K hK=>bz hF O O hA23 O O 1 O (by simp) rfl gU (fun w24 hA25=>hK _ _ ?_))
 replace hA25:Hp w0 ([row b4 187 [.slice A3 ((aU raw p3 y3).length) cb3,.bool (decide (y3≠0))]]::[row b7 31 ([.int .i64 ((k:Nat):Int),.int .i64 (i64 n),.int .i64 (i64 cl),ak [],ak [],ak [],.int .i64 0,.int .i64 0,ak [],.slice none 0 0,.slice none 0 0,.slice none 0 0]++dc (List.replicate 32 0))]::[row b1 31 noEA.cells]::R) w24:=hA25
 refine aK<|hK6 _ _ ?_
 apply wp_seq_k; intro K7 hK7
 refine wS hF fun K8 hK8=>vV O (yf 0 O Lm O gU O)<|vV O (aW O hA25.q O 1 O O kF)<|vV O (aG O O O O O)<|vX O fun a hF=>?_
 refine aY (l2:=?lA1) hF [(35,.bool ((az .geq (((k:Nat):Int)) (2)) && (az .leq (((k:Nat):Int)) (4)))),(0,.slice A raw.length c),(2,.pointer (some ⟨b1,0,none⟩)),(3,.int .i64 0),(15,.slice A raw.length c),(16,.agg ([.slice A raw.length c,.bool false]).toArray),(17,.pointer (some ⟨b4,0,none⟩)),(4,.pointer (some ⟨b4,0,none⟩)),(18,.agg (noEA.cells).toArray),(5,.pointer (some ⟨b7,0,none⟩)),(19,.pointer (some ⟨b4,0,none⟩)),(20,.int .i64 ((k:Nat):Int)),(21,.pointer (some ⟨b7,0,none⟩)),(22,.pointer (some ⟨b4,0,none⟩)),(23,.int .i64 (i64 n)),(24,.pointer (some ⟨b7,1,none⟩)),(25,.pointer (some ⟨b4,0,none⟩)),(26,.int .i64 (i64 cl)),(27,.pointer (some ⟨b7,2,none⟩))] (fun hJ1=>?elA1) (fun a hF=>?flA1)
 case elA1 =>
  rcases tf (az .geq (((k:Nat):Int)) (2)) with hg1 | hg1
  ·refine au hF O O O O O (ax hg1) ae (fun a hF=>?_)
   refine au hF O O O O O (ax hg1) ae (fun a hF=>?_)
   refine au hF O O O O O (ax hg1) ae (fun a hF=>?_)
   refine vR hF<|vV O (aS hg1 rfl rfl rfl) fun a hF=>?_
   exact hJ1 _ ((hF.keep [35,0,2,3,15,16,17,4,18,5,19,20,21,22,23,24,25,26,27] (F':=[(35,_),(0,_),(2,_),(3,_),(15,_),(16,_),(17,_),(4,_),(18,_),(5,_),(19,_),(20,_),(21,_),(22,_),(23,_),(24,_),(25,_),(26,_),(27,_)]) O).bool (by rw [hg1]; rfl))
  ·refine aB hF O O O O (aj hg1) ae _ (yf 0 O Lm O gU O) (fun a hF=>?_)
   refine aB hF O O O O (aj hg1) ae _ (aW O hA25.q O 1 O O kF) (fun a hF=>?_)
   refine aB hF O O O O (aj hg1) ae _ (aG O O O O O) (fun a hF=>?_)
   refine vR hF<|vV O (aT hg1 rfl rfl rfl) fun a hF=>?_
   exact hJ1 _ ((hF.keep [35,0,2,3,15,16,17,4,18,5,19,20,21,22,23,24,25,26,27] (F':=[(35,_),(0,_),(2,_),(3,_),(15,_),(16,_),(17,_),(4,_),(18,_),(5,_),(19,_),(20,_),(21,_),(22,_),(23,_),(24,_),(25,_),(26,_),(27,_)]) O).bool (by rw [hg1]; rfl))
 refine aK<|hK8 _ _ ?_
 obtain ⟨f,hf⟩:∃ f,f=J9 ((k:Nat):Int):=⟨_,rfl⟩
 have hJ0:∀ (a:Act) (x:World) (cas:List UInt8) (p4 y4:Nat) (A4:Option Addr) (cb4:Nat),gB f.cased [] p3 y3 (got (bW · 64) [] raw p3 y3)=⟨cas,p4,y4⟩→cas.length≤raw.length→p4≤raw.length→TkS w0 G A4 cb4 raw p4 y4→Fr 154 [(0,.slice A raw.length c),(2,.pointer (some ⟨b1,0,none⟩)),(4,.pointer (some ⟨b4,0,none⟩)),(5,.pointer (some ⟨b7,0,none⟩))] a→Hp w0 ([row b4 187 [.slice A4 ((aU raw p4 y4).length) cb4,.bool (decide (y4≠0))]]::[row b7 31 ([.int .i64 ((k:Nat):Int),.int .i64 (i64 n),.int .i64 (i64 cl),ak [],ak cas,ak [],.int .i64 0,.int .i64 0,ak [],.slice none 0 0,.slice none 0 0,.slice none 0 0]++dc (List.replicate 32 0))]::[row b1 31 noEA.cells]::R) x→K7 a x:=by
  clear hF
  intro a x cas p4 y4 A4 cb4 hgi0 hns0 hp4 hT4 hF hA
  refine hK7 _ _ ?_
  apply wp_seq_k; intro K9 hK9
  refine wS hF fun K10 hK10=>vV O (yf 0 O Lm O gU O)<|vV O (aW O hA.q O 1 O O kF)<|vV O (aG O O O O O)<|vE hK10 fun a hF=>?_
  have hJ1:∀ (a:Act) (x:World) (typ:List UInt8) (p5 y5:Nat) (A5:Option Addr) (cb5:Nat),gB f.typed [] p4 y4 (got (bW · 64) [] raw p4 y4)=⟨typ,p5,y5⟩→typ.length≤raw.length→p5≤raw.length→TkS w0 G A5 cb5 raw p5 y5→Fr 154 [(0,.slice A raw.length c),(2,.pointer (some ⟨b1,0,none⟩)),(4,.pointer (some ⟨b4,0,none⟩)),(5,.pointer (some ⟨b7,0,none⟩))] a→Hp w0 ([row b4 187 [.slice A5 ((aU raw p5 y5).length) cb5,.bool (decide (y5≠0))]]::[row b7 31 ([.int .i64 ((k:Nat):Int),.int .i64 (i64 n),.int .i64 (i64 cl),ak typ,ak cas,ak [],.int .i64 0,.int .i64 0,ak [],.slice none 0 0,.slice none 0 0,.slice none 0 0]++dc (List.replicate 32 0))]::[row b1 31 noEA.cells]::R) x→K9 a x:=by
   clear hF
   intro a x typ p5 y5 A5 cb5 hgi1 hns1 hp5 hT5 hF hA
   refine hK9 _ _ ?_
   apply wp_seq_k; intro K11 hK11
   refine wS hF fun K12 hK12=>vV O (yf 0 O Lm O gU O)<|vV O (aW O hA.q O 1 O O kF)<|vV O (aG O O O O O)<|vX O fun a hF=>?_
   refine aY (l2:=?lA2) hF [(52,.bool ((az .eql (((k:Nat):Int)) (3)) || (az .eql (((k:Nat):Int)) (4)))),(0,.slice A raw.length c),(2,.pointer (some ⟨b1,0,none⟩)),(4,.pointer (some ⟨b4,0,none⟩)),(5,.pointer (some ⟨b7,0,none⟩))] (fun hJ2=>?elA2) (fun a hF=>?flA2)
   case elA2 =>
    rcases tf (az .eql (((k:Nat):Int)) (3)) with hg2 | hg2
    ·refine aB hF O O O O (aj hg2) ae _ (yf 0 O Lm O gU O) (fun a hF=>?_)
     refine aB hF O O O O (aj hg2) ae _ (aW O hA.q O 1 O O kF) (fun a hF=>?_)
     refine aB hF O O O O (aj hg2) ae _ (aG O O O O O) (fun a hF=>?_)
     refine vR hF<|vV O (aS hg2 rfl rfl rfl) fun a hF=>?_
     exact hJ2 _ ((hF.keep [52,0,2,4,5] (F':=[(52,_),(0,_),(2,_),(4,_),(5,_)]) O).bool (by rw [hg2]; rfl))
    ·refine au hF O O O O O (ax hg2) ae (fun a hF=>?_)
     refine au hF O O O O O (ax hg2) ae (fun a hF=>?_)
     refine au hF O O O O O (ax hg2) ae (fun a hF=>?_)
     refine vR hF<|vV O (aT hg2 rfl rfl rfl) fun a hF=>?_
     exact hJ2 _ ((hF.keep [52,0,2,4,5] (F':=[(52,_),(0,_),(2,_),(4,_),(5,_)]) O).bool (by rw [hg2]; rfl))
   refine aK<|hK12 _ _ ?_
   have hJ2:∀ (a:Act) (x:World) (nam:List UInt8) (p6 y6:Nat) (A6:Option Addr) (cb6:Nat),gB f.named [] p5 y5 (got (bW · 64) [] raw p5 y5)=⟨nam,p6,y6⟩→nam.length≤raw.length→p6≤raw.length→TkS w0 G A6 cb6 raw p6 y6→Fr 154 [(0,.slice A raw.length c),(2,.pointer (some ⟨b1,0,none⟩)),(4,.pointer (some ⟨b4,0,none⟩)),(5,.pointer (some ⟨b7,0,none⟩))] a→Hp w0 ([row b4 187 [.slice A6 ((aU raw p6 y6).length) cb6,.bool (decide (y6≠0))]]::[row b7 31 ([.int .i64 ((k:Nat):Int),.int .i64 (i64 n),.int .i64 (i64 cl),ak typ,ak cas,ak nam,.int .i64 0,.int .i64 0,ak [],.slice none 0 0,.slice none 0 0,.slice none 0 0]++dc (List.replicate 32 0))]::[row b1 31 noEA.cells]::R) x→K11 a x:=by
    clear hF
    intro a x nam p6 y6 A6 cb6 hgi2 hns2 hp6 hT6 hF hA
    refine hK11 _ _ ?_
    apply wp_seq_k; intro K13 hK13
    refine wS hF fun K14 hK14=>vV O (yf 0 O Lm O gU O)<|vV O (aW O hA.q O 1 O O kF)<|vV O (aG O O O O O)<|vE hK14 fun a hF=>?_
    have hJ3:∀ (a:Act) (x:World) (src:List UInt8) (bA:Option Addr) (bC:Nat) (ZS:Seg) (p7 y7:Nat) (A7:Option Addr) (cb7:Nat),gB f.source [] p6 y6 (got (di · 60000) [] raw p6 y6)=⟨src,p7,y7⟩→Rd w0 [ZS] bA src→src.length≤9223372036854775807→p7≤raw.length→TkS w0 G A7 cb7 raw p7 y7→Fr 154 [(0,.slice A raw.length c),(2,.pointer (some ⟨b1,0,none⟩)),(4,.pointer (some ⟨b4,0,none⟩)),(5,.pointer (some ⟨b7,0,none⟩))] a→Hp w0 (ZS::[row b4 187 [.slice A7 ((aU raw p7 y7).length) cb7,.bool (decide (y7≠0))]]::[row b7 31 ([.int .i64 ((k:Nat):Int),.int .i64 (i64 n),.int .i64 (i64 cl),ak typ,ak cas,ak nam,.int .i64 0,.int .i64 0,ak [],.slice none 0 0,.slice none 0 0,.slice bA src.length bC]++dc (List.replicate 32 0))]::[row b1 31 noEA.cells]::R) x→K13 a x:=by
     clear hF
     intro a x src bA bC ZS p7 y7 A7 cb7 hgi3 hRs hsl hp7 hT7 hF hA
     refine hK13 _ _ ?_
     apply wp_seq_k; intro K15 hK15
     refine wS hF fun K16 hK16=>vV O (yf 0 O Lm O gU O)<|vV O (aW O hA.q O 2 O O kF)<|vV O (aG O O O O O)<|vE hK16 fun a hF=>?_
     have hJ4:∀ (a:Act) (x:World) (vb:VA) (ZV:Seg) (p8 y8:Nat) (A8:Option Addr) (cb8:Nat),gB f.valued noVal p7 y7 (bu raw p7 y7)=⟨vb.v,p8,y8⟩→vb.Ok w0 [ZV]→p8≤raw.length→TkS w0 G A8 cb8 raw p8 y8→Fr 154 [(0,.slice A raw.length c),(2,.pointer (some ⟨b1,0,none⟩)),(4,.pointer (some ⟨b4,0,none⟩)),(5,.pointer (some ⟨b7,0,none⟩))] a→Hp w0 (ZV::ZS::[row b4 187 [.slice A8 ((aU raw p8 y8).length) cb8,.bool (decide (y8≠0))]]::[row b7 31 ([.int .i64 ((k:Nat):Int),.int .i64 (i64 n),.int .i64 (i64 cl),ak typ,ak cas,ak nam,.int .i64 vb.v.k,.int .i64 vb.v.n,ak vb.v.t,.slice vb.sA vb.v.s.length vb.sC,.slice none 0 0,.slice bA src.length bC]++dc (List.replicate 32 0))]::[row b1 31 noEA.cells]::R) x→K15 a x:=by
      clear hF
      intro a x vb ZV p8 y8 A8 cb8 hgi4 hvb hp8 hT8 hF hA
      refine hK15 _ _ ?_
      apply wp_seq_k; intro K17 hK17
      refine wS hF fun K18 hK18=>vV O (yf 0 O Lm O gU O)<|vV O (aW O hA.q O 3 O O kF)<|vV O (aG O O O O O)<|vE hK18 fun a hF=>?_
      have hJ5:∀ (a:Act) (x:World) (vs:List VA) (aA:Option Addr) (aC:Nat) (ZA ZM:Seg) (n1 q1 z1:Nat) (p9 y9:Nat) (A9:Option Addr) (cb9:Nat),gB f.args 0 p8 y8 (got (cO 1) 0 raw p8 y8)=⟨n1,q1,z1⟩→dW raw n1 q1 z1=⟨vs.map VA.v,p9,y9⟩→Rc w0 [ZA] aA (mM vs)→(∀ a∈vs,a.Ok w0 [ZM])→vs.length≤9223372036854775807→p9≤raw.length→TkS w0 G A9 cb9 raw p9 y9→Fr 154 [(0,.slice A raw.length c),(2,.pointer (some ⟨b1,0,none⟩)),(4,.pointer (some ⟨b4,0,none⟩)),(5,.pointer (some ⟨b7,0,none⟩))] a→Hp w0 (ZA::ZM::ZV::ZS::[row b4 187 [.slice A9 ((aU raw p9 y9).length) cb9,.bool (decide (y9≠0))]]::[row b7 31 ([.int .i64 ((k:Nat):Int),.int .i64 (i64 n),.int .i64 (i64 cl),ak typ,ak cas,ak nam,.int .i64 vb.v.k,.int .i64 vb.v.n,ak vb.v.t,.slice vb.sA vb.v.s.length vb.sC,.slice aA vs.length aC,.slice bA src.length bC]++dc (List.replicate 32 0))]::[row b1 31 noEA.cells]::R) x→K17 a x:=by
       clear hF
       intro a x vs aA aC ZA ZM n1 q1 z1 p9 y9 A9 cb9 hgi5 hgv hRv hvs hvl hp9 hT9 hF hA
       have hlt:=left_le raw p9 y9
       obtain ⟨hdw,hdp,hdv⟩:=GL (aU raw p9 y9)
       refine hK17 _ _ ?_
       refine wS hF fun K19 hK19=>vX O<|vX O<|vV O (yf 0 O LQ O dV O)<|vV O (aW O hA.q O 4 O O iQ) fun a hF=>?_
       refine aH O (fun K hK=>aI hF O ae Bi rfl rfl ?_)
       with_reducible refine (xI w0 _ (ZA::ZM::ZV::ZS::[row b4 187 [.slice A9 ((aU raw p9 y9).length) cb9,.bool (decide (y9≠0))]]::[row b7 31 ([.int .i64 ((k:Nat):Int),.int .i64 (i64 n),.int .i64 (i64 cl),ak typ,ak cas,ak nam,.int .i64 vb.v.k,.int .i64 vb.v.n,ak vb.v.t,.slice vb.sA vb.v.s.length vb.sC,.slice aA vs.length aC,.slice bA src.length bC]++dc (List.replicate 32 0))]::[row b1 31 noEA.cells]::R) A9 (aU raw p9 y9) cb9 1 (hT9.1.mono (List.Subset.trans hG (bF (bF (bF (bF (bF (bF (bF (dH)))))))))) hA ag ae).mono ?_
       rintro e' w26 ⟨v9,ZD,rfl,hZ9,hA27⟩
       refine ⟨_,rfl,fun a hF=>hK _ _ ?_⟩
       replace hA27:Hp w0 (ZD::ZA::ZM::ZV::ZS::[row b4 187 [.slice A9 ((aU raw p9 y9).length) cb9,.bool (decide (y9≠0))]]::[row b7 31 ([.int .i64 ((k:Nat):Int),.int .i64 (i64 n),.int .i64 (i64 cl),ak typ,ak cas,ak nam,.int .i64 vb.v.k,.int .i64 vb.v.n,ak vb.v.t,.slice vb.sA vb.v.s.length vb.sC,.slice aA vs.length aC,.slice bA src.length bC]++dc (List.replicate 32 0))]::[row b1 31 noEA.cells]::R) w26:=hA27
       obtain ⟨AD,cD,rfl,_,hRD⟩:=hZ9.rc (w0:=w0) (R:=[ZD]) (La ..)
       rw [hdw,hdp] at hF
       refine vR hF<|vX O<|vV O (aJ (v:= .slice AD (((fQ (aU raw p9 y9) 1).val [] 0).length) cD) rfl rfl rfl)<|vV O (aJ (v:= .int .i64 (((bY (aU raw p9 y9) 32).pl 0 0:Nat):Int)) O O O)<|vV O (aJ (v:= .int .i64 (((bY (aU raw p9 y9) 32).why 0:Nat):Int)) O O O)<|vX O<|vX O<|vX O<|vE hK19<|wQ fun K20 hK20 a hF=>?_
       by_cases hw:(bY (aU raw p9 y9) 32).why 0=0
       ·obtain ⟨hy,hgd⟩:=yG (r:=(bY · 32)) (d:=List.replicate 32 0) ae hw
        subst hy
        have hpl0:(bY (aU raw p9 0) 32).pl 0 0≤(aU raw p9 0).length:=rH fun _ _ h=>yP h
        have hpl:(bY (aU raw p9 0) 32).pl 0 0≤(raw.drop p9).length:=by rw [gJ] at hpl0 ⊢; exact hpl0
        rw [hw] at hF
        rw [hdv hw] at hRD hF
        obtain ⟨dg,hdg⟩:∃ d,d=(bY (aU raw p9 0) 32).val (List.replicate 32 0) 0:=⟨_,rfl⟩
        rw [← hdg] at hRD hF hgd
        have hd32:dg.length=32:=by rw [hdg]; exact rF _ 0
        obtain ⟨p10,hp10e⟩:∃ q,q=p9+(bY (aU raw p9 0) 32).pl 0 0:=⟨_,rfl⟩
        rw [← hp10e] at hgd
        have hp10:p10≤raw.length:=by rw [hp10e]; rw [List.length_drop] at hpl; omega
        refine wp_region_lit ?_
        refine vR hF<|vX O<|vX O<|vX O fun a hF=>?_
        have hA28:Hp w0 ([row b4 187 [.slice A9 ((aU raw p9 0).length) cb9,.bool (decide ((0:Nat)≠0))]]::ZD::ZA::ZM::ZV::ZS::[row b7 31 ([.int .i64 ((k:Nat):Int),.int .i64 (i64 n),.int .i64 (i64 cl),ak typ,ak cas,ak nam,.int .i64 vb.v.k,.int .i64 vb.v.n,ak vb.v.t,.slice vb.sA vb.v.s.length vb.sC,.slice aA vs.length aC,.slice bA src.length bC]++dc (List.replicate 32 0))]::[row b1 31 noEA.cells]::R) w26:=hpO 8 [5,0,1,2,3,4,6,7] hA27 rfl
        refine aH O (fun K hK=>aI hF O ae iZ rfl rfl ?_)
        with_reducible refine (kw b4 _ A9 _ cb9 _ _ hpl0 hT9.2 hA28).mono ?_
        rintro e' w29 ⟨rfl,hA30⟩
        refine ⟨_,rfl,fun a hF=>hK _ _ ?_⟩
        replace hA30:Hp w0 ([row b4 187 [.slice (sub A9 ((bY (aU raw p9 0) 32).pl 0 0) cb9 1) ((aU raw p9 0).length-(bY (aU raw p9 0) 32).pl 0 0) (cb9-(bY (aU raw p9 0) 32).pl 0 0),.bool (decide ((0:Nat)≠0))]]::ZD::ZA::ZM::ZV::ZS::[row b7 31 ([.int .i64 ((k:Nat):Int),.int .i64 (i64 n),.int .i64 (i64 cl),ak typ,ak cas,ak nam,.int .i64 vb.v.k,.int .i64 vb.v.n,ak vb.v.t,.slice vb.sA vb.v.s.length vb.sC,.slice aA vs.length aC,.slice bA src.length bC]++dc (List.replicate 32 0))]::[row b1 31 noEA.cells]::R) w29:=hA30
        refine aK<|hK20 _ _ ?_
        apply wp_seq_k; intro K21 hK21
        apply wp_seq_k; intro K22 hK22
        rw [kz,← hp10e] at hA30
        have hA31:Hp w0 ([row b4 187 [.slice (sub A9 ((bY (aU raw p9 0) 32).pl 0 0) cb9 1) ((aU raw p10 0).length) (cb9-(bY (aU raw p9 0) 32).pl 0 0),.bool false]]::ZD::ZA::ZM::ZV::ZS::[row b7 31 ([.int .i64 ((k:Nat):Int),.int .i64 (i64 n),.int .i64 (i64 cl),ak typ,ak cas,ak nam,.int .i64 vb.v.k,.int .i64 vb.v.n,ak vb.v.t,.slice vb.sA vb.v.s.length vb.sC,.slice aA vs.length aC,.slice bA src.length bC]++dc (List.replicate 32 0))]::[row b1 31 noEA.cells]::R) w29:=hA30
        have hll:(aU raw p10 0).length=raw.length-p10:=by rw [gJ,List.length_drop]
        have hG1:fJ ((k:Nat):Int)→fP raw=⟨⟨((k:Nat):Int),i64 n,i64 cl,typ,cas,nam,vb.v,vs.map VA.v,src,dg⟩,p10,0⟩:=fun hop=>by
         have hf2:dE ((k:Nat):Int)=f:=by rw [hf,zo hop]
         unfold fP
         rw [hg1,bH,hg2,bH,hg3,bH,hf2,hgi0,bH,hgi1,bH,hgi2,bH,hgi3,bH,hgi4,bH,hgi5,bH,hgv,bH,hgd,bH]
        by_cases hpe:p10<raw.length
        ·refine wp_region_lit ?_
         refine vR hF<|vX O<|vX O<|vV O (yf 1 O LQ O jJ O)<|vV O (aW O hA31.q O 0 O O jQ)<|vX O fun a hF=>?_
         refine aB hF O O O O (aj rfl) ae _ (aX O O) (fun a hF=>?_)
         refine aB hF O O O O (aj rfl) ae _ (dC O O) (fun a hF=>?_)
         refine aB hF O O O O (aj rfl) ae _ (yf 0 O LQ O dV O) (fun a hF=>?_)
         refine aB hF O O O O (aj rfl) ae _ (aW O hA31.q O 0 O O iQ) (fun a hF=>?_)
         refine aB hF O O O O (aj rfl) ae _ (aZ O KY O O) (fun a hF=>?_)
         refine aB hF O O O O (aj rfl) ae _ (aG O O O O (fA ag)) (fun a hF=>?_)
         refine vR hF<|vV O (aS O O O O)<|vX O fun a hF=>?_
         refine au hF O O O O O (ax rfl) ae (fun a hF=>?_)
         refine au hF O O O O O (ax rfl) ae (fun a hF=>?_)
         refine au hF O O O O O (ax rfl) ae (fun a hF=>?_)
         refine vR hF<|vV O (aT O O O O)<|vE hK22 fun a hF=>?_
         refine aF hF O O ?_
         refine wS hF fun K23 hK23=>vV O (dS O kK) fun a hF=>?_
         refine aH O (fun K hK=>bg (new:=noEA.cells) hF O O hA31 O O 7 O O (fun v hv=>gp (e:=noEA) hv) gZ (fun w32 hA33=>hK _ _ ?_))
         replace hA33:Hp w0 ([row b4 187 [.slice (sub A9 ((bY (aU raw p9 0) 32).pl 0 0) cb9 1) ((aU raw p10 0).length) (cb9-(bY (aU raw p9 0) 32).pl 0 0),.bool false]]::ZD::ZA::ZM::ZV::ZS::[row b7 31 ([.int .i64 ((k:Nat):Int),.int .i64 (i64 n),.int .i64 (i64 cl),ak typ,ak cas,ak nam,.int .i64 vb.v.k,.int .i64 vb.v.n,ak vb.v.t,.slice vb.sA vb.v.s.length vb.sC,.slice aA vs.length aC,.slice bA src.length bC]++dc (List.replicate 32 0))]::[row b1 31 noEA.cells]::R) w32:=hA33
         refine vR hF<|vX O<|vE hK23 fun a hF=>?_
         apply wp_ret
         have hno:¬ ik raw:=fun hd=>by
          have hq:=hG1 (uw hg1 ▸ hd.2.1)
          have h4:=hd.2.2.2.1
          rw [hq] at h4
          have h5:p10=raw.length:=h4
          omega
         simp only [Exit.then]
         refine dU hF Tryz.results71 hA33.q O O 7 O lM ?_
         have hA34:Hp w0 (R) w32:=hpS 8 [] [0,1,2,3,4,5,6,7] hA33 rfl
         exact ⟨noEA,[],by rw [show lS raw=8 from if_neg hno]; rfl,by rw [show mr raw=vP from if_neg hno]; rfl,jR,by show (0:Nat)≤_; omega,Hp.nil hA34⟩
        ·refine wp_region_lit ?_
         refine vR hF<|vX O<|vX O<|vV O (yf 1 O LQ O jJ O)<|vV O (aW O hA31.q O 0 O O jQ)<|vX O fun a hF=>?_
         refine aB hF O O O O (aj rfl) ae _ (aX O O) (fun a hF=>?_)
         refine aB hF O O O O (aj rfl) ae _ (dC O O) (fun a hF=>?_)
         refine aB hF O O O O (aj rfl) ae _ (yf 0 O LQ O dV O) (fun a hF=>?_)
         refine aB hF O O O O (aj rfl) ae _ (aW O hA31.q O 0 O O iQ) (fun a hF=>?_)
         refine aB hF O O O O (aj rfl) ae _ (aZ O KY O O) (fun a hF=>?_)
         refine aB hF O O O O (aj rfl) ae _ (aG O O O O (fC ag)) (fun a hF=>?_)
         refine vR hF<|vV O (aS O O O O)<|vX O fun a hF=>?_
         refine aB hF O O O O (aj rfl) ae _ (aX O O) (fun a hF=>?_)
         refine aB hF O O O O (aj rfl) ae _ (aZ O LD O O) (fun a hF=>?_)
         refine aB hF O O O O (aj rfl) ae _ (aG O O O O (eP rfl)) (fun a hF=>?_)
         refine vR hF<|vV O (aS O O O O)<|vE hK22 fun a hF=>?_
         refine ay hF O O ?_
         obtain rfl:p10=raw.length:=by omega
         obtain ⟨bD,oD,hAD,hcD⟩:=hRD.ne (i:=0) (by simp [oz,dc,hd32] <;> omega)
         have hFn:=hF
         subst hAD
         have hF:=hFn
         clear hFn
         apply wp_skip
         refine hK21 _ _ ?_
         refine wS hF fun K24 hK24=>vX O<|vV O (bT O LD yK O O 0 O (Nat.succ_pos _) rfl)<|vV O (iG (new:=dc dg) rfl (Hq.sub hA31.q (List.cons_subset.2 ⟨(Lc _ ((La ..))),List.nil_subset _⟩)) O hcD (0*32) (by rw [wU (fun d hd=>by rw [List.mem_singleton.1 hd]; exact hd32)]; exact KZ _) rfl (by simp [oz]; exact Lj (by rw [aP,hd32]; exact KZ _)) FC) fun a hF=>?_
         refine vR hF<|vV O (yf 12 rfl Lm O yK O) fun a hF=>?_
         refine aH O (fun K hK=>jl (new:=dc dg) hF O O hA31 O O 6 O (by rw [List.length_append,aP,aP,hd32]; exact Nat.le_of_ble_eq_true rfl) (kM _) (by rw [aP,hd32]; exact yK) (fun w35 hA36=>hK _ _ ?_))
         replace hA36:Hp w0 ([row b4 187 [.slice (sub A9 ((bY (aU raw p9 0) 32).pl 0 0) cb9 1) ((aU raw raw.length 0).length) (cb9-(bY (aU raw p9 0) 32).pl 0 0),.bool false]]::ZD::ZA::ZM::ZV::ZS::[row b7 31 (splice ([.int .i64 ((k:Nat):Int),.int .i64 (i64 n),.int .i64 (i64 cl),ak typ,ak cas,ak nam,.int .i64 vb.v.k,.int .i64 vb.v.n,ak vb.v.t,.slice vb.sA vb.v.s.length vb.sC,.slice aA vs.length aC,.slice bA src.length bC]++dc (List.replicate 32 0)) 12 (dc dg))]::[row b1 31 noEA.cells]::R) w35:=hA36
         have hA37:Hp w0 ([row b4 187 [.slice (sub A9 ((bY (aU raw p9 0) 32).pl 0 0) cb9 1) ((aU raw raw.length 0).length) (cb9-(bY (aU raw p9 0) 32).pl 0 0),.bool false]]::ZD::ZA::ZM::ZV::ZS::[row b7 31 ([.int .i64 ((k:Nat):Int),.int .i64 (i64 n),.int .i64 (i64 cl),ak typ,ak cas,ak nam,.int .i64 vb.v.k,.int .i64 vb.v.n,ak vb.v.t,.slice vb.sA vb.v.s.length vb.sC,.slice aA vs.length aC,.slice bA src.length bC]++dc dg)]::[row b1 31 noEA.cells]::R) w35:=(by have h9:=hA36; rw [o5 (n:=12) (s:=[.int .i64 ((k:Nat):Int),.int .i64 (i64 n),.int .i64 (i64 cl),ak typ,ak cas,ak nam,.int .i64 vb.v.k,.int .i64 vb.v.n,ak vb.v.t,.slice vb.sA vb.v.s.length vb.sC,.slice aA vs.length aC,.slice bA src.length bC]) rfl (by rw [aP,aP,hd32]; rfl)] at h9; exact h9)
         refine aK<|hK24 _ _ ?_
         apply wp_seq_k; intro K25 hK25
         obtain ⟨ea,hea⟩:∃ e:EA,e=⟨((k:Nat):Int),i64 n,i64 cl,typ,cas,nam,vb,vs,aA,aC,src,bA,bC,dg⟩:=⟨_,rfl⟩
         have hA38:Hp w0 ([row b4 187 [.slice (sub A9 ((bY (aU raw p9 0) 32).pl 0 0) cb9 1) ((aU raw raw.length 0).length) (cb9-(bY (aU raw p9 0) 32).pl 0 0),.bool false]]::ZD::ZA::ZM::ZV::ZS::[row b7 31 ([.int .i64 ea.op,.int .i64 ea.num,.int .i64 ea.clk,ak ea.typ,ak ea.cas,ak ea.nam,.int .i64 ea.v.v.k,.int .i64 ea.v.v.n,ak ea.v.v.t,.slice ea.v.sA ea.v.v.s.length ea.v.sC,.slice ea.aA ea.args.length ea.aC,.slice ea.bA ea.src.length ea.bC]++dc ea.eff)]::[row b1 31 noEA.cells]::R) w35:=(by rw [hea]; exact hA37)
         have hG0:fJ ((k:Nat):Int)→fP raw=⟨ea.ev,raw.length,0⟩:=fun hop=>by rw [hG1 hop,hea]; rfl
         have hEo:ea.Ok w0 [ZS++(ZV++(ZA++ZM))]:=by
          rw [hea]
          exact wO hk hn hcl hvb hvs hRv hvl hRs hsl hd32
         have hca:ea.cas.length≤raw.length:=by rw [hea]; exact hns0
         have hA39:Hp w0 (ZS::ZV::ZA::ZM::[row b4 187 [.slice (sub A9 ((bY (aU raw p9 0) 32).pl 0 0) cb9 1) ((aU raw raw.length 0).length) (cb9-(bY (aU raw p9 0) 32).pl 0 0),.bool false]]::ZD::[row b7 31 ([.int .i64 ea.op,.int .i64 ea.num,.int .i64 ea.clk,ak ea.typ,ak ea.cas,ak ea.nam,.int .i64 ea.v.v.k,.int .i64 ea.v.v.n,ak ea.v.v.t,.slice ea.v.sA ea.v.v.s.length ea.v.sC,.slice ea.aA ea.args.length ea.aC,.slice ea.bA ea.src.length ea.bC]++dc ea.eff)]::[row b1 31 noEA.cells]::R) w35:=hpO 8 [5,4,2,3,0,1,6,7] hA38 rfl
         have hA40:Hp w0 ((ZS++(ZV++(ZA++ZM)))::[row b4 187 [.slice (sub A9 ((bY (aU raw p9 0) 32).pl 0 0) cb9 1) ((aU raw raw.length 0).length) (cb9-(bY (aU raw p9 0) 32).pl 0 0),.bool false]]::ZD::[row b7 31 ([.int .i64 ea.op,.int .i64 ea.num,.int .i64 ea.clk,ak ea.typ,ak ea.cas,ak ea.nam,.int .i64 ea.v.v.k,.int .i64 ea.v.v.n,ak ea.v.v.t,.slice ea.v.sA ea.v.v.s.length ea.v.sC,.slice ea.aA ea.args.length ea.aC,.slice ea.bA ea.src.length ea.bC]++dc ea.eff)]::[row b1 31 noEA.cells]::R) w35:=Hp.cast hA39 (by simp [List.append_assoc])
         obtain ⟨ZZ,hZZ⟩:∃ Z,Z=ZS++(ZV++(ZA++ZM)):=⟨_,rfl⟩
         rw [← hZZ] at hEo hA40
         have he32:ea.eff.length=32:=hEo.i.2.2.2.2.2
         refine wp_region_lit ?_
         refine vR hF<|vV O (dm (new:=[.int .i64 ea.op,.int .i64 ea.num,.int .i64 ea.clk,ak ea.typ,ak ea.cas,ak ea.nam,.int .i64 ea.v.v.k,.int .i64 ea.v.v.n,ak ea.v.v.t,.slice ea.v.sA ea.v.v.s.length ea.v.sC,.slice ea.aA ea.args.length ea.aC,.slice ea.bA ea.src.length ea.bC]++dc ea.eff) rfl hA40.q O 3 O FB (by rw [List.length_append,aP,he32]; exact Nat.le_of_ble_eq_true rfl) (by rw [List.drop_zero]; exact Lj (by rw [List.length_append,aP,he32]; exact Nat.le_of_ble_eq_true rfl))) fun a hF=>?_
         refine aH O (fun K hK=>aI hF O ae Ed rfl rfl ?_)
         with_reducible refine (Af ea _ hTR hEo ag (List.cons_subset.2 ⟨((La ..)),List.nil_subset _⟩) hA40).mono ?_
         rintro e' w41 ⟨qvE0,ZE,rfl,hZE,hA42⟩
         refine ⟨_,rfl,fun a hF=>hK _ _ ?_⟩
         replace hA42:Hp w0 (ZE::ZZ::[row b4 187 [.slice (sub A9 ((bY (aU raw p9 0) 32).pl 0 0) cb9 1) ((aU raw raw.length 0).length) (cb9-(bY (aU raw p9 0) 32).pl 0 0),.bool false]]::ZD::[row b7 31 ([.int .i64 ea.op,.int .i64 ea.num,.int .i64 ea.clk,ak ea.typ,ak ea.cas,ak ea.nam,.int .i64 ea.v.v.k,.int .i64 ea.v.v.n,ak ea.v.v.t,.slice ea.v.sA ea.v.v.s.length ea.v.sC,.slice ea.aA ea.args.length ea.aC,.slice ea.bA ea.src.length ea.bC]++dc ea.eff)]::[row b1 31 noEA.cells]::R) w41:=hA42
         obtain ⟨_,AE,cE,rfl,_,hRE⟩:=hZE.rd (w0:=w0) (R:=[ZE]) (La ..)
         refine vR hF<|vX O<|vV O (aJ (v:= .slice AE ((fD ea.ev).length) cE) rfl rfl rfl)<|vV O (aJ (v:= .int .i64 ((dX ea.ev:Nat):Int)) O O O)<|vX O<|vX O<|vE hK25<|wQ fun K26 hK26=>wT fun K27 hK27=>vX O<|vV O (aG O O O O O)<|vX O fun a hF=>?_
         refine aY (l2:=?lA3) hF [(151,.bool ((az .neq (((dX ea.ev:Nat):Int)) (0)) || (bf .neq (fD ea.ev) raw))),(0,.slice A raw.length c),(2,.pointer (some ⟨b1,0,none⟩)),(4,.pointer (some ⟨b4,0,none⟩)),(5,.pointer (some ⟨b7,0,none⟩)),(139,.agg ([.int .i64 ea.op,.int .i64 ea.num,.int .i64 ea.clk,ak ea.typ,ak ea.cas,ak ea.nam,.int .i64 ea.v.v.k,.int .i64 ea.v.v.n,ak ea.v.v.t,.slice ea.v.sA ea.v.v.s.length ea.v.sC,.slice ea.aA ea.args.length ea.aC,.slice ea.bA ea.src.length ea.bC]++dc ea.eff).toArray),(140,.tuple #[.slice AE ((fD ea.ev).length) cE,.int .i64 ((dX ea.ev:Nat):Int)]),(138,.tuple #[.slice AE ((fD ea.ev).length) cE,.int .i64 ((dX ea.ev:Nat):Int)]),(141,.slice AE ((fD ea.ev).length) cE),(142,.int .i64 ((dX ea.ev:Nat):Int))] (fun hJ3=>?elA3) (fun a hF=>?flA3)
         case elA3 =>
          rcases tf (az .neq (((dX ea.ev:Nat):Int)) (0)) with hg3 | hg3
          ·refine aB hF O O O O (aj hg3) ae _ (aX O O) (fun a hF=>?_)
           refine aB hF O O O O (aj hg3) ae _ (iW O KY Lt Le O O (Rc.bts hRE (Hq.sub hA42.q (List.cons_subset.2 ⟨((La ..)),List.nil_subset _⟩)))) (fun a hF=>?_)
           refine aB hF O O O O (aj hg3) ae _ (aX O O) (fun a hF=>?_)
           refine aB hF O O O O (aj hg3) ae _ (iW O KY Lt Le O O (Rc.bts (hR.mono (List.Subset.trans hG (bF (bF (bF (bF (bF (bF (dH))))))))) hA42.q)) (fun a hF=>?_)
           refine aB hF O O O O (aj hg3) ae _ (dR O O O O O) (fun a hF=>?_)
           refine vR hF<|vV O (aS hg3 rfl rfl rfl) fun a hF=>?_
           exact hJ3 _ ((hF.keep [151,0,2,4,5,139,140,138,141,142] (F':=[(151,_),(0,_),(2,_),(4,_),(5,_),(139,_),(140,_),(138,_),(141,_),(142,_)]) O).bool (by rw [hg3]; rfl))
          ·refine au hF O O O O O (ax hg3) ae (fun a hF=>?_)
           refine au hF O O O O O (ax hg3) ae (fun a hF=>?_)
           refine au hF O O O O O (ax hg3) ae (fun a hF=>?_)
           refine au hF O O O O O (ax hg3) ae (fun a hF=>?_)
           refine au hF O O O O O (ax hg3) ae (fun a hF=>?_)
           refine vR hF<|vV O (aT hg3 rfl rfl rfl) fun a hF=>?_
           exact hJ3 _ ((hF.keep [151,0,2,4,5,139,140,138,141,142] (F':=[(151,_),(0,_),(2,_),(4,_),(5,_),(139,_),(140,_),(138,_),(141,_),(142,_)]) O).bool (by rw [hg3]; rfl))
         refine aK<|hK27 _ _ ?_
         rcases tf ((az .neq (((dX ea.ev:Nat):Int)) (0)) || (bf .neq (fD ea.ev) raw)) with h8 | h8
         ·refine ay hF O h8 ?_
          obtain ⟨he0,heb⟩:=Bc h8
          have hop:fJ ((k:Nat):Int):=by have:=(Ev.rt he0).1.op; rw [hea] at this; exact this
          apply wp_skip
          refine hK26 _ _ ?_
          refine wS hF fun K28 hK28=>vV O (dm (new:=[.int .i64 ea.op,.int .i64 ea.num,.int .i64 ea.clk,ak ea.typ,ak ea.cas,ak ea.nam,.int .i64 ea.v.v.k,.int .i64 ea.v.v.n,ak ea.v.v.t,.slice ea.v.sA ea.v.v.s.length ea.v.sC,.slice ea.aA ea.args.length ea.aC,.slice ea.bA ea.src.length ea.bC]++dc ea.eff) rfl hA42.q O 4 O FB (by rw [List.length_append,aP,he32]; exact Nat.le_of_ble_eq_true rfl) (by rw [List.drop_zero]; exact Lj (by rw [List.length_append,aP,he32]; exact Nat.le_of_ble_eq_true rfl))) fun a hF=>?_
          refine aH O (fun K hK=>bg (new:=[.int .i64 ea.op,.int .i64 ea.num,.int .i64 ea.clk,ak ea.typ,ak ea.cas,ak ea.nam,.int .i64 ea.v.v.k,.int .i64 ea.v.v.n,ak ea.v.v.t,.slice ea.v.sA ea.v.v.s.length ea.v.sC,.slice ea.aA ea.args.length ea.aC,.slice ea.bA ea.src.length ea.bC]++dc ea.eff) hF O O hA42 O O 5 O (by rw [List.length_append,aP,he32]; rfl) (fun v hv=>gp (e:=ea) hv) gZ (fun w43 hA44=>hK _ _ ?_))
          replace hA44:Hp w0 (ZE::ZZ::[row b4 187 [.slice (sub A9 ((bY (aU raw p9 0) 32).pl 0 0) cb9 1) ((aU raw raw.length 0).length) (cb9-(bY (aU raw p9 0) 32).pl 0 0),.bool false]]::ZD::[row b7 31 ([.int .i64 ea.op,.int .i64 ea.num,.int .i64 ea.clk,ak ea.typ,ak ea.cas,ak ea.nam,.int .i64 ea.v.v.k,.int .i64 ea.v.v.n,ak ea.v.v.t,.slice ea.v.sA ea.v.v.s.length ea.v.sC,.slice ea.aA ea.args.length ea.aC,.slice ea.bA ea.src.length ea.bC]++dc ea.eff)]::[row b1 31 ([.int .i64 ea.op,.int .i64 ea.num,.int .i64 ea.clk,ak ea.typ,ak ea.cas,ak ea.nam,.int .i64 ea.v.v.k,.int .i64 ea.v.v.n,ak ea.v.v.t,.slice ea.v.sA ea.v.v.s.length ea.v.sC,.slice ea.aA ea.args.length ea.aC,.slice ea.bA ea.src.length ea.bC]++dc ea.eff)]::R) w43:=hA44
          refine vR hF<|vX O<|vE hK28 fun a hF=>?_
          apply wp_ret
          refine dU hF Tryz.results71 hA44.q O O 5 O (by rw [List.length_append,aP,he32]; exact FB) ?_
          have hA45:Hp w0 (ZZ::R) w43:=hpS 6 [1] [0,2,3,4,5] hA44 rfl
          have hok:ik raw:=Eb (by rw [← heb]; exact zy he0) hop (hG0 hop) rfl he0 heb
          exact ⟨ea,ZZ,by rw [show lS raw=0 from if_pos hok]; rfl,by rw [show mr raw=(fP raw).v from if_pos hok,hG0 hop],hEo,hca,hA45⟩
         ·refine aF hF O h8 ?_
          refine wS hF fun K29 hK29=>vV O (dS O kK) fun a hF=>?_
          refine aH O (fun K hK=>bg (new:=noEA.cells) hF O O hA42 O O 5 O O (fun v hv=>gp (e:=noEA) hv) gZ (fun w46 hA47=>hK _ _ ?_))
          replace hA47:Hp w0 (ZE::ZZ::[row b4 187 [.slice (sub A9 ((bY (aU raw p9 0) 32).pl 0 0) cb9 1) ((aU raw raw.length 0).length) (cb9-(bY (aU raw p9 0) 32).pl 0 0),.bool false]]::ZD::[row b7 31 ([.int .i64 ea.op,.int .i64 ea.num,.int .i64 ea.clk,ak ea.typ,ak ea.cas,ak ea.nam,.int .i64 ea.v.v.k,.int .i64 ea.v.v.n,ak ea.v.v.t,.slice ea.v.sA ea.v.v.s.length ea.v.sC,.slice ea.aA ea.args.length ea.aC,.slice ea.bA ea.src.length ea.bC]++dc ea.eff)]::[row b1 31 noEA.cells]::R) w46:=hA47
          refine vR hF<|vX O<|vE hK29 fun a hF=>?_
          apply wp_ret
          have hno:¬ ik raw:=fun hd=>GH (hG0 (uw hg1 ▸ hd.2.1)) h8 hd
          simp only [Exit.then]
          refine dU hF Tryz.results71 hA47.q O O 5 O lM ?_
          have hA48:Hp w0 (R) w46:=hpS 6 [] [0,1,2,3,4,5] hA47 rfl
          exact ⟨noEA,[],by rw [show lS raw=8 from if_neg hno]; rfl,by rw [show mr raw=vP from if_neg hno]; rfl,jR,by show (0:Nat)≤_; omega,Hp.nil hA48⟩
       ·obtain ⟨y10,hy10,hgd⟩:=yH (r:=(bY · 32)) (d:=List.replicate 32 0) ae hw
        have hG1:fJ ((k:Nat):Int)→(fP raw).y=y10:=fun hop=>by
         have hf2:dE ((k:Nat):Int)=f:=by rw [hf,zo hop]
         unfold fP
         rw [hg1,bH,hg2,bH,hg3,bH,hf2,hgi0,bH,hgi1,bH,hgi2,bH,hgi3,bH,hgi4,bH,hgi5,bH,hgv,bH,hgd,bH]
        refine wp_region_lit ?_
        refine vR hF<|vX O<|vX O<|vX O fun a hF=>?_
        have hA49:Hp w0 ([row b4 187 [.slice A9 ((aU raw p9 y9).length) cb9,.bool (decide (y9≠0))]]::ZD::ZA::ZM::ZV::ZS::[row b7 31 ([.int .i64 ((k:Nat):Int),.int .i64 (i64 n),.int .i64 (i64 cl),ak typ,ak cas,ak nam,.int .i64 vb.v.k,.int .i64 vb.v.n,ak vb.v.t,.slice vb.sA vb.v.s.length vb.sC,.slice aA vs.length aC,.slice bA src.length bC]++dc (List.replicate 32 0))]::[row b1 31 noEA.cells]::R) w26:=hpO 8 [5,0,1,2,3,4,6,7] hA27 rfl
        refine aH O (fun K hK=>aI hF O ae iZ rfl rfl ?_)
        with_reducible refine (jy b4 _ _ _ _ _ ag hA49).mono ?_
        rintro e' w50 ⟨rfl,hA51⟩
        refine ⟨_,rfl,fun a hF=>hK _ _ ?_⟩
        replace hA51:Hp w0 ([row b4 187 [.slice none 0 0,.bool true]]::ZD::ZA::ZM::ZV::ZS::[row b7 31 ([.int .i64 ((k:Nat):Int),.int .i64 (i64 n),.int .i64 (i64 cl),ak typ,ak cas,ak nam,.int .i64 vb.v.k,.int .i64 vb.v.n,ak vb.v.t,.slice vb.sA vb.v.s.length vb.sC,.slice aA vs.length aC,.slice bA src.length bC]++dc (List.replicate 32 0))]::[row b1 31 noEA.cells]::R) w50:=hA51
        refine aK<|hK20 _ _ ?_
        apply wp_seq_k; intro K30 hK30
        refine wS hF fun K31 hK31=>vX O<|vX O<|vV O (yf 1 O LQ O jJ O)<|vV O (aW O hA51.q O 0 O O jQ)<|vX O fun a hF=>?_
        refine au hF O O O O O (ax rfl) ae (fun a hF=>?_)
        refine au hF O O O O O (ax rfl) ae (fun a hF=>?_)
        refine au hF O O O O O (ax rfl) ae (fun a hF=>?_)
        refine au hF O O O O O (ax rfl) ae (fun a hF=>?_)
        refine au hF O O O O O (ax rfl) ae (fun a hF=>?_)
        refine au hF O O O O O (ax rfl) ae (fun a hF=>?_)
        refine vR hF<|vV O (aT O O O O)<|vX O fun a hF=>?_
        refine au hF O O O O O (ax rfl) ae (fun a hF=>?_)
        refine au hF O O O O O (ax rfl) ae (fun a hF=>?_)
        refine au hF O O O O O (ax rfl) ae (fun a hF=>?_)
        refine vR hF<|vV O (aT O O O O)<|vE hK31 fun a hF=>?_
        refine aF hF O O ?_
        refine wS hF fun K32 hK32=>vV O (dS O kK) fun a hF=>?_
        refine aH O (fun K hK=>bg (new:=noEA.cells) hF O O hA51 O O 7 O O (fun v hv=>gp (e:=noEA) hv) gZ (fun w52 hA53=>hK _ _ ?_))
        replace hA53:Hp w0 ([row b4 187 [.slice none 0 0,.bool true]]::ZD::ZA::ZM::ZV::ZS::[row b7 31 ([.int .i64 ((k:Nat):Int),.int .i64 (i64 n),.int .i64 (i64 cl),ak typ,ak cas,ak nam,.int .i64 vb.v.k,.int .i64 vb.v.n,ak vb.v.t,.slice vb.sA vb.v.s.length vb.sC,.slice aA vs.length aC,.slice bA src.length bC]++dc (List.replicate 32 0))]::[row b1 31 noEA.cells]::R) w52:=hA53
        refine vR hF<|vX O<|vE hK32 fun a hF=>?_
        apply wp_ret
        have hno:¬ ik raw:=fun hd=>by
         have h3:=hd.2.2.1
         rw [hG1 (uw hg1 ▸ hd.2.1)] at h3
         exact hy10 h3
        simp only [Exit.then]
        refine dU hF Tryz.results71 hA53.q O O 7 O lM ?_
        have hA54:Hp w0 (R) w52:=hpS 8 [] [0,1,2,3,4,5,6,7] hA53 rfl
        exact ⟨noEA,[],by rw [show lS raw=8 from if_neg hno]; rfl,by rw [show mr raw=vP from if_neg hno]; rfl,jR,by show (0:Nat)≤_; omega,Hp.nil hA54⟩
      rcases tf f.args with hb | hb
      ·refine ay hF O (by rw [hf] at hb; exact hb) ?_
       apply wp_skip
       exact hJ5 _ _ [] none 0 [] [] 0 p8 y8 p8 y8 A8 cb8 (by rw [hb]; rfl) rfl Rc.nil (fun _ h=>absurd h (List.not_mem_nil)) (KW _) hp8 hT8 (hF.keep [0,2,4,5] rfl) (Hp.nil (Hp.nil hA))
      ·refine aF hF O (by rw [hf] at hb; exact hb) ?_
       refine wS hF fun K33 hK33=>vX O fun a hF=>?_
       have hA55:Hp w0 ([row b4 187 [.slice A8 ((aU raw p8 y8).length) cb8,.bool (decide (y8≠0))]]::ZV::ZS::[row b7 31 ([.int .i64 ((k:Nat):Int),.int .i64 (i64 n),.int .i64 (i64 cl),ak typ,ak cas,ak nam,.int .i64 vb.v.k,.int .i64 vb.v.n,ak vb.v.t,.slice vb.sA vb.v.s.length vb.sC,.slice none 0 0,.slice bA src.length bC]++dc (List.replicate 32 0))]::[row b1 31 noEA.cells]::R) x:=hpO 5 [2,0,1,3,4] hA rfl
       refine aH O (fun K hK=>aI hF O ae lm rfl rfl ?_)
       with_reducible refine (kU b4 A8 cb8 raw p8 y8 _ hT8 (List.Subset.trans hG (bF (bF (bF (bF (dH)))))) hp8 hl hA55 1 1 O ae ae).mono ?_
       rintro e' w56 ⟨n1,q1,z1,Aq,cq,rfl,hgn,hq1,hn1,hTq,hA57⟩
       refine ⟨_,rfl,fun a hF=>hK _ _ ?_⟩
       replace hA57:Hp w0 ([row b4 187 [.slice Aq ((aU raw q1 z1).length) cq,.bool (decide (z1≠0))]]::ZV::ZS::[row b7 31 ([.int .i64 ((k:Nat):Int),.int .i64 (i64 n),.int .i64 (i64 cl),ak typ,ak cas,ak nam,.int .i64 vb.v.k,.int .i64 vb.v.n,ak vb.v.t,.slice vb.sA vb.v.s.length vb.sC,.slice none 0 0,.slice bA src.length bC]++dc (List.replicate 32 0))]::[row b1 31 noEA.cells]::R) w56:=hA57
       replace hn1:n1<256:=hn1
       rw [rM hn1] at hF
       refine vR hF<|vX O<|vE hK33<|wBk fun a hF=>?_
       refine bM (G:=Nat) (fun m a x=>∃ (ws:List VA) (vA:Value) (ZA:Seg) (ZM:Seg) (p:Nat) (y:Nat) (Al:Option Addr) (ql:Nat),dW raw n1 q1 z1=⟨ws.map VA.v++(dW raw m p y).v,(dW raw m p y).p,(dW raw m p y).y⟩∧Buf 25 4 ZA vA ws.length (mM ws)∧(∀ a∈ws,a.Ok w0 [ZM])∧p≤raw.length∧ws.length+m≤255∧TkS w0 G Al ql raw p y∧Fr 154 [(9,.int .i64 ((m:Nat):Int)),(0,.slice A raw.length c),(2,.pointer (some ⟨b1,0,none⟩)),(4,.pointer (some ⟨b4,0,none⟩)),(5,.pointer (some ⟨b7,0,none⟩))] a∧Hp w0 (ZA::ZM::[row b4 187 [.slice Al ((aU raw p y).length) ql,.bool (decide (y≠0))]]::ZV::ZS::[row b7 31 ([.int .i64 ((k:Nat):Int),.int .i64 (i64 n),.int .i64 (i64 cl),ak typ,ak cas,ak nam,.int .i64 vb.v.k,.int .i64 vb.v.n,ak vb.v.t,.slice vb.sA vb.v.s.length vb.sC,vA,.slice bA src.length bC]++dc (List.replicate 32 0))]::[row b1 31 noEA.cells]::R) x) (fun m=>m) n1 (⟨[],_,[],[],q1,z1,Aq,cq,rfl,(Buf.nil _ _),(fun _ h=>absurd h (List.not_mem_nil)),hq1,(by show 0+n1≤255; omega),hTq,hF.keep [9,0,2,4,5] rfl,(Hp.nil (Hp.nil hA57))⟩) ?_
       clear hF
       rintro m a w59 ⟨ws,vA,ZA,ZM,p,y,Al,ql,hgv,hZ,has,hpm,hcm,hTl,hF,hA58⟩
       by_cases hm:0<m
       ·apply wp_seq_k; intro K34 hK34
        refine wS hF fun K35 hK35=>vX O<|vV O (aG O O O O ((fA ag)))<|vX O fun a hF=>?_
        refine aB hF O O O O (aj rfl) ae _ (aX O O) (fun a hF=>?_)
        refine aB hF O O O O (aj rfl) ae _ (dC O O) (fun a hF=>?_)
        refine aB hF O O O O (aj rfl) ae _ (yf 1 O LQ O jJ O) (fun a hF=>?_)
        refine aB hF O O O O (aj rfl) ae _ (aW O hA58.q O 2 O O jQ) (fun a hF=>?_)
        refine aB hF O O O O (aj rfl) ae _ (dJ O O O) (fun a hF=>?_)
        refine vR hF<|vV O (aT O O O O)<|vE hK35 fun a hF=>?_
        by_cases hy:y=0
        ·refine aF hF O (by simp [hy]) ?_
         subst hy
         obtain ⟨m,rfl⟩:∃ j,m=j+1:=⟨m-1,ag⟩
         apply wp_skip
         refine hK34 _ _ ?_
         apply wp_seq_k; intro K36 hK36
         apply wp_block
         refine bJ 7 [3,4,5,7] [0,1,2,3,4,5,6,7] (fun x=>Hq w0 ([row b7 31 ([.int .i64 ((k:Nat):Int),.int .i64 (i64 n),.int .i64 (i64 cl),ak typ,ak cas,ak nam,.int .i64 vb.v.k,.int .i64 vb.v.n,ak vb.v.t,.slice vb.sA vb.v.s.length vb.sC,vA,.slice bA src.length bC]++dc (List.replicate 32 0))]::R) x) af af (Hq.drew (Hp.qp [ZA,ZM,[row b4 187 [.slice Al ((aU raw p 0).length) ql,.bool (decide ((0:Nat)≠0))]],ZV,ZS,[row b7 31 ([.int .i64 ((k:Nat):Int),.int .i64 (i64 n),.int .i64 (i64 cl),ak typ,ak cas,ak nam,.int .i64 vb.v.k,.int .i64 vb.v.n,ak vb.v.t,.slice vb.sA vb.v.s.length vb.sC,vA,.slice bA src.length bC]++dc (List.replicate 32 0))],[row b1 31 noEA.cells]] R [5] hA58)) ?_
         have hA60:=Hl.drew hA58
         refine pR hF<|pW O O (fun _=>yf 10 rfl Lm O tu O)<|pV O O (fun x hx=>aW O hx O 0 O O ug)<|pX O O fun a hF=>?_
         have hA61:Hp w0 ([row b4 187 [.slice Al ((aU raw p 0).length) ql,.bool (decide ((0:Nat)≠0))]]::ZA::ZM::ZV::ZS::[row b7 31 ([.int .i64 ((k:Nat):Int),.int .i64 (i64 n),.int .i64 (i64 cl),ak typ,ak cas,ak nam,.int .i64 vb.v.k,.int .i64 vb.v.n,ak vb.v.t,.slice vb.sA vb.v.s.length vb.sC,vA,.slice bA src.length bC]++dc (List.replicate 32 0))]::[row b1 31 noEA.cells]::R) w59.drew:=hpO 7 [2,0,1,3,4,5,6] hA60 rfl
         refine iq O O O (fun K hK=>aI hF O ae su rfl rfl ?_)
         with_reducible refine (uQ b4 Al ql raw p 0 _ hTl (List.Subset.trans hG (bF (bF (bF (bF (bF (bF (dH)))))))) hpm hl hA61).mono ?_
         rintro e' w62 ⟨va,Zt,pt,yt,At,ct,rfl,hgt,hvo,hpt,hTt,hA63⟩
         refine ⟨_,rfl,fun a hF=>hK _ _ (fun _=>?_) ?_⟩
         ·exact Hp.qp [Zt,[row b4 187 [.slice At ((aU raw pt yt).length) ct,.bool (decide (yt≠0))]],ZA,ZM,ZV,ZS,[row b7 31 ([.int .i64 ((k:Nat):Int),.int .i64 (i64 n),.int .i64 (i64 cl),ak typ,ak cas,ak nam,.int .i64 vb.v.k,.int .i64 vb.v.n,ak vb.v.t,.slice vb.sA vb.v.s.length vb.sC,vA,.slice bA src.length bC]++dc (List.replicate 32 0))],[row b1 31 noEA.cells]] R [6] hA63
         replace hA63:Hp w0 (Zt::[row b4 187 [.slice At ((aU raw pt yt).length) ct,.bool (decide (yt≠0))]]::ZA::ZM::ZV::ZS::[row b7 31 ([.int .i64 ((k:Nat):Int),.int .i64 (i64 n),.int .i64 (i64 cl),ak typ,ak cas,ak nam,.int .i64 vb.v.k,.int .i64 vb.v.n,ak vb.v.t,.slice vb.sA vb.v.s.length vb.sC,vA,.slice bA src.length bC]++dc (List.replicate 32 0))]::[row b1 31 noEA.cells]::R) w62:=hA63
         refine iq O O O (fun K hK=>rO (qs := #[(0,.agg va.cells.toArray)]) (cells:=va.cells.toArray) hF O ae rfl hA63 O (yj va) (fun b64 w65 a hb64 hF hA66=>hK _ _ (fun _=>?_) ?_))
         ·exact Hp.qp [[row b64 25 va.cells],Zt,[row b4 187 [.slice At ((aU raw pt yt).length) ct,.bool (decide (yt≠0))]],ZA,ZM,ZV,ZS,[row b7 31 ([.int .i64 ((k:Nat):Int),.int .i64 (i64 n),.int .i64 (i64 cl),ak typ,ak cas,ak nam,.int .i64 vb.v.k,.int .i64 vb.v.n,ak vb.v.t,.slice vb.sA vb.v.s.length vb.sC,vA,.slice bA src.length bC]++dc (List.replicate 32 0))],[row b1 31 noEA.cells]] R [7] hA66
         refine iq O O O (fun K hK=>bG hF O ae rfl hA66 3 O hZ Lr qA rfl rfl (Rc.srcC (W:=va.cells) (m:=1) (size:=4) (R:=[row b64 25 va.cells]::Zt::[row b4 187 [.slice At ((aU raw pt yt).length) ct,.bool (decide (yt≠0))]]::ZA::ZM::ZV::ZS::[row b7 31 ([.int .i64 ((k:Nat):Int),.int .i64 (i64 n),.int .i64 (i64 cl),ak typ,ak cas,ak nam,.int .i64 vb.v.k,.int .i64 vb.v.n,ak vb.v.t,.slice vb.sA vb.v.s.length vb.sC,vA,.slice bA src.length bC]++dc (List.replicate 32 0))]::[row b1 31 noEA.cells]::R) (Rc.ofRow (i:=0) (off:=0) rfl rfl) hA66.q Lr ae rfl (BU va)) ag ae (fun v2 Z2 w67 a hZ2 hF hA68=>hK _ _ (fun _=>?_) ?_))
         ·exact Hp.qp [[row b64 25 va.cells],Zt,[row b4 187 [.slice At ((aU raw pt yt).length) ct,.bool (decide (yt≠0))]],Z2,ZM,ZV,ZS,[row b7 31 ([.int .i64 ((k:Nat):Int),.int .i64 (i64 n),.int .i64 (i64 cl),ak typ,ak cas,ak nam,.int .i64 vb.v.k,.int .i64 vb.v.n,ak vb.v.t,.slice vb.sA vb.v.s.length vb.sC,vA,.slice bA src.length bC]++dc (List.replicate 32 0))],[row b1 31 noEA.cells]] R [7] hA68
         refine pR hF<|pW O O (fun _=>yf 10 rfl Lm O tu O) fun a hF=>?_
         refine iq O O O (fun K hK=>bz hF O O hA68 O O 7 O (by simp) hZ2.one tu (fun w69 hA70=>hK _ _ (fun h=>absurd h ae) ?_))
         replace hA70:Hp w0 ([row b64 25 va.cells]::Zt::[row b4 187 [.slice At ((aU raw pt yt).length) ct,.bool (decide (yt≠0))]]::Z2::ZM::ZV::ZS::[row b7 31 ([.int .i64 ((k:Nat):Int),.int .i64 (i64 n),.int .i64 (i64 cl),ak typ,ak cas,ak nam,.int .i64 vb.v.k,.int .i64 vb.v.n,ak vb.v.t,.slice vb.sA vb.v.s.length vb.sC,v2,.slice bA src.length bC]++dc (List.replicate 32 0))]::[row b1 31 noEA.cells]::R) w69:=hA70
         refine dK ?_
         refine hK36 _ _ ?_
         refine wp_region_lit ?_
         refine vR hF<|vX O<|vV O (eU O O O (show IntKind.i64.wrap (((m+1:Nat):Int)-1)=((m:Nat):Int) by rw [KX _ ag]; omega)) fun a hF=>?_
         refine vR hF<|vX O fun a hF=>?_
         refine aK ?_
         have hA71:Hp w0 (Z2::ZM::Zt::[row b64 25 va.cells]::[row b4 187 [.slice At ((aU raw pt yt).length) ct,.bool (decide (yt≠0))]]::ZV::ZS::[row b7 31 ([.int .i64 ((k:Nat):Int),.int .i64 (i64 n),.int .i64 (i64 cl),ak typ,ak cas,ak nam,.int .i64 vb.v.k,.int .i64 vb.v.n,ak vb.v.t,.slice vb.sA vb.v.s.length vb.sC,v2,.slice bA src.length bC]++dc (List.replicate 32 0))]::[row b1 31 noEA.cells]::R) w69:=hpO 9 [3,4,1,0,2,5,6,7,8] hA70 rfl
         have hA72:Hp w0 (Z2::(ZM++Zt)::[row b64 25 va.cells]::[row b4 187 [.slice At ((aU raw pt yt).length) ct,.bool (decide (yt≠0))]]::ZV::ZS::[row b7 31 ([.int .i64 ((k:Nat):Int),.int .i64 (i64 n),.int .i64 (i64 cl),ak typ,ak cas,ak nam,.int .i64 vb.v.k,.int .i64 vb.v.n,ak vb.v.t,.slice vb.sA vb.v.s.length vb.sC,v2,.slice bA src.length bC]++dc (List.replicate 32 0))]::[row b1 31 noEA.cells]::R) w69:=Hp.cast hA71 (by simp [List.append_assoc])
         have hA73:Hp w0 (Z2::(ZM++Zt)::[row b4 187 [.slice At ((aU raw pt yt).length) ct,.bool (decide (yt≠0))]]::ZV::ZS::[row b7 31 ([.int .i64 ((k:Nat):Int),.int .i64 (i64 n),.int .i64 (i64 cl),ak typ,ak cas,ak nam,.int .i64 vb.v.k,.int .i64 vb.v.n,ak vb.v.t,.slice vb.sA vb.v.s.length vb.sC,v2,.slice bA src.length bC]++dc (List.replicate 32 0))]::[row b1 31 noEA.cells]::R) w69:=hpS 8 [0,1,3,4,5,6,7] [2] hA72 rfl
         exact ⟨m,ag,ws++[va],_,_,ZM++Zt,_,_,_,_,by rw [hgv,l9,hgt]; simp,by rw [sK,List.length_append]; exact hZ2,vN has hvo,hpt,by rw [List.length_append]; show ws.length+1+m≤255; omega,hTt,hF.keep [9,0,2,4,5] rfl,hA73⟩
        ·refine ay hF O (by simp [hy]) ?_
         apply wp_exit
         rw [l7 hy] at hgv
         simp only [List.append_nil] at hgv
         obtain ⟨aA,aC,rfl,_,hRa⟩:=hZ.rc (w0:=w0) (R:=[ZA]) (La ..)
         have hA74:Hp w0 (ZA::ZM::ZV::ZS::[row b4 187 [.slice Al ((aU raw p y).length) ql,.bool (decide (y≠0))]]::[row b7 31 ([.int .i64 ((k:Nat):Int),.int .i64 (i64 n),.int .i64 (i64 cl),ak typ,ak cas,ak nam,.int .i64 vb.v.k,.int .i64 vb.v.n,ak vb.v.t,.slice vb.sA vb.v.s.length vb.sC,.slice aA ws.length aC,.slice bA src.length bC]++dc (List.replicate 32 0))]::[row b1 31 noEA.cells]::R) w59:=hpO 7 [0,1,3,4,2,5,6] hA58 rfl
         exact hJ5 _ _ ws aA aC ZA ZM n1 q1 z1 p y Al ql (by rw [hb]; exact hgn) hgv hRa has ag hpm hTl (hF.keep [0,2,4,5] rfl) hA74
       ·obtain rfl:m=0:=by omega
        apply wp_seq_k; intro K37 hK37
        refine wS hF fun K38 hK38=>vX O<|vV O (aG O O O O ((fC ag)))<|vX O fun a hF=>?_
        refine au hF O O O O O (ax rfl) ae (fun a hF=>?_)
        refine au hF O O O O O (ax rfl) ae (fun a hF=>?_)
        refine au hF O O O O O (ax rfl) ae (fun a hF=>?_)
        refine au hF O O O O O (ax rfl) ae (fun a hF=>?_)
        refine au hF O O O O O (ax rfl) ae (fun a hF=>?_)
        refine vR hF<|vV O (aS O O O O)<|vE hK38<|vF1 O fun a hF=>?_
        apply wp_exit
        rw [show dW raw 0 p y=⟨[],p,y⟩ from rfl] at hgv
        simp only [List.append_nil] at hgv
        obtain ⟨aA,aC,rfl,_,hRa⟩:=hZ.rc (w0:=w0) (R:=[ZA]) (La ..)
        have hA75:Hp w0 (ZA::ZM::ZV::ZS::[row b4 187 [.slice Al ((aU raw p y).length) ql,.bool (decide (y≠0))]]::[row b7 31 ([.int .i64 ((k:Nat):Int),.int .i64 (i64 n),.int .i64 (i64 cl),ak typ,ak cas,ak nam,.int .i64 vb.v.k,.int .i64 vb.v.n,ak vb.v.t,.slice vb.sA vb.v.s.length vb.sC,.slice aA ws.length aC,.slice bA src.length bC]++dc (List.replicate 32 0))]::[row b1 31 noEA.cells]::R) w59:=hpO 7 [0,1,3,4,2,5,6] hA58 rfl
        exact hJ5 _ _ ws aA aC ZA ZM n1 q1 z1 p y Al ql (by rw [hb]; exact hgn) hgv hRa has ag hpm hTl (hF.keep [0,2,4,5] rfl) hA75
     rcases tf f.valued with hb | hb
     ·refine ay hF O (by rw [hf] at hb; exact hb) ?_
      apply wp_skip
      exact hJ4 _ _ ⟨noVal,none,0⟩ [] p7 y7 A7 cb7 (by rw [hb]; rfl) kG hp7 hT7 (hF.keep [0,2,4,5] rfl) (Hp.nil hA)
     ·refine aF hF O (by rw [hf] at hb; exact hb) ?_
      refine wp_region_lit ?_
      refine vR hF<|vX O fun a hF=>?_
      have hA76:Hp w0 ([row b4 187 [.slice A7 ((aU raw p7 y7).length) cb7,.bool (decide (y7≠0))]]::ZS::[row b7 31 ([.int .i64 ((k:Nat):Int),.int .i64 (i64 n),.int .i64 (i64 cl),ak typ,ak cas,ak nam,.int .i64 0,.int .i64 0,ak [],.slice none 0 0,.slice none 0 0,.slice bA src.length bC]++dc (List.replicate 32 0))]::[row b1 31 noEA.cells]::R) x:=hpO 4 [1,0,2,3] hA rfl
      refine aH O (fun K hK=>aI hF O ae su rfl rfl ?_)
      with_reducible refine (uQ b4 A7 cb7 raw p7 y7 _ hT7 (List.Subset.trans hG (bF (bF (bF (dH))))) hp7 hl hA76).mono ?_
      rintro e' w77 ⟨va,Zt,pt,yt,At,ct,rfl,hgt,hvo,hpt,hTt,hA78⟩
      refine ⟨_,rfl,fun a hF=>hK _ _ ?_⟩
      refine vR hF<|vV O (yf 6 O Lm O lV O) fun a hF=>?_
      refine aH O (fun K hK=>jl (new:=[.int .i64 va.v.k,.int .i64 va.v.n,ak va.v.t,.slice va.sA va.v.s.length va.sC]) hF O O hA78 O O 3 O (by rw [List.length_append]; exact Nat.le_add_right_of_le ai) (by simp [Value.oneCell']) lV (fun w79 hA80=>hK _ _ ?_))
      replace hA80:Hp w0 (Zt::[row b4 187 [.slice At ((aU raw pt yt).length) ct,.bool (decide (yt≠0))]]::ZS::[row b7 31 ([.int .i64 ((k:Nat):Int),.int .i64 (i64 n),.int .i64 (i64 cl),ak typ,ak cas,ak nam,.int .i64 va.v.k,.int .i64 va.v.n,ak va.v.t,.slice va.sA va.v.s.length va.sC,.slice none 0 0,.slice bA src.length bC]++dc (List.replicate 32 0))]::[row b1 31 noEA.cells]::R) w79:=hA80
      refine aK ?_
      have hA81:Hp w0 (Zt::ZS::[row b4 187 [.slice At ((aU raw pt yt).length) ct,.bool (decide (yt≠0))]]::[row b7 31 ([.int .i64 ((k:Nat):Int),.int .i64 (i64 n),.int .i64 (i64 cl),ak typ,ak cas,ak nam,.int .i64 va.v.k,.int .i64 va.v.n,ak va.v.t,.slice va.sA va.v.s.length va.sC,.slice none 0 0,.slice bA src.length bC]++dc (List.replicate 32 0))]::[row b1 31 noEA.cells]::R) w79:=hpO 5 [0,2,1,3,4] hA80 rfl
      exact hJ4 _ _ va Zt pt yt At ct (by rw [hb]; exact hgt) hvo hpt hTt (hF.keep [0,2,4,5] rfl) hA81
    rcases tf f.source with hb | hb
    ·refine ay hF O (by rw [hf] at hb; exact hb) ?_
     apply wp_skip
     exact hJ3 _ _ [] none 0 [] p6 y6 A6 cb6 (by rw [hb]; rfl) Rc.nil (KW _) hp6 hT6 (hF.keep [0,2,4,5] rfl) (Hp.nil hA)
    ·refine aF hF O (by rw [hf] at hb; exact hb) ?_
     have hlt:=left_le raw p6 y6
     have hnil:di [] 60000= .no 8:=rfl
     refine wS hF fun K39 hK39=>vX O<|vX O<|vV O (yf 0 O LQ O dV O)<|vV O (aW O hA.q O 0 O O iQ) fun a hF=>?_
     refine aH O (fun K hK=>aI hF O ae Bj rfl rfl ?_)
     with_reducible refine (CQ w0 _ ([row b4 187 [.slice A6 ((aU raw p6 y6).length) cb6,.bool (decide (y6≠0))]]::[row b7 31 ([.int .i64 ((k:Nat):Int),.int .i64 (i64 n),.int .i64 (i64 cl),ak typ,ak cas,ak nam,.int .i64 0,.int .i64 0,ak [],.slice none 0 0,.slice none 0 0,.slice none 0 0]++dc (List.replicate 32 0))]::[row b1 31 noEA.cells]::R) A6 (aU raw p6 y6) cb6 (aU raw p6 y6).length 60000 rfl hT6.2 (hT6.1.mono (List.Subset.trans hG (bF (bF (bF (dH)))))) hA ag).mono ?_
     rintro e' w82 ⟨v9,Zt,k3,rfl,hk3e,hZ9,hA83⟩
     refine ⟨_,rfl,fun a hF=>hK _ _ ?_⟩
     replace hA83:Hp w0 (Zt::[row b4 187 [.slice A6 ((aU raw p6 y6).length) cb6,.bool (decide (y6≠0))]]::[row b7 31 ([.int .i64 ((k:Nat):Int),.int .i64 (i64 n),.int .i64 (i64 cl),ak typ,ak cas,ak nam,.int .i64 0,.int .i64 0,ak [],.slice none 0 0,.slice none 0 0,.slice none 0 0]++dc (List.replicate 32 0))]::[row b1 31 noEA.cells]::R) w82:=hA83
     obtain ⟨_,At,ct,rfl,_,hRt⟩:=hZ9.rd (w0:=w0) (R:=[Zt]) (La ..)
     have hlt9:((di (aU raw p6 y6) 60000).val [] 0).length≤9223372036854775807:=by obtain ⟨_,_,e,q1,q2⟩:=hZ9.cap; omega
     refine vR hF<|vX O<|vV O (aJ (v:= .slice At (((di (aU raw p6 y6) 60000).val [] 0).length) ct) rfl rfl rfl)<|vV O (aJ (v:= .int .i64 ((k3:Nat):Int)) O O O)<|vV O (aJ (v:= .int .i64 (((di (aU raw p6 y6) 60000).why 0:Nat):Int)) O O O)<|vX O<|vX O<|vX O<|vE hK39<|wQ fun K40 hK40 a hF=>?_
     by_cases hw:(di (aU raw p6 y6) 60000).why 0=0
     ·obtain ⟨hy,hgo⟩:=yG (r:=(di · 60000)) (d:=[]) (by rw [hnil]; decide) hw
      subst hy
      obtain rfl:=hk3e hw
      have hpl0:=EU (aU raw p6 0) 60000
      have hpl:(di (aU raw p6 0) 60000).pl 0 0≤(raw.drop p6).length:=by rw [gJ] at hpl0 ⊢; exact hpl0
      rw [hw] at hF
      refine wp_region_lit ?_
      refine vR hF<|vX O<|vX O<|vX O fun a hF=>?_
      have hA84:Hp w0 ([row b4 187 [.slice A6 ((aU raw p6 0).length) cb6,.bool (decide ((0:Nat)≠0))]]::Zt::[row b7 31 ([.int .i64 ((k:Nat):Int),.int .i64 (i64 n),.int .i64 (i64 cl),ak typ,ak cas,ak nam,.int .i64 0,.int .i64 0,ak [],.slice none 0 0,.slice none 0 0,.slice none 0 0]++dc (List.replicate 32 0))]::[row b1 31 noEA.cells]::R) w82:=hpO 4 [1,0,2,3] hA83 rfl
      refine aH O (fun K hK=>aI hF O ae iZ rfl rfl ?_)
      with_reducible refine (kw b4 _ A6 _ cb6 _ _ hpl0 hT6.2 hA84).mono ?_
      rintro e' w85 ⟨rfl,hA86⟩
      refine ⟨_,rfl,fun a hF=>hK _ _ ?_⟩
      replace hA86:Hp w0 ([row b4 187 [.slice (sub A6 ((di (aU raw p6 0) 60000).pl 0 0) cb6 1) ((aU raw p6 0).length-(di (aU raw p6 0) 60000).pl 0 0) (cb6-(di (aU raw p6 0) 60000).pl 0 0),.bool (decide ((0:Nat)≠0))]]::Zt::[row b7 31 ([.int .i64 ((k:Nat):Int),.int .i64 (i64 n),.int .i64 (i64 cl),ak typ,ak cas,ak nam,.int .i64 0,.int .i64 0,ak [],.slice none 0 0,.slice none 0 0,.slice none 0 0]++dc (List.replicate 32 0))]::[row b1 31 noEA.cells]::R) w85:=hA86
      refine aK<|hK40 _ _ ?_
      refine wp_region_lit ?_
      refine vR hF<|vX O<|vV O (yf 11 rfl Lm O dV O) fun a hF=>?_
      refine aH O (fun K hK=>bz hF O O hA86 O O 2 O (by simp) rfl dV (fun w87 hA88=>hK _ _ ?_))
      replace hA88:Hp w0 ([row b4 187 [.slice (sub A6 ((di (aU raw p6 0) 60000).pl 0 0) cb6 1) ((aU raw p6 0).length-(di (aU raw p6 0) 60000).pl 0 0) (cb6-(di (aU raw p6 0) 60000).pl 0 0),.bool (decide ((0:Nat)≠0))]]::Zt::[row b7 31 ([.int .i64 ((k:Nat):Int),.int .i64 (i64 n),.int .i64 (i64 cl),ak typ,ak cas,ak nam,.int .i64 0,.int .i64 0,ak [],.slice none 0 0,.slice none 0 0,.slice At (((di (aU raw p6 0) 60000).val [] 0).length) ct]++dc (List.replicate 32 0))]::[row b1 31 noEA.cells]::R) w87:=hA88
      refine aK ?_
      have hA89:Hp w0 (Zt::[row b4 187 [.slice (sub A6 ((di (aU raw p6 0) 60000).pl 0 0) cb6 1) ((aU raw p6 0).length-(di (aU raw p6 0) 60000).pl 0 0) (cb6-(di (aU raw p6 0) 60000).pl 0 0),.bool (decide ((0:Nat)≠0))]]::[row b7 31 ([.int .i64 ((k:Nat):Int),.int .i64 (i64 n),.int .i64 (i64 cl),ak typ,ak cas,ak nam,.int .i64 0,.int .i64 0,ak [],.slice none 0 0,.slice none 0 0,.slice At (((di (aU raw p6 0) 60000).val [] 0).length) ct]++dc (List.replicate 32 0))]::[row b1 31 noEA.cells]::R) w87:=hpO 4 [1,0,2,3] hA88 rfl
      rw [kz] at hA89
      exact hJ3 _ _ _ At ct Zt _ _ _ _ (by rw [hb]; exact hgo) hRt hlt9 (by rw [List.length_drop] at hpl; omega) (sU hT6 hpl) (hF.keep [0,2,4,5] rfl) hA89
     ·obtain ⟨yt,hyt,hgo⟩:=yH (r:=(di · 60000)) (d:=[]) (by rw [hnil]; rfl) hw
      refine wp_region_lit ?_
      refine vR hF<|vX O<|vX O<|vX O fun a hF=>?_
      have hA90:Hp w0 ([row b4 187 [.slice A6 ((aU raw p6 y6).length) cb6,.bool (decide (y6≠0))]]::Zt::[row b7 31 ([.int .i64 ((k:Nat):Int),.int .i64 (i64 n),.int .i64 (i64 cl),ak typ,ak cas,ak nam,.int .i64 0,.int .i64 0,ak [],.slice none 0 0,.slice none 0 0,.slice none 0 0]++dc (List.replicate 32 0))]::[row b1 31 noEA.cells]::R) w82:=hpO 4 [1,0,2,3] hA83 rfl
      refine aH O (fun K hK=>aI hF O ae iZ rfl rfl ?_)
      with_reducible refine (jy b4 _ _ _ _ _ ag hA90).mono ?_
      rintro e' w91 ⟨rfl,hA92⟩
      refine ⟨_,rfl,fun a hF=>hK _ _ ?_⟩
      replace hA92:Hp w0 ([row b4 187 [.slice none 0 0,.bool true]]::Zt::[row b7 31 ([.int .i64 ((k:Nat):Int),.int .i64 (i64 n),.int .i64 (i64 cl),ak typ,ak cas,ak nam,.int .i64 0,.int .i64 0,ak [],.slice none 0 0,.slice none 0 0,.slice none 0 0]++dc (List.replicate 32 0))]::[row b1 31 noEA.cells]::R) w91:=hA92
      refine aK<|hK40 _ _ ?_
      refine wp_region_lit ?_
      refine vR hF<|vX O<|vV O (yf 11 rfl Lm O dV O) fun a hF=>?_
      refine aH O (fun K hK=>bz hF O O hA92 O O 2 O (by simp) rfl dV (fun w93 hA94=>hK _ _ ?_))
      replace hA94:Hp w0 ([row b4 187 [.slice none 0 0,.bool true]]::Zt::[row b7 31 ([.int .i64 ((k:Nat):Int),.int .i64 (i64 n),.int .i64 (i64 cl),ak typ,ak cas,ak nam,.int .i64 0,.int .i64 0,ak [],.slice none 0 0,.slice none 0 0,.slice At (((di (aU raw p6 y6) 60000).val [] 0).length) ct]++dc (List.replicate 32 0))]::[row b1 31 noEA.cells]::R) w93:=hA94
      refine aK ?_
      have hA95:Hp w0 (Zt::[row b4 187 [.slice none 0 0,.bool true]]::[row b7 31 ([.int .i64 ((k:Nat):Int),.int .i64 (i64 n),.int .i64 (i64 cl),ak typ,ak cas,ak nam,.int .i64 0,.int .i64 0,ak [],.slice none 0 0,.slice none 0 0,.slice At (((di (aU raw p6 y6) 60000).val [] 0).length) ct]++dc (List.replicate 32 0))]::[row b1 31 noEA.cells]::R) w93:=hpO 4 [1,0,2,3] hA94 rfl
      rw [kV (raw:=raw) (p:=p6) hyt] at hA95
      exact hJ3 _ _ _ At ct Zt _ _ _ _ (by rw [hb]; exact hgo) hRt hlt9 hp6 (oI hyt) (hF.keep [0,2,4,5] rfl) hA95
   rcases tf f.named with hb | hb
   ·refine ay hF O (by rw [hf] at hb; exact hb) ?_
    apply wp_skip
    exact hJ2 _ _ [] p5 y5 A5 cb5 (by rw [hb]; rfl) (KW _) hp5 hT5 (hF.keep [0,2,4,5] rfl) hA
   ·refine aF hF O (by rw [hf] at hb; exact hb) ?_
    refine wp_region_lit ?_
    refine vR hF<|vX O fun a hF=>?_
    refine aH O (fun K hK=>aI hF O ae nH rfl rfl ?_)
    with_reducible refine (sS b4 A5 cb5 raw p5 y5 _ hT5 (List.Subset.trans hG (bF (bF (dH)))) hp5 hl hA).mono ?_
    rintro e' w96 ⟨st,pt,yt,At,ct,rfl,hgt,hpt,hst,hTt,hA97⟩
    refine ⟨_,rfl,fun a hF=>hK _ _ ?_⟩
    refine vR hF<|vV O (yf 5 O Lm O sZ O) fun a hF=>?_
    refine aH O (fun K hK=>bz hF O O hA97 O O 1 O (by simp) rfl sZ (fun w98 hA99=>hK _ _ ?_))
    replace hA99:Hp w0 ([row b4 187 [.slice At ((aU raw pt yt).length) ct,.bool (decide (yt≠0))]]::[row b7 31 ([.int .i64 ((k:Nat):Int),.int .i64 (i64 n),.int .i64 (i64 cl),ak typ,ak cas,ak st,.int .i64 0,.int .i64 0,ak [],.slice none 0 0,.slice none 0 0,.slice none 0 0]++dc (List.replicate 32 0))]::[row b1 31 noEA.cells]::R) w98:=hA99
    refine aK ?_
    exact hJ2 _ _ st pt yt At ct (by rw [hb]; exact hgt) hst hpt hTt (hF.keep [0,2,4,5] rfl) hA99
  rcases tf f.typed with hb | hb
  ·refine ay hF O (by rw [hf] at hb; exact hb) ?_
   apply wp_skip
   exact hJ1 _ _ [] p4 y4 A4 cb4 (by rw [hb]; rfl) (KW _) hp4 hT4 (hF.keep [0,2,4,5] rfl) hA
  ·refine aF hF O (by rw [hf] at hb; exact hb) ?_
   refine wp_region_lit ?_
   refine vR hF<|vX O fun a hF=>?_
   refine aH O (fun K hK=>aI hF O ae nH rfl rfl ?_)
   with_reducible refine (sS b4 A4 cb4 raw p4 y4 _ hT4 (List.Subset.trans hG (bF (bF (dH)))) hp4 hl hA).mono ?_
   rintro e' w100 ⟨st,pt,yt,At,ct,rfl,hgt,hpt,hst,hTt,hA101⟩
   refine ⟨_,rfl,fun a hF=>hK _ _ ?_⟩
   refine vR hF<|vV O (yf 3 O Lm O sZ O) fun a hF=>?_
   refine aH O (fun K hK=>bz hF O O hA101 O O 1 O (by simp) rfl sZ (fun w102 hA103=>hK _ _ ?_))
   replace hA103:Hp w0 ([row b4 187 [.slice At ((aU raw pt yt).length) ct,.bool (decide (yt≠0))]]::[row b7 31 ([.int .i64 ((k:Nat):Int),.int .i64 (i64 n),.int .i64 (i64 cl),ak st,ak cas,ak [],.int .i64 0,.int .i64 0,ak [],.slice none 0 0,.slice none 0 0,.slice none 0 0]++dc (List.replicate 32 0))]::[row b1 31 noEA.cells]::R) w102:=hA103
   refine aK ?_
   exact hJ1 _ _ st pt yt At ct (by rw [hb]; exact hgt) hst hpt hTt (hF.keep [0,2,4,5] rfl) hA103
 rcases tf f.cased with hb | hb
 ·refine ay hF O (by rw [hf] at hb; exact hb) ?_
  apply wp_skip
  exact hJ0 _ _ [] p3 y3 A3 cb3 (by rw [hb]; rfl) (KW _) hp3 hT3 (hF.keep [0,2,4,5] rfl) hA25
 ·refine aF hF O (by rw [hf] at hb; exact hb) ?_
  refine wp_region_lit ?_
  refine vR hF<|vX O fun a hF=>?_
  refine aH O (fun K hK=>aI hF O ae nH rfl rfl ?_)
  with_reducible refine (sS b4 A3 cb3 raw p3 y3 _ hT3 (List.Subset.trans hG (bF (bF (dH)))) hp3 hl hA25).mono ?_
  rintro e' w104 ⟨st,pt,yt,At,ct,rfl,hgt,hpt,hst,hTt,hA105⟩
  refine ⟨_,rfl,fun a hF=>hK _ _ ?_⟩
  refine vR hF<|vV O (yf 4 O Lm O sZ O) fun a hF=>?_
  refine aH O (fun K hK=>bz hF O O hA105 O O 1 O (by simp) rfl sZ (fun w106 hA107=>hK _ _ ?_))
  replace hA107:Hp w0 ([row b4 187 [.slice At ((aU raw pt yt).length) ct,.bool (decide (yt≠0))]]::[row b7 31 ([.int .i64 ((k:Nat):Int),.int .i64 (i64 n),.int .i64 (i64 cl),ak [],ak st,ak [],.int .i64 0,.int .i64 0,ak [],.slice none 0 0,.slice none 0 0,.slice none 0 0]++dc (List.replicate 32 0))]::[row b1 31 noEA.cells]::R) w106:=hA107
  refine aK ?_
  exact hJ0 _ _ st pt yt At ct (by rw [hb]; exact hgt) hst hpt hTt (hF.keep [0,2,4,5] rfl) hA107
end Go.Proofs.YtepbmdlgdaedpaaGreatDoor
