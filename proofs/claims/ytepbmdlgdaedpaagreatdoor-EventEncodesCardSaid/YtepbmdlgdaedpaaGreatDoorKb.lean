/- The statements' books of memory. -/
import Derived.Test.YtepbmdlgdaedpaaGreatDoorBk
import Derived.Test.YtepbmdlgdaedpaaGreatDoorBook0
/- The statements' books of memory. -/
namespace Go.Proofs.YtepbmdlgdaedpaaGreatDoor
open Go.RowKit Go.Dk
theorem FC:aO Tryz.prog 86:=⟨_,Tryz.func86,af,af⟩
theorem Fv:aO Tryz.prog 92:=⟨_,Tryz.func92,af,af⟩
theorem rE (w0 w:World) (R:List Seg) (pa pb:Option Addr) (xs ys:List (UInt8)) (ca cb:Nat) (hX:Rc w0 R pa (cel cB xs)) (hY:Rc w0 R pb (cel cB ys)) (hx:∀ x∈xs,(cB x).length=1) (hy:∀ x∈ys,(cB x).length=1) (hA:Hp w0 R w) (hn:xs.length≤9223372036854775807):Calls Tryz.prog 86 #[.slice pa xs.length ca,.slice pb ys.length cb] w fun e w'=>e= .returned (.bool (decide (xs=ys)))∧Hp w0 R w' :=
 kP w0 w R pa pb xs ys ca cb (by rw [mf]; exact hX) (by rw [mf]; exact hY) hA hn
theorem oH:(Tryz.prog.info? 5).map (fun i=>(i.zero.map (fun z=>z.cells.toList),i.size,i.bytes))=some (some (List.replicate 1 (.int .u8 0)),1,1):=af
theorem rZ {l:List (UInt8)} (_:∀ x∈l,(cB x).length=1):∀ v∈cel cB l,v.oneCell'=true:=fun v hv=>by
 obtain ⟨W,hW,hv⟩:=List.mem_flatten.1 hv
 obtain ⟨x,_,rfl⟩:=List.mem_map.1 hW
 rw [List.mem_singleton.1 hv]; rfl
set_option maxRecDepth 100000 in
set_option maxHeartbeats 4000000 in
theorem pq (w0 w:World) (R:List Seg) (B:Option Addr) (l:List (UInt8)) (c:Nat) (y:UInt8) (hB:Rc w0 R B (cel cB l)) (hl1:∀ x∈l,(cB x).length=1) (hy1:(cB y).length=1) (hA:Hp w0 R w) (hl:l.length<140737488354000):Calls Tryz.prog 17 #[.slice B l.length c,.int .u8 (y.toNat:Int)] w fun e w'=>∃ g,e= .returned (.slice (some ⟨g,0,none⟩) (l.length+80) (l.length+80))∧Hp w0 ([row g 5 (cel cB (l++List.replicate 80 y))]::R) w':=by
 refine aN Tryz.func17 O Tryz.ntmps17 ai (fun a hF=>?_)
 refine wS hF fun K1 hK1=>vX O<|vE hK1<|wT fun K2 hK2=>vX O<|vV O (aT O JG O O)<|vV O (bK O O O (JF _ ag)) fun a hF=>?_
 refine aI O (fun K hK=>lw (size:=1) (bytes:=1) (u:= .int .u8 0) hF O ae rfl hA JG oH ae (l.length+80) rfl rfl ag ag ag ag (fun b1 w2 a hb1 hF hA3=>hK _ _ ?_))
 have hA4:Hp w0 ([row b1 5 (cel cB (List.replicate (l.length+80) (0:UInt8)))]::R) w2:=by rw [← vM (C:=cB) (sz:=1) (z:=(0:UInt8)) (u:= .int .u8 0) rfl]; exact hA3
 refine vR hF<|vX O<|vE hK2<|wT fun K3 hK3=>vX O<|vX O fun a hF=>?_
 refine aI O (fun K hK=>um (size:=1) hF O ae rfl hA4 JG qR ae rfl rfl l.length (Nat.min_eq_left ag).symm (dR hl1) hB (Hq.sub hA4.q (bD (dD))) (rZ hl1) 0 0 O (fun _=>rfl) (by rw [dR hl1,dR (sz:=1) (fun x hx=>by rw [List.eq_of_mem_replicate hx]; rfl),List.length_replicate]; omega) (fun w5 a hF hA6=>hK _ _ ?_))
 replace hA6:Hp w0 ([row b1 5 (splice (cel cB (List.replicate (l.length+80) (0:UInt8))) 0 (cel cB l))]::R) w5:=hA6
 have hA7:Hp w0 ([row b1 5 (cel cB (l++List.replicate 0 y++List.replicate (80-0) (0:UInt8)))]::R) w5:=by
  have e:=mW (C:=cB) (sz:=1) (l:=List.replicate (l.length+80) (0:UInt8)) (m:=l) (fun x hx=>by rw [List.eq_of_mem_replicate hx]; rfl) hl1 (by rw [List.length_replicate]; omega)
  rw [List.drop_replicate,show l.length+80-l.length=80-0 by omega] at e
  rw [List.replicate_zero,List.append_nil,← e]; exact hA6
 refine aJ<|hK3 _ _ ?_
 apply wp_seq_k; intro K4 hK4
 refine wS hF fun K5 hK5=>vX O<|vV O (aT O JG O O)<|vX O<|vE hK5<|wBk fun a hF=>?_
 refine bz (G:=Nat) (fun j a x=>j≤80∧Fr 27 [(6,.int .i64 ((l.length+j:Nat):Int)),(0,.slice B l.length c),(5,.slice (some ⟨b1,0,none⟩) (l.length+80) (l.length+80)),(1,.int .u8 (y.toNat:Int))] a∧Hp w0 ([row b1 5 (cel cB (l++List.replicate j y++List.replicate (80-j) (0:UInt8)))]::R) x) (fun j=>80-j) 0 (⟨JE _,hF.keep [6,0,5,1] rfl,hA7⟩) ?_
 clear hF
 rintro j a w9 ⟨hj,hF,hA8⟩
 apply wp_seq_k; intro K6 hK6
 refine wS hF fun K7 hK7=>vX O<|vX O<|vV O (aT O JG O O)<|vV O (aG O O O O O)<|vE hK7 fun a hF=>?_
 by_cases hlt:l.length+j<l.length+80
 ·refine aF hF O (dB ag) ?_
  apply wp_skip
  refine hK6 _ _ ?_
  apply wp_seq_k; intro K8 hK8
  apply wp_block
  refine wp_region_lit ?_
  refine vR hF<|vX O<|vX O<|vX O<|vV O (bI O JG qR O O (l.length+j) rfl ag (ad2 _ _ _)) fun a hF=>?_
  have hfl:∀ x∈l++List.replicate j y++List.replicate (80-j) (0:UInt8),(cB x).length=1:=fun x hx=>by
   rcases List.mem_append.1 hx with hx | hx
   ·rcases List.mem_append.1 hx with hx | hx
    ·exact hl1 x hx
    ·rw [List.eq_of_mem_replicate hx]; exact hy1
   ·rw [List.eq_of_mem_replicate hx]; rfl
  have hflen:(l++List.replicate j y++List.replicate (80-j) (0:UInt8)).length=l.length+80:=by rw [List.length_append,List.length_append,List.length_replicate,List.length_replicate]; omega
  refine aI O (fun K hK=>bH hF O O hA8 O O 0 O (by rw [dR hfl,hflen]; omega) rfl qR (fun w10 hA11=>hK _ _ ?_))
  replace hA11:Hp w0 ([row b1 5 ((cel cB (l++List.replicate j y++List.replicate (80-j) (0:UInt8))).set (0+(l.length+j)) (.int .u8 (y.toNat:Int)))]::R) w10:=hA11
  have hA12:Hp w0 ([row b1 5 (cel cB (l++List.replicate (j+1) y++List.replicate (80-(j+1)) (0:UInt8)))]::R) w10:=by
   rw [← uD,← show 80-j=80-(j+1)+1 by omega,← vN hfl (by rw [hflen]; omega) (u:= .int .u8 (y.toNat:Int)) rfl,← Nat.zero_add (l.length+j)]; exact hA11
  refine aJ<|hK8 _ _ ?_
  refine wp_region_lit ?_
  refine vR hF<|vX O<|vV O (bK O O O (JF _ ag))<|vX O fun a hF=>?_
  refine aJ ?_
  exact ⟨j+1,ag,ag,hF.keep [6,0,5,1] rfl,hA12⟩
 ·refine az hF O (dw ag) ?_
  obtain rfl:j=80:=by omega
  apply wp_exit
  refine hK4 _ _ ?_
  refine wS hF fun K9 hK9=>vX O<|vX O<|vE hK9 fun a hF=>?_
  apply wp_ret
  refine aK hF Tryz.results17 O ?_
  rw [Nat.sub_self,List.replicate_zero,List.append_nil] at hA8
  exact ⟨_,rfl,hA8⟩
set_option maxRecDepth 100000 in
set_option maxHeartbeats 4000000 in
theorem oI (w0 w:World) (R:List Seg) (B B2:Option Addr) (l:List (UInt8)) (c c2:Nat) (y:UInt8) (hB:Rc w0 R B (cel cB (l++List.replicate 80 y))) (hB2:Rc w0 R B2 (cel cB l)) (hl1:∀ x∈l,(cB x).length=1) (hy1:(cB y).length=1) (hc:l.length+80≤c) (hA:Hp w0 R w) (hl:l.length<140737488354000):Calls Tryz.prog 65 #[.slice B (l.length+80) c,.slice B2 l.length c2,.int .u8 (y.toNat:Int)] w fun e w'=>e= .returned (.bool true)∧Hp w0 R w':=by
 have hlen1:(cel cB l).length=l.length*1:=dR hl1
 have hpre:Rc w0 R B (cel cB l):=by
  have h1:=hB.take (cel cB l).length
  rwa [fU,List.take_left] at h1
 have hfl:∀ x∈l++List.replicate 80 y,(cB x).length=1:=fun x hx=>by
  rcases List.mem_append.1 hx with hx | hx
  ·exact hl1 x hx
  ·rw [List.eq_of_mem_replicate hx]; exact hy1
 refine aN Tryz.func65 O Tryz.ntmps65 ai (fun a hF=>?_)
 refine wS hF fun K1 hK1=>vX O<|vE hK1<|wQ fun K2 hK2=>wT fun K3 hK3=>vX O<|vV O (aT O JG O O)<|vX O<|vV O (aT O JG O O)<|vV O (bK O O O (JF _ ag))<|vV O (aG O O O O (dZ ag))<|vX O<|vG O (aZ O O)<|vG O (aZ O O)<|vG O (aT O JG O O)<|vG O (eU O JG qR O (.none 0) (.some rfl rfl) (JE _) ag fK)<|vG O (aZ O O) fun a hF=>?_
 refine dU hF O O O O (fun K hK=>aH hF O ae FC rfl rfl ?_)
 with_reducible refine (rE w0 _ R B B2 l l c c2 (hpre.mono (dD)) (hB2.mono (dD)) hl1 hl1 hA ag).mono ?_
 rintro e' w1 ⟨rfl,hA2⟩
 refine ⟨_,rfl,fun a hF=>hK _ _ ?_⟩
 replace hA2:Hp w0 (R) w1:=hA2
 rw [decide_eq_true rfl] at hF
 refine vR hF<|vG O (cZ O O O)<|vV O (dA O O O)<|vE hK3<|vF1 O<|wKp hK2<|wQ fun K4 hK4=>wT fun K5 hK5=>vX O<|vV O (aT O JG O O)<|vX O<|vE hK5<|wBk fun a hF=>?_
 refine bz (G:=Nat) (fun j a x=>j≤80∧Fr 37 [(7,.int .i64 ((l.length+j:Nat):Int)),(0,.slice B (l.length+80) c),(2,.int .u8 (y.toNat:Int))] a∧Hp w0 (R) x) (fun j=>80-j) 0 (⟨JE _,hF.keep [7,0,2] rfl,hA2⟩) ?_
 clear hF
 rintro j a w4 ⟨hj,hF,hA3⟩
 apply wp_seq_k; intro K6 hK6
 refine wS hF fun K7 hK7=>vX O<|vX O<|vV O (aT O JG O O)<|vV O (aG O O O O O)<|vE hK7 fun a hF=>?_
 by_cases hlt:l.length+j<l.length+80
 ·refine aF hF O (dB ag) ?_
  have hat:(l++List.replicate 80 y)[l.length+j]? = some y:=by rw [List.getElem?_append_right ag,Nat.add_sub_cancel_left,List.getElem?_replicate,if_pos ag]
  obtain ⟨hc1,hc2⟩:=yC (u:= .int .u8 (y.toNat:Int)) hfl hat rfl
  obtain ⟨b,o,rfl,hc⟩:=hB.ne (i:=l.length+j) hc2
  apply wp_skip
  refine hK6 _ _ ?_
  apply wp_seq_k; intro K8 hK8
  apply wp_block
  refine wS hF fun K9 hK9=>vX O<|vX O<|vV O (bI O JG qR O O (l.length+j) rfl ag (ad2 _ _ _))<|vV O (dN (u:= .int .u8 (y.toNat:Int)) O (Hq.sub hA3.q (dD)) O hc (l.length+j) hc2 rfl hc1 ru)<|vX O<|vV O (aG O O O O (dZ rfl))<|vE hK9<|vF1 O fun a hF=>?_
  apply wp_skip
  refine hK8 _ _ ?_
  refine wp_region_lit ?_
  refine vR hF<|vX O<|vV O (bK O O O (JF _ ag))<|vX O fun a hF=>?_
  refine aJ ?_
  exact ⟨j+1,ag,ag,hF.keep [7,0,2] rfl,hA3⟩
 ·refine az hF O (dw ag) ?_
  apply wp_exit
  refine hK4 _ _ ?_
  refine wS hF fun K10 hK10=>vX O<|vE hK10 fun a hF=>?_
  apply wp_ret
  refine aK hF Tryz.results65 O ?_
  exact ⟨rfl,hA3⟩
theorem oG (w0 w:World) (R:List Seg) (pa pb:Option Addr) (xs ys:List (List UInt8)) (ca cb:Nat) (hX:Rc w0 R pa (cel cS xs)) (hY:Rc w0 R pb (cel cS ys)) (hx:∀ x∈xs,(cS x).length=1) (hy:∀ x∈ys,(cS x).length=1) (hA:Hp w0 R w) (hn:xs.length≤9223372036854775807):Calls Tryz.prog 92 #[.slice pa xs.length ca,.slice pb ys.length cb] w fun e w'=>e= .returned (.bool (decide (xs=ys)))∧Hp w0 R w' :=
 jR w0 w R pa pb xs ys ca cb (by rw [je]; exact hX) (by rw [je]; exact hY) hA hn
theorem rF:(Tryz.prog.info? 9).map (fun i=>(i.zero.map (fun z=>z.cells.toList),i.size,i.bytes))=some (some (List.replicate 1 (ak [])),1,16):=af
theorem oW {l:List (List UInt8)} (_:∀ x∈l,(cS x).length=1):∀ v∈cel cS l,v.oneCell'=true:=fun v hv=>by
 obtain ⟨W,hW,hv⟩:=List.mem_flatten.1 hv
 obtain ⟨x,_,rfl⟩:=List.mem_map.1 hW
 rw [List.mem_singleton.1 hv]; rfl
set_option maxRecDepth 100000 in
set_option maxHeartbeats 4000000 in
theorem jP (w0 w:World) (R:List Seg) (B:Option Addr) (l:List (List UInt8)) (c:Nat) (y:List UInt8) (hB:Rc w0 R B (cel cS l)) (hl1:∀ x∈l,(cS x).length=1) (hy1:(cS y).length=1) (hA:Hp w0 R w) (hl:l.length<8796093022000):Calls Tryz.prog 47 #[.slice B l.length c,ak y] w fun e w'=>∃ g,e= .returned (.slice (some ⟨g,0,none⟩) (l.length+80) (l.length+80))∧Hp w0 ([row g 9 (cel cS (l++List.replicate 80 y))]::R) w':=by
 refine aN Tryz.func47 O Tryz.ntmps47 ai (fun a hF=>?_)
 refine wS hF fun K1 hK1=>vX O<|vE hK1<|wT fun K2 hK2=>vX O<|vV O (aT O JD O O)<|vV O (bK O O O (JF _ ag)) fun a hF=>?_
 refine aI O (fun K hK=>lw (size:=1) (bytes:=16) (u:=ak []) hF O ae rfl hA JD rF ae (l.length+80) rfl rfl ag ag ag ag (fun b1 w2 a hb1 hF hA3=>hK _ _ ?_))
 have hA4:Hp w0 ([row b1 9 (cel cS (List.replicate (l.length+80) ([]:List UInt8)))]::R) w2:=by rw [← vM (C:=cS) (sz:=1) (z:=([]:List UInt8)) (u:=ak []) rfl]; exact hA3
 refine vR hF<|vX O<|vE hK2<|wT fun K3 hK3=>vX O<|vX O fun a hF=>?_
 refine aI O (fun K hK=>um (size:=1) hF O ae rfl hA4 JD qQ ae rfl rfl l.length (Nat.min_eq_left ag).symm (dR hl1) hB (Hq.sub hA4.q (bD (dD))) (oW hl1) 0 0 O (fun _=>rfl) (by rw [dR hl1,dR (sz:=1) (fun x hx=>by rw [List.eq_of_mem_replicate hx]; rfl),List.length_replicate]; omega) (fun w5 a hF hA6=>hK _ _ ?_))
 replace hA6:Hp w0 ([row b1 9 (splice (cel cS (List.replicate (l.length+80) ([]:List UInt8))) 0 (cel cS l))]::R) w5:=hA6
 have hA7:Hp w0 ([row b1 9 (cel cS (l++List.replicate 0 y++List.replicate (80-0) ([]:List UInt8)))]::R) w5:=by
  have e:=mW (C:=cS) (sz:=1) (l:=List.replicate (l.length+80) ([]:List UInt8)) (m:=l) (fun x hx=>by rw [List.eq_of_mem_replicate hx]; rfl) hl1 (by rw [List.length_replicate]; omega)
  rw [List.drop_replicate,show l.length+80-l.length=80-0 by omega] at e
  rw [List.replicate_zero,List.append_nil,← e]; exact hA6
 refine aJ<|hK3 _ _ ?_
 apply wp_seq_k; intro K4 hK4
 refine wS hF fun K5 hK5=>vX O<|vV O (aT O JD O O)<|vX O<|vE hK5<|wBk fun a hF=>?_
 refine bz (G:=Nat) (fun j a x=>j≤80∧Fr 27 [(6,.int .i64 ((l.length+j:Nat):Int)),(0,.slice B l.length c),(5,.slice (some ⟨b1,0,none⟩) (l.length+80) (l.length+80)),(1,ak y)] a∧Hp w0 ([row b1 9 (cel cS (l++List.replicate j y++List.replicate (80-j) ([]:List UInt8)))]::R) x) (fun j=>80-j) 0 (⟨JE _,hF.keep [6,0,5,1] rfl,hA7⟩) ?_
 clear hF
 rintro j a w9 ⟨hj,hF,hA8⟩
 apply wp_seq_k; intro K6 hK6
 refine wS hF fun K7 hK7=>vX O<|vX O<|vV O (aT O JD O O)<|vV O (aG O O O O O)<|vE hK7 fun a hF=>?_
 by_cases hlt:l.length+j<l.length+80
 ·refine aF hF O (dB ag) ?_
  apply wp_skip
  refine hK6 _ _ ?_
  apply wp_seq_k; intro K8 hK8
  apply wp_block
  refine wp_region_lit ?_
  refine vR hF<|vX O<|vX O<|vX O<|vV O (bI O JD qQ O O (l.length+j) rfl ag (ad2 _ _ _)) fun a hF=>?_
  have hfl:∀ x∈l++List.replicate j y++List.replicate (80-j) ([]:List UInt8),(cS x).length=1:=fun x hx=>by
   rcases List.mem_append.1 hx with hx | hx
   ·rcases List.mem_append.1 hx with hx | hx
    ·exact hl1 x hx
    ·rw [List.eq_of_mem_replicate hx]; exact hy1
   ·rw [List.eq_of_mem_replicate hx]; rfl
  have hflen:(l++List.replicate j y++List.replicate (80-j) ([]:List UInt8)).length=l.length+80:=by rw [List.length_append,List.length_append,List.length_replicate,List.length_replicate]; omega
  refine aI O (fun K hK=>bH hF O O hA8 O O 0 O (by rw [dR hfl,hflen]; omega) rfl qQ (fun w10 hA11=>hK _ _ ?_))
  replace hA11:Hp w0 ([row b1 9 ((cel cS (l++List.replicate j y++List.replicate (80-j) ([]:List UInt8))).set (0+(l.length+j)) (ak y))]::R) w10:=hA11
  have hA12:Hp w0 ([row b1 9 (cel cS (l++List.replicate (j+1) y++List.replicate (80-(j+1)) ([]:List UInt8)))]::R) w10:=by
   rw [← uD,← show 80-j=80-(j+1)+1 by omega,← vN hfl (by rw [hflen]; omega) (u:=ak y) rfl,← Nat.zero_add (l.length+j)]; exact hA11
  refine aJ<|hK8 _ _ ?_
  refine wp_region_lit ?_
  refine vR hF<|vX O<|vV O (bK O O O (JF _ ag))<|vX O fun a hF=>?_
  refine aJ ?_
  exact ⟨j+1,ag,ag,hF.keep [6,0,5,1] rfl,hA12⟩
 ·refine az hF O (dw ag) ?_
  obtain rfl:j=80:=by omega
  apply wp_exit
  refine hK4 _ _ ?_
  refine wS hF fun K9 hK9=>vX O<|vX O<|vE hK9 fun a hF=>?_
  apply wp_ret
  refine aK hF Tryz.results47 O ?_
  rw [Nat.sub_self,List.replicate_zero,List.append_nil] at hA8
  exact ⟨_,rfl,hA8⟩
set_option maxRecDepth 100000 in
set_option maxHeartbeats 4000000 in
theorem jr (w0 w:World) (R:List Seg) (B B2:Option Addr) (l:List (List UInt8)) (c c2:Nat) (y:List UInt8) (hB:Rc w0 R B (cel cS (l++List.replicate 80 y))) (hB2:Rc w0 R B2 (cel cS l)) (hl1:∀ x∈l,(cS x).length=1) (hy1:(cS y).length=1) (hc:l.length+80≤c) (hA:Hp w0 R w) (hl:l.length<8796093022000):Calls Tryz.prog 51 #[.slice B (l.length+80) c,.slice B2 l.length c2,ak y] w fun e w'=>e= .returned (.bool true)∧Hp w0 R w':=by
 have hlen1:(cel cS l).length=l.length*1:=dR hl1
 have hpre:Rc w0 R B (cel cS l):=by
  have h1:=hB.take (cel cS l).length
  rwa [fU,List.take_left] at h1
 have hfl:∀ x∈l++List.replicate 80 y,(cS x).length=1:=fun x hx=>by
  rcases List.mem_append.1 hx with hx | hx
  ·exact hl1 x hx
  ·rw [List.eq_of_mem_replicate hx]; exact hy1
 refine aN Tryz.func51 O Tryz.ntmps51 ai (fun a hF=>?_)
 refine wS hF fun K1 hK1=>vX O<|vE hK1<|wQ fun K2 hK2=>wT fun K3 hK3=>vX O<|vV O (aT O JD O O)<|vX O<|vV O (aT O JD O O)<|vV O (bK O O O (JF _ ag))<|vV O (aG O O O O (dZ ag))<|vX O<|vG O (aZ O O)<|vG O (aZ O O)<|vG O (aT O JD O O)<|vG O (eU O JD qQ O (.none 0) (.some rfl rfl) (JE _) ag fK)<|vG O (aZ O O) fun a hF=>?_
 refine dU hF O O O O (fun K hK=>aH hF O ae Fv rfl rfl ?_)
 with_reducible refine (oG w0 _ R B B2 l l c c2 (hpre.mono (dD)) (hB2.mono (dD)) hl1 hl1 hA ag).mono ?_
 rintro e' w1 ⟨rfl,hA2⟩
 refine ⟨_,rfl,fun a hF=>hK _ _ ?_⟩
 replace hA2:Hp w0 (R) w1:=hA2
 rw [decide_eq_true rfl] at hF
 refine vR hF<|vG O (cZ O O O)<|vV O (dA O O O)<|vE hK3<|vF1 O<|wKp hK2<|wQ fun K4 hK4=>wT fun K5 hK5=>vX O<|vV O (aT O JD O O)<|vX O<|vE hK5<|wBk fun a hF=>?_
 refine bz (G:=Nat) (fun j a x=>j≤80∧Fr 37 [(7,.int .i64 ((l.length+j:Nat):Int)),(0,.slice B (l.length+80) c),(2,ak y)] a∧Hp w0 (R) x) (fun j=>80-j) 0 (⟨JE _,hF.keep [7,0,2] rfl,hA2⟩) ?_
 clear hF
 rintro j a w4 ⟨hj,hF,hA3⟩
 apply wp_seq_k; intro K6 hK6
 refine wS hF fun K7 hK7=>vX O<|vX O<|vV O (aT O JD O O)<|vV O (aG O O O O O)<|vE hK7 fun a hF=>?_
 by_cases hlt:l.length+j<l.length+80
 ·refine aF hF O (dB ag) ?_
  have hat:(l++List.replicate 80 y)[l.length+j]? = some y:=by rw [List.getElem?_append_right ag,Nat.add_sub_cancel_left,List.getElem?_replicate,if_pos ag]
  obtain ⟨hc1,hc2⟩:=yC (u:=ak y) hfl hat rfl
  obtain ⟨b,o,rfl,hc⟩:=hB.ne (i:=l.length+j) hc2
  apply wp_skip
  refine hK6 _ _ ?_
  apply wp_seq_k; intro K8 hK8
  apply wp_block
  refine wS hF fun K9 hK9=>vX O<|vX O<|vV O (bI O JD qQ O O (l.length+j) rfl ag (ad2 _ _ _))<|vV O (dN (u:=ak y) rfl (Hq.sub hA3.q (dD)) O hc (l.length+j) hc2 rfl hc1 rq)<|vX O<|vV O (dL (c:=false) rfl rfl rfl rfl (nO _))<|vE hK9<|vF1 O fun a hF=>?_
  apply wp_skip
  refine hK8 _ _ ?_
  refine wp_region_lit ?_
  refine vR hF<|vX O<|vV O (bK O O O (JF _ ag))<|vX O fun a hF=>?_
  refine aJ ?_
  exact ⟨j+1,ag,ag,hF.keep [7,0,2] rfl,hA3⟩
 ·refine az hF O (dw ag) ?_
  apply wp_exit
  refine hK4 _ _ ?_
  refine wS hF fun K10 hK10=>vX O<|vE hK10 fun a hF=>?_
  apply wp_ret
  refine aK hF Tryz.results51 O ?_
  exact ⟨rfl,hA3⟩
end Go.Proofs.YtepbmdlgdaedpaaGreatDoor
