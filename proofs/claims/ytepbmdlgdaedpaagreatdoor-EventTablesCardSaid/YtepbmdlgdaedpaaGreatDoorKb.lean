/- The statements' books of memory. -/
import Derived.Test.YtepbmdlgdaedpaaGreatDoorEv8
import Derived.Test.YtepbmdlgdaedpaaGreatDoorEv
/- The statements' books of memory. -/
namespace Go.Proofs.YtepbmdlgdaedpaaGreatDoor
open Go.RowKit Go.Dk
theorem Lp:aP Tryz.prog 92:=⟨_,Tryz.func92,af,af⟩
theorem Ji:aP Tryz.prog 121:=⟨_,Tryz.func121,af,af⟩
theorem BC:(Tryz.prog.info? 5).map (fun i=>(i.zero.map (fun z=>z.cells.toList),i.size,i.bytes))=some (some (List.replicate 1 (.int .u8 0)),1,1):=af
theorem tN (w0 w:World) (R:List Seg) (pa pb:Option Addr) (xs ys:List (List UInt8)) (ca cb:Nat) (hX:Rc w0 R pa (cel cS xs)) (hY:Rc w0 R pb (cel cS ys)) (hx:∀ x∈xs,(cS x).length=1) (hy:∀ x∈ys,(cS x).length=1) (hA:Hp w0 R w) (hn:xs.length≤9223372036854775807):Calls Tryz.prog 92 #[.slice pa xs.length ca,.slice pb ys.length cb] w fun e w'=>e= .returned (.bool (decide (xs=ys)))∧Hp w0 R w' :=
 qY w0 w R pa pb xs ys ca cb (by rw [lW]; exact hX) (by rw [lW]; exact hY) hA hn
theorem xn:(Tryz.prog.info? 9).map (fun i=>(i.zero.map (fun z=>z.cells.toList),i.size,i.bytes))=some (some (List.replicate 1 (ak [])),1,16):=af
theorem ul {l:List (List UInt8)} (_:∀ x∈l,(cS x).length=1):∀ v∈cel cS l,v.oneCell'=true:=fun v hv=>by
 obtain ⟨W,hW,hv⟩:=List.mem_flatten.1 hv
 obtain ⟨x,_,rfl⟩:=List.mem_map.1 hW
 rw [List.mem_singleton.1 hv]; rfl
set_option maxRecDepth 100000 in
set_option maxHeartbeats 4000000 in
theorem qV (w0 w:World) (R:List Seg) (B:Option Addr) (l:List (List UInt8)) (c:Nat) (y:List UInt8) (hB:Rc w0 R B (cel cS l)) (hl1:∀ x∈l,(cS x).length=1) (hy1:(cS y).length=1) (hA:Hp w0 R w) (hl:l.length<8796093022000):Calls Tryz.prog 47 #[.slice B l.length c,ak y] w fun e w'=>∃ g,e= .returned (.slice (some ⟨g,0,none⟩) (l.length+80) (l.length+80))∧Hp w0 ([row g 9 (cel cS (l++List.replicate 80 y))]::R) w':=by
 refine aQ Tryz.func47 O Tryz.ntmps47 ai (fun a hF=>?_)
 refine wS hF fun K1 hK1=>vX O<|vE hK1<|wT fun K2 hK2=>vX O<|vV O (aU O PY O O)<|vV O (bn O O O (PX _ ag)) fun a hF=>?_
 refine az O (fun K hK=>lu (size:=1) (bytes:=16) (u:=ak []) hF O ae rfl hA PY xn ae (l.length+80) rfl rfl ag ag ag ag (fun b1 w2 a hb1 hF hA3=>hK _ _ ?_))
 have hA4:Hp w0 ([row b1 9 (cel cS (List.replicate (l.length+80) ([]:List UInt8)))]::R) w2:=by rw [← zX (C:=cS) (sz:=1) (z:=([]:List UInt8)) (u:=ak []) rfl]; exact hA3
 refine vR hF<|vX O<|vE hK2<|wT fun K3 hK3=>vX O<|vX O fun a hF=>?_
 refine az O (fun K hK=>yR (size:=1) hF O ae rfl hA4 PY wL ae rfl rfl l.length (Nat.min_eq_left ag).symm (gW hl1) hB (Hq.sub hA4.q (bW (fD))) (ul hl1) 0 0 O (fun _=>rfl) (by rw [gW hl1,gW (sz:=1) (fun x hx=>by rw [List.eq_of_mem_replicate hx]; rfl),List.length_replicate]; omega) (fun w5 a hF hA6=>hK _ _ ?_))
 replace hA6:Hp w0 ([row b1 9 (splice (cel cS (List.replicate (l.length+80) ([]:List UInt8))) 0 (cel cS l))]::R) w5:=hA6
 have hA7:Hp w0 ([row b1 9 (cel cS (l++List.replicate 0 y++List.replicate (80-0) ([]:List UInt8)))]::R) w5:=by
  have e:=qO (C:=cS) (sz:=1) (l:=List.replicate (l.length+80) ([]:List UInt8)) (m:=l) (fun x hx=>by rw [List.eq_of_mem_replicate hx]; rfl) hl1 (by rw [List.length_replicate]; omega)
  rw [List.drop_replicate,show l.length+80-l.length=80-0 by omega] at e
  rw [List.replicate_zero,List.append_nil,← e]; exact hA6
 refine aG<|hK3 _ _ ?_
 apply wp_seq_k; intro K4 hK4
 refine wS hF fun K5 hK5=>vX O<|vV O (aU O PY O O)<|vX O<|vE hK5<|wBk fun a hF=>?_
 refine bH (G:=Nat) (fun j a x=>j≤80∧Fr 27 [(6,.int .i64 ((l.length+j:Nat):Int)),(0,.slice B l.length c),(5,.slice (some ⟨b1,0,none⟩) (l.length+80) (l.length+80)),(1,ak y)] a∧Hp w0 ([row b1 9 (cel cS (l++List.replicate j y++List.replicate (80-j) ([]:List UInt8)))]::R) x) (fun j=>80-j) 0 (⟨PU _,hF.keep [6,0,5,1] rfl,hA7⟩) ?_
 clear hF
 rintro j a w9 ⟨hj,hF,hA8⟩
 apply wp_seq_k; intro K6 hK6
 refine wS hF fun K7 hK7=>vX O<|vX O<|vV O (aU O PY O O)<|vV O (aB O O O O O)<|vE hK7 fun a hF=>?_
 by_cases hlt:l.length+j<l.length+80
 ·refine aF hF O (dB ag) ?_
  apply wp_skip
  refine hK6 _ _ ?_
  apply wp_seq_k; intro K8 hK8
  apply wp_block
  refine wp_region_lit ?_
  refine vR hF<|vX O<|vX O<|vX O<|vV O (bF O PY wL O O (l.length+j) rfl ag (ad2 _ _ _)) fun a hF=>?_
  have hfl:∀ x∈l++List.replicate j y++List.replicate (80-j) ([]:List UInt8),(cS x).length=1:=fun x hx=>by
   rcases List.mem_append.1 hx with hx | hx
   ·rcases List.mem_append.1 hx with hx | hx
    ·exact hl1 x hx
    ·rw [List.eq_of_mem_replicate hx]; exact hy1
   ·rw [List.eq_of_mem_replicate hx]; rfl
  have hflen:(l++List.replicate j y++List.replicate (80-j) ([]:List UInt8)).length=l.length+80:=by rw [List.length_append,List.length_append,List.length_replicate,List.length_replicate]; omega
  refine az O (fun K hK=>bY hF O O hA8 O O 0 O (by rw [gW hfl,hflen]; omega) rfl wL (fun w10 hA11=>hK _ _ ?_))
  replace hA11:Hp w0 ([row b1 9 ((cel cS (l++List.replicate j y++List.replicate (80-j) ([]:List UInt8))).set (0+(l.length+j)) (ak y))]::R) w10:=hA11
  have hA12:Hp w0 ([row b1 9 (cel cS (l++List.replicate (j+1) y++List.replicate (80-(j+1)) ([]:List UInt8)))]::R) w10:=by
   rw [← zu,← show 80-j=80-(j+1)+1 by omega,← Jp hfl (by rw [hflen]; omega) (u:=ak y) rfl,← Nat.zero_add (l.length+j)]; exact hA11
  refine aG<|hK8 _ _ ?_
  refine wp_region_lit ?_
  refine vR hF<|vX O<|vV O (bn O O O (PX _ ag))<|vX O fun a hF=>?_
  refine aG ?_
  exact ⟨j+1,ag,ag,hF.keep [6,0,5,1] rfl,hA12⟩
 ·refine au hF O (dA ag) ?_
  obtain rfl:j=80:=by omega
  apply wp_exit
  refine hK4 _ _ ?_
  refine wS hF fun K9 hK9=>vX O<|vX O<|vE hK9 fun a hF=>?_
  apply wp_ret
  refine aO hF Tryz.results47 O ?_
  rw [Nat.sub_self,List.replicate_zero,List.append_nil] at hA8
  exact ⟨_,rfl,hA8⟩
set_option maxRecDepth 100000 in
set_option maxHeartbeats 4000000 in
theorem qi (w0 w:World) (R:List Seg) (B B2:Option Addr) (l:List (List UInt8)) (c c2:Nat) (y:List UInt8) (hB:Rc w0 R B (cel cS (l++List.replicate 80 y))) (hB2:Rc w0 R B2 (cel cS l)) (hl1:∀ x∈l,(cS x).length=1) (hy1:(cS y).length=1) (hc:l.length+80≤c) (hA:Hp w0 R w) (hl:l.length<8796093022000):Calls Tryz.prog 51 #[.slice B (l.length+80) c,.slice B2 l.length c2,ak y] w fun e w'=>e= .returned (.bool true)∧Hp w0 R w':=by
 have hlen1:(cel cS l).length=l.length*1:=gW hl1
 have hpre:Rc w0 R B (cel cS l):=by
  have h1:=hB.take (cel cS l).length
  rwa [gp,List.take_left] at h1
 have hfl:∀ x∈l++List.replicate 80 y,(cS x).length=1:=fun x hx=>by
  rcases List.mem_append.1 hx with hx | hx
  ·exact hl1 x hx
  ·rw [List.eq_of_mem_replicate hx]; exact hy1
 refine aQ Tryz.func51 O Tryz.ntmps51 ai (fun a hF=>?_)
 refine wS hF fun K1 hK1=>vX O<|vE hK1<|wQ fun K2 hK2=>wT fun K3 hK3=>vX O<|vV O (aU O PY O O)<|vX O<|vV O (aU O PY O O)<|vV O (bn O O O (PX _ ag))<|vV O (aB O O O O (fG ag))<|vX O<|vG O (aV O O)<|vG O (aV O O)<|vG O (aU O PY O O)<|vG O (jf O PY wL O (.none 0) (.some rfl rfl) (PU _) ag kF)<|vG O (aV O O) fun a hF=>?_
 refine dY hF O O O O (fun K hK=>ay hF O ae Lp rfl rfl ?_)
 with_reducible refine (tN w0 _ R B B2 l l c c2 (hpre.mono (fD)) (hB2.mono (fD)) hl1 hl1 hA ag).mono ?_
 rintro e' w1 ⟨rfl,hA2⟩
 refine ⟨_,rfl,fun a hF=>hK _ _ ?_⟩
 replace hA2:Hp w0 (R) w1:=hA2
 rw [decide_eq_true rfl] at hF
 refine vR hF<|vG O (dK O O O)<|vV O (dw O O O)<|vE hK3<|vF1 O<|wKp hK2<|wQ fun K4 hK4=>wT fun K5 hK5=>vX O<|vV O (aU O PY O O)<|vX O<|vE hK5<|wBk fun a hF=>?_
 refine bH (G:=Nat) (fun j a x=>j≤80∧Fr 37 [(7,.int .i64 ((l.length+j:Nat):Int)),(0,.slice B (l.length+80) c),(2,ak y)] a∧Hp w0 (R) x) (fun j=>80-j) 0 (⟨PU _,hF.keep [7,0,2] rfl,hA2⟩) ?_
 clear hF
 rintro j a w4 ⟨hj,hF,hA3⟩
 apply wp_seq_k; intro K6 hK6
 refine wS hF fun K7 hK7=>vX O<|vX O<|vV O (aU O PY O O)<|vV O (aB O O O O O)<|vE hK7 fun a hF=>?_
 by_cases hlt:l.length+j<l.length+80
 ·refine aF hF O (dB ag) ?_
  have hat:(l++List.replicate 80 y)[l.length+j]? = some y:=by rw [List.getElem?_append_right ag,Nat.add_sub_cancel_left,List.getElem?_replicate,if_pos ag]
  obtain ⟨hc1,hc2⟩:=MC (u:=ak y) hfl hat rfl
  obtain ⟨b,o,rfl,hc⟩:=hB.ne (i:=l.length+j) hc2
  apply wp_skip
  refine hK6 _ _ ?_
  apply wp_seq_k; intro K8 hK8
  apply wp_block
  refine wS hF fun K9 hK9=>vX O<|vX O<|vV O (bF O PY wL O O (l.length+j) rfl ag (ad2 _ _ _))<|vV O (dL (u:=ak y) rfl (Hq.sub hA3.q (fD)) O hc (l.length+j) hc2 rfl hc1 xe)<|vX O<|vV O (fJ (c:=false) rfl rfl rfl rfl (sK _))<|vE hK9<|vF1 O fun a hF=>?_
  apply wp_skip
  refine hK8 _ _ ?_
  refine wp_region_lit ?_
  refine vR hF<|vX O<|vV O (bn O O O (PX _ ag))<|vX O fun a hF=>?_
  refine aG ?_
  exact ⟨j+1,ag,ag,hF.keep [7,0,2] rfl,hA3⟩
 ·refine au hF O (dA ag) ?_
  apply wp_exit
  refine hK4 _ _ ?_
  refine wS hF fun K10 hK10=>vX O<|vE hK10 fun a hF=>?_
  apply wp_ret
  refine aO hF Tryz.results51 O ?_
  exact ⟨rfl,hA3⟩
theorem tV (w0 w:World) (R:List Seg) (pa pb:Option Addr) (xs ys:List (List UInt8)) (ca cb:Nat) (hX:Rc w0 R pa (cel dc xs)) (hY:Rc w0 R pb (cel dc ys)) (hx:∀ x∈xs,(dc x).length=32) (hy:∀ x∈ys,(dc x).length=32) (hA:Hp w0 R w) (hn:xs.length≤9223372036854775807):Calls Tryz.prog 121 #[.slice pa xs.length ca,.slice pb ys.length cb] w fun e w'=>e= .returned (.bool (decide (xs=ys)))∧Hp w0 R w' :=
 qZ w0 w R pa pb xs ys ca cb hX hY (fun d hd=>by rw [← aI]; exact hx d hd) (fun d hd=>by rw [← aI]; exact hy d hd) hA hn
theorem xq:(Tryz.prog.info? 29).map (fun i=>(i.zero.map (fun z=>z.cells.toList),i.size,i.bytes))=some (some (List.replicate 32 (.int .u8 0)),32,32):=af
theorem um {l:List (List UInt8)} (_:∀ x∈l,(dc x).length=32):∀ v∈cel dc l,v.oneCell'=true:=fun v hv=>by
 obtain ⟨W,hW,hv⟩:=List.mem_flatten.1 hv
 obtain ⟨x,_,rfl⟩:=List.mem_map.1 hW
 exact iw x v hv
set_option maxRecDepth 100000 in
set_option maxHeartbeats 4000000 in
theorem qW (w0 w:World) (R:List Seg) (B:Option Addr) (l:List (List UInt8)) (c:Nat) (y:List UInt8) (hB:Rc w0 R B (cel dc l)) (hl1:∀ x∈l,(dc x).length=32) (hy1:(dc y).length=32) (hA:Hp w0 R w) (hl:l.length<8796093022000):Calls Tryz.prog 60 #[.slice B l.length c,.agg (dc y).toArray] w fun e w'=>∃ g,e= .returned (.slice (some ⟨g,0,none⟩) (l.length+80) (l.length+80))∧Hp w0 ([row g 29 (cel dc (l++List.replicate 80 y))]::R) w':=by
 refine aQ Tryz.func60 O Tryz.ntmps60 ai (fun a hF=>?_)
 refine wp_seq_k fun K1 hK1=>wp_region_lit ?_
 refine az O (fun K hK=>fU (cs:=dc y) hF O ae rfl hA O (fun b1 w2 a hb1 hF hA3=>hK _ _ ?_))
 refine vR hF<|vX O<|vE hK1<|wT fun K2 hK2=>vX O<|vV O (aU O PS O O)<|vV O (bn O O O (PX _ ag)) fun a hF=>?_
 refine az O (fun K hK=>lu (size:=32) (bytes:=32) (u:= .int .u8 0) hF O ae rfl hA3 PS xq ae (l.length+80) rfl rfl ag ag ag ag (fun b4 w5 a hb4 hF hA6=>hK _ _ ?_))
 have hA7:Hp w0 ([row b4 29 (cel dc (List.replicate (l.length+80) (List.replicate 32 0:List UInt8)))]::[row b1 29 (dc y)]::R) w5:=by rw [← zX (C:=dc) (sz:=32) (z:=(List.replicate 32 0:List UInt8)) (u:= .int .u8 0) rfl]; exact hA6
 refine vR hF<|vX O<|vE hK2<|wT fun K3 hK3=>vX O<|vX O fun a hF=>?_
 refine az O (fun K hK=>yR (size:=32) hF O ae rfl hA7 PS ry ae rfl rfl l.length (Nat.min_eq_left ag).symm (gW hl1) hB (Hq.sub hA7.q (bW (bW (fD)))) (um hl1) 0 0 O (fun _=>rfl) (by rw [gW hl1,gW (sz:=32) (fun x hx=>by rw [List.eq_of_mem_replicate hx]; rfl),List.length_replicate]; omega) (fun w8 a hF hA9=>hK _ _ ?_))
 replace hA9:Hp w0 ([row b4 29 (splice (cel dc (List.replicate (l.length+80) (List.replicate 32 0:List UInt8))) 0 (cel dc l))]::[row b1 29 (dc y)]::R) w8:=hA9
 have hA10:Hp w0 ([row b4 29 (cel dc (l++List.replicate 0 y++List.replicate (80-0) (List.replicate 32 0:List UInt8)))]::[row b1 29 (dc y)]::R) w8:=by
  have e:=qO (C:=dc) (sz:=32) (l:=List.replicate (l.length+80) (List.replicate 32 0:List UInt8)) (m:=l) (fun x hx=>by rw [List.eq_of_mem_replicate hx]; rfl) hl1 (by rw [List.length_replicate]; omega)
  rw [List.drop_replicate,show l.length+80-l.length=80-0 by omega] at e
  rw [List.replicate_zero,List.append_nil,← e]; exact hA9
 refine aG<|hK3 _ _ ?_
 apply wp_seq_k; intro K4 hK4
 refine wS hF fun K5 hK5=>vX O<|vV O (aU O PS O O)<|vX O<|vE hK5<|wBk fun a hF=>?_
 refine bH (G:=Nat) (fun j a x=>j≤80∧Fr 27 [(6,.int .i64 ((l.length+j:Nat):Int)),(0,.slice B l.length c),(5,.slice (some ⟨b4,0,none⟩) (l.length+80) (l.length+80)),(3,.pointer (some ⟨b1,0,none⟩))] a∧Hp w0 ([row b4 29 (cel dc (l++List.replicate j y++List.replicate (80-j) (List.replicate 32 0:List UInt8)))]::[row b1 29 (dc y)]::R) x) (fun j=>80-j) 0 (⟨PU _,hF.keep [6,0,5,3] rfl,hA10⟩) ?_
 clear hF
 rintro j a w12 ⟨hj,hF,hA11⟩
 apply wp_seq_k; intro K6 hK6
 refine wS hF fun K7 hK7=>vX O<|vX O<|vV O (aU O PS O O)<|vV O (aB O O O O O)<|vE hK7 fun a hF=>?_
 by_cases hlt:l.length+j<l.length+80
 ·refine aF hF O (dB ag) ?_
  apply wp_skip
  refine hK6 _ _ ?_
  apply wp_seq_k; intro K8 hK8
  apply wp_block
  refine wp_region_lit ?_
  refine vR hF<|vX O<|vX O<|vV O (yZ (new:=dc y) rfl hA11.q O 1 O rF hy1)<|vV O (bF O PS ry O O (l.length+j) rfl ag rfl) fun a hF=>?_
  have hfl:∀ x∈l++List.replicate j y++List.replicate (80-j) (List.replicate 32 0:List UInt8),(dc x).length=32:=fun x hx=>by
   rcases List.mem_append.1 hx with hx | hx
   ·rcases List.mem_append.1 hx with hx | hx
    ·exact hl1 x hx
    ·rw [List.eq_of_mem_replicate hx]; exact hy1
   ·rw [List.eq_of_mem_replicate hx]; rfl
  have hflen:(l++List.replicate j y++List.replicate (80-j) (List.replicate 32 0:List UInt8)).length=l.length+80:=by rw [List.length_append,List.length_append,List.length_replicate,List.length_replicate]; omega
  refine az O (fun K hK=>mX (new:=dc y) hF O O hA11 O O 0 O (by rw [gW hfl,hflen,hy1]; omega) (iw _) (by rw [hy1]; exact ry) (fun w13 hA14=>hK _ _ ?_))
  replace hA14:Hp w0 ([row b4 29 (splice (cel dc (l++List.replicate j y++List.replicate (80-j) (List.replicate 32 0:List UInt8))) (0+(l.length+j)*32) (dc y))]::[row b1 29 (dc y)]::R) w13:=hA14
  have hA15:Hp w0 ([row b4 29 (cel dc (l++List.replicate (j+1) y++List.replicate (80-(j+1)) (List.replicate 32 0:List UInt8)))]::[row b1 29 (dc y)]::R) w13:=by
   rw [← zu,← show 80-j=80-(j+1)+1 by omega,← DN hfl (by rw [hflen]; omega) hy1,← Nat.zero_add ((l.length+j)*32)]; exact hA14
  refine aG<|hK8 _ _ ?_
  refine wp_region_lit ?_
  refine vR hF<|vX O<|vV O (bn O O O (PX _ ag))<|vX O fun a hF=>?_
  refine aG ?_
  exact ⟨j+1,ag,ag,hF.keep [6,0,5,3] rfl,hA15⟩
 ·refine au hF O (dA ag) ?_
  obtain rfl:j=80:=by omega
  apply wp_exit
  refine hK4 _ _ ?_
  refine wS hF fun K9 hK9=>vX O<|vX O<|vE hK9 fun a hF=>?_
  apply wp_ret
  refine aO hF Tryz.results60 O ?_
  have hA16:Hp w0 ([row b4 29 (cel dc (l++List.replicate 80 y++List.replicate (80-80) (List.replicate 32 0:List UInt8)))]::R) w12:=hpS 2 [0] [1] hA11 rfl
  rw [Nat.sub_self,List.replicate_zero,List.append_nil] at hA16
  exact ⟨_,rfl,hA16⟩
set_option maxRecDepth 100000 in
set_option maxHeartbeats 4000000 in
theorem qj (w0 w:World) (R:List Seg) (B B2:Option Addr) (l:List (List UInt8)) (c c2:Nat) (y:List UInt8) (hB:Rc w0 R B (cel dc (l++List.replicate 80 y))) (hB2:Rc w0 R B2 (cel dc l)) (hl1:∀ x∈l,(dc x).length=32) (hy1:(dc y).length=32) (hc:l.length+80≤c) (hA:Hp w0 R w) (hl:l.length<8796093022000):Calls Tryz.prog 62 #[.slice B (l.length+80) c,.slice B2 l.length c2,.agg (dc y).toArray] w fun e w'=>e= .returned (.bool true)∧Hp w0 R w':=by
 have hlen1:(cel dc l).length=l.length*32:=gW hl1
 have hpre:Rc w0 R B (cel dc l):=by
  have h1:=hB.take (cel dc l).length
  rwa [gp,List.take_left] at h1
 have hfl:∀ x∈l++List.replicate 80 y,(dc x).length=32:=fun x hx=>by
  rcases List.mem_append.1 hx with hx | hx
  ·exact hl1 x hx
  ·rw [List.eq_of_mem_replicate hx]; exact hy1
 refine aQ Tryz.func62 O Tryz.ntmps62 ai (fun a hF=>?_)
 refine wp_seq_k fun K1 hK1=>wp_region_lit ?_
 refine az O (fun K hK=>fU (cs:=dc y) hF O ae rfl hA O (fun b1 w2 a hb1 hF hA3=>hK _ _ ?_))
 refine vR hF<|vX O<|vE hK1<|wQ fun K2 hK2=>wT fun K3 hK3=>vX O<|vV O (aU O PS O O)<|vX O<|vV O (aU O PS O O)<|vV O (bn O O O (PX _ ag))<|vV O (aB O O O O (fG ag))<|vX O<|vG O (aV O O)<|vG O (aV O O)<|vG O (aU O PS O O)<|vG O (jf O PS ry O (.none 0) (.some rfl rfl) (PU _) ag kF)<|vG O (aV O O) fun a hF=>?_
 refine dY hF O O O O (fun K hK=>ay hF O ae Ji rfl rfl ?_)
 with_reducible refine (tV w0 _ ([row b1 29 (dc y)]::R) B B2 l l c c2 (hpre.mono (bW (fD))) (hB2.mono (bW (fD))) hl1 hl1 hA3 ag).mono ?_
 rintro e' w4 ⟨rfl,hA5⟩
 refine ⟨_,rfl,fun a hF=>hK _ _ ?_⟩
 replace hA5:Hp w0 ([row b1 29 (dc y)]::R) w4:=hA5
 rw [decide_eq_true rfl] at hF
 refine vR hF<|vG O (dK O O O)<|vV O (dw O O O)<|vE hK3<|vF1 O<|wKp hK2<|wQ fun K4 hK4=>wT fun K5 hK5=>vX O<|vV O (aU O PS O O)<|vX O<|vE hK5<|wBk fun a hF=>?_
 refine bH (G:=Nat) (fun j a x=>j≤80∧Fr 37 [(7,.int .i64 ((l.length+j:Nat):Int)),(0,.slice B (l.length+80) c),(5,.pointer (some ⟨b1,0,none⟩))] a∧Hp w0 ([row b1 29 (dc y)]::R) x) (fun j=>80-j) 0 (⟨PU _,hF.keep [7,0,5] rfl,hA5⟩) ?_
 clear hF
 rintro j a w7 ⟨hj,hF,hA6⟩
 apply wp_seq_k; intro K6 hK6
 refine wS hF fun K7 hK7=>vX O<|vX O<|vV O (aU O PS O O)<|vV O (aB O O O O O)<|vE hK7 fun a hF=>?_
 by_cases hlt:l.length+j<l.length+80
 ·refine aF hF O (dB ag) ?_
  have hat:(l++List.replicate 80 y)[l.length+j]? = some y:=by rw [List.getElem?_append_right ag,Nat.add_sub_cancel_left,List.getElem?_replicate,if_pos ag]
  obtain ⟨hc1,hc2⟩:=Jq hfl hat
  obtain ⟨b,o,rfl,hc⟩:=hB.ne (i:=(l.length+j)*32) ag
  have hyl:y.length=32:=by rw [← aI]; exact hy1
  apply wp_skip
  refine hK6 _ _ ?_
  apply wp_seq_k; intro K8 hK8
  apply wp_block
  apply wp_seq_k; intro K9 hK9
  refine aT 5 [5] [0,1,2,3,4,5] _ af af (Hq.drew hA6.q) ?_
  have hA8:=Hl.drew hA6
  refine pR hF<|pX O O<|pX O O<|pW O O (fun _=>bF O PS ry O O (l.length+j) rfl ag rfl)<|pV O O (fun x hx=>gY (new:=dc y) rfl (Hq.sub hx (bW (fD))) O hc ((l.length+j)*32) hc2 rfl hc1 rF)<|pV O O (fun x hx=>yZ (new:=dc y) rfl hx O 0 O rF hy1) fun a hF=>?_
  refine dZ hF O O O O ae _ (Cj (X:=y) (Y:=y) (c:=false) rfl PV PW Aa af rfl rfl hyl hyl (G6 rfl)) (fun h=>absurd h ae) (fun a hF=>?_)
  refine bG ?_
  refine hK9 _ _ ?_
  refine eU hF O ?_
  apply wp_skip
  refine hK8 _ _ ?_
  refine wp_region_lit ?_
  refine vR hF<|vX O<|vV O (bn O O O (PX _ ag))<|vX O fun a hF=>?_
  refine aG ?_
  exact ⟨j+1,ag,ag,hF.keep [7,0,5] rfl,hA8⟩
 ·refine au hF O (dA ag) ?_
  apply wp_exit
  refine hK4 _ _ ?_
  refine wS hF fun K10 hK10=>vX O<|vE hK10 fun a hF=>?_
  apply wp_ret
  refine aO hF Tryz.results62 O ?_
  have hA9:Hp w0 (R) w7:=hpS 1 [] [0] hA6 rfl
  exact ⟨rfl,hA9⟩
end Go.Proofs.YtepbmdlgdaedpaaGreatDoor
