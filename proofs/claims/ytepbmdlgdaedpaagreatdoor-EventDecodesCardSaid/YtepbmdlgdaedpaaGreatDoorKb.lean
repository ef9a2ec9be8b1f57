/- The statements' books of memory. -/
import Derived.Test.YtepbmdlgdaedpaaGreatDoorBk
import Derived.Test.YtepbmdlgdaedpaaGreatDoorBook0
/- The statements' books of memory. -/
namespace Go.Proofs.YtepbmdlgdaedpaaGreatDoor
open Go.RowKit Go.Dk
theorem GZ:aQ Tryz.prog 86:=⟨_,Tryz.func86,af,af⟩
theorem uj (w0 w:World) (R:List Seg) (pa pb:Option Addr) (xs ys:List (UInt8)) (ca cb:Nat) (hX:Rc w0 R pa (cel cB xs)) (hY:Rc w0 R pb (cel cB ys)) (hx:∀ x∈xs,(cB x).length=1) (hy:∀ x∈ys,(cB x).length=1) (hA:Hp w0 R w) (hn:xs.length≤9223372036854775807):Calls Tryz.prog 86 #[.slice pa xs.length ca,.slice pb ys.length cb] w fun e w'=>e= .returned (.bool (decide (xs=ys)))∧Hp w0 R w' :=
 lD w0 w R pa pb xs ys ca cb (by rw [nI]; exact hX) (by rw [nI]; exact hY) hA hn
theorem qc:(Tryz.prog.info? 5).map (fun i=>(i.zero.map (fun z=>z.cells.toList),i.size,i.bytes))=some (some (List.replicate 1 (.int .u8 0)),1,1):=af
theorem uB {l:List (UInt8)} (_:∀ x∈l,(cB x).length=1):∀ v∈cel cB l,v.oneCell'=true:=fun v hv=>by
 obtain ⟨W,hW,hv⟩:=List.mem_flatten.1 hv
 obtain ⟨x,_,rfl⟩:=List.mem_map.1 hW
 rw [List.mem_singleton.1 hv]; rfl
set_option maxRecDepth 100000 in
set_option maxHeartbeats 4000000 in
theorem qM (w0 w:World) (R:List Seg) (B:Option Addr) (l:List (UInt8)) (c:Nat) (y:UInt8) (hB:Rc w0 R B (cel cB l)) (hl1:∀ x∈l,(cB x).length=1) (hy1:(cB y).length=1) (hA:Hp w0 R w) (hl:l.length<140737488354000):Calls Tryz.prog 17 #[.slice B l.length c,.int .u8 (y.toNat:Int)] w fun e w'=>∃ g,e= .returned (.slice (some ⟨g,0,none⟩) (l.length+80) (l.length+80))∧Hp w0 ([row g 5 (cel cB (l++List.replicate 80 y))]::R) w':=by
 refine aO Tryz.func17 O Tryz.ntmps17 ai (fun a hF=>?_)
 refine wS hF fun K1 hK1=>vX O<|vE hK1<|wT fun K2 hK2=>vX O<|vV O (aZ O KY O O)<|vV O (bU O O O (KX _ ag)) fun a hF=>?_
 refine aH O (fun K hK=>qg (size:=1) (bytes:=1) (u:= .int .u8 0) hF O ae rfl hA KY qc ae (l.length+80) rfl rfl ag ag ag ag (fun b1 w2 a hb1 hF hA3=>hK _ _ ?_))
 have hA4:Hp w0 ([row b1 5 (cel cB (List.replicate (l.length+80) (0:UInt8)))]::R) w2:=by rw [← EP (C:=cB) (sz:=1) (z:=(0:UInt8)) (u:= .int .u8 0) rfl]; exact hA3
 refine vR hF<|vX O<|vE hK2<|wT fun K3 hK3=>vX O<|vX O fun a hF=>?_
 refine aH O (fun K hK=>Dz (size:=1) hF O ae rfl hA4 KY tq ae rfl rfl l.length (Nat.min_eq_left ag).symm (iT hl1) hB (Hq.sub hA4.q (bF (dH))) (uB hl1) 0 0 O (fun _=>rfl) (by rw [iT hl1,iT (sz:=1) (fun x hx=>by rw [List.eq_of_mem_replicate hx]; rfl),List.length_replicate]; omega) (fun w5 a hF hA6=>hK _ _ ?_))
 replace hA6:Hp w0 ([row b1 5 (splice (cel cB (List.replicate (l.length+80) (0:UInt8))) 0 (cel cB l))]::R) w5:=hA6
 have hA7:Hp w0 ([row b1 5 (cel cB (l++List.replicate 0 y++List.replicate (80-0) (0:UInt8)))]::R) w5:=by
  have e:=xm (C:=cB) (sz:=1) (l:=List.replicate (l.length+80) (0:UInt8)) (m:=l) (fun x hx=>by rw [List.eq_of_mem_replicate hx]; rfl) hl1 (by rw [List.length_replicate]; omega)
  rw [List.drop_replicate,show l.length+80-l.length=80-0 by omega] at e
  rw [List.replicate_zero,List.append_nil,← e]; exact hA6
 refine aK<|hK3 _ _ ?_
 apply wp_seq_k; intro K4 hK4
 refine wS hF fun K5 hK5=>vX O<|vV O (aZ O KY O O)<|vX O<|vE hK5<|wBk fun a hF=>?_
 refine bM (G:=Nat) (fun j a x=>j≤80∧Fr 27 [(6,.int .i64 ((l.length+j:Nat):Int)),(0,.slice B l.length c),(5,.slice (some ⟨b1,0,none⟩) (l.length+80) (l.length+80)),(1,.int .u8 (y.toNat:Int))] a∧Hp w0 ([row b1 5 (cel cB (l++List.replicate j y++List.replicate (80-j) (0:UInt8)))]::R) x) (fun j=>80-j) 0 (⟨KW _,hF.keep [6,0,5,1] rfl,hA7⟩) ?_
 clear hF
 rintro j a w9 ⟨hj,hF,hA8⟩
 apply wp_seq_k; intro K6 hK6
 refine wS hF fun K7 hK7=>vX O<|vX O<|vV O (aZ O KY O O)<|vV O (aG O O O O O)<|vE hK7 fun a hF=>?_
 by_cases hlt:l.length+j<l.length+80
 ·refine aF hF O (dM ag) ?_
  apply wp_skip
  refine hK6 _ _ ?_
  apply wp_seq_k; intro K8 hK8
  apply wp_block
  refine wp_region_lit ?_
  refine vR hF<|vX O<|vX O<|vX O<|vV O (bT O KY tq O O (l.length+j) rfl ag (ad2 _ _ _)) fun a hF=>?_
  have hfl:∀ x∈l++List.replicate j y++List.replicate (80-j) (0:UInt8),(cB x).length=1:=fun x hx=>by
   rcases List.mem_append.1 hx with hx | hx
   ·rcases List.mem_append.1 hx with hx | hx
    ·exact hl1 x hx
    ·rw [List.eq_of_mem_replicate hx]; exact hy1
   ·rw [List.eq_of_mem_replicate hx]; rfl
  have hflen:(l++List.replicate j y++List.replicate (80-j) (0:UInt8)).length=l.length+80:=by rw [List.length_append,List.length_append,List.length_replicate,List.length_replicate]; omega
  refine aH O (fun K hK=>bz hF O O hA8 O O 0 O (by rw [iT hfl,hflen]; omega) rfl tq (fun w10 hA11=>hK _ _ ?_))
  replace hA11:Hp w0 ([row b1 5 ((cel cB (l++List.replicate j y++List.replicate (80-j) (0:UInt8))).set (0+(l.length+j)) (.int .u8 (y.toNat:Int)))]::R) w10:=hA11
  have hA12:Hp w0 ([row b1 5 (cel cB (l++List.replicate (j+1) y++List.replicate (80-(j+1)) (0:UInt8)))]::R) w10:=by
   rw [← DU,← show 80-j=80-(j+1)+1 by omega,← EQ hfl (by rw [hflen]; omega) (u:= .int .u8 (y.toNat:Int)) rfl,← Nat.zero_add (l.length+j)]; exact hA11
  refine aK<|hK8 _ _ ?_
  refine wp_region_lit ?_
  refine vR hF<|vX O<|vV O (bU O O O (KX _ ag))<|vX O fun a hF=>?_
  refine aK ?_
  exact ⟨j+1,ag,ag,hF.keep [6,0,5,1] rfl,hA12⟩
 ·refine ay hF O (dG ag) ?_
  obtain rfl:j=80:=by omega
  apply wp_exit
  refine hK4 _ _ ?_
  refine wS hF fun K9 hK9=>vX O<|vX O<|vE hK9 fun a hF=>?_
  apply wp_ret
  refine aN hF Tryz.results17 O ?_
  rw [Nat.sub_self,List.replicate_zero,List.append_nil] at hA8
  exact ⟨_,rfl,hA8⟩
set_option maxRecDepth 100000 in
set_option maxHeartbeats 4000000 in
theorem qf (w0 w:World) (R:List Seg) (B B2:Option Addr) (l:List (UInt8)) (c c2:Nat) (y:UInt8) (hB:Rc w0 R B (cel cB (l++List.replicate 80 y))) (hB2:Rc w0 R B2 (cel cB l)) (hl1:∀ x∈l,(cB x).length=1) (hy1:(cB y).length=1) (hc:l.length+80≤c) (hA:Hp w0 R w) (hl:l.length<140737488354000):Calls Tryz.prog 65 #[.slice B (l.length+80) c,.slice B2 l.length c2,.int .u8 (y.toNat:Int)] w fun e w'=>e= .returned (.bool true)∧Hp w0 R w':=by
 have hlen1:(cel cB l).length=l.length*1:=iT hl1
 have hpre:Rc w0 R B (cel cB l):=by
  have h1:=hB.take (cel cB l).length
  rwa [jh,List.take_left] at h1
 have hfl:∀ x∈l++List.replicate 80 y,(cB x).length=1:=fun x hx=>by
  rcases List.mem_append.1 hx with hx | hx
  ·exact hl1 x hx
  ·rw [List.eq_of_mem_replicate hx]; exact hy1
 refine aO Tryz.func65 O Tryz.ntmps65 ai (fun a hF=>?_)
 refine wS hF fun K1 hK1=>vX O<|vE hK1<|wQ fun K2 hK2=>wT fun K3 hK3=>vX O<|vV O (aZ O KY O O)<|vX O<|vV O (aZ O KY O O)<|vV O (bU O O O (KX _ ag))<|vV O (aG O O O O (eP ag))<|vX O<|vG O (aX O O)<|vG O (aX O O)<|vG O (aZ O KY O O)<|vG O (eX O KY tq O (.none 0) (.some rfl rfl) (KW _) ag kC)<|vG O (aX O O) fun a hF=>?_
 refine fB hF O O O O (fun K hK=>aI hF O ae GZ rfl rfl ?_)
 with_reducible refine (uj w0 _ R B B2 l l c c2 (hpre.mono (dH)) (hB2.mono (dH)) hl1 hl1 hA ag).mono ?_
 rintro e' w1 ⟨rfl,hA2⟩
 refine ⟨_,rfl,fun a hF=>hK _ _ ?_⟩
 replace hA2:Hp w0 (R) w1:=hA2
 rw [decide_eq_true rfl] at hF
 refine vR hF<|vG O (dJ O O O)<|vV O (dB O O O)<|vE hK3<|vF1 O<|wKp hK2<|wQ fun K4 hK4=>wT fun K5 hK5=>vX O<|vV O (aZ O KY O O)<|vX O<|vE hK5<|wBk fun a hF=>?_
 refine bM (G:=Nat) (fun j a x=>j≤80∧Fr 37 [(7,.int .i64 ((l.length+j:Nat):Int)),(0,.slice B (l.length+80) c),(2,.int .u8 (y.toNat:Int))] a∧Hp w0 (R) x) (fun j=>80-j) 0 (⟨KW _,hF.keep [7,0,2] rfl,hA2⟩) ?_
 clear hF
 rintro j a w4 ⟨hj,hF,hA3⟩
 apply wp_seq_k; intro K6 hK6
 refine wS hF fun K7 hK7=>vX O<|vX O<|vV O (aZ O KY O O)<|vV O (aG O O O O O)<|vE hK7 fun a hF=>?_
 by_cases hlt:l.length+j<l.length+80
 ·refine aF hF O (dM ag) ?_
  have hat:(l++List.replicate 80 y)[l.length+j]? = some y:=by rw [List.getElem?_append_right ag,Nat.add_sub_cancel_left,List.getElem?_replicate,if_pos ag]
  obtain ⟨hc1,hc2⟩:=H7 (u:= .int .u8 (y.toNat:Int)) hfl hat rfl
  obtain ⟨b,o,rfl,hc⟩:=hB.ne (i:=l.length+j) hc2
  apply wp_skip
  refine hK6 _ _ ?_
  apply wp_seq_k; intro K8 hK8
  apply wp_block
  refine wS hF fun K9 hK9=>vX O<|vX O<|vV O (bT O KY tq O O (l.length+j) rfl ag (ad2 _ _ _))<|vV O (dQ (u:= .int .u8 (y.toNat:Int)) O (Hq.sub hA3.q (dH)) O hc (l.length+j) hc2 rfl hc1 uf)<|vX O<|vV O (aG O O O O (eP rfl))<|vE hK9<|vF1 O fun a hF=>?_
  apply wp_skip
  refine hK8 _ _ ?_
  refine wp_region_lit ?_
  refine vR hF<|vX O<|vV O (bU O O O (KX _ ag))<|vX O fun a hF=>?_
  refine aK ?_
  exact ⟨j+1,ag,ag,hF.keep [7,0,2] rfl,hA3⟩
 ·refine ay hF O (dG ag) ?_
  apply wp_exit
  refine hK4 _ _ ?_
  refine wS hF fun K10 hK10=>vX O<|vE hK10 fun a hF=>?_
  apply wp_ret
  refine aN hF Tryz.results65 O ?_
  exact ⟨rfl,hA3⟩
end Go.Proofs.YtepbmdlgdaedpaaGreatDoor
