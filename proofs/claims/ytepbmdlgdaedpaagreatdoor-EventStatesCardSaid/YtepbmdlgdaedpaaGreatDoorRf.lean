/- Texts that belong together, one behind the other. -/
import Derived.Test.YtepbmdlgdaedpaaGreatDoorEv8
import Derived.Test.YtepbmdlgdaedpaaGreatDoorEv
import Derived.Test.YtepbmdlgdaedpaaGreatDoorOctetH
import Derived.Test.YtepbmdlgdaedpaaGreatDoorHc
namespace Go.Proofs.YtepbmdlgdaedpaaGreatDoor
open Go.RowKit Go.Dk
theorem LX:aP Tryz.prog 92:=⟨_,Tryz.func92,af,af⟩
theorem BP:(Tryz.prog.info? 5).map (fun i=>(i.zero.map (fun z=>z.cells.toList),i.size,i.bytes))=some (some (List.replicate 1 (.int .u8 0)),1,1):=af
theorem uo (w0 w:World) (R:List Seg) (pa pb:Option Addr) (xs ys:List (List UInt8)) (ca cb:Nat) (hX:Rc w0 R pa (cel cS xs)) (hY:Rc w0 R pb (cel cS ys)) (hx:∀ x∈xs,(cS x).length=1) (hy:∀ x∈ys,(cS x).length=1) (hA:Hp w0 R w) (hn:xs.length≤9223372036854775807):Calls Tryz.prog 92 #[.slice pa xs.length ca,.slice pb ys.length cb] w fun e w'=>e= .returned (.bool (decide (xs=ys)))∧Hp w0 R w' :=
 gY w0 w R pa pb xs ys ca cb (by rw [eu]; exact hX) (by rw [eu]; exact hY) hA hn
theorem xU:(Tryz.prog.info? 9).map (fun i=>(i.zero.map (fun z=>z.cells.toList),i.size,i.bytes))=some (some (List.replicate 1 (ak [])),1,16):=af
theorem uI {l:List (List UInt8)} (_:∀ x∈l,(cS x).length=1):∀ v∈cel cS l,v.oneCell'=true:=fun v hv=>by
 obtain ⟨W,hW,hv⟩:=List.mem_flatten.1 hv
 obtain ⟨x,_,rfl⟩:=List.mem_map.1 hW
 rw [List.mem_singleton.1 hv]; rfl
set_option maxRecDepth 100000 in
set_option maxHeartbeats 4000000 in
theorem fQ (w0 w:World) (R:List Seg) (B:Option Addr) (l:List (List UInt8)) (c:Nat) (y:List UInt8) (hB:Rc w0 R B (cel cS l)) (hl1:∀ x∈l,(cS x).length=1) (hy1:(cS y).length=1) (hA:Hp w0 R w) (hl:l.length<8796093022000):Calls Tryz.prog 47 #[.slice B l.length c,ak y] w fun e w'=>∃ g,e= .returned (.slice (some ⟨g,0,none⟩) (l.length+80) (l.length+80))∧Hp w0 ([row g 9 (cel cS (l++List.replicate 80 y))]::R) w':=by
 refine aQ Tryz.func47 O Tryz.ntmps47 ai (fun a hF=>?_)
 refine wS hF fun K1 hK1=>vX O<|vE hK1<|wT fun K2 hK2=>vX O<|vV O (aT O Qr O O)<|vV O (bH O O O (Qu _ ag)) fun a hF=>?_
 refine ax O (fun K hK=>uq (size:=1) (bytes:=16) (u:=ak []) hF O ae rfl hA Qr xU ae (l.length+80) rfl rfl ag ag ag ag (fun b1 w2 a hb1 hF hA3=>hK _ _ ?_))
 have hA4:Hp w0 ([row b1 9 (cel cS (List.replicate (l.length+80) ([]:List UInt8)))]::R) w2:=by rw [← JJ (C:=cS) (sz:=1) (z:=([]:List UInt8)) (u:=ak []) rfl]; exact hA3
 refine vR hF<|vX O<|vE hK2<|wT fun K3 hK3=>vX O<|vX O fun a hF=>?_
 refine ax O (fun K hK=>Iq (size:=1) hF O ae rfl hA4 Qr xq ae rfl rfl l.length (Nat.min_eq_left ag).symm (kM hl1) hB (Hq.sub hA4.q (bJ (dD))) (uI hl1) 0 0 O (fun _=>rfl) (by rw [kM hl1,kM (sz:=1) (fun x hx=>by rw [List.eq_of_mem_replicate hx]; rfl),List.length_replicate]; omega) (fun w5 a hF hA6=>hK _ _ ?_))
 replace hA6:Hp w0 ([row b1 9 (splice (cel cS (List.replicate (l.length+80) ([]:List UInt8))) 0 (cel cS l))]::R) w5:=hA6
 have hA7:Hp w0 ([row b1 9 (cel cS (l++List.replicate 0 y++List.replicate (80-0) ([]:List UInt8)))]::R) w5:=by
  have e:=Au (C:=cS) (sz:=1) (l:=List.replicate (l.length+80) ([]:List UInt8)) (m:=l) (fun x hx=>by rw [List.eq_of_mem_replicate hx]; rfl) hl1 (by rw [List.length_replicate]; omega)
  rw [List.drop_replicate,show l.length+80-l.length=80-0 by omega] at e
  rw [List.replicate_zero,List.append_nil,← e]; exact hA6
 refine aK<|hK3 _ _ ?_
 apply wp_seq_k; intro K4 hK4
 refine wS hF fun K5 hK5=>vX O<|vV O (aT O Qr O O)<|vX O<|vE hK5<|wBk fun a hF=>?_
 refine bG (G:=Nat) (fun j a x=>j≤80∧Fr 27 [(6,.int .i64 ((l.length+j:Nat):Int)),(0,.slice B l.length c),(5,.slice (some ⟨b1,0,none⟩) (l.length+80) (l.length+80)),(1,ak y)] a∧Hp w0 ([row b1 9 (cel cS (l++List.replicate j y++List.replicate (80-j) ([]:List UInt8)))]::R) x) (fun j=>80-j) 0 (⟨Qs _,hF.keep [6,0,5,1] rfl,hA7⟩) ?_
 clear hF
 rintro j a w9 ⟨hj,hF,hA8⟩
 apply wp_seq_k; intro K6 hK6
 refine wS hF fun K7 hK7=>vX O<|vX O<|vV O (aT O Qr O O)<|vV O (aJ O O O O O)<|vE hK7 fun a hF=>?_
 by_cases hlt:l.length+j<l.length+80
 ·refine aG hF O (dA ag) ?_
  apply wp_skip
  refine hK6 _ _ ?_
  apply wp_seq_k; intro K8 hK8
  apply wp_block
  refine wp_region_lit ?_
  refine vR hF<|vX O<|vX O<|vX O<|vV O (bV O Qr xq O O (l.length+j) rfl ag (ad2 _ _ _)) fun a hF=>?_
  have hfl:∀ x∈l++List.replicate j y++List.replicate (80-j) ([]:List UInt8),(cS x).length=1:=fun x hx=>by
   rcases List.mem_append.1 hx with hx | hx
   ·rcases List.mem_append.1 hx with hx | hx
    ·exact hl1 x hx
    ·rw [List.eq_of_mem_replicate hx]; exact hy1
   ·rw [List.eq_of_mem_replicate hx]; rfl
  have hflen:(l++List.replicate j y++List.replicate (80-j) ([]:List UInt8)).length=l.length+80:=by rw [List.length_append,List.length_append,List.length_replicate,List.length_replicate]; omega
  refine ax O (fun K hK=>bW hF O O hA8 O O 0 O (by rw [kM hfl,hflen]; omega) rfl xq (fun w10 hA11=>hK _ _ ?_))
  replace hA11:Hp w0 ([row b1 9 ((cel cS (l++List.replicate j y++List.replicate (80-j) ([]:List UInt8))).set (0+(l.length+j)) (ak y))]::R) w10:=hA11
  have hA12:Hp w0 ([row b1 9 (cel cS (l++List.replicate (j+1) y++List.replicate (80-(j+1)) ([]:List UInt8)))]::R) w10:=by
   rw [← IJ,← show 80-j=80-(j+1)+1 by omega,← JK hfl (by rw [hflen]; omega) (u:=ak y) rfl,← Nat.zero_add (l.length+j)]; exact hA11
  refine aK<|hK8 _ _ ?_
  refine wp_region_lit ?_
  refine vR hF<|vX O<|vV O (bH O O O (Qu _ ag))<|vX O fun a hF=>?_
  refine aK ?_
  exact ⟨j+1,ag,ag,hF.keep [6,0,5,1] rfl,hA12⟩
 ·refine au hF O (dm ag) ?_
  obtain rfl:j=80:=by omega
  apply wp_exit
  refine hK4 _ _ ?_
  refine wS hF fun K9 hK9=>vX O<|vX O<|vE hK9 fun a hF=>?_
  apply wp_ret
  refine aO hF Tryz.results47 O ?_
  rw [Nat.sub_self,List.replicate_zero,List.append_nil] at hA8
  exact ⟨_,rfl,hA8⟩
set_option maxRecDepth 100000 in
set_option maxHeartbeats 4000000 in
theorem fD (w0 w:World) (R:List Seg) (B B2:Option Addr) (l:List (List UInt8)) (c c2:Nat) (y:List UInt8) (hB:Rc w0 R B (cel cS (l++List.replicate 80 y))) (hB2:Rc w0 R B2 (cel cS l)) (hl1:∀ x∈l,(cS x).length=1) (hy1:(cS y).length=1) (hc:l.length+80≤c) (hA:Hp w0 R w) (hl:l.length<8796093022000):Calls Tryz.prog 51 #[.slice B (l.length+80) c,.slice B2 l.length c2,ak y] w fun e w'=>e= .returned (.bool true)∧Hp w0 R w':=by
 have hlen1:(cel cS l).length=l.length*1:=kM hl1
 have hpre:Rc w0 R B (cel cS l):=by
  have h1:=hB.take (cel cS l).length
  rwa [jh,List.take_left] at h1
 have hfl:∀ x∈l++List.replicate 80 y,(cS x).length=1:=fun x hx=>by
  rcases List.mem_append.1 hx with hx | hx
  ·exact hl1 x hx
  ·rw [List.eq_of_mem_replicate hx]; exact hy1
 refine aQ Tryz.func51 O Tryz.ntmps51 ai (fun a hF=>?_)
 refine wS hF fun K1 hK1=>vX O<|vE hK1<|wQ fun K2 hK2=>wT fun K3 hK3=>vX O<|vV O (aT O Qr O O)<|vX O<|vV O (aT O Qr O O)<|vV O (bH O O O (Qu _ ag))<|vV O (aJ O O O O (fK ag))<|vX O<|vG O (aY O O)<|vG O (aY O O)<|vG O (aT O Qr O O)<|vG O (iw O Qr xq O (.none 0) (.some rfl rfl) (Qs _) ag iV)<|vG O (aY O O) fun a hF=>?_
 refine dG hF O O O O (fun K hK=>ay hF O ae LX rfl rfl ?_)
 with_reducible refine (uo w0 _ R B B2 l l c c2 (hpre.mono (dD)) (hB2.mono (dD)) hl1 hl1 hA ag).mono ?_
 rintro e' w1 ⟨rfl,hA2⟩
 refine ⟨_,rfl,fun a hF=>hK _ _ ?_⟩
 replace hA2:Hp w0 (R) w1:=hA2
 rw [decide_eq_true rfl] at hF
 refine vR hF<|vG O (dI O O O)<|vV O (dR O O O)<|vE hK3<|vF1 O<|wKp hK2<|wQ fun K4 hK4=>wT fun K5 hK5=>vX O<|vV O (aT O Qr O O)<|vX O<|vE hK5<|wBk fun a hF=>?_
 refine bG (G:=Nat) (fun j a x=>j≤80∧Fr 37 [(7,.int .i64 ((l.length+j:Nat):Int)),(0,.slice B (l.length+80) c),(2,ak y)] a∧Hp w0 (R) x) (fun j=>80-j) 0 (⟨Qs _,hF.keep [7,0,2] rfl,hA2⟩) ?_
 clear hF
 rintro j a w4 ⟨hj,hF,hA3⟩
 apply wp_seq_k; intro K6 hK6
 refine wS hF fun K7 hK7=>vX O<|vX O<|vV O (aT O Qr O O)<|vV O (aJ O O O O O)<|vE hK7 fun a hF=>?_
 by_cases hlt:l.length+j<l.length+80
 ·refine aG hF O (dA ag) ?_
  have hat:(l++List.replicate 80 y)[l.length+j]? = some y:=by rw [List.getElem?_append_right ag,Nat.add_sub_cancel_left,List.getElem?_replicate,if_pos ag]
  obtain ⟨hc1,hc2⟩:=MZ (u:=ak y) hfl hat rfl
  obtain ⟨b,o,rfl,hc⟩:=hB.ne (i:=l.length+j) hc2
  apply wp_skip
  refine hK6 _ _ ?_
  apply wp_seq_k; intro K8 hK8
  apply wp_block
  refine wS hF fun K9 hK9=>vX O<|vX O<|vV O (bV O Qr xq O O (l.length+j) rfl ag (ad2 _ _ _))<|vV O (dN (u:=ak y) rfl (Hq.sub hA3.q (dD)) O hc (l.length+j) hc2 rfl hc1 xM)<|vX O<|vV O (eF (c:=false) rfl rfl rfl rfl (tu _))<|vE hK9<|vF1 O fun a hF=>?_
  apply wp_skip
  refine hK8 _ _ ?_
  refine wp_region_lit ?_
  refine vR hF<|vX O<|vV O (bH O O O (Qu _ ag))<|vX O fun a hF=>?_
  refine aK ?_
  exact ⟨j+1,ag,ag,hF.keep [7,0,2] rfl,hA3⟩
 ·refine au hF O (dm ag) ?_
  apply wp_exit
  refine hK4 _ _ ?_
  refine wS hF fun K10 hK10=>vX O<|vE hK10 fun a hF=>?_
  apply wp_ret
  refine aO hF Tryz.results51 O ?_
  exact ⟨rfl,hA3⟩
end Go.Proofs.YtepbmdlgdaedpaaGreatDoor
namespace Go.Proofs.YtepbmdlgdaedpaaGreatDoor
open Go.RowKit Go.Dk
theorem Bq (i n:Nat):be (i+1) n=UInt8.ofNat (n/256 ^ i)::be i n:=by
 unfold be
 rw [List.range_succ_eq_map,List.map_cons,List.map_map]
 refine congrArg _ (List.map_congr_left (fun j hj=>?_))
 rw [List.mem_range] at hj
 show UInt8.ofNat (n/256 ^ (i+1-1-(j+1)))=_
 rw [show i+1-1-(j+1)=i-1-j by omega]
theorem NY (K i n:Nat) (hi:i<K):(dc (List.replicate (K-i) 0++be i n)).set (0+(K-1-i)) (.int .u8 ((UInt8.ofNat (n/256 ^ i)).toNat:Int))=dc (List.replicate (K-(i+1)) 0++be (i+1) n):=by
 obtain ⟨m,rfl⟩:∃ m,K=m+1+i:=⟨K-1-i,ag⟩
 rw [show m+1+i-i=m+1 by omega,show 0+(m+1+i-1-i)=m by omega,show m+1+i-(i+1)=m by omega,Bq]
 have h:=set_mid (B:=[]) (W:=dc (List.replicate m 0)) (Z:=dc (0::be i n)) (j:=m) (u:= .int .u8 ((UInt8.ofNat (n/256 ^ i)).toNat:Int)) (by rw [aN,List.length_replicate]) (by rw [aN,List.length_cons]; omega)
 simp only [List.nil_append,List.length_nil,Nat.zero_add] at h
 rw [List.replicate_succ',List.append_assoc,List.singleton_append]
 unfold dc at h ⊢
 rw [List.map_append,h,List.map_append]
 rfl
set_option maxRecDepth 100000 in
set_option maxHeartbeats 4000000 in
theorem EF (w0 w:World) (R:List Seg) (n kk:Nat) (z0 z:Int) (h0:z0=n) (hz:z=kk) (hK:kk≤8) (hA:Hp w0 R w):Calls Tryz.prog 157 #[.int .u64 z0,.int .i64 z] w fun e w'=>∃ g,e= .returned (.slice (some ⟨g,0,none⟩) kk kk)∧Hp w0 ([row g 5 (dc (be kk n))]::R) w':=by
 subst h0 hz
 refine aQ Tryz.func157 O Tryz.ntmps157 ai (fun a hF=>?_)
 refine wS hF fun K1 hK1=>vX O<|vE hK1 fun a hF=>?_
 clear hK1 K1
 refine wS hF fun K2 hK2=>vX O fun a hF=>?_
 refine ax O (fun K hK=>uq (size:=1) (bytes:=1) (u:= .int .u8 0) hF O ae rfl hA Qv BP ae kk rfl rfl ag ag ag ag (fun b1 w2 a hb1 hF hA3=>hK _ _ ?_))
 clear hK K
 have hA4:Hp w0 ([row b1 5 (dc (List.replicate (kk-0) 0++be 0 n))]::R) w2:=by
  have e:dc (List.replicate (kk-0) 0++be 0 n)=List.replicate (kk*1) (.int .u8 0):=by simp [dc,be]
  rw [e]; exact hA3
 refine vR hF<|vX O<|vE hK2 fun a hF=>?_
 clear hK2 K2
 apply wp_seq_k; intro K3 hK3
 refine wS hF fun K4 hK4=>vX O<|vE hK4 fun a hF=>?_
 clear hK4 K4
 apply wp_block
 refine bG (G:=Nat) (fun i a x=>i≤kk∧Fr 27 [(6,.int .i64 (i:Int)),(0,.int .u64 ((n:Nat):Int)),(1,.int .i64 ((kk:Nat):Int)),(5,.slice (some ⟨b1,0,none⟩) kk kk)] a∧Hp w0 ([row b1 5 (dc (List.replicate (kk-i) 0++be i n))]::R) x) (fun i=>kk-i) 0 (⟨Qs _,hF.keep [6,0,1,5] rfl,hA4⟩) ?_
 clear hF
 rintro i a w6 ⟨hi,hF,hA5⟩
 apply wp_seq_k; intro K5 hK5
 refine wS hF fun K6 hK6=>vX O<|vX O<|vV O (aJ O O O O O)<|vE hK6 fun a hF=>?_
 clear hK6 K6
 by_cases hlt:i<kk
 ·refine aG hF O (dA ag) ?_
  apply wp_skip
  refine hK5 _ _ ?_; clear  hK5 K5
  apply wp_seq_k; intro K7 hK7
  apply wp_block
  refine wp_region_lit ?_
  refine vR hF<|vX O<|vX O<|vV O (dE (r:=((kk-1:Nat):Int)) O O O (by rw [Qu _ ag]; omega)) fun a hF=>?_
  refine vR hF<|vX O<|vV O (dE (r:=((kk-1-i:Nat):Int)) O O O (by rw [Qu _ ag]; omega)) fun a hF=>?_
  refine vR hF<|vX O<|vX O<|vV O (sK (r:=((8*i:Nat):Int)) O O O (by rw [Qu _ ag]; omega)) fun a hF=>?_
  refine vR hF<|vV O (bQ O QD Tryz.underlying38 O (show IntKind.u64.wrap (((8*i:Nat):Int))=((8*i:Nat):Int) by rw [IntKind.wrap_u64]; omega)) fun a hF=>?_
  refine vR hF<|vV O (mO O O O ag rfl)<|vV O (bQ (r:=((UInt8.ofNat (n/256 ^ i)).toNat:Int)) O QK QJ O (uj n i (8*i) rfl ag))<|vV O (bV O Qv xu O O (kk-1-i) rfl ag (ad2 _ _ _)) fun a hF=>?_
  refine ax O (fun K hK=>bW hF O O hA5 O O 0 O (by rw [aN,List.length_append,List.length_replicate,aW]; omega) rfl xu (fun w7 hA8=>hK _ _ ?_))
  clear hK K
  replace hA8:Hp w0 ([row b1 5 ((dc (List.replicate (kk-i) 0++be i n)).set (0+(kk-1-i)) (.int .u8 ((UInt8.ofNat (n/256 ^ i)).toNat:Int)))]::R) w7:=hA8
  have hA9:Hp w0 ([row b1 5 (dc (List.replicate (kk-(i+1)) 0++be (i+1) n))]::R) w7:=by
   rw [← NY kk i n hlt]; exact hA8
  refine aK<|hK7 _ _ ?_
  clear hK7 K7
  refine wp_region_lit ?_
  refine vR hF<|vX O<|vV O (bH O O O (Qu _ ag))<|vX O fun a hF=>?_
  refine aK ?_
  exact ⟨i+1,ag,ag,hF.keep [6,0,1,5] rfl,hA9⟩
 ·refine au hF O (dm ag) ?_
  obtain rfl:i=kk:=by omega
  apply wp_exit
  refine hK3 _ _ ?_; clear hK5 K5 hK3 K3
  refine wS hF fun K8 hK8=>vX O<|vX O<|vE hK8 fun a hF=>?_
  clear hK8 K8
  apply wp_ret
  refine aO hF Tryz.results157 O ?_
  rw [Nat.sub_self,List.replicate_zero,List.nil_append] at hA5
  exact ⟨_,rfl,hA5⟩
end Go.Proofs.YtepbmdlgdaedpaaGreatDoor
