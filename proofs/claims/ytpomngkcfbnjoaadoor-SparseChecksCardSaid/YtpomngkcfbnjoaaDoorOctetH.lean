/- octet's Writer over segments. -/
import Derived.Test.YtpomngkcfbnjoaaDoorOctetW
import Derived.Test.YtpomngkcfbnjoaaDoorHr
namespace Go.Proofs.YtpomngkcfbnjoaaDoor
open Go.RowKit Go.Dk

/-- a writer: its row, and behind it the memory of its bytes -/
def WrS (g : Nat) (l : List UInt8) (Y : Seg) : Prop := ∃ v X, Buf 5 1 X v l.length (dc l) ∧ Y = row g 160 [v] :: X
theorem WrS.same {g : Nat} {l l' : List UInt8} {Y : Seg} (h : WrS g l Y) (e : l = l') : WrS g l' Y := e ▸ h
theorem nr24_hw : notRow Tryd.prog 59 = true := by kernel_rfl
theorem sz24_hw : (Tryd.prog.info? 59).map (·.size) = some 1 := by kernel_rfl
theorem cl80_hw : CallsTo Tryd.prog 106 := ⟨_, Tryd.func106, by kernel_rfl, by kernel_rfl⟩


set_option maxRecDepth 100000 in
set_option maxHeartbeats 1000000 in
theorem hw_new (w0 w : World) (R : List Seg) (hA : Hp w0 R w) : Calls Tryd.prog 97 #[] w fun e w' => ∃ g Y, e = .returned (.pointer (some ⟨g, 0, none⟩)) ∧ WrS g [] Y ∧ Hp w0 (Y :: R) w' := by
  refine vc_enter Tryd.func97 rfl Tryd.ntmps97 (Nat.le_of_ble_eq_true rfl) (fun a hF => ?_)
  apply wp_seq_k; intro K1 hK1
  refine wp_region_lit ?_
  refine vc_y hF rfl rfl (by decide) _ (y_assign rfl rfl) (fun a hF => ?_)
  refine vc_nil ?_
  refine hK1 _ _ ?_; clear  hK1 K1
  apply wp_seq_k; intro K2 hK2
  refine wp_region_lit ?_
  refine vc_y hF rfl rfl (by decide) _ (y_build0 rfl ow_new) (fun a hF => ?_)
  refine vc_op rfl (fun K hK => hs_box (cs := [.slice none 0 0]) hF rfl (by decide) rfl hA rfl (fun b1 w2 a hb1 hF hA3 => hK _ _ ?_))
  clear hK K
  replace hA3 : Hp w0 ([row b1 160 [.slice none 0 0]] :: R) w2 := hA3
  refine vc_y hF rfl rfl (by decide) _ (y_assign rfl rfl) (fun a hF => ?_)
  refine vc_nil ?_
  refine hK2 _ _ ?_; clear  hK2 K2
  apply wp_ret
  refine vc_ret1 hF Tryd.results97 rfl ?_
  exact ⟨b1, _, rfl, ⟨_, [], Buf.nil _ _, rfl⟩, hA3⟩

set_option maxRecDepth 100000 in
set_option maxHeartbeats 1000000 in
theorem hw_put_uint8 (w0 w : World) (R : List Seg) (wb : Nat) (l : List UInt8) (Y : Seg) (n : Nat) (hn : n < 2 ^ 8) (z : Int) (hz : z = n) (hY : WrS wb l Y) (hA : Hp w0 (Y :: R) w) (hl : l.length < 140737488354000) :
    Calls Tryd.prog 98 #[.pointer (some ⟨wb, 0, none⟩), .int .u8 z] w fun e w' => ∃ Y', e = .returned (.tuple #[]) ∧ WrS wb (l ++ be 1 n) Y' ∧ Hp w0 (Y' :: R) w' := by
  subst hz
  obtain ⟨v, X, hO, rfl⟩ := hY
  replace hA : Hp w0 ([row wb 160 [v]] :: X :: R) w := Hp.part (X := [row wb 160 [v]]) hA
  refine vc_enter Tryd.func98 rfl Tryd.ntmps98 (Nat.le_of_ble_eq_true rfl) (fun a hF => ?_)
  apply wp_seq_k; intro K1 hK1
  apply wp_seq_k; intro K2 hK2
  refine wp_region_lit ?_
  refine vc_y hF rfl rfl (by decide) _ (y_move rfl rfl) (fun a hF => ?_)
  refine vc_y hF rfl rfl (by decide) _ (y_eqNil rfl (by kernel_rfl) rfl rfl) (fun a hF => ?_)
  refine vc_nil ?_
  refine hK2 _ _ ?_; clear  hK2 K2
  refine vc_false hF rfl ?_
  apply wp_skip
  refine hK1 _ _ ?_; clear  hK1 K1
  apply wp_seq_k; intro K3 hK3
  refine wp_region_lit ?_
  refine vc_op rfl (fun K hK => ws_call hF rfl (by decide) cl80_hw rfl rfl ?_)
  with_reducible refine (ow_width_uint8 w ).mono ?_
  rintro e' w3 ⟨rfl, rfl⟩
  refine ⟨_, rfl, fun a hF => hK _ _ ?_⟩
  clear hK K
  refine vc_y hF rfl rfl (by decide) _ (y_sub rfl rfl rfl (IntWalk.i64_in _ (by omega))) (fun a hF => ?_)
  refine vc_y hF rfl rfl (by decide) _ (y_assign rfl rfl) (fun a hF => ?_)
  refine vc_nil ?_
  refine hK3 _ _ ?_; clear  hK3 K3
  apply wp_block
  refine vc_loop (G := Nat) (fun j a x => ∃ (v1 : Value) (X1 : Seg), j ≤ 1 ∧ Buf 5 1 X1 v1 (l ++ (be 1 n).take j).length (dc (l ++ (be 1 n).take j)) ∧ Fr 28 [(4, .int .i64 (1 - 1 - (j : Int))), (0, .pointer (some ⟨wb, 0, none⟩)), (1, .int .u8 n)] a ∧ Hp w0 ([row wb 160 [v1]] :: X1 :: R) x) (fun j => 1 - j) 0 (⟨v, X, Nat.zero_le _, by rw [List.take_zero, List.append_nil]; exact hO, hF.keep [4, 0, 1] rfl, hA⟩) ?_
  clear hF
  rintro j a w5 ⟨v1, X1, hj, hO, hF, hA4⟩
  apply wp_seq_k; intro K4 hK4
  apply wp_seq_k; intro K5 hK5
  refine wp_region_lit ?_
  refine vc_y hF rfl rfl (by decide) _ (y_move rfl rfl) (fun a hF => ?_)
  refine vc_y hF rfl rfl (by decide) _ (y_cmp rfl rfl rfl rfl rfl) (fun a hF => ?_)
  refine vc_nil ?_
  refine hK5 _ _ ?_; clear  hK5 K5
  by_cases hlt : j < 1
  · refine vc_trueB hF rfl (geq_t (by omega)) ?_
    apply wp_skip
    refine hK4 _ _ ?_; clear  hK4 K4
    apply wp_seq_k; intro K6 hK6
    apply wp_block
    refine wp_region_plan 13 [11,12,13,14,15] [0,1,2,3,4,5,6,7,8,9,10,11,12,13,14,15] (fun x => Hq w0 ([row wb 160 [v1]] :: R) x) (by kernel_rfl) (by kernel_rfl) (Hq.drew (Hp.qp [[row wb 160 [v1]], X1] R [0] hA4)) ?_
    have hA6 := Hl.drew hA4
    refine vp_y hF rfl rfl rfl rfl (by decide) _ (fun x hx => y_move rfl rfl) (fun a hF => ?_)
    refine vp_y hF rfl rfl rfl rfl (by decide) _ (fun x hx => y_move rfl rfl) (fun a hF => ?_)
    refine vp_y hF rfl rfl rfl rfl (by decide) _ (fun x hx => y_nilCheck rfl rfl) (fun a hF => ?_)
    refine vp_y hF rfl rfl rfl rfl (by decide) _ (fun x hx => y_field rfl Tryd.underlying160 rfl sz24_hw (by decide) rfl (rfl : (⟨_, 0 + _, none⟩ : Addr) = ⟨_, 0, none⟩)) (fun a hF => ?_)
    refine vp_y hF rfl rfl rfl rfl (by decide) _ (fun x hx => y_ld rfl hx rfl 0 rfl rfl nr24_hw) (fun a hF => ?_)
    refine vp_y hF rfl rfl rfl rfl (by decide) _ (fun x hx => y_move rfl rfl) (fun a hF => ?_)
    refine vp_y hF rfl rfl rfl rfl (by decide) _ (fun x hx => y_conv rfl Tryd.underlying5 Tryd.underlying129 rfl (show IntKind.u64.wrap (n : Int) = (n : Int) by rw [IntKind.wrap_u64]; omega)) (fun a hF => ?_)
    refine vp_y hF rfl rfl rfl rfl (by decide) _ (fun x hx => y_move rfl rfl) (fun a hF => ?_)
    refine vp_y hF rfl rfl rfl rfl (by decide) _ (fun x hx => y_mul rfl rfl rfl (show IntKind.i64.wrap (8 * (1 - 1 - (j : Int))) = ((8 * (1 - 1 - j) : Nat) : Int) by rw [IntWalk.i64_in _ (by omega)]; omega)) (fun a hF => ?_)
    refine vp_y hF rfl rfl rfl rfl (by decide) _ (fun x hx => y_shr rfl rfl rfl (by omega) rfl) (fun a hF => ?_)
    refine vp_y hF rfl rfl rfl rfl (by decide) _ (fun x hx => y_conv rfl Tryd.underlying129 Tryd.underlying5 rfl (ow_shr n (1 - 1 - j) (8 * (1 - 1 - j)) rfl (by omega))) (fun a hF => ?_)
    refine vp_l rfl rfl rfl (fun K hK => hs_byte1 hF rfl (by decide) rfl hA6 (UInt8.ofNat (n / 256 ^ (1 - 1 - j))) rfl ow_build (fun b7 w8 a hb7 hF hA9 => hK _ _ (fun _ => ?_) ?_))
    · exact Hp.qp [[row b7 5 (dc [(UInt8.ofNat (n / 256 ^ (1 - 1 - j)))])], [row wb 160 [v1]], X1] R [1] hA9
    clear hK K
    replace hA9 : Hp w0 ([row b7 5 (dc [(UInt8.ofNat (n / 256 ^ (1 - 1 - j)))])] :: [row wb 160 [v1]] :: X1 :: R) w8 := hA9
    refine vp_l rfl rfl rfl (fun K hK => hs_append hF rfl (by decide) rfl hA9 2 rfl hO Tryd.underlying59 ow_elem5 rfl rfl (Bts.src (l := [(UInt8.ofNat (n / 256 ^ (1 - 1 - j)))]) Tryd.underlying59 (Rc.bts (w0 := w0) (R := [row b7 5 (dc [(UInt8.ofNat (n / 256 ^ (1 - 1 - j)))])] :: [row wb 160 [v1]] :: X1 :: R) (Rc.ofRow (i := 0) rfl rfl) hA9.q)) (by simp only [List.length_append, List.length_take, List.length_cons, List.length_nil, be, List.length_map, List.length_range] at *; omega) (by decide) (fun v2 X2 w10 a hO2 hF hA11 => hK _ _ (fun _ => ?_) ?_))
    · exact Hp.qp [[row b7 5 (dc [(UInt8.ofNat (n / 256 ^ (1 - 1 - j)))])], [row wb 160 [v1]], X2] R [1] hA11
    clear hK K
    replace hA11 : Hp w0 ([row b7 5 (dc [(UInt8.ofNat (n / 256 ^ (1 - 1 - j)))])] :: [row wb 160 [v1]] :: X2 :: R) w10 := hA11
    refine vp_ly hF rfl rfl rfl rfl (by decide) _ (y_nilCheck rfl rfl) (fun h => absurd h (by decide)) (fun a hF => ?_)
    refine vp_ly hF rfl rfl rfl rfl (by decide) _ (y_field rfl Tryd.underlying160 rfl sz24_hw (by decide) rfl (rfl : (⟨_, 0 + _, none⟩ : Addr) = ⟨_, 0, none⟩)) (fun h => absurd h (by decide)) (fun a hF => ?_)
    refine vp_l rfl rfl rfl (fun K hK => hs_store1 hF rfl rfl hA11 rfl rfl 1 rfl (by simp) hO2.one sz24_hw (fun w12 hA13 => hK _ _ (fun h => absurd h (by decide)) ?_))
    clear hK K
    replace hA13 : Hp w0 ([row b7 5 (dc [(UInt8.ofNat (n / 256 ^ (1 - 1 - j)))])] :: [row wb 160 [v2]] :: X2 :: R) w12 := hA13
    refine plan_end ?_
    refine hK6 _ _ ?_; clear  hK6 K6
    refine wp_region_lit ?_
    refine vc_y hF rfl rfl (by decide) _ (y_move rfl rfl) (fun a hF => ?_)
    refine vc_y hF rfl rfl (by decide) _ (y_sub rfl rfl rfl (show IntKind.i64.wrap (1 - 1 - (j : Int) - 1) = 1 - 1 - ((j + 1 : Nat) : Int) by rw [IntWalk.i64_in _ (by omega)]; omega)) (fun a hF => ?_)
    refine vc_y hF rfl rfl (by decide) _ (y_assign rfl rfl) (fun a hF => ?_)
    refine vc_nil ?_
    have e : l ++ (be 1 n).take j ++ [(UInt8.ofNat (n / 256 ^ (1 - 1 - j)))] = l ++ (be 1 n).take (j + 1) := by rw [List.append_assoc, ow_be 1 n j hlt]
    have e2 : (l ++ (be 1 n).take j).length + [(UInt8.ofNat (n / 256 ^ (1 - 1 - j)))].length = (l ++ (be 1 n).take (j + 1)).length := by rw [← e]; simp only [List.length_append]
    rw [← dc_append, e, e2] at hO2
    have hA14 : Hp w0 ([row wb 160 [v2]] :: X2 :: R) w12 := Hp.sel [[row b7 5 (dc [(UInt8.ofNat (n / 256 ^ (1 - 1 - j)))])], [row wb 160 [v2]], X2] R [1, 2] [0] hA13 rfl
    exact ⟨j + 1, by omega, v2, X2, by omega, hO2, hF.keep [4, 0, 1] rfl, hA14⟩
  · refine vc_falseB hF rfl (geq_f (by omega)) ?_
    obtain rfl : j = 1 := by omega
    rw [ow_be_all] at hO
    apply wp_exit
    simp only [Exit.then, Exit.inBlock, ↓reduceIte]
    refine vc_end0 hF Tryd.results98 ?_
    exact ⟨_, rfl, ⟨v1, X1, hO, rfl⟩, Hp.join hA4⟩

set_option maxRecDepth 100000 in
set_option maxHeartbeats 1000000 in
theorem hw_all (w0 w : World) (R : List Seg) (wb : Nat) (l : List UInt8) (Y : Seg) (hY : WrS wb l Y) (hA : Hp w0 (Y :: R) w) (hl : l.length < 140737488354000) : Calls Tryd.prog 100 #[.pointer (some ⟨wb, 0, none⟩)] w fun e w' => ∃ v' Z Y', e = .returned v' ∧ Buf 5 1 Z v' l.length (dc l) ∧ WrS wb l Y' ∧ Hp w0 (Z :: Y' :: R) w' := by
  obtain ⟨v, X, hO, rfl⟩ := hY
  replace hA : Hp w0 ([row wb 160 [v]] :: X :: R) w := Hp.part (X := [row wb 160 [v]]) hA
  have hO0 := hO
  obtain ⟨_, A, c, rfl, hc, hB⟩ := hO.rd (w0 := w0) (R := [X]) (List.mem_cons_self ..)
  refine vc_enter Tryd.func100 rfl Tryd.ntmps100 (Nat.le_of_ble_eq_true rfl) (fun a hF => ?_)
  apply wp_seq_k; intro K1 hK1
  refine wp_region_lit ?_
  refine vc_y hF rfl rfl (by decide) _ (y_assign rfl rfl) (fun a hF => ?_)
  refine vc_nil ?_
  refine hK1 _ _ ?_; clear  hK1 K1
  apply wp_seq_k; intro K2 hK2
  refine wp_region_lit ?_
  refine vc_y hF rfl rfl (by decide) _ (y_move rfl rfl) (fun a hF => ?_)
  refine vc_y hF rfl rfl (by decide) _ (y_nilCheck rfl rfl) (fun a hF => ?_)
  refine vc_y hF rfl rfl (by decide) _ (y_field rfl Tryd.underlying160 rfl sz24_hw (by decide) rfl (rfl : (⟨_, 0 + _, none⟩ : Addr) = ⟨_, 0, none⟩)) (fun a hF => ?_)
  refine vc_y hF rfl rfl (by decide) _ (y_ld rfl hA.q rfl 0 rfl rfl nr24_hw) (fun a hF => ?_)
  have hA1 : Hp w0 (([] : Seg) :: [row wb 160 [.slice A l.length c]] :: X :: R) w := Hp.nil hA
  refine vc_op rfl (fun K hK => hs_append hF rfl (by decide) rfl hA1 0 rfl (Buf.nil 5 1) Tryd.underlying59 ow_elem5 rfl rfl (Bts.src Tryd.underlying59 (hB.bts (Hq.sub hA1.q (by simp)))) (by omega) (by decide) (fun v2 X2 w2 a hO2 hF hA3 => hK _ _ ?_))
  clear hK K
  replace hA3 : Hp w0 (X2 :: [row wb 160 [.slice A l.length c]] :: X :: R) w2 := hA3
  rw [List.nil_append, Nat.zero_add] at hO2
  refine vc_y hF rfl rfl (by decide) _ (y_assign rfl rfl) (fun a hF => ?_)
  refine vc_nil ?_
  refine hK2 _ _ ?_; clear  hK2 K2
  apply wp_ret
  refine vc_ret1 hF Tryd.results100 rfl ?_
  exact ⟨_, X2, _, rfl, hO2, ⟨_, X, hO0, rfl⟩, Hp.ord [row wb 160 [.slice A l.length c] :: X, X2] R [1, 0] (Hp.join (Hp.ord [X2, [row wb 160 [.slice A l.length c]], X] R [1, 2, 0] hA3 rfl)) rfl⟩

def pflat (ps : List Piece) : List UInt8 := ps.flatMap (·.2.2)
theorem pflat_nil : pflat [] = [] := rfl
theorem pflat_take {ps : List Piece} {i : Nat} {A : Option Addr} {c : Nat} {l : List UInt8} (h : ps[i]? = some (A, c, l)) : pflat (ps.take (i + 1)) = pflat (ps.take i) ++ l := by
  unfold pflat
  rw [List.take_add_one, h]
  simp
theorem pflat_le {ps : List Piece} {i : Nat} {A : Option Addr} {c : Nat} {l : List UInt8} (h : ps[i]? = some (A, c, l)) : (pflat (ps.take i)).length + l.length ≤ (pflat ps).length := by
  have h1 := congrArg List.length (pflat_take h)
  have h2 : pflat ps = pflat (ps.take (i + 1)) ++ pflat (ps.drop (i + 1)) := by
    unfold pflat; rw [← List.flatMap_append, List.take_append_drop]
  rw [h2, List.length_append, h1, List.length_append]
  omega

set_option maxRecDepth 100000 in
set_option maxHeartbeats 1000000 in
theorem hw_raw (w0 w : World) (R : List Seg) (wb : Nat) (l : List UInt8) (Y : Seg) (pa : Option Addr) (ps : List Piece) (c : Nat) (hP : PcS w0 R pa ps) (hY : WrS wb l Y) (hA : Hp w0 (Y :: R) w) (hl : l.length + (pflat ps).length < 140737488354000) (hps : ps.length ≤ 9223372036854775807) : Calls Tryd.prog 99 #[.pointer (some ⟨wb, 0, none⟩), .slice pa ps.length c] w fun e w' => ∃ Y', e = .returned (.tuple #[]) ∧ WrS wb (l ++ pflat ps) Y' ∧ Hp w0 (Y' :: R) w' := by
  obtain ⟨v, X, hO, rfl⟩ := hY
  replace hA : Hp w0 ([row wb 160 [v]] :: X :: R) w := Hp.part (X := [row wb 160 [v]]) hA
  obtain ⟨hP1, hP2⟩ := hP
  refine vc_enter Tryd.func99 rfl Tryd.ntmps99 (Nat.le_of_ble_eq_true rfl) (fun a hF => ?_)
  apply wp_seq_k; intro K1 hK1
  refine wp_region_lit ?_
  refine vc_y hF rfl rfl (by decide) _ (y_move rfl rfl) (fun a hF => ?_)
  refine vc_y hF rfl rfl (by decide) _ (y_lenSl rfl Tryd.underlying35 rfl rfl) (fun a hF => ?_)
  refine vc_y hF rfl rfl (by decide) _ (y_move rfl rfl) (fun a hF => ?_)
  refine vc_nil ?_
  refine hK1 _ _ ?_; clear  hK1 K1
  apply wp_block
  refine vc_loop (G := Nat) (fun i a x => ∃ (v1 : Value) (X1 : Seg), i ≤ ps.length ∧ Buf 5 1 X1 v1 (l ++ pflat (ps.take i)).length (dc (l ++ pflat (ps.take i))) ∧ Fr 22 [(8, .int .i64 (i : Int)), (0, .pointer (some ⟨wb, 0, none⟩)), (6, .slice pa ps.length c), (7, .int .i64 ps.length)] a ∧ Hp w0 ([row wb 160 [v1]] :: X1 :: R) x) (fun i => ps.length - i) 0 (⟨v, X, Nat.zero_le _, by rw [List.take_zero, pflat_nil, List.append_nil]; exact hO, hF.keep [8, 0, 6, 7] rfl, hA⟩) ?_
  clear hF
  rintro i a w2 ⟨v1, X1, hi, hO, hF, hA1⟩
  apply wp_seq_k; intro K2 hK2
  refine wp_region_lit ?_
  refine vc_y hF rfl rfl (by decide) _ (y_cmp rfl rfl rfl rfl rfl) (fun a hF => ?_)
  refine vc_nil ?_
  refine hK2 _ _ ?_; clear  hK2 K2
  apply wp_seq_k; intro K3 hK3
  by_cases hlt : i < ps.length
  · refine vc_trueB hF rfl (lss_t (by omega)) ?_
    obtain ⟨⟨A, cA, q⟩, hp⟩ : ∃ q, ps[i]? = some q := ⟨_, List.getElem?_eq_getElem hlt⟩
    obtain ⟨b, o, rfl, hc⟩ := hP1.ne (i := i) (by rw [List.length_map]; exact hlt)
    obtain ⟨hlc, hB⟩ : q.length ≤ cA ∧ Rd w0 R A q := hP2 _ (List.mem_of_getElem? hp)
    have hft := pflat_take hp
    have hfle := pflat_le hp
    apply wp_skip
    refine hK3 _ _ ?_; clear  hK3 K3
    apply wp_seq_k; intro K4 hK4
    apply wp_block
    apply wp_seq_k; intro K5 hK5
    refine wp_region_lit ?_
    refine vc_y hF rfl rfl (by decide) _ (y_ixSl rfl Tryd.underlying35 sz24_hw rfl rfl i rfl hlt (ad2 _ _ _)) (fun a hF => ?_)
    refine vc_y hF rfl rfl (by decide) _ (y_ldC (u := .slice A q.length cA) rfl (Hq.sub hA1.q (fun _ h => List.mem_cons_of_mem _ (List.mem_cons_of_mem _ h))) rfl hc i (by rw [List.length_map]; exact hlt) rfl (by rw [List.getElem?_map, hp]; rfl) nr24_hw) (fun a hF => ?_)
    refine vc_y hF rfl rfl (by decide) _ (y_assign rfl rfl) (fun a hF => ?_)
    refine vc_nil ?_
    refine hK5 _ _ ?_; clear  hK5 K5
    refine wp_region_lit ?_
    refine vc_y hF rfl rfl (by decide) _ (y_move rfl rfl) (fun a hF => ?_)
    refine vc_y hF rfl rfl (by decide) _ (y_move rfl rfl) (fun a hF => ?_)
    refine vc_y hF rfl rfl (by decide) _ (y_nilCheck rfl rfl) (fun a hF => ?_)
    refine vc_y hF rfl rfl (by decide) _ (y_field rfl Tryd.underlying160 rfl sz24_hw (by decide) rfl (rfl : (⟨_, 0 + _, none⟩ : Addr) = ⟨_, 0, none⟩)) (fun a hF => ?_)
    refine vc_y hF rfl rfl (by decide) _ (y_ld rfl hA1.q rfl 0 rfl rfl nr24_hw) (fun a hF => ?_)
    refine vc_y hF rfl rfl (by decide) _ (y_move rfl rfl) (fun a hF => ?_)
    refine vc_op rfl (fun K hK => hs_append hF rfl (by decide) rfl hA1 1 rfl hO Tryd.underlying59 ow_elem5 rfl rfl (Rc.src (hB.mono (fun _ h => List.mem_cons_of_mem _ (List.mem_cons_of_mem _ h))) hA1.q Tryd.underlying59) (by rw [List.length_append]; omega) (by decide) (fun v2 X2 w3 a hO2 hF hA4 => hK _ _ ?_))
    clear hK K
    replace hA4 : Hp w0 ([row wb 160 [v1]] :: X2 :: R) w3 := hA4
    refine vc_y hF rfl rfl (by decide) _ (y_nilCheck rfl rfl) (fun a hF => ?_)
    refine vc_y hF rfl rfl (by decide) _ (y_field rfl Tryd.underlying160 rfl sz24_hw (by decide) rfl (rfl : (⟨_, 0 + _, none⟩ : Addr) = ⟨_, 0, none⟩)) (fun a hF => ?_)
    refine vc_op rfl (fun K hK => hs_store1 hF rfl rfl hA4 rfl rfl 0 rfl (by simp) hO2.one sz24_hw (fun w5 hA6 => hK _ _ ?_))
    clear hK K
    replace hA6 : Hp w0 ([row wb 160 [v2]] :: X2 :: R) w5 := hA6
    refine vc_nil ?_
    refine hK4 _ _ ?_; clear  hK4 K4
    refine wp_region_lit ?_
    refine vc_y hF rfl rfl (by decide) _ (y_add rfl rfl rfl (IntWalk.i64_in _ (by omega))) (fun a hF => ?_)
    refine vc_y hF rfl rfl (by decide) _ (y_move rfl rfl) (fun a hF => ?_)
    refine vc_nil ?_
    rw [← dc_append, ← List.length_append, List.append_assoc, ← hft] at hO2
    exact ⟨i + 1, by omega, v2, X2, by omega, hO2, hF.keep [8, 0, 6, 7] rfl, hA6⟩
  · refine vc_falseB hF rfl (lss_f (by omega)) ?_
    obtain rfl : i = ps.length := by omega
    rw [List.take_length] at hO
    apply wp_exit
    simp only [Exit.then, Exit.inBlock, ↓reduceIte]
    refine vc_end0 hF Tryd.results99 ?_
    exact ⟨_, rfl, ⟨v1, X1, hO, rfl⟩, Hp.join hA1⟩
end Go.Proofs.YtpomngkcfbnjoaaDoor
