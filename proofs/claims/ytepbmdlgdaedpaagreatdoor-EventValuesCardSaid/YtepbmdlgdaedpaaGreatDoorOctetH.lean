/- octet's Writer over segments. -/
import Derived.Test.YtepbmdlgdaedpaaGreatDoorOctetW
import Derived.Test.YtepbmdlgdaedpaaGreatDoorHr
namespace Go.Proofs.YtepbmdlgdaedpaaGreatDoor
open Go.RowKit Go.Dk

/-- a writer: its row, and behind it the memory of its bytes -/
def WrS (g : Nat) (l : List UInt8) (Y : Seg) : Prop := ∃ v X, Buf 5 1 X v l.length (dc l) ∧ Y = row g 163 [v] :: X
theorem WrS.same {g : Nat} {l l' : List UInt8} {Y : Seg} (h : WrS g l Y) (e : l = l') : WrS g l' Y := e ▸ h
theorem nr9_hw : notRow Tryz.prog 9 = true := by kernel_rfl
theorem nr27_hw : notRow Tryz.prog 27 = true := by kernel_rfl
theorem rw29_hw : isRow Tryz.prog 29 32 = true := by kernel_rfl
theorem sz9_hw : (Tryz.prog.info? 9).map (·.size) = some 1 := by kernel_rfl
theorem sz27_hw : (Tryz.prog.info? 27).map (·.size) = some 1 := by kernel_rfl
theorem sz29_hw : (Tryz.prog.info? 29).map (·.size) = some 32 := by kernel_rfl
theorem cl74_hw : CallsTo Tryz.prog 74 := ⟨_, Tryz.func74, by kernel_rfl, by kernel_rfl⟩
theorem cl76_hw : CallsTo Tryz.prog 76 := ⟨_, Tryz.func76, by kernel_rfl, by kernel_rfl⟩
theorem cl88_hw : CallsTo Tryz.prog 88 := ⟨_, Tryz.func88, by kernel_rfl, by kernel_rfl⟩
theorem cl95_hw : CallsTo Tryz.prog 95 := ⟨_, Tryz.func95, by kernel_rfl, by kernel_rfl⟩
theorem cl137_hw : CallsTo Tryz.prog 137 := ⟨_, Tryz.func137, by kernel_rfl, by kernel_rfl⟩
theorem cl138_hw : CallsTo Tryz.prog 138 := ⟨_, Tryz.func138, by kernel_rfl, by kernel_rfl⟩
theorem cl139_hw : CallsTo Tryz.prog 139 := ⟨_, Tryz.func139, by kernel_rfl, by kernel_rfl⟩
theorem cl145_hw : CallsTo Tryz.prog 145 := ⟨_, Tryz.func145, by kernel_rfl, by kernel_rfl⟩
theorem cl152_hw : CallsTo Tryz.prog 152 := ⟨_, Tryz.func152, by kernel_rfl, by kernel_rfl⟩

theorem zr29_hw : zeroIs Tryz.prog 29 (.agg (dc (List.replicate 32 0)).toArray) := by unfold zeroIs; kernel_rfl

set_option maxRecDepth 100000 in
set_option maxHeartbeats 1000000 in
theorem hw_new (w0 w : World) (R : List Seg) (hA : Hp w0 R w) : Calls Tryz.prog 45 #[] w fun e w' => ∃ g Y, e = .returned (.pointer (some ⟨g, 0, none⟩)) ∧ WrS g [] Y ∧ Hp w0 (Y :: R) w' := by
  refine vc_enter Tryz.func45 rfl Tryz.ntmps45 (Nat.le_of_ble_eq_true rfl) (fun a hF => ?_)
  apply wp_seq_k; intro K1 hK1
  refine wp_region_lit ?_
  refine vc_y hF rfl rfl (by decide) _ (y_assign rfl rfl) (fun a hF => ?_)
  refine vc_nil ?_
  refine hK1 _ _ ?_; clear  hK1 K1
  apply wp_seq_k; intro K2 hK2
  refine wp_region_lit ?_
  refine vc_y hF rfl rfl (by decide) _ (y_build0 rfl ow_new) (fun a hF => ?_)
  refine vc_op rfl (fun K hK => hs_box (cs := [.slice none 0 0]) hF rfl (by decide) rfl hA rfl (fun b1 w2 a hb1 hF hA3 => hK _ _ ?_))
  clear hK K
  replace hA3 : Hp w0 ([row b1 163 [.slice none 0 0]] :: R) w2 := hA3
  refine vc_y hF rfl rfl (by decide) _ (y_assign rfl rfl) (fun a hF => ?_)
  refine vc_nil ?_
  refine hK2 _ _ ?_; clear  hK2 K2
  apply wp_ret
  refine vc_ret1 hF Tryz.results45 rfl ?_
  exact ⟨b1, _, rfl, ⟨_, [], Buf.nil _ _, rfl⟩, hA3⟩

set_option maxRecDepth 100000 in
set_option maxHeartbeats 1000000 in
theorem hw_put_uint8 (w0 w : World) (R : List Seg) (wb : Nat) (l : List UInt8) (Y : Seg) (n : Nat) (hn : n < 2 ^ 8) (z : Int) (hz : z = n) (hY : WrS wb l Y) (hA : Hp w0 (Y :: R) w) (hl : l.length < 140737500000000) :
    Calls Tryz.prog 74 #[.pointer (some ⟨wb, 0, none⟩), .int .u8 z] w fun e w' => ∃ Y', e = .returned (.tuple #[]) ∧ WrS wb (l ++ be 1 n) Y' ∧ Hp w0 (Y' :: R) w' := by
  subst hz
  obtain ⟨v, X, hO, rfl⟩ := hY
  replace hA : Hp w0 ([row wb 163 [v]] :: X :: R) w := Hp.part (X := [row wb 163 [v]]) hA
  refine vc_enter Tryz.func74 rfl Tryz.ntmps74 (Nat.le_of_ble_eq_true rfl) (fun a hF => ?_)
  apply wp_seq_k; intro K1 hK1
  apply wp_seq_k; intro K2 hK2
  refine wp_region_lit ?_
  refine vc_y hF rfl rfl (by decide) _ (y_move rfl rfl) (fun a hF => ?_)
  refine vc_y hF rfl rfl (by decide) _ (y_eqNil rfl (by kernel_rfl) rfl rfl) (fun a hF => ?_)
  refine vc_nil ?_
  refine hK2 _ _ ?_; clear  hK2 K2
  refine vc_false hF rfl ?_
  apply wp_skip
  refine hK1 _ _ ?_; clear  hK1 K1
  apply wp_seq_k; intro K3 hK3
  refine wp_region_lit ?_
  refine vc_op rfl (fun K hK => ws_call hF rfl (by decide) cl137_hw rfl rfl ?_)
  with_reducible refine (ow_width_uint8 w ).mono ?_
  rintro e' w3 ⟨rfl, rfl⟩
  refine ⟨_, rfl, fun a hF => hK _ _ ?_⟩
  clear hK K
  refine vc_y hF rfl rfl (by decide) _ (y_sub rfl rfl rfl (IntWalk.i64_in _ (by omega))) (fun a hF => ?_)
  refine vc_y hF rfl rfl (by decide) _ (y_assign rfl rfl) (fun a hF => ?_)
  refine vc_nil ?_
  refine hK3 _ _ ?_; clear  hK3 K3
  apply wp_block
  refine vc_loop (G := Nat) (fun j a x => ∃ (v1 : Value) (X1 : Seg), j ≤ 1 ∧ Buf 5 1 X1 v1 (l ++ (be 1 n).take j).length (dc (l ++ (be 1 n).take j)) ∧ Fr 28 [(4, .int .i64 (1 - 1 - (j : Int))), (0, .pointer (some ⟨wb, 0, none⟩)), (1, .int .u8 n)] a ∧ Hp w0 ([row wb 163 [v1]] :: X1 :: R) x) (fun j => 1 - j) 0 (⟨v, X, Nat.zero_le _, by rw [List.take_zero, List.append_nil]; exact hO, hF.keep [4, 0, 1] rfl, hA⟩) ?_
  clear hF
  rintro j a w5 ⟨v1, X1, hj, hO, hF, hA4⟩
  apply wp_seq_k; intro K4 hK4
  apply wp_seq_k; intro K5 hK5
  refine wp_region_lit ?_
  refine vc_y hF rfl rfl (by decide) _ (y_move rfl rfl) (fun a hF => ?_)
  refine vc_y hF rfl rfl (by decide) _ (y_cmp rfl rfl rfl rfl rfl) (fun a hF => ?_)
  refine vc_nil ?_
  refine hK5 _ _ ?_; clear  hK5 K5
  by_cases hlt : j < 1
  · refine vc_trueB hF rfl (geq_t (by omega)) ?_
    apply wp_skip
    refine hK4 _ _ ?_; clear  hK4 K4
    apply wp_seq_k; intro K6 hK6
    apply wp_block
    refine wp_region_plan 13 [11,12,13,14,15] [0,1,2,3,4,5,6,7,8,9,10,11,12,13,14,15] (fun x => Hq w0 ([row wb 163 [v1]] :: R) x) (by kernel_rfl) (by kernel_rfl) (Hq.drew (Hp.qp [[row wb 163 [v1]], X1] R [0] hA4)) ?_
    have hA6 := Hl.drew hA4
    refine vp_y hF rfl rfl rfl rfl (by decide) _ (fun x hx => y_move rfl rfl) (fun a hF => ?_)
    refine vp_y hF rfl rfl rfl rfl (by decide) _ (fun x hx => y_move rfl rfl) (fun a hF => ?_)
    refine vp_y hF rfl rfl rfl rfl (by decide) _ (fun x hx => y_nilCheck rfl rfl) (fun a hF => ?_)
    refine vp_y hF rfl rfl rfl rfl (by decide) _ (fun x hx => y_field rfl Tryz.underlying163 rfl sz27_hw (by decide) rfl (rfl : (⟨_, 0 + _, none⟩ : Addr) = ⟨_, 0, none⟩)) (fun a hF => ?_)
    refine vp_y hF rfl rfl rfl rfl (by decide) _ (fun x hx => y_ld rfl hx rfl 0 rfl rfl nr27_hw) (fun a hF => ?_)
    refine vp_y hF rfl rfl rfl rfl (by decide) _ (fun x hx => y_move rfl rfl) (fun a hF => ?_)
    refine vp_y hF rfl rfl rfl rfl (by decide) _ (fun x hx => y_conv rfl Tryz.underlying5 Tryz.underlying135 rfl (show IntKind.u64.wrap (n : Int) = (n : Int) by rw [IntKind.wrap_u64]; omega)) (fun a hF => ?_)
    refine vp_y hF rfl rfl rfl rfl (by decide) _ (fun x hx => y_move rfl rfl) (fun a hF => ?_)
    refine vp_y hF rfl rfl rfl rfl (by decide) _ (fun x hx => y_mul rfl rfl rfl (show IntKind.i64.wrap (8 * (1 - 1 - (j : Int))) = ((8 * (1 - 1 - j) : Nat) : Int) by rw [IntWalk.i64_in _ (by omega)]; omega)) (fun a hF => ?_)
    refine vp_y hF rfl rfl rfl rfl (by decide) _ (fun x hx => y_shr rfl rfl rfl (by omega) rfl) (fun a hF => ?_)
    refine vp_y hF rfl rfl rfl rfl (by decide) _ (fun x hx => y_conv rfl Tryz.underlying135 Tryz.underlying5 rfl (ow_shr n (1 - 1 - j) (8 * (1 - 1 - j)) rfl (by omega))) (fun a hF => ?_)
    refine vp_l rfl rfl rfl (fun K hK => hs_byte1 hF rfl (by decide) rfl hA6 (UInt8.ofNat (n / 256 ^ (1 - 1 - j))) rfl ow_build (fun b7 w8 a hb7 hF hA9 => hK _ _ (fun _ => ?_) ?_))
    · exact Hp.qp [[row b7 5 (dc [(UInt8.ofNat (n / 256 ^ (1 - 1 - j)))])], [row wb 163 [v1]], X1] R [1] hA9
    clear hK K
    replace hA9 : Hp w0 ([row b7 5 (dc [(UInt8.ofNat (n / 256 ^ (1 - 1 - j)))])] :: [row wb 163 [v1]] :: X1 :: R) w8 := hA9
    refine vp_l rfl rfl rfl (fun K hK => hs_append hF rfl (by decide) rfl hA9 2 rfl hO Tryz.underlying27 ow_elem5 rfl rfl (Bts.src (l := [(UInt8.ofNat (n / 256 ^ (1 - 1 - j)))]) Tryz.underlying27 (Rc.bts (w0 := w0) (R := [row b7 5 (dc [(UInt8.ofNat (n / 256 ^ (1 - 1 - j)))])] :: [row wb 163 [v1]] :: X1 :: R) (Rc.ofRow (i := 0) rfl rfl) hA9.q)) (by simp only [List.length_append, List.length_take, List.length_cons, List.length_nil, be, List.length_map, List.length_range] at *; omega) (by decide) (fun v2 X2 w10 a hO2 hF hA11 => hK _ _ (fun _ => ?_) ?_))
    · exact Hp.qp [[row b7 5 (dc [(UInt8.ofNat (n / 256 ^ (1 - 1 - j)))])], [row wb 163 [v1]], X2] R [1] hA11
    clear hK K
    replace hA11 : Hp w0 ([row b7 5 (dc [(UInt8.ofNat (n / 256 ^ (1 - 1 - j)))])] :: [row wb 163 [v1]] :: X2 :: R) w10 := hA11
    refine vp_ly hF rfl rfl rfl rfl (by decide) _ (y_nilCheck rfl rfl) (fun h => absurd h (by decide)) (fun a hF => ?_)
    refine vp_ly hF rfl rfl rfl rfl (by decide) _ (y_field rfl Tryz.underlying163 rfl sz27_hw (by decide) rfl (rfl : (⟨_, 0 + _, none⟩ : Addr) = ⟨_, 0, none⟩)) (fun h => absurd h (by decide)) (fun a hF => ?_)
    refine vp_l rfl rfl rfl (fun K hK => hs_store1 hF rfl rfl hA11 rfl rfl 1 rfl (by simp) hO2.one sz27_hw (fun w12 hA13 => hK _ _ (fun h => absurd h (by decide)) ?_))
    clear hK K
    replace hA13 : Hp w0 ([row b7 5 (dc [(UInt8.ofNat (n / 256 ^ (1 - 1 - j)))])] :: [row wb 163 [v2]] :: X2 :: R) w12 := hA13
    refine plan_end ?_
    refine hK6 _ _ ?_; clear  hK6 K6
    refine wp_region_lit ?_
    refine vc_y hF rfl rfl (by decide) _ (y_move rfl rfl) (fun a hF => ?_)
    refine vc_y hF rfl rfl (by decide) _ (y_sub rfl rfl rfl (show IntKind.i64.wrap (1 - 1 - (j : Int) - 1) = 1 - 1 - ((j + 1 : Nat) : Int) by rw [IntWalk.i64_in _ (by omega)]; omega)) (fun a hF => ?_)
    refine vc_y hF rfl rfl (by decide) _ (y_assign rfl rfl) (fun a hF => ?_)
    refine vc_nil ?_
    have e : l ++ (be 1 n).take j ++ [(UInt8.ofNat (n / 256 ^ (1 - 1 - j)))] = l ++ (be 1 n).take (j + 1) := by rw [List.append_assoc, ow_be 1 n j hlt]
    have e2 : (l ++ (be 1 n).take j).length + [(UInt8.ofNat (n / 256 ^ (1 - 1 - j)))].length = (l ++ (be 1 n).take (j + 1)).length := by rw [← e]; simp only [List.length_append]
    rw [← dc_append, e, e2] at hO2
    have hA14 : Hp w0 ([row wb 163 [v2]] :: X2 :: R) w12 := Hp.sel [[row b7 5 (dc [(UInt8.ofNat (n / 256 ^ (1 - 1 - j)))])], [row wb 163 [v2]], X2] R [1, 2] [0] hA13 rfl
    exact ⟨j + 1, by omega, v2, X2, by omega, hO2, hF.keep [4, 0, 1] rfl, hA14⟩
  · refine vc_falseB hF rfl (geq_f (by omega)) ?_
    obtain rfl : j = 1 := by omega
    rw [ow_be_all] at hO
    apply wp_exit
    simp only [Exit.then, Exit.inBlock, ↓reduceIte]
    refine vc_end0 hF Tryz.results74 ?_
    exact ⟨_, rfl, ⟨v1, X1, hO, rfl⟩, Hp.join hA4⟩

set_option maxRecDepth 100000 in
set_option maxHeartbeats 1000000 in
theorem hw_put_uint16 (w0 w : World) (R : List Seg) (wb : Nat) (l : List UInt8) (Y : Seg) (n : Nat) (hn : n < 2 ^ 16) (z : Int) (hz : z = n) (hY : WrS wb l Y) (hA : Hp w0 (Y :: R) w) (hl : l.length < 140737500000000) :
    Calls Tryz.prog 88 #[.pointer (some ⟨wb, 0, none⟩), .int .u16 z] w fun e w' => ∃ Y', e = .returned (.tuple #[]) ∧ WrS wb (l ++ be 2 n) Y' ∧ Hp w0 (Y' :: R) w' := by
  subst hz
  obtain ⟨v, X, hO, rfl⟩ := hY
  replace hA : Hp w0 ([row wb 163 [v]] :: X :: R) w := Hp.part (X := [row wb 163 [v]]) hA
  refine vc_enter Tryz.func88 rfl Tryz.ntmps88 (Nat.le_of_ble_eq_true rfl) (fun a hF => ?_)
  apply wp_seq_k; intro K1 hK1
  apply wp_seq_k; intro K2 hK2
  refine wp_region_lit ?_
  refine vc_y hF rfl rfl (by decide) _ (y_move rfl rfl) (fun a hF => ?_)
  refine vc_y hF rfl rfl (by decide) _ (y_eqNil rfl (by kernel_rfl) rfl rfl) (fun a hF => ?_)
  refine vc_nil ?_
  refine hK2 _ _ ?_; clear  hK2 K2
  refine vc_false hF rfl ?_
  apply wp_skip
  refine hK1 _ _ ?_; clear  hK1 K1
  apply wp_seq_k; intro K3 hK3
  refine wp_region_lit ?_
  refine vc_op rfl (fun K hK => ws_call hF rfl (by decide) cl145_hw rfl rfl ?_)
  with_reducible refine (ow_width_uint16 w ).mono ?_
  rintro e' w3 ⟨rfl, rfl⟩
  refine ⟨_, rfl, fun a hF => hK _ _ ?_⟩
  clear hK K
  refine vc_y hF rfl rfl (by decide) _ (y_sub rfl rfl rfl (IntWalk.i64_in _ (by omega))) (fun a hF => ?_)
  refine vc_y hF rfl rfl (by decide) _ (y_assign rfl rfl) (fun a hF => ?_)
  refine vc_nil ?_
  refine hK3 _ _ ?_; clear  hK3 K3
  apply wp_block
  refine vc_loop (G := Nat) (fun j a x => ∃ (v1 : Value) (X1 : Seg), j ≤ 2 ∧ Buf 5 1 X1 v1 (l ++ (be 2 n).take j).length (dc (l ++ (be 2 n).take j)) ∧ Fr 28 [(4, .int .i64 (2 - 1 - (j : Int))), (0, .pointer (some ⟨wb, 0, none⟩)), (1, .int .u16 n)] a ∧ Hp w0 ([row wb 163 [v1]] :: X1 :: R) x) (fun j => 2 - j) 0 (⟨v, X, Nat.zero_le _, by rw [List.take_zero, List.append_nil]; exact hO, hF.keep [4, 0, 1] rfl, hA⟩) ?_
  clear hF
  rintro j a w5 ⟨v1, X1, hj, hO, hF, hA4⟩
  apply wp_seq_k; intro K4 hK4
  apply wp_seq_k; intro K5 hK5
  refine wp_region_lit ?_
  refine vc_y hF rfl rfl (by decide) _ (y_move rfl rfl) (fun a hF => ?_)
  refine vc_y hF rfl rfl (by decide) _ (y_cmp rfl rfl rfl rfl rfl) (fun a hF => ?_)
  refine vc_nil ?_
  refine hK5 _ _ ?_; clear  hK5 K5
  by_cases hlt : j < 2
  · refine vc_trueB hF rfl (geq_t (by omega)) ?_
    apply wp_skip
    refine hK4 _ _ ?_; clear  hK4 K4
    apply wp_seq_k; intro K6 hK6
    apply wp_block
    refine wp_region_plan 13 [11,12,13,14,15] [0,1,2,3,4,5,6,7,8,9,10,11,12,13,14,15] (fun x => Hq w0 ([row wb 163 [v1]] :: R) x) (by kernel_rfl) (by kernel_rfl) (Hq.drew (Hp.qp [[row wb 163 [v1]], X1] R [0] hA4)) ?_
    have hA6 := Hl.drew hA4
    refine vp_y hF rfl rfl rfl rfl (by decide) _ (fun x hx => y_move rfl rfl) (fun a hF => ?_)
    refine vp_y hF rfl rfl rfl rfl (by decide) _ (fun x hx => y_move rfl rfl) (fun a hF => ?_)
    refine vp_y hF rfl rfl rfl rfl (by decide) _ (fun x hx => y_nilCheck rfl rfl) (fun a hF => ?_)
    refine vp_y hF rfl rfl rfl rfl (by decide) _ (fun x hx => y_field rfl Tryz.underlying163 rfl sz27_hw (by decide) rfl (rfl : (⟨_, 0 + _, none⟩ : Addr) = ⟨_, 0, none⟩)) (fun a hF => ?_)
    refine vp_y hF rfl rfl rfl rfl (by decide) _ (fun x hx => y_ld rfl hx rfl 0 rfl rfl nr27_hw) (fun a hF => ?_)
    refine vp_y hF rfl rfl rfl rfl (by decide) _ (fun x hx => y_move rfl rfl) (fun a hF => ?_)
    refine vp_y hF rfl rfl rfl rfl (by decide) _ (fun x hx => y_conv rfl Tryz.underlying81 Tryz.underlying135 rfl (show IntKind.u64.wrap (n : Int) = (n : Int) by rw [IntKind.wrap_u64]; omega)) (fun a hF => ?_)
    refine vp_y hF rfl rfl rfl rfl (by decide) _ (fun x hx => y_move rfl rfl) (fun a hF => ?_)
    refine vp_y hF rfl rfl rfl rfl (by decide) _ (fun x hx => y_mul rfl rfl rfl (show IntKind.i64.wrap (8 * (2 - 1 - (j : Int))) = ((8 * (2 - 1 - j) : Nat) : Int) by rw [IntWalk.i64_in _ (by omega)]; omega)) (fun a hF => ?_)
    refine vp_y hF rfl rfl rfl rfl (by decide) _ (fun x hx => y_shr rfl rfl rfl (by omega) rfl) (fun a hF => ?_)
    refine vp_y hF rfl rfl rfl rfl (by decide) _ (fun x hx => y_conv rfl Tryz.underlying135 Tryz.underlying5 rfl (ow_shr n (2 - 1 - j) (8 * (2 - 1 - j)) rfl (by omega))) (fun a hF => ?_)
    refine vp_l rfl rfl rfl (fun K hK => hs_byte1 hF rfl (by decide) rfl hA6 (UInt8.ofNat (n / 256 ^ (2 - 1 - j))) rfl ow_build (fun b7 w8 a hb7 hF hA9 => hK _ _ (fun _ => ?_) ?_))
    · exact Hp.qp [[row b7 5 (dc [(UInt8.ofNat (n / 256 ^ (2 - 1 - j)))])], [row wb 163 [v1]], X1] R [1] hA9
    clear hK K
    replace hA9 : Hp w0 ([row b7 5 (dc [(UInt8.ofNat (n / 256 ^ (2 - 1 - j)))])] :: [row wb 163 [v1]] :: X1 :: R) w8 := hA9
    refine vp_l rfl rfl rfl (fun K hK => hs_append hF rfl (by decide) rfl hA9 2 rfl hO Tryz.underlying27 ow_elem5 rfl rfl (Bts.src (l := [(UInt8.ofNat (n / 256 ^ (2 - 1 - j)))]) Tryz.underlying27 (Rc.bts (w0 := w0) (R := [row b7 5 (dc [(UInt8.ofNat (n / 256 ^ (2 - 1 - j)))])] :: [row wb 163 [v1]] :: X1 :: R) (Rc.ofRow (i := 0) rfl rfl) hA9.q)) (by simp only [List.length_append, List.length_take, List.length_cons, List.length_nil, be, List.length_map, List.length_range] at *; omega) (by decide) (fun v2 X2 w10 a hO2 hF hA11 => hK _ _ (fun _ => ?_) ?_))
    · exact Hp.qp [[row b7 5 (dc [(UInt8.ofNat (n / 256 ^ (2 - 1 - j)))])], [row wb 163 [v1]], X2] R [1] hA11
    clear hK K
    replace hA11 : Hp w0 ([row b7 5 (dc [(UInt8.ofNat (n / 256 ^ (2 - 1 - j)))])] :: [row wb 163 [v1]] :: X2 :: R) w10 := hA11
    refine vp_ly hF rfl rfl rfl rfl (by decide) _ (y_nilCheck rfl rfl) (fun h => absurd h (by decide)) (fun a hF => ?_)
    refine vp_ly hF rfl rfl rfl rfl (by decide) _ (y_field rfl Tryz.underlying163 rfl sz27_hw (by decide) rfl (rfl : (⟨_, 0 + _, none⟩ : Addr) = ⟨_, 0, none⟩)) (fun h => absurd h (by decide)) (fun a hF => ?_)
    refine vp_l rfl rfl rfl (fun K hK => hs_store1 hF rfl rfl hA11 rfl rfl 1 rfl (by simp) hO2.one sz27_hw (fun w12 hA13 => hK _ _ (fun h => absurd h (by decide)) ?_))
    clear hK K
    replace hA13 : Hp w0 ([row b7 5 (dc [(UInt8.ofNat (n / 256 ^ (2 - 1 - j)))])] :: [row wb 163 [v2]] :: X2 :: R) w12 := hA13
    refine plan_end ?_
    refine hK6 _ _ ?_; clear  hK6 K6
    refine wp_region_lit ?_
    refine vc_y hF rfl rfl (by decide) _ (y_move rfl rfl) (fun a hF => ?_)
    refine vc_y hF rfl rfl (by decide) _ (y_sub rfl rfl rfl (show IntKind.i64.wrap (2 - 1 - (j : Int) - 1) = 2 - 1 - ((j + 1 : Nat) : Int) by rw [IntWalk.i64_in _ (by omega)]; omega)) (fun a hF => ?_)
    refine vc_y hF rfl rfl (by decide) _ (y_assign rfl rfl) (fun a hF => ?_)
    refine vc_nil ?_
    have e : l ++ (be 2 n).take j ++ [(UInt8.ofNat (n / 256 ^ (2 - 1 - j)))] = l ++ (be 2 n).take (j + 1) := by rw [List.append_assoc, ow_be 2 n j hlt]
    have e2 : (l ++ (be 2 n).take j).length + [(UInt8.ofNat (n / 256 ^ (2 - 1 - j)))].length = (l ++ (be 2 n).take (j + 1)).length := by rw [← e]; simp only [List.length_append]
    rw [← dc_append, e, e2] at hO2
    have hA14 : Hp w0 ([row wb 163 [v2]] :: X2 :: R) w12 := Hp.sel [[row b7 5 (dc [(UInt8.ofNat (n / 256 ^ (2 - 1 - j)))])], [row wb 163 [v2]], X2] R [1, 2] [0] hA13 rfl
    exact ⟨j + 1, by omega, v2, X2, by omega, hO2, hF.keep [4, 0, 1] rfl, hA14⟩
  · refine vc_falseB hF rfl (geq_f (by omega)) ?_
    obtain rfl : j = 2 := by omega
    rw [ow_be_all] at hO
    apply wp_exit
    simp only [Exit.then, Exit.inBlock, ↓reduceIte]
    refine vc_end0 hF Tryz.results88 ?_
    exact ⟨_, rfl, ⟨v1, X1, hO, rfl⟩, Hp.join hA4⟩

set_option maxRecDepth 100000 in
set_option maxHeartbeats 1000000 in
theorem hw_put_uint32 (w0 w : World) (R : List Seg) (wb : Nat) (l : List UInt8) (Y : Seg) (n : Nat) (hn : n < 2 ^ 32) (z : Int) (hz : z = n) (hY : WrS wb l Y) (hA : Hp w0 (Y :: R) w) (hl : l.length < 140737500000000) :
    Calls Tryz.prog 95 #[.pointer (some ⟨wb, 0, none⟩), .int .u32 z] w fun e w' => ∃ Y', e = .returned (.tuple #[]) ∧ WrS wb (l ++ be 4 n) Y' ∧ Hp w0 (Y' :: R) w' := by
  subst hz
  obtain ⟨v, X, hO, rfl⟩ := hY
  replace hA : Hp w0 ([row wb 163 [v]] :: X :: R) w := Hp.part (X := [row wb 163 [v]]) hA
  refine vc_enter Tryz.func95 rfl Tryz.ntmps95 (Nat.le_of_ble_eq_true rfl) (fun a hF => ?_)
  apply wp_seq_k; intro K1 hK1
  apply wp_seq_k; intro K2 hK2
  refine wp_region_lit ?_
  refine vc_y hF rfl rfl (by decide) _ (y_move rfl rfl) (fun a hF => ?_)
  refine vc_y hF rfl rfl (by decide) _ (y_eqNil rfl (by kernel_rfl) rfl rfl) (fun a hF => ?_)
  refine vc_nil ?_
  refine hK2 _ _ ?_; clear  hK2 K2
  refine vc_false hF rfl ?_
  apply wp_skip
  refine hK1 _ _ ?_; clear  hK1 K1
  apply wp_seq_k; intro K3 hK3
  refine wp_region_lit ?_
  refine vc_op rfl (fun K hK => ws_call hF rfl (by decide) cl152_hw rfl rfl ?_)
  with_reducible refine (ow_width_uint32 w ).mono ?_
  rintro e' w3 ⟨rfl, rfl⟩
  refine ⟨_, rfl, fun a hF => hK _ _ ?_⟩
  clear hK K
  refine vc_y hF rfl rfl (by decide) _ (y_sub rfl rfl rfl (IntWalk.i64_in _ (by omega))) (fun a hF => ?_)
  refine vc_y hF rfl rfl (by decide) _ (y_assign rfl rfl) (fun a hF => ?_)
  refine vc_nil ?_
  refine hK3 _ _ ?_; clear  hK3 K3
  apply wp_block
  refine vc_loop (G := Nat) (fun j a x => ∃ (v1 : Value) (X1 : Seg), j ≤ 4 ∧ Buf 5 1 X1 v1 (l ++ (be 4 n).take j).length (dc (l ++ (be 4 n).take j)) ∧ Fr 28 [(4, .int .i64 (4 - 1 - (j : Int))), (0, .pointer (some ⟨wb, 0, none⟩)), (1, .int .u32 n)] a ∧ Hp w0 ([row wb 163 [v1]] :: X1 :: R) x) (fun j => 4 - j) 0 (⟨v, X, Nat.zero_le _, by rw [List.take_zero, List.append_nil]; exact hO, hF.keep [4, 0, 1] rfl, hA⟩) ?_
  clear hF
  rintro j a w5 ⟨v1, X1, hj, hO, hF, hA4⟩
  apply wp_seq_k; intro K4 hK4
  apply wp_seq_k; intro K5 hK5
  refine wp_region_lit ?_
  refine vc_y hF rfl rfl (by decide) _ (y_move rfl rfl) (fun a hF => ?_)
  refine vc_y hF rfl rfl (by decide) _ (y_cmp rfl rfl rfl rfl rfl) (fun a hF => ?_)
  refine vc_nil ?_
  refine hK5 _ _ ?_; clear  hK5 K5
  by_cases hlt : j < 4
  · refine vc_trueB hF rfl (geq_t (by omega)) ?_
    apply wp_skip
    refine hK4 _ _ ?_; clear  hK4 K4
    apply wp_seq_k; intro K6 hK6
    apply wp_block
    refine wp_region_plan 13 [11,12,13,14,15] [0,1,2,3,4,5,6,7,8,9,10,11,12,13,14,15] (fun x => Hq w0 ([row wb 163 [v1]] :: R) x) (by kernel_rfl) (by kernel_rfl) (Hq.drew (Hp.qp [[row wb 163 [v1]], X1] R [0] hA4)) ?_
    have hA6 := Hl.drew hA4
    refine vp_y hF rfl rfl rfl rfl (by decide) _ (fun x hx => y_move rfl rfl) (fun a hF => ?_)
    refine vp_y hF rfl rfl rfl rfl (by decide) _ (fun x hx => y_move rfl rfl) (fun a hF => ?_)
    refine vp_y hF rfl rfl rfl rfl (by decide) _ (fun x hx => y_nilCheck rfl rfl) (fun a hF => ?_)
    refine vp_y hF rfl rfl rfl rfl (by decide) _ (fun x hx => y_field rfl Tryz.underlying163 rfl sz27_hw (by decide) rfl (rfl : (⟨_, 0 + _, none⟩ : Addr) = ⟨_, 0, none⟩)) (fun a hF => ?_)
    refine vp_y hF rfl rfl rfl rfl (by decide) _ (fun x hx => y_ld rfl hx rfl 0 rfl rfl nr27_hw) (fun a hF => ?_)
    refine vp_y hF rfl rfl rfl rfl (by decide) _ (fun x hx => y_move rfl rfl) (fun a hF => ?_)
    refine vp_y hF rfl rfl rfl rfl (by decide) _ (fun x hx => y_conv rfl Tryz.underlying150 Tryz.underlying135 rfl (show IntKind.u64.wrap (n : Int) = (n : Int) by rw [IntKind.wrap_u64]; omega)) (fun a hF => ?_)
    refine vp_y hF rfl rfl rfl rfl (by decide) _ (fun x hx => y_move rfl rfl) (fun a hF => ?_)
    refine vp_y hF rfl rfl rfl rfl (by decide) _ (fun x hx => y_mul rfl rfl rfl (show IntKind.i64.wrap (8 * (4 - 1 - (j : Int))) = ((8 * (4 - 1 - j) : Nat) : Int) by rw [IntWalk.i64_in _ (by omega)]; omega)) (fun a hF => ?_)
    refine vp_y hF rfl rfl rfl rfl (by decide) _ (fun x hx => y_shr rfl rfl rfl (by omega) rfl) (fun a hF => ?_)
    refine vp_y hF rfl rfl rfl rfl (by decide) _ (fun x hx => y_conv rfl Tryz.underlying135 Tryz.underlying5 rfl (ow_shr n (4 - 1 - j) (8 * (4 - 1 - j)) rfl (by omega))) (fun a hF => ?_)
    refine vp_l rfl rfl rfl (fun K hK => hs_byte1 hF rfl (by decide) rfl hA6 (UInt8.ofNat (n / 256 ^ (4 - 1 - j))) rfl ow_build (fun b7 w8 a hb7 hF hA9 => hK _ _ (fun _ => ?_) ?_))
    · exact Hp.qp [[row b7 5 (dc [(UInt8.ofNat (n / 256 ^ (4 - 1 - j)))])], [row wb 163 [v1]], X1] R [1] hA9
    clear hK K
    replace hA9 : Hp w0 ([row b7 5 (dc [(UInt8.ofNat (n / 256 ^ (4 - 1 - j)))])] :: [row wb 163 [v1]] :: X1 :: R) w8 := hA9
    refine vp_l rfl rfl rfl (fun K hK => hs_append hF rfl (by decide) rfl hA9 2 rfl hO Tryz.underlying27 ow_elem5 rfl rfl (Bts.src (l := [(UInt8.ofNat (n / 256 ^ (4 - 1 - j)))]) Tryz.underlying27 (Rc.bts (w0 := w0) (R := [row b7 5 (dc [(UInt8.ofNat (n / 256 ^ (4 - 1 - j)))])] :: [row wb 163 [v1]] :: X1 :: R) (Rc.ofRow (i := 0) rfl rfl) hA9.q)) (by simp only [List.length_append, List.length_take, List.length_cons, List.length_nil, be, List.length_map, List.length_range] at *; omega) (by decide) (fun v2 X2 w10 a hO2 hF hA11 => hK _ _ (fun _ => ?_) ?_))
    · exact Hp.qp [[row b7 5 (dc [(UInt8.ofNat (n / 256 ^ (4 - 1 - j)))])], [row wb 163 [v1]], X2] R [1] hA11
    clear hK K
    replace hA11 : Hp w0 ([row b7 5 (dc [(UInt8.ofNat (n / 256 ^ (4 - 1 - j)))])] :: [row wb 163 [v1]] :: X2 :: R) w10 := hA11
    refine vp_ly hF rfl rfl rfl rfl (by decide) _ (y_nilCheck rfl rfl) (fun h => absurd h (by decide)) (fun a hF => ?_)
    refine vp_ly hF rfl rfl rfl rfl (by decide) _ (y_field rfl Tryz.underlying163 rfl sz27_hw (by decide) rfl (rfl : (⟨_, 0 + _, none⟩ : Addr) = ⟨_, 0, none⟩)) (fun h => absurd h (by decide)) (fun a hF => ?_)
    refine vp_l rfl rfl rfl (fun K hK => hs_store1 hF rfl rfl hA11 rfl rfl 1 rfl (by simp) hO2.one sz27_hw (fun w12 hA13 => hK _ _ (fun h => absurd h (by decide)) ?_))
    clear hK K
    replace hA13 : Hp w0 ([row b7 5 (dc [(UInt8.ofNat (n / 256 ^ (4 - 1 - j)))])] :: [row wb 163 [v2]] :: X2 :: R) w12 := hA13
    refine plan_end ?_
    refine hK6 _ _ ?_; clear  hK6 K6
    refine wp_region_lit ?_
    refine vc_y hF rfl rfl (by decide) _ (y_move rfl rfl) (fun a hF => ?_)
    refine vc_y hF rfl rfl (by decide) _ (y_sub rfl rfl rfl (show IntKind.i64.wrap (4 - 1 - (j : Int) - 1) = 4 - 1 - ((j + 1 : Nat) : Int) by rw [IntWalk.i64_in _ (by omega)]; omega)) (fun a hF => ?_)
    refine vc_y hF rfl rfl (by decide) _ (y_assign rfl rfl) (fun a hF => ?_)
    refine vc_nil ?_
    have e : l ++ (be 4 n).take j ++ [(UInt8.ofNat (n / 256 ^ (4 - 1 - j)))] = l ++ (be 4 n).take (j + 1) := by rw [List.append_assoc, ow_be 4 n j hlt]
    have e2 : (l ++ (be 4 n).take j).length + [(UInt8.ofNat (n / 256 ^ (4 - 1 - j)))].length = (l ++ (be 4 n).take (j + 1)).length := by rw [← e]; simp only [List.length_append]
    rw [← dc_append, e, e2] at hO2
    have hA14 : Hp w0 ([row wb 163 [v2]] :: X2 :: R) w12 := Hp.sel [[row b7 5 (dc [(UInt8.ofNat (n / 256 ^ (4 - 1 - j)))])], [row wb 163 [v2]], X2] R [1, 2] [0] hA13 rfl
    exact ⟨j + 1, by omega, v2, X2, by omega, hO2, hF.keep [4, 0, 1] rfl, hA14⟩
  · refine vc_falseB hF rfl (geq_f (by omega)) ?_
    obtain rfl : j = 4 := by omega
    rw [ow_be_all] at hO
    apply wp_exit
    simp only [Exit.then, Exit.inBlock, ↓reduceIte]
    refine vc_end0 hF Tryz.results95 ?_
    exact ⟨_, rfl, ⟨v1, X1, hO, rfl⟩, Hp.join hA4⟩

set_option maxRecDepth 100000 in
set_option maxHeartbeats 1000000 in
theorem hw_put_uint64 (w0 w : World) (R : List Seg) (wb : Nat) (l : List UInt8) (Y : Seg) (n : Nat) (_hn : n < 2 ^ 64) (z : Int) (hz : z = n) (hY : WrS wb l Y) (hA : Hp w0 (Y :: R) w) (hl : l.length < 140737500000000) :
    Calls Tryz.prog 75 #[.pointer (some ⟨wb, 0, none⟩), .int .u64 z] w fun e w' => ∃ Y', e = .returned (.tuple #[]) ∧ WrS wb (l ++ be 8 n) Y' ∧ Hp w0 (Y' :: R) w' := by
  subst hz
  obtain ⟨v, X, hO, rfl⟩ := hY
  replace hA : Hp w0 ([row wb 163 [v]] :: X :: R) w := Hp.part (X := [row wb 163 [v]]) hA
  refine vc_enter Tryz.func75 rfl Tryz.ntmps75 (Nat.le_of_ble_eq_true rfl) (fun a hF => ?_)
  apply wp_seq_k; intro K1 hK1
  apply wp_seq_k; intro K2 hK2
  refine wp_region_lit ?_
  refine vc_y hF rfl rfl (by decide) _ (y_move rfl rfl) (fun a hF => ?_)
  refine vc_y hF rfl rfl (by decide) _ (y_eqNil rfl (by kernel_rfl) rfl rfl) (fun a hF => ?_)
  refine vc_nil ?_
  refine hK2 _ _ ?_; clear  hK2 K2
  refine vc_false hF rfl ?_
  apply wp_skip
  refine hK1 _ _ ?_; clear  hK1 K1
  apply wp_seq_k; intro K3 hK3
  refine wp_region_lit ?_
  refine vc_op rfl (fun K hK => ws_call hF rfl (by decide) cl138_hw rfl rfl ?_)
  with_reducible refine (ow_width_uint64 w ).mono ?_
  rintro e' w3 ⟨rfl, rfl⟩
  refine ⟨_, rfl, fun a hF => hK _ _ ?_⟩
  clear hK K
  refine vc_y hF rfl rfl (by decide) _ (y_sub rfl rfl rfl (IntWalk.i64_in _ (by omega))) (fun a hF => ?_)
  refine vc_y hF rfl rfl (by decide) _ (y_assign rfl rfl) (fun a hF => ?_)
  refine vc_nil ?_
  refine hK3 _ _ ?_; clear  hK3 K3
  apply wp_block
  refine vc_loop (G := Nat) (fun j a x => ∃ (v1 : Value) (X1 : Seg), j ≤ 8 ∧ Buf 5 1 X1 v1 (l ++ (be 8 n).take j).length (dc (l ++ (be 8 n).take j)) ∧ Fr 27 [(4, .int .i64 (8 - 1 - (j : Int))), (0, .pointer (some ⟨wb, 0, none⟩)), (1, .int .u64 n)] a ∧ Hp w0 ([row wb 163 [v1]] :: X1 :: R) x) (fun j => 8 - j) 0 (⟨v, X, Nat.zero_le _, by rw [List.take_zero, List.append_nil]; exact hO, hF.keep [4, 0, 1] rfl, hA⟩) ?_
  clear hF
  rintro j a w5 ⟨v1, X1, hj, hO, hF, hA4⟩
  apply wp_seq_k; intro K4 hK4
  apply wp_seq_k; intro K5 hK5
  refine wp_region_lit ?_
  refine vc_y hF rfl rfl (by decide) _ (y_move rfl rfl) (fun a hF => ?_)
  refine vc_y hF rfl rfl (by decide) _ (y_cmp rfl rfl rfl rfl rfl) (fun a hF => ?_)
  refine vc_nil ?_
  refine hK5 _ _ ?_; clear  hK5 K5
  by_cases hlt : j < 8
  · refine vc_trueB hF rfl (geq_t (by omega)) ?_
    apply wp_skip
    refine hK4 _ _ ?_; clear  hK4 K4
    apply wp_seq_k; intro K6 hK6
    apply wp_block
    refine wp_region_plan 12 [10,11,12,13,14] [0,1,2,3,4,5,6,7,8,9,10,11,12,13,14] (fun x => Hq w0 ([row wb 163 [v1]] :: R) x) (by kernel_rfl) (by kernel_rfl) (Hq.drew (Hp.qp [[row wb 163 [v1]], X1] R [0] hA4)) ?_
    have hA6 := Hl.drew hA4
    refine vp_y hF rfl rfl rfl rfl (by decide) _ (fun x hx => y_move rfl rfl) (fun a hF => ?_)
    refine vp_y hF rfl rfl rfl rfl (by decide) _ (fun x hx => y_move rfl rfl) (fun a hF => ?_)
    refine vp_y hF rfl rfl rfl rfl (by decide) _ (fun x hx => y_nilCheck rfl rfl) (fun a hF => ?_)
    refine vp_y hF rfl rfl rfl rfl (by decide) _ (fun x hx => y_field rfl Tryz.underlying163 rfl sz27_hw (by decide) rfl (rfl : (⟨_, 0 + _, none⟩ : Addr) = ⟨_, 0, none⟩)) (fun a hF => ?_)
    refine vp_y hF rfl rfl rfl rfl (by decide) _ (fun x hx => y_ld rfl hx rfl 0 rfl rfl nr27_hw) (fun a hF => ?_)
    refine vp_y hF rfl rfl rfl rfl (by decide) _ (fun x hx => y_move rfl rfl) (fun a hF => ?_)
    refine vp_y hF rfl rfl rfl rfl (by decide) _ (fun x hx => y_move rfl rfl) (fun a hF => ?_)
    refine vp_y hF rfl rfl rfl rfl (by decide) _ (fun x hx => y_mul rfl rfl rfl (show IntKind.i64.wrap (8 * (8 - 1 - (j : Int))) = ((8 * (8 - 1 - j) : Nat) : Int) by rw [IntWalk.i64_in _ (by omega)]; omega)) (fun a hF => ?_)
    refine vp_y hF rfl rfl rfl rfl (by decide) _ (fun x hx => y_shr rfl rfl rfl (by omega) rfl) (fun a hF => ?_)
    refine vp_y hF rfl rfl rfl rfl (by decide) _ (fun x hx => y_conv rfl Tryz.underlying135 Tryz.underlying5 rfl (ow_shr n (8 - 1 - j) (8 * (8 - 1 - j)) rfl (by omega))) (fun a hF => ?_)
    refine vp_l rfl rfl rfl (fun K hK => hs_byte1 hF rfl (by decide) rfl hA6 (UInt8.ofNat (n / 256 ^ (8 - 1 - j))) rfl ow_build (fun b7 w8 a hb7 hF hA9 => hK _ _ (fun _ => ?_) ?_))
    · exact Hp.qp [[row b7 5 (dc [(UInt8.ofNat (n / 256 ^ (8 - 1 - j)))])], [row wb 163 [v1]], X1] R [1] hA9
    clear hK K
    replace hA9 : Hp w0 ([row b7 5 (dc [(UInt8.ofNat (n / 256 ^ (8 - 1 - j)))])] :: [row wb 163 [v1]] :: X1 :: R) w8 := hA9
    refine vp_l rfl rfl rfl (fun K hK => hs_append hF rfl (by decide) rfl hA9 2 rfl hO Tryz.underlying27 ow_elem5 rfl rfl (Bts.src (l := [(UInt8.ofNat (n / 256 ^ (8 - 1 - j)))]) Tryz.underlying27 (Rc.bts (w0 := w0) (R := [row b7 5 (dc [(UInt8.ofNat (n / 256 ^ (8 - 1 - j)))])] :: [row wb 163 [v1]] :: X1 :: R) (Rc.ofRow (i := 0) rfl rfl) hA9.q)) (by simp only [List.length_append, List.length_take, List.length_cons, List.length_nil, be, List.length_map, List.length_range] at *; omega) (by decide) (fun v2 X2 w10 a hO2 hF hA11 => hK _ _ (fun _ => ?_) ?_))
    · exact Hp.qp [[row b7 5 (dc [(UInt8.ofNat (n / 256 ^ (8 - 1 - j)))])], [row wb 163 [v1]], X2] R [1] hA11
    clear hK K
    replace hA11 : Hp w0 ([row b7 5 (dc [(UInt8.ofNat (n / 256 ^ (8 - 1 - j)))])] :: [row wb 163 [v1]] :: X2 :: R) w10 := hA11
    refine vp_ly hF rfl rfl rfl rfl (by decide) _ (y_nilCheck rfl rfl) (fun h => absurd h (by decide)) (fun a hF => ?_)
    refine vp_ly hF rfl rfl rfl rfl (by decide) _ (y_field rfl Tryz.underlying163 rfl sz27_hw (by decide) rfl (rfl : (⟨_, 0 + _, none⟩ : Addr) = ⟨_, 0, none⟩)) (fun h => absurd h (by decide)) (fun a hF => ?_)
    refine vp_l rfl rfl rfl (fun K hK => hs_store1 hF rfl rfl hA11 rfl rfl 1 rfl (by simp) hO2.one sz27_hw (fun w12 hA13 => hK _ _ (fun h => absurd h (by decide)) ?_))
    clear hK K
    replace hA13 : Hp w0 ([row b7 5 (dc [(UInt8.ofNat (n / 256 ^ (8 - 1 - j)))])] :: [row wb 163 [v2]] :: X2 :: R) w12 := hA13
    refine plan_end ?_
    refine hK6 _ _ ?_; clear  hK6 K6
    refine wp_region_lit ?_
    refine vc_y hF rfl rfl (by decide) _ (y_move rfl rfl) (fun a hF => ?_)
    refine vc_y hF rfl rfl (by decide) _ (y_sub rfl rfl rfl (show IntKind.i64.wrap (8 - 1 - (j : Int) - 1) = 8 - 1 - ((j + 1 : Nat) : Int) by rw [IntWalk.i64_in _ (by omega)]; omega)) (fun a hF => ?_)
    refine vc_y hF rfl rfl (by decide) _ (y_assign rfl rfl) (fun a hF => ?_)
    refine vc_nil ?_
    have e : l ++ (be 8 n).take j ++ [(UInt8.ofNat (n / 256 ^ (8 - 1 - j)))] = l ++ (be 8 n).take (j + 1) := by rw [List.append_assoc, ow_be 8 n j hlt]
    have e2 : (l ++ (be 8 n).take j).length + [(UInt8.ofNat (n / 256 ^ (8 - 1 - j)))].length = (l ++ (be 8 n).take (j + 1)).length := by rw [← e]; simp only [List.length_append]
    rw [← dc_append, e, e2] at hO2
    have hA14 : Hp w0 ([row wb 163 [v2]] :: X2 :: R) w12 := Hp.sel [[row b7 5 (dc [(UInt8.ofNat (n / 256 ^ (8 - 1 - j)))])], [row wb 163 [v2]], X2] R [1, 2] [0] hA13 rfl
    exact ⟨j + 1, by omega, v2, X2, by omega, hO2, hF.keep [4, 0, 1] rfl, hA14⟩
  · refine vc_falseB hF rfl (geq_f (by omega)) ?_
    obtain rfl : j = 8 := by omega
    rw [ow_be_all] at hO
    apply wp_exit
    simp only [Exit.then, Exit.inBlock, ↓reduceIte]
    refine vc_end0 hF Tryz.results75 ?_
    exact ⟨_, rfl, ⟨v1, X1, hO, rfl⟩, Hp.join hA4⟩

set_option maxRecDepth 100000 in
set_option maxHeartbeats 1000000 in
theorem hw_len (w0 w : World) (R : List Seg) (wb : Nat) (l : List UInt8) (Y : Seg) (hY : WrS wb l Y) (hA : Hp w0 (Y :: R) w) : Calls Tryz.prog 79 #[.pointer (some ⟨wb, 0, none⟩)] w fun e w' => e = .returned (.int .i64 (l.length : Nat)) ∧ w = w' := by
  obtain ⟨v, X, hO, rfl⟩ := hY
  replace hA : Hp w0 ([row wb 163 [v]] :: X :: R) w := Hp.part (X := [row wb 163 [v]]) hA
  obtain ⟨_, A, c, rfl, hc, hB⟩ := hO.rd (w0 := w0) (R := [X]) (List.mem_cons_self ..)
  refine vc_enter Tryz.func79 rfl Tryz.ntmps79 (Nat.le_of_ble_eq_true rfl) (fun a hF => ?_)
  apply wp_seq_k; intro K1 hK1
  refine wp_region_lit ?_
  refine vc_y hF rfl rfl (by decide) _ (y_assign rfl rfl) (fun a hF => ?_)
  refine vc_nil ?_
  refine hK1 _ _ ?_; clear  hK1 K1
  apply wp_seq_k; intro K2 hK2
  refine wp_region_lit ?_
  refine vc_y hF rfl rfl (by decide) _ (y_move rfl rfl) (fun a hF => ?_)
  refine vc_y hF rfl rfl (by decide) _ (y_nilCheck rfl rfl) (fun a hF => ?_)
  refine vc_y hF rfl rfl (by decide) _ (y_field rfl Tryz.underlying163 rfl sz27_hw (by decide) rfl (rfl : (⟨_, 0 + _, none⟩ : Addr) = ⟨_, 0, none⟩)) (fun a hF => ?_)
  refine vc_y hF rfl rfl (by decide) _ (y_ld rfl hA.q rfl 0 rfl rfl nr27_hw) (fun a hF => ?_)
  refine vc_y hF rfl rfl (by decide) _ (y_lenSl rfl Tryz.underlying27 rfl rfl) (fun a hF => ?_)
  refine vc_y hF rfl rfl (by decide) _ (y_assign rfl rfl) (fun a hF => ?_)
  refine vc_nil ?_
  refine hK2 _ _ ?_; clear  hK2 K2
  apply wp_ret
  refine vc_ret1 hF Tryz.results79 rfl ?_
  exact ⟨rfl, rfl⟩

set_option maxRecDepth 100000 in
set_option maxHeartbeats 1000000 in
theorem hw_all (w0 w : World) (R : List Seg) (wb : Nat) (l : List UInt8) (Y : Seg) (hY : WrS wb l Y) (hA : Hp w0 (Y :: R) w) (hl : l.length < 140737500000000) : Calls Tryz.prog 50 #[.pointer (some ⟨wb, 0, none⟩)] w fun e w' => ∃ v' Z Y', e = .returned v' ∧ Buf 5 1 Z v' l.length (dc l) ∧ WrS wb l Y' ∧ Hp w0 (Z :: Y' :: R) w' := by
  obtain ⟨v, X, hO, rfl⟩ := hY
  replace hA : Hp w0 ([row wb 163 [v]] :: X :: R) w := Hp.part (X := [row wb 163 [v]]) hA
  have hO0 := hO
  obtain ⟨_, A, c, rfl, hc, hB⟩ := hO.rd (w0 := w0) (R := [X]) (List.mem_cons_self ..)
  refine vc_enter Tryz.func50 rfl Tryz.ntmps50 (Nat.le_of_ble_eq_true rfl) (fun a hF => ?_)
  apply wp_seq_k; intro K1 hK1
  refine wp_region_lit ?_
  refine vc_y hF rfl rfl (by decide) _ (y_assign rfl rfl) (fun a hF => ?_)
  refine vc_nil ?_
  refine hK1 _ _ ?_; clear  hK1 K1
  apply wp_seq_k; intro K2 hK2
  refine wp_region_lit ?_
  refine vc_y hF rfl rfl (by decide) _ (y_move rfl rfl) (fun a hF => ?_)
  refine vc_y hF rfl rfl (by decide) _ (y_nilCheck rfl rfl) (fun a hF => ?_)
  refine vc_y hF rfl rfl (by decide) _ (y_field rfl Tryz.underlying163 rfl sz27_hw (by decide) rfl (rfl : (⟨_, 0 + _, none⟩ : Addr) = ⟨_, 0, none⟩)) (fun a hF => ?_)
  refine vc_y hF rfl rfl (by decide) _ (y_ld rfl hA.q rfl 0 rfl rfl nr27_hw) (fun a hF => ?_)
  have hA1 : Hp w0 (([] : Seg) :: [row wb 163 [.slice A l.length c]] :: X :: R) w := Hp.nil hA
  refine vc_op rfl (fun K hK => hs_append hF rfl (by decide) rfl hA1 0 rfl (Buf.nil 5 1) Tryz.underlying27 ow_elem5 rfl rfl (Bts.src Tryz.underlying27 (hB.bts (Hq.sub hA1.q (by simp)))) (by omega) (by decide) (fun v2 X2 w2 a hO2 hF hA3 => hK _ _ ?_))
  clear hK K
  replace hA3 : Hp w0 (X2 :: [row wb 163 [.slice A l.length c]] :: X :: R) w2 := hA3
  rw [List.nil_append, Nat.zero_add] at hO2
  refine vc_y hF rfl rfl (by decide) _ (y_assign rfl rfl) (fun a hF => ?_)
  refine vc_nil ?_
  refine hK2 _ _ ?_; clear  hK2 K2
  apply wp_ret
  refine vc_ret1 hF Tryz.results50 rfl ?_
  exact ⟨_, X2, _, rfl, hO2, ⟨_, X, hO0, rfl⟩, Hp.ord [row wb 163 [.slice A l.length c] :: X, X2] R [1, 0] (Hp.join (Hp.ord [X2, [row wb 163 [.slice A l.length c]], X] R [1, 2, 0] hA3 rfl)) rfl⟩

/-- how much a call lets in -/
def bnd (m k : Int) : Int := min (max m 0) k
theorem bnd_le (m k : Int) : bnd m k ≤ k := by unfold bnd; omega
theorem bnd_nn (m k : Int) (h : 0 ≤ k) : 0 ≤ bnd m k := by unfold bnd; omega

set_option maxRecDepth 100000 in
set_option maxHeartbeats 1000000 in
theorem hw_bound (w : World) (m k : Int) : Calls Tryz.prog 139 #[.int .i64 m, .int .i64 k] w fun e w' => e = .returned (.int .i64 (bnd m k)) ∧ w = w' := by
  refine vc_enter Tryz.func139 rfl Tryz.ntmps139 (Nat.le_of_ble_eq_true rfl) (fun a hF => ?_)
  apply wp_seq_k; intro K1 hK1
  refine wp_region_lit ?_
  refine vc_y hF rfl rfl (by decide) _ (y_assign rfl rfl) (fun a hF => ?_)
  refine vc_nil ?_
  refine hK1 _ _ ?_; clear  hK1 K1
  apply wp_seq_k; intro K2 hK2
  refine wp_region_lit ?_
  refine vc_y hF rfl rfl (by decide) _ (y_move rfl rfl) (fun a hF => ?_)
  refine vc_y hF rfl rfl (by decide) _ (y_max rfl rfl rfl rfl) (fun a hF => ?_)
  refine vc_y hF rfl rfl (by decide) _ (y_move rfl rfl) (fun a hF => ?_)
  refine vc_y hF rfl rfl (by decide) _ (y_min rfl rfl rfl rfl) (fun a hF => ?_)
  refine vc_y hF rfl rfl (by decide) _ (y_assign rfl rfl) (fun a hF => ?_)
  refine vc_nil ?_
  refine hK2 _ _ ?_; clear  hK2 K2
  apply wp_ret
  refine vc_ret1 hF Tryz.results139 rfl ?_
  exact ⟨rfl, rfl⟩

set_option maxRecDepth 100000 in
set_option maxHeartbeats 1000000 in
theorem hw_flag (w0 w : World) (R : List Seg) (wb : Nat) (l : List UInt8) (Y : Seg) (b : Bool) (hY : WrS wb l Y) (hA : Hp w0 (Y :: R) w) (hl : l.length < 140737500000000) : Calls Tryz.prog 91 #[.pointer (some ⟨wb, 0, none⟩), .bool b] w fun e w' => ∃ Y', e = .returned (.tuple #[]) ∧ WrS wb (l ++ [if b then 1 else 0]) Y' ∧ Hp w0 (Y' :: R) w' := by
  refine vc_enter Tryz.func91 rfl Tryz.ntmps91 (Nat.le_of_ble_eq_true rfl) (fun a hF => ?_)
  apply wp_seq_k; intro K1 hK1
  refine wp_region_lit ?_
  refine vc_y hF rfl rfl (by decide) _ (y_assign rfl rfl) (fun a hF => ?_)
  refine vc_nil ?_
  refine hK1 _ _ ?_; clear  hK1 K1
  apply wp_seq_k; intro K2 hK2
  apply wp_seq_k; intro K3 hK3
  refine wp_region_lit ?_
  refine vc_y hF rfl rfl (by decide) _ (y_move rfl rfl) (fun a hF => ?_)
  refine vc_nil ?_
  refine hK3 _ _ ?_; clear  hK3 K3
  by_cases hb : b = true
  · subst hb
    refine vc_trueB hF rfl rfl ?_
    refine wp_region_lit ?_
    refine vc_y hF rfl rfl (by decide) _ (y_assign rfl rfl) (fun a hF => ?_)
    refine vc_nil ?_
    refine hK2 _ _ ?_; clear  hK2 K2
    refine wp_region_lit ?_
    refine vc_y hF rfl rfl (by decide) _ (y_move rfl rfl) (fun a hF => ?_)
    refine vc_y hF rfl rfl (by decide) _ (y_move rfl rfl) (fun a hF => ?_)
    refine vc_op rfl (fun K hK => ws_call hF rfl (by decide) cl74_hw rfl rfl ?_)
    with_reducible refine (hw_put_uint8 w0 _ R wb l Y 1 (by decide) 1 rfl hY hA hl ).mono ?_
    rintro e' w1 ⟨Y', rfl, hY', hA2⟩
    refine ⟨_, rfl, fun a hF => hK _ _ ?_⟩
    clear hK K
    replace hA2 : Hp w0 (Y' :: R) w1 := hA2
    refine vc_nil ?_
    refine vc_end0 hF Tryz.results91 ?_
    exact ⟨_, rfl, hY', hA2⟩
  · obtain hb : b = false := by simpa using hb
    subst hb
    refine vc_falseB hF rfl rfl ?_
    apply wp_skip
    refine hK2 _ _ ?_; clear  hK2 K2
    refine wp_region_lit ?_
    refine vc_y hF rfl rfl (by decide) _ (y_move rfl rfl) (fun a hF => ?_)
    refine vc_y hF rfl rfl (by decide) _ (y_move rfl rfl) (fun a hF => ?_)
    refine vc_op rfl (fun K hK => ws_call hF rfl (by decide) cl74_hw rfl rfl ?_)
    with_reducible refine (hw_put_uint8 w0 _ R wb l Y 0 (by decide) 0 rfl hY hA hl ).mono ?_
    rintro e' w3 ⟨Y', rfl, hY', hA4⟩
    refine ⟨_, rfl, fun a hF => hK _ _ ?_⟩
    clear hK K
    replace hA4 : Hp w0 (Y' :: R) w3 := hA4
    refine vc_nil ?_
    refine vc_end0 hF Tryz.results91 ?_
    exact ⟨_, rfl, hY', hA4⟩

/-- what a text's form is refused by, and its bytes -/
def textE (s : List UInt8) (most : Int) : Nat := if bnd most 65535 < (s.length : Int) then 6 else 0
def textB (s : List UInt8) (most : Int) : List UInt8 := if bnd most 65535 < (s.length : Int) then [] else be 2 s.length ++ s
theorem be_length (K n : Nat) : (be K n).length = K := by simp [be]

set_option maxRecDepth 100000 in
set_option maxHeartbeats 1000000 in
theorem hw_text (w0 w : World) (R : List Seg) (wb : Nat) (l : List UInt8) (Y : Seg) (s : List UInt8) (most : Int) (hY : WrS wb l Y) (hA : Hp w0 (Y :: R) w) (hl : l.length + s.length < 140737499999900) : Calls Tryz.prog 76 #[.pointer (some ⟨wb, 0, none⟩), strV s, .int .i64 most] w fun e w' => ∃ Y', e = .returned (.int .i64 (textE s most : Nat)) ∧ WrS wb (l ++ textB s most) Y' ∧ Hp w0 (Y' :: R) w' := by
  have hbl := bnd_le most 65535
  refine vc_enter Tryz.func76 rfl Tryz.ntmps76 (Nat.le_of_ble_eq_true rfl) (fun a hF => ?_)
  apply wp_seq_k; intro K1 hK1
  refine wp_region_lit ?_
  refine vc_y hF rfl rfl (by decide) _ (y_assign rfl rfl) (fun a hF => ?_)
  refine vc_nil ?_
  refine hK1 _ _ ?_; clear  hK1 K1
  apply wp_seq_k; intro K2 hK2
  apply wp_seq_k; intro K3 hK3
  refine wp_region_lit ?_
  refine vc_y hF rfl rfl (by decide) _ (y_move rfl rfl) (fun a hF => ?_)
  refine vc_y hF rfl rfl (by decide) _ (y_lenStr rfl Tryz.underlying9 rfl (show ((ByteArray.mk s.toArray).size : Int) = (s.length : Int) from rfl)) (fun a hF => ?_)
  refine vc_y hF rfl rfl (by decide) _ (y_move rfl rfl) (fun a hF => ?_)
  refine vc_op rfl (fun K hK => ws_call hF rfl (by decide) cl139_hw rfl rfl ?_)
  with_reducible refine (hw_bound w _ _ ).mono ?_
  rintro e' w3 ⟨rfl, rfl⟩
  refine ⟨_, rfl, fun a hF => hK _ _ ?_⟩
  clear hK K
  refine vc_y hF rfl rfl (by decide) _ (y_cmp rfl rfl rfl rfl rfl) (fun a hF => ?_)
  refine vc_nil ?_
  refine hK3 _ _ ?_; clear  hK3 K3
  by_cases hlt : bnd most 65535 < (s.length : Int)
  · refine vc_trueB hF rfl (gtr_t (by omega)) ?_
    apply wp_seq_k; intro K4 hK4
    refine wp_region_lit ?_
    refine vc_y hF rfl rfl (by decide) _ (y_assign rfl rfl) (fun a hF => ?_)
    refine vc_nil ?_
    refine hK4 _ _ ?_; clear  hK4 K4
    apply wp_ret
    simp only [Exit.then]
    refine vc_ret1 hF Tryz.results76 rfl ?_
    exact ⟨Y, by rw [textE, if_pos hlt]; rfl, by rw [textB, if_pos hlt, List.append_nil]; exact hY, hA⟩
  · refine vc_falseB hF rfl (gtr_f (by omega)) ?_
    apply wp_skip
    refine hK2 _ _ ?_; clear  hK2 K2
    apply wp_seq_k; intro K5 hK5
    refine wp_region_lit ?_
    refine vc_y hF rfl rfl (by decide) _ (y_move rfl rfl) (fun a hF => ?_)
    refine vc_y hF rfl rfl (by decide) _ (y_move rfl rfl) (fun a hF => ?_)
    refine vc_y hF rfl rfl (by decide) _ (y_lenStr rfl Tryz.underlying9 rfl (show ((ByteArray.mk s.toArray).size : Int) = (s.length : Int) from rfl)) (fun a hF => ?_)
    refine vc_y hF rfl rfl (by decide) _ (y_conv rfl Tryz.underlying3 Tryz.underlying81 rfl (show IntKind.u16.wrap (s.length : Int) = (s.length : Int) by rw [IntKind.wrap_u16]; omega)) (fun a hF => ?_)
    refine vc_op rfl (fun K hK => ws_call hF rfl (by decide) cl88_hw rfl rfl ?_)
    with_reducible refine (hw_put_uint16 w0 _ R wb l Y s.length (by omega) _ rfl hY hA (by omega) ).mono ?_
    rintro e' w4 ⟨Y1, rfl, hY, hA5⟩
    refine ⟨_, rfl, fun a hF => hK _ _ ?_⟩
    clear hK K
    replace hA5 : Hp w0 (Y1 :: R) w4 := hA5
    obtain ⟨v, X, hO, rfl⟩ := hY
    have hA6 : Hp w0 ([row wb 163 [v]] :: X :: R) w4 := Hp.part (X := [row wb 163 [v]]) hA5
    refine vc_nil ?_
    refine hK5 _ _ ?_; clear  hK5 K5
    apply wp_seq_k; intro K6 hK6
    refine wp_region_lit ?_
    refine vc_y hF rfl rfl (by decide) _ (y_move rfl rfl) (fun a hF => ?_)
    refine vc_y hF rfl rfl (by decide) _ (y_move rfl rfl) (fun a hF => ?_)
    refine vc_y hF rfl rfl (by decide) _ (y_nilCheck rfl rfl) (fun a hF => ?_)
    refine vc_y hF rfl rfl (by decide) _ (y_field rfl Tryz.underlying163 rfl sz27_hw (by decide) rfl (rfl : (⟨_, 0 + _, none⟩ : Addr) = ⟨_, 0, none⟩)) (fun a hF => ?_)
    refine vc_y hF rfl rfl (by decide) _ (y_ld rfl hA6.q rfl 0 rfl rfl nr27_hw) (fun a hF => ?_)
    refine vc_y hF rfl rfl (by decide) _ (y_move rfl rfl) (fun a hF => ?_)
    refine vc_op rfl (fun K hK => hs_append hF rfl (by decide) rfl hA6 1 rfl hO Tryz.underlying27 ow_elem5 rfl rfl (Src.ofString _ Tryz.underlying9 ⟨s.toArray⟩) (by rw [List.length_append, be_length, show (ByteArray.mk s.toArray).size = s.length from rfl]; omega) (by decide) (fun v2 X2 w7 a hO2 hF hA8 => hK _ _ ?_))
    clear hK K
    replace hA8 : Hp w0 ([row wb 163 [v]] :: X2 :: R) w7 := hA8
    refine vc_y hF rfl rfl (by decide) _ (y_nilCheck rfl rfl) (fun a hF => ?_)
    refine vc_y hF rfl rfl (by decide) _ (y_field rfl Tryz.underlying163 rfl sz27_hw (by decide) rfl (rfl : (⟨_, 0 + _, none⟩ : Addr) = ⟨_, 0, none⟩)) (fun a hF => ?_)
    refine vc_op rfl (fun K hK => hs_store1 hF rfl rfl hA8 rfl rfl 0 rfl (by simp) hO2.one sz27_hw (fun w9 hA10 => hK _ _ ?_))
    clear hK K
    replace hA10 : Hp w0 ([row wb 163 [v2]] :: X2 :: R) w9 := hA10
    refine vc_nil ?_
    refine hK6 _ _ ?_; clear  hK6 K6
    apply wp_seq_k; intro K7 hK7
    refine wp_region_lit ?_
    refine vc_y hF rfl rfl (by decide) _ (y_assign rfl rfl) (fun a hF => ?_)
    refine vc_nil ?_
    refine hK7 _ _ ?_; clear  hK7 K7
    apply wp_ret
    refine vc_ret1 hF Tryz.results76 rfl ?_
    replace hO2 : Buf 5 1 X2 v2 ((l ++ be 2 s.length).length + s.length) (dc (l ++ be 2 s.length) ++ dc s) := hO2
    rw [← dc_append, ← List.length_append, List.append_assoc] at hO2
    exact ⟨_, by rw [textE, if_neg hlt]; rfl, ⟨v2, X2, by rw [textB, if_neg hlt]; exact hO2, rfl⟩, Hp.join hA10⟩

/-- what a bytes's form is refused by, and its bytes -/
def bytesE (s : List UInt8) (most : Int) : Nat := if bnd most 2147483647 < (s.length : Int) then 6 else 0
def bytesB (s : List UInt8) (most : Int) : List UInt8 := if bnd most 2147483647 < (s.length : Int) then [] else be 4 s.length ++ s

set_option maxRecDepth 100000 in
set_option maxHeartbeats 1000000 in
theorem hw_bytes (w0 w : World) (R : List Seg) (wb : Nat) (l : List UInt8) (Y : Seg) (s : List UInt8) (A : Option Addr) (c : Nat) (hR : Rd w0 R A s) (most : Int) (hY : WrS wb l Y) (hA : Hp w0 (Y :: R) w) (hl : l.length + s.length < 140737499999900) : Calls Tryz.prog 77 #[.pointer (some ⟨wb, 0, none⟩), .slice A s.length c, .int .i64 most] w fun e w' => ∃ Y', e = .returned (.int .i64 (bytesE s most : Nat)) ∧ WrS wb (l ++ bytesB s most) Y' ∧ Hp w0 (Y' :: R) w' := by
  have hbl := bnd_le most 2147483647
  refine vc_enter Tryz.func77 rfl Tryz.ntmps77 (Nat.le_of_ble_eq_true rfl) (fun a hF => ?_)
  apply wp_seq_k; intro K1 hK1
  refine wp_region_lit ?_
  refine vc_y hF rfl rfl (by decide) _ (y_assign rfl rfl) (fun a hF => ?_)
  refine vc_nil ?_
  refine hK1 _ _ ?_; clear  hK1 K1
  apply wp_seq_k; intro K2 hK2
  apply wp_seq_k; intro K3 hK3
  refine wp_region_lit ?_
  refine vc_y hF rfl rfl (by decide) _ (y_move rfl rfl) (fun a hF => ?_)
  refine vc_y hF rfl rfl (by decide) _ (y_lenSl rfl Tryz.underlying27 rfl rfl) (fun a hF => ?_)
  refine vc_y hF rfl rfl (by decide) _ (y_move rfl rfl) (fun a hF => ?_)
  refine vc_op rfl (fun K hK => ws_call hF rfl (by decide) cl139_hw rfl rfl ?_)
  with_reducible refine (hw_bound w _ _ ).mono ?_
  rintro e' w3 ⟨rfl, rfl⟩
  refine ⟨_, rfl, fun a hF => hK _ _ ?_⟩
  clear hK K
  refine vc_y hF rfl rfl (by decide) _ (y_cmp rfl rfl rfl rfl rfl) (fun a hF => ?_)
  refine vc_nil ?_
  refine hK3 _ _ ?_; clear  hK3 K3
  by_cases hlt : bnd most 2147483647 < (s.length : Int)
  · refine vc_trueB hF rfl (gtr_t (by omega)) ?_
    apply wp_seq_k; intro K4 hK4
    refine wp_region_lit ?_
    refine vc_y hF rfl rfl (by decide) _ (y_assign rfl rfl) (fun a hF => ?_)
    refine vc_nil ?_
    refine hK4 _ _ ?_; clear  hK4 K4
    apply wp_ret
    simp only [Exit.then]
    refine vc_ret1 hF Tryz.results77 rfl ?_
    exact ⟨Y, by rw [bytesE, if_pos hlt]; rfl, by rw [bytesB, if_pos hlt, List.append_nil]; exact hY, hA⟩
  · refine vc_falseB hF rfl (gtr_f (by omega)) ?_
    apply wp_skip
    refine hK2 _ _ ?_; clear  hK2 K2
    apply wp_seq_k; intro K5 hK5
    refine wp_region_lit ?_
    refine vc_y hF rfl rfl (by decide) _ (y_move rfl rfl) (fun a hF => ?_)
    refine vc_y hF rfl rfl (by decide) _ (y_move rfl rfl) (fun a hF => ?_)
    refine vc_y hF rfl rfl (by decide) _ (y_lenSl rfl Tryz.underlying27 rfl rfl) (fun a hF => ?_)
    refine vc_y hF rfl rfl (by decide) _ (y_conv rfl Tryz.underlying3 Tryz.underlying150 rfl (show IntKind.u32.wrap (s.length : Int) = (s.length : Int) by rw [IntKind.wrap_u32]; omega)) (fun a hF => ?_)
    refine vc_op rfl (fun K hK => ws_call hF rfl (by decide) cl95_hw rfl rfl ?_)
    with_reducible refine (hw_put_uint32 w0 _ R wb l Y s.length (by omega) _ rfl hY hA (by omega) ).mono ?_
    rintro e' w4 ⟨Y1, rfl, hY, hA5⟩
    refine ⟨_, rfl, fun a hF => hK _ _ ?_⟩
    clear hK K
    replace hA5 : Hp w0 (Y1 :: R) w4 := hA5
    obtain ⟨v, X, hO, rfl⟩ := hY
    have hA6 : Hp w0 ([row wb 163 [v]] :: X :: R) w4 := Hp.part (X := [row wb 163 [v]]) hA5
    refine vc_nil ?_
    refine hK5 _ _ ?_; clear  hK5 K5
    apply wp_seq_k; intro K6 hK6
    refine wp_region_lit ?_
    refine vc_y hF rfl rfl (by decide) _ (y_move rfl rfl) (fun a hF => ?_)
    refine vc_y hF rfl rfl (by decide) _ (y_move rfl rfl) (fun a hF => ?_)
    refine vc_y hF rfl rfl (by decide) _ (y_nilCheck rfl rfl) (fun a hF => ?_)
    refine vc_y hF rfl rfl (by decide) _ (y_field rfl Tryz.underlying163 rfl sz27_hw (by decide) rfl (rfl : (⟨_, 0 + _, none⟩ : Addr) = ⟨_, 0, none⟩)) (fun a hF => ?_)
    refine vc_y hF rfl rfl (by decide) _ (y_ld rfl hA6.q rfl 0 rfl rfl nr27_hw) (fun a hF => ?_)
    refine vc_y hF rfl rfl (by decide) _ (y_move rfl rfl) (fun a hF => ?_)
    refine vc_op rfl (fun K hK => hs_append hF rfl (by decide) rfl hA6 1 rfl hO Tryz.underlying27 ow_elem5 rfl rfl (Rc.src (hR.mono (fun _ h => List.mem_cons_of_mem _ (List.mem_cons_of_mem _ h))) hA6.q Tryz.underlying27) (by rw [List.length_append, be_length]; omega) (by decide) (fun v2 X2 w7 a hO2 hF hA8 => hK _ _ ?_))
    clear hK K
    replace hA8 : Hp w0 ([row wb 163 [v]] :: X2 :: R) w7 := hA8
    refine vc_y hF rfl rfl (by decide) _ (y_nilCheck rfl rfl) (fun a hF => ?_)
    refine vc_y hF rfl rfl (by decide) _ (y_field rfl Tryz.underlying163 rfl sz27_hw (by decide) rfl (rfl : (⟨_, 0 + _, none⟩ : Addr) = ⟨_, 0, none⟩)) (fun a hF => ?_)
    refine vc_op rfl (fun K hK => hs_store1 hF rfl rfl hA8 rfl rfl 0 rfl (by simp) hO2.one sz27_hw (fun w9 hA10 => hK _ _ ?_))
    clear hK K
    replace hA10 : Hp w0 ([row wb 163 [v2]] :: X2 :: R) w9 := hA10
    refine vc_nil ?_
    refine hK6 _ _ ?_; clear  hK6 K6
    apply wp_seq_k; intro K7 hK7
    refine wp_region_lit ?_
    refine vc_y hF rfl rfl (by decide) _ (y_assign rfl rfl) (fun a hF => ?_)
    refine vc_nil ?_
    refine hK7 _ _ ?_; clear  hK7 K7
    apply wp_ret
    refine vc_ret1 hF Tryz.results77 rfl ?_
    rw [← dc_append, ← List.length_append, List.append_assoc] at hO2
    exact ⟨_, by rw [bytesE, if_neg hlt]; rfl, ⟨v2, X2, by rw [bytesB, if_neg hlt]; exact hO2, rfl⟩, Hp.join hA10⟩

def pflat (ps : List Piece) : List UInt8 := ps.flatMap (·.2.2)
theorem pflat_nil : pflat [] = [] := rfl
theorem pflat_take {ps : List Piece} {i : Nat} {A : Option Addr} {c : Nat} {l : List UInt8} (h : ps[i]? = some (A, c, l)) : pflat (ps.take (i + 1)) = pflat (ps.take i) ++ l := by
  unfold pflat
  rw [List.take_add_one, h]
  simp
theorem pflat_le {ps : List Piece} {i : Nat} {A : Option Addr} {c : Nat} {l : List UInt8} (h : ps[i]? = some (A, c, l)) : (pflat (ps.take i)).length + l.length ≤ (pflat ps).length := by
  have h1 := congrArg List.length (pflat_take h)
  have h2 : pflat ps = pflat (ps.take (i + 1)) ++ pflat (ps.drop (i + 1)) := by
    unfold pflat; rw [← List.flatMap_append, List.take_append_drop]
  rw [h2, List.length_append, h1, List.length_append]
  omega

set_option maxRecDepth 100000 in
set_option maxHeartbeats 1000000 in
theorem hw_raw (w0 w : World) (R : List Seg) (wb : Nat) (l : List UInt8) (Y : Seg) (pa : Option Addr) (ps : List Piece) (c : Nat) (hP : PcS w0 R pa ps) (hY : WrS wb l Y) (hA : Hp w0 (Y :: R) w) (hl : l.length + (pflat ps).length < 140737500000000) (hps : ps.length ≤ 9223372036854775807) : Calls Tryz.prog 46 #[.pointer (some ⟨wb, 0, none⟩), .slice pa ps.length c] w fun e w' => ∃ Y', e = .returned (.tuple #[]) ∧ WrS wb (l ++ pflat ps) Y' ∧ Hp w0 (Y' :: R) w' := by
  obtain ⟨v, X, hO, rfl⟩ := hY
  replace hA : Hp w0 ([row wb 163 [v]] :: X :: R) w := Hp.part (X := [row wb 163 [v]]) hA
  obtain ⟨hP1, hP2⟩ := hP
  refine vc_enter Tryz.func46 rfl Tryz.ntmps46 (Nat.le_of_ble_eq_true rfl) (fun a hF => ?_)
  apply wp_seq_k; intro K1 hK1
  refine wp_region_lit ?_
  refine vc_y hF rfl rfl (by decide) _ (y_move rfl rfl) (fun a hF => ?_)
  refine vc_y hF rfl rfl (by decide) _ (y_lenSl rfl Tryz.underlying63 rfl rfl) (fun a hF => ?_)
  refine vc_y hF rfl rfl (by decide) _ (y_move rfl rfl) (fun a hF => ?_)
  refine vc_nil ?_
  refine hK1 _ _ ?_; clear  hK1 K1
  apply wp_block
  refine vc_loop (G := Nat) (fun i a x => ∃ (v1 : Value) (X1 : Seg), i ≤ ps.length ∧ Buf 5 1 X1 v1 (l ++ pflat (ps.take i)).length (dc (l ++ pflat (ps.take i))) ∧ Fr 22 [(8, .int .i64 (i : Int)), (0, .pointer (some ⟨wb, 0, none⟩)), (6, .slice pa ps.length c), (7, .int .i64 ps.length)] a ∧ Hp w0 ([row wb 163 [v1]] :: X1 :: R) x) (fun i => ps.length - i) 0 (⟨v, X, Nat.zero_le _, by rw [List.take_zero, pflat_nil, List.append_nil]; exact hO, hF.keep [8, 0, 6, 7] rfl, hA⟩) ?_
  clear hF
  rintro i a w2 ⟨v1, X1, hi, hO, hF, hA1⟩
  apply wp_seq_k; intro K2 hK2
  refine wp_region_lit ?_
  refine vc_y hF rfl rfl (by decide) _ (y_cmp rfl rfl rfl rfl rfl) (fun a hF => ?_)
  refine vc_nil ?_
  refine hK2 _ _ ?_; clear  hK2 K2
  apply wp_seq_k; intro K3 hK3
  by_cases hlt : i < ps.length
  · refine vc_trueB hF rfl (lss_t (by omega)) ?_
    obtain ⟨⟨A, cA, q⟩, hp⟩ : ∃ q, ps[i]? = some q := ⟨_, List.getElem?_eq_getElem hlt⟩
    obtain ⟨b, o, rfl, hc⟩ := hP1.ne (i := i) (by rw [List.length_map]; exact hlt)
    obtain ⟨hlc, hB⟩ : q.length ≤ cA ∧ Rd w0 R A q := hP2 _ (List.mem_of_getElem? hp)
    have hft := pflat_take hp
    have hfle := pflat_le hp
    apply wp_skip
    refine hK3 _ _ ?_; clear  hK3 K3
    apply wp_seq_k; intro K4 hK4
    apply wp_block
    apply wp_seq_k; intro K5 hK5
    refine wp_region_lit ?_
    refine vc_y hF rfl rfl (by decide) _ (y_ixSl rfl Tryz.underlying63 sz27_hw rfl rfl i rfl hlt (ad2 _ _ _)) (fun a hF => ?_)
    refine vc_y hF rfl rfl (by decide) _ (y_ldC (u := .slice A q.length cA) rfl (Hq.sub hA1.q (fun _ h => List.mem_cons_of_mem _ (List.mem_cons_of_mem _ h))) rfl hc i (by rw [List.length_map]; exact hlt) rfl (by rw [List.getElem?_map, hp]; rfl) nr27_hw) (fun a hF => ?_)
    refine vc_y hF rfl rfl (by decide) _ (y_assign rfl rfl) (fun a hF => ?_)
    refine vc_nil ?_
    refine hK5 _ _ ?_; clear  hK5 K5
    refine wp_region_lit ?_
    refine vc_y hF rfl rfl (by decide) _ (y_move rfl rfl) (fun a hF => ?_)
    refine vc_y hF rfl rfl (by decide) _ (y_move rfl rfl) (fun a hF => ?_)
    refine vc_y hF rfl rfl (by decide) _ (y_nilCheck rfl rfl) (fun a hF => ?_)
    refine vc_y hF rfl rfl (by decide) _ (y_field rfl Tryz.underlying163 rfl sz27_hw (by decide) rfl (rfl : (⟨_, 0 + _, none⟩ : Addr) = ⟨_, 0, none⟩)) (fun a hF => ?_)
    refine vc_y hF rfl rfl (by decide) _ (y_ld rfl hA1.q rfl 0 rfl rfl nr27_hw) (fun a hF => ?_)
    refine vc_y hF rfl rfl (by decide) _ (y_move rfl rfl) (fun a hF => ?_)
    refine vc_op rfl (fun K hK => hs_append hF rfl (by decide) rfl hA1 1 rfl hO Tryz.underlying27 ow_elem5 rfl rfl (Rc.src (hB.mono (fun _ h => List.mem_cons_of_mem _ (List.mem_cons_of_mem _ h))) hA1.q Tryz.underlying27) (by rw [List.length_append]; omega) (by decide) (fun v2 X2 w3 a hO2 hF hA4 => hK _ _ ?_))
    clear hK K
    replace hA4 : Hp w0 ([row wb 163 [v1]] :: X2 :: R) w3 := hA4
    refine vc_y hF rfl rfl (by decide) _ (y_nilCheck rfl rfl) (fun a hF => ?_)
    refine vc_y hF rfl rfl (by decide) _ (y_field rfl Tryz.underlying163 rfl sz27_hw (by decide) rfl (rfl : (⟨_, 0 + _, none⟩ : Addr) = ⟨_, 0, none⟩)) (fun a hF => ?_)
    refine vc_op rfl (fun K hK => hs_store1 hF rfl rfl hA4 rfl rfl 0 rfl (by simp) hO2.one sz27_hw (fun w5 hA6 => hK _ _ ?_))
    clear hK K
    replace hA6 : Hp w0 ([row wb 163 [v2]] :: X2 :: R) w5 := hA6
    refine vc_nil ?_
    refine hK4 _ _ ?_; clear  hK4 K4
    refine wp_region_lit ?_
    refine vc_y hF rfl rfl (by decide) _ (y_add rfl rfl rfl (IntWalk.i64_in _ (by omega))) (fun a hF => ?_)
    refine vc_y hF rfl rfl (by decide) _ (y_move rfl rfl) (fun a hF => ?_)
    refine vc_nil ?_
    rw [← dc_append, ← List.length_append, List.append_assoc, ← hft] at hO2
    exact ⟨i + 1, by omega, v2, X2, by omega, hO2, hF.keep [8, 0, 6, 7] rfl, hA6⟩
  · refine vc_falseB hF rfl (lss_f (by omega)) ?_
    obtain rfl : i = ps.length := by omega
    rw [List.take_length] at hO
    apply wp_exit
    simp only [Exit.then, Exit.inBlock, ↓reduceIte]
    refine vc_end0 hF Tryz.results46 ?_
    exact ⟨_, rfl, ⟨v1, X1, hO, rfl⟩, Hp.join hA1⟩

set_option maxRecDepth 100000 in
set_option maxHeartbeats 1000000 in
theorem hw_digests (w0 w : World) (R : List Seg) (wb : Nat) (l : List UInt8) (Y : Seg) (pa : Option Addr) (ds : List (List UInt8)) (c : Nat) (hD : Rc w0 R pa (digV ds)) (h32 : ∀ d ∈ ds, d.length = 32) (hY : WrS wb l Y) (hA : Hp w0 (Y :: R) w) (hl : l.length + ds.flatten.length < 140737500000000) (hps : ds.length ≤ 9223372036854775807) : Calls Tryz.prog 78 #[.pointer (some ⟨wb, 0, none⟩), .slice pa ds.length c] w fun e w' => ∃ Y', e = .returned (.tuple #[]) ∧ WrS wb (l ++ ds.flatten) Y' ∧ Hp w0 (Y' :: R) w' := by
  obtain ⟨v, X, hO, rfl⟩ := hY
  replace hA : Hp w0 ([row wb 163 [v]] :: X :: R) w := Hp.part (X := [row wb 163 [v]]) hA
  refine vc_enter Tryz.func78 rfl Tryz.ntmps78 (Nat.le_of_ble_eq_true rfl) (fun a hF => ?_)
  apply wp_seq_k; intro K1 hK1
  refine wp_region_lit ?_
  refine vc_y hF rfl rfl (by decide) _ (y_move rfl rfl) (fun a hF => ?_)
  refine vc_y hF rfl rfl (by decide) _ (y_lenSl rfl Tryz.underlying59 rfl rfl) (fun a hF => ?_)
  refine vc_y hF rfl rfl (by decide) _ (y_move rfl rfl) (fun a hF => ?_)
  refine vc_nil ?_
  refine hK1 _ _ ?_; clear  hK1 K1
  apply wp_block
  refine vc_loop (G := Nat) (fun i a x => ∃ (v1 : Value) (X1 : Seg), i ≤ ds.length ∧ Buf 5 1 X1 v1 (l ++ (ds.take i).flatten).length (dc (l ++ (ds.take i).flatten)) ∧ Fr 22 [(8, .int .i64 (i : Int)), (0, .pointer (some ⟨wb, 0, none⟩)), (6, .slice pa ds.length c), (7, .int .i64 ds.length)] a ∧ Hp w0 ([row wb 163 [v1]] :: X1 :: R) x) (fun i => ds.length - i) 0 (⟨v, X, Nat.zero_le _, by rw [List.take_zero, List.flatten_nil, List.append_nil]; exact hO, hF.keep [8, 0, 6, 7] rfl, hA⟩) ?_
  clear hF
  rintro i a w2 ⟨v1, X1, hi, hO, hF, hA1⟩
  apply wp_seq_k; intro K2 hK2
  refine wp_region_lit ?_
  refine vc_y hF rfl rfl (by decide) _ (y_cmp rfl rfl rfl rfl rfl) (fun a hF => ?_)
  refine vc_nil ?_
  refine hK2 _ _ ?_; clear  hK2 K2
  apply wp_seq_k; intro K3 hK3
  by_cases hlt : i < ds.length
  · refine vc_trueB hF rfl (lss_t (by omega)) ?_
    obtain ⟨q, hp⟩ : ∃ q, ds[i]? = some q := ⟨_, List.getElem?_eq_getElem hlt⟩
    have hq := h32 q (List.mem_of_getElem? hp)
    obtain ⟨hat, hle⟩ := flat_at (z := 32) (Ws := ds.map dc) (V := dc q) (i := i) (fun U hU => by obtain ⟨u, hu, rfl⟩ := List.mem_map.1 hU; rw [dc_length]; exact h32 u hu) (by rw [List.getElem?_map, hp]; rfl)
    obtain ⟨b, o, rfl, hc⟩ := hD.ne (i := i * 32) (by show i * 32 < (ds.map dc).flatten.length; omega)
    have hft : (ds.take (i + 1)).flatten = (ds.take i).flatten ++ q := by rw [List.take_add_one, hp]; simp
    have hfle : ((ds.take i).flatten).length + q.length ≤ ds.flatten.length := by
      have h2 : ds.flatten = (ds.take (i + 1)).flatten ++ (ds.drop (i + 1)).flatten := by rw [← List.flatten_append, List.take_append_drop]
      rw [h2, hft, List.length_append, List.length_append]; omega
    apply wp_skip
    refine hK3 _ _ ?_; clear  hK3 K3
    apply wp_seq_k; intro K4 hK4
    apply wp_block
    apply wp_seq_k; intro K5 hK5
    refine wp_region_lit ?_
    refine vc_y hF rfl rfl (by decide) _ (y_ixSl rfl Tryz.underlying59 sz29_hw rfl rfl i rfl hlt rfl) (fun a hF => ?_)
    refine vc_y hF rfl rfl (by decide) _ (y_ldRowC rfl (Hq.sub hA1.q (fun _ h => List.mem_cons_of_mem _ (List.mem_cons_of_mem _ h))) rfl hc (i * 32) hle rfl hat rw29_hw) (fun a hF => ?_)
    refine vc_op rfl (fun K hK => hs_alloc hF rfl (by decide) rfl hA1 (zr29_hw) (fun b3 w4 a hb3 hF hA5 => hK _ _ ?_))
    clear hK K
    replace hA5 : Hp w0 ([row b3 29 (dc (List.replicate 32 0))] :: [row wb 163 [v1]] :: X1 :: R) w4 := hA5
    refine vc_op rfl (fun K hK => hs_storeAll (new := dc q) hF rfl rfl hA5 rfl rfl 0 rfl (by rw [dc_length, hq]; rfl) (dc_one _) sz29_hw (fun w6 hA7 => hK _ _ ?_))
    clear hK K
    replace hA7 : Hp w0 ([row b3 29 (dc q)] :: [row wb 163 [v1]] :: X1 :: R) w6 := hA7
    refine vc_nil ?_
    refine hK5 _ _ ?_; clear  hK5 K5
    refine wp_region_plan 7 [6,7,8,9] [0,1,2,3,4,5,6,7,8,9] (fun x => Hq w0 ([row wb 163 [v1]] :: R) x) (by kernel_rfl) (by kernel_rfl) (Hq.drew (Hp.qp [[row b3 29 (dc q)], [row wb 163 [v1]], X1] R [1] hA7)) ?_
    have hA8 := Hl.drew hA7
    refine vp_y hF rfl rfl rfl rfl (by decide) _ (fun x hx => y_move rfl rfl) (fun a hF => ?_)
    refine vp_y hF rfl rfl rfl rfl (by decide) _ (fun x hx => y_move rfl rfl) (fun a hF => ?_)
    refine vp_y hF rfl rfl rfl rfl (by decide) _ (fun x hx => y_nilCheck rfl rfl) (fun a hF => ?_)
    refine vp_y hF rfl rfl rfl rfl (by decide) _ (fun x hx => y_field rfl Tryz.underlying163 rfl sz27_hw (by decide) rfl (rfl : (⟨_, 0 + _, none⟩ : Addr) = ⟨_, 0, none⟩)) (fun a hF => ?_)
    refine vp_y hF rfl rfl rfl rfl (by decide) _ (fun x hx => y_ld rfl hx rfl 0 rfl rfl nr27_hw) (fun a hF => ?_)
    refine vp_y hF rfl rfl rfl rfl (by decide) _ (fun x hx => y_sliceArr rfl Tryz.underlying29 ow_size5 rfl (.none 0) (.none 32) (by omega) (by omega) slice_to) (fun a hF => ?_)
    refine vp_l rfl rfl rfl (fun K hK => hs_append hF rfl (by decide) rfl hA8 2 rfl hO Tryz.underlying27 ow_elem5 rfl rfl ((show Src Tryz.prog 1 27 (.slice (some ⟨b3, 0, none⟩) 32 32) 32 (dc q) _ from hq ▸ Rc.src (R := [row b3 29 (dc q)] :: [row wb 163 [v1]] :: X1 :: R) (Rc.ofRow (i := 0) (off := 0) rfl (by rw [List.drop_zero, List.take_length])) hA8.q Tryz.underlying27)) (by rw [List.length_append]; omega) (by decide) (fun v2 X2 w9 a hO2 hF hA10 => hK _ _ (fun _ => ?_) ?_))
    · exact Hp.qp [[row b3 29 (dc q)], [row wb 163 [v1]], X2] R [1] hA10
    clear hK K
    replace hA10 : Hp w0 ([row b3 29 (dc q)] :: [row wb 163 [v1]] :: X2 :: R) w9 := hA10
    refine vp_ly hF rfl rfl rfl rfl (by decide) _ (y_nilCheck rfl rfl) (fun h => absurd h (by decide)) (fun a hF => ?_)
    refine vp_ly hF rfl rfl rfl rfl (by decide) _ (y_field rfl Tryz.underlying163 rfl sz27_hw (by decide) rfl (rfl : (⟨_, 0 + _, none⟩ : Addr) = ⟨_, 0, none⟩)) (fun h => absurd h (by decide)) (fun a hF => ?_)
    refine vp_l rfl rfl rfl (fun K hK => hs_store1 hF rfl rfl hA10 rfl rfl 1 rfl (by simp) hO2.one sz27_hw (fun w11 hA12 => hK _ _ (fun h => absurd h (by decide)) ?_))
    clear hK K
    replace hA12 : Hp w0 ([row b3 29 (dc q)] :: [row wb 163 [v2]] :: X2 :: R) w11 := hA12
    refine plan_end ?_
    refine hK4 _ _ ?_; clear  hK4 K4
    refine wp_region_lit ?_
    refine vc_y hF rfl rfl (by decide) _ (y_add rfl rfl rfl (IntWalk.i64_in _ (by omega))) (fun a hF => ?_)
    refine vc_y hF rfl rfl (by decide) _ (y_move rfl rfl) (fun a hF => ?_)
    refine vc_nil ?_
    rw [← dc_append, ← hq, ← List.length_append, List.append_assoc, ← hft] at hO2
    have hA13 : Hp w0 ([row wb 163 [v2]] :: X2 :: R) w11 := Hp.sel [[row b3 29 (dc q)], [row wb 163 [v2]], X2] R [1, 2] [0] hA12 rfl
    exact ⟨i + 1, by omega, v2, X2, by omega, hO2, hF.keep [8, 0, 6, 7] rfl, hA13⟩
  · refine vc_falseB hF rfl (lss_f (by omega)) ?_
    obtain rfl : i = ds.length := by omega
    rw [List.take_length] at hO
    apply wp_exit
    simp only [Exit.then, Exit.inBlock, ↓reduceIte]
    refine vc_end0 hF Tryz.results78 ?_
    exact ⟨_, rfl, ⟨v1, X1, hO, rfl⟩, Hp.join hA1⟩

/-- what is wrong with the i-th of some texts; which of them is wrong first; their form -/
def textsAt (ss : List (List UInt8)) (each : Int) (i : Nat) : Nat := if bnd each 65535 < ((ss.getD i []).length : Int) then 6 else if 0 < i ∧ strB .geq (ss.getD (i - 1) []) (ss.getD i []) = true then 8 else 0
def firstE (f : Nat → Nat) : Nat → Nat → Nat
  | _, 0 => 0
  | i, k + 1 => if f i = 0 then firstE f (i + 1) k else f i
theorem firstE_zero (f : Nat → Nat) (k i : Nat) (h : firstE f i k = 0) : ∀ j, i ≤ j → j < i + k → f j = 0 := by
  induction k generalizing i with
  | zero => intro j h1 h2; omega
  | succ k ih =>
    intro j h1 h2
    rw [firstE] at h
    by_cases h0 : f i = 0
    · rw [if_pos h0] at h
      rcases Nat.eq_or_lt_of_le h1 with rfl | h3
      · exact h0
      · exact ih (i + 1) h j h3 (by omega)
    · rw [if_neg h0] at h; exact absurd h h0
def textsE (ss : List (List UInt8)) (most each : Int) : Nat := if bnd most 65535 < (ss.length : Int) then 7 else firstE (textsAt ss each) 0 ss.length
def tflat (ss : List (List UInt8)) : List UInt8 := ss.flatMap (fun s => be 2 s.length ++ s)
def textsB (ss : List (List UInt8)) (most each : Int) : List UInt8 := if textsE ss most each = 0 then be 2 ss.length ++ tflat ss else []
theorem tflat_nil : tflat [] = [] := rfl
theorem tflat_take {ss : List (List UInt8)} {i : Nat} {q : List UInt8} (h : ss[i]? = some q) : tflat (ss.take (i + 1)) = tflat (ss.take i) ++ (be 2 q.length ++ q) := by
  unfold tflat
  rw [List.take_add_one, h]
  simp
theorem tflat_le {ss : List (List UInt8)} {i : Nat} {q : List UInt8} (h : ss[i]? = some q) : (tflat (ss.take i)).length + q.length + 2 ≤ (tflat ss).length := by
  have h1 := congrArg List.length (tflat_take h)
  have h2 : tflat ss = tflat (ss.take (i + 1)) ++ tflat (ss.drop (i + 1)) := by
    unfold tflat; rw [← List.flatMap_append, List.take_append_drop]
  rw [h2, List.length_append, h1, List.length_append, List.length_append, be_length]
  omega

set_option maxRecDepth 100000 in
set_option maxHeartbeats 1000000 in
theorem hw_texts (w0 w : World) (R : List Seg) (wb : Nat) (l : List UInt8) (Y : Seg) (pa : Option Addr) (ss : List (List UInt8)) (c : Nat) (hS : Rc w0 R pa (ss.map strV)) (most each : Int) (hY : WrS wb l Y) (hA : Hp w0 (Y :: R) w) (hl : l.length + 2 + (tflat ss).length < 140737499999800) (hps : ss.length ≤ 9223372036854775807) : Calls Tryz.prog 106 #[.pointer (some ⟨wb, 0, none⟩), .slice pa ss.length c, .int .i64 most, .int .i64 each] w fun e w' => ∃ Y', e = .returned (.int .i64 (textsE ss most each : Nat)) ∧ WrS wb (l ++ textsB ss most each) Y' ∧ Hp w0 (Y' :: R) w' := by
  have hbm := bnd_le most 65535
  have hbe := bnd_le each 65535
  refine vc_enter Tryz.func106 rfl Tryz.ntmps106 (Nat.le_of_ble_eq_true rfl) (fun a hF => ?_)
  apply wp_seq_k; intro K1 hK1
  refine wp_region_lit ?_
  refine vc_y hF rfl rfl (by decide) _ (y_assign rfl rfl) (fun a hF => ?_)
  refine vc_nil ?_
  refine hK1 _ _ ?_; clear  hK1 K1
  apply wp_seq_k; intro K2 hK2
  apply wp_seq_k; intro K3 hK3
  refine wp_region_lit ?_
  refine vc_y hF rfl rfl (by decide) _ (y_move rfl rfl) (fun a hF => ?_)
  refine vc_y hF rfl rfl (by decide) _ (y_lenSl rfl Tryz.underlying23 rfl rfl) (fun a hF => ?_)
  refine vc_y hF rfl rfl (by decide) _ (y_move rfl rfl) (fun a hF => ?_)
  refine vc_op rfl (fun K hK => ws_call hF rfl (by decide) cl139_hw rfl rfl ?_)
  with_reducible refine (hw_bound w _ _ ).mono ?_
  rintro e' w3 ⟨rfl, rfl⟩
  refine ⟨_, rfl, fun a hF => hK _ _ ?_⟩
  clear hK K
  refine vc_y hF rfl rfl (by decide) _ (y_cmp rfl rfl rfl rfl rfl) (fun a hF => ?_)
  refine vc_nil ?_
  refine hK3 _ _ ?_; clear  hK3 K3
  by_cases h7 : bnd most 65535 < (ss.length : Int)
  · refine vc_trueB hF rfl (gtr_t (by omega)) ?_
    apply wp_seq_k; intro K4 hK4
    refine wp_region_lit ?_
    refine vc_y hF rfl rfl (by decide) _ (y_assign rfl rfl) (fun a hF => ?_)
    refine vc_nil ?_
    refine hK4 _ _ ?_; clear  hK4 K4
    apply wp_ret
    simp only [Exit.then]
    refine vc_ret1 hF Tryz.results106 rfl ?_
    exact ⟨Y, by rw [textsE, if_pos h7]; rfl, by rw [textsB, textsE, if_pos h7, if_neg (by decide), List.append_nil]; exact hY, hA⟩
  · refine vc_falseB hF rfl (gtr_f (by omega)) ?_
    have hE : textsE ss most each = firstE (textsAt ss each) 0 ss.length := by rw [textsE, if_neg h7]
    apply wp_skip
    refine hK2 _ _ ?_; clear  hK2 K2
    apply wp_seq_k; intro K5 hK5
    apply wp_seq_k; intro K6 hK6
    refine wp_region_lit ?_
    refine vc_y hF rfl rfl (by decide) _ (y_move rfl rfl) (fun a hF => ?_)
    refine vc_y hF rfl rfl (by decide) _ (y_lenSl rfl Tryz.underlying23 rfl rfl) (fun a hF => ?_)
    refine vc_y hF rfl rfl (by decide) _ (y_move rfl rfl) (fun a hF => ?_)
    refine vc_nil ?_
    refine hK6 _ _ ?_; clear  hK6 K6
    apply wp_block
    refine vc_loop (G := Nat) (fun i a x => i ≤ ss.length ∧ textsE ss most each = firstE (textsAt ss each) i (ss.length - i) ∧ Fr 57 [(20, .int .i64 (i : Int)), (0, .pointer (some ⟨wb, 0, none⟩)), (1, .slice pa ss.length c), (2, .int .i64 most), (3, .int .i64 each), (18, .slice pa ss.length c), (19, .int .i64 ss.length)] a ∧ Hp w0 (Y :: R) x) (fun i => ss.length - i) 0 (⟨Nat.zero_le _, hE, hF.keep [20, 0, 1, 2, 3, 18, 19] rfl, hA⟩) ?_
    clear hF
    rintro i a w5 ⟨hi, hE, hF, hA4⟩
    apply wp_seq_k; intro K7 hK7
    refine wp_region_lit ?_
    refine vc_y hF rfl rfl (by decide) _ (y_cmp rfl rfl rfl rfl rfl) (fun a hF => ?_)
    refine vc_nil ?_
    refine hK7 _ _ ?_; clear  hK7 K7
    apply wp_seq_k; intro K8 hK8
    by_cases hlt : i < ss.length
    · refine vc_trueB hF rfl (lss_t (by omega)) ?_
      obtain ⟨q, hp⟩ : ∃ q, ss[i]? = some q := ⟨_, List.getElem?_eq_getElem hlt⟩
      obtain ⟨b, o, rfl, hc⟩ := hS.ne (i := i) (by rw [List.length_map]; exact hlt)
      have hq : ss.getD i [] = q := by rw [List.getD_eq_getElem?_getD, hp]; rfl
      rw [show ss.length - i = (ss.length - (i + 1)) + 1 by omega, firstE, textsAt, hq] at hE
      apply wp_skip
      refine hK8 _ _ ?_; clear  hK8 K8
      apply wp_seq_k; intro K9 hK9
      apply wp_block
      apply wp_seq_k; intro K10 hK10
      refine wp_region_lit ?_
      refine vc_y hF rfl rfl (by decide) _ (y_move rfl rfl) (fun a hF => ?_)
      refine vc_y hF rfl rfl (by decide) _ (y_ixSl rfl Tryz.underlying23 sz9_hw rfl rfl i rfl hlt (ad2 _ _ _)) (fun a hF => ?_)
      refine vc_y hF rfl rfl (by decide) _ (y_ldC (u := strV q) rfl (Hq.sub hA4.q (fun _ h => List.mem_cons_of_mem _ h)) rfl hc i (by rw [List.length_map]; exact hlt) rfl (by rw [List.getElem?_map, hp]; rfl) nr9_hw) (fun a hF => ?_)
      refine vc_y hF rfl rfl (by decide) _ (y_assign rfl rfl) (fun a hF => ?_)
      refine vc_y hF rfl rfl (by decide) _ (y_assign rfl rfl) (fun a hF => ?_)
      refine vc_nil ?_
      refine hK10 _ _ ?_; clear  hK10 K10
      apply wp_seq_k; intro K11 hK11
      apply wp_seq_k; intro K12 hK12
      refine wp_region_lit ?_
      refine vc_y hF rfl rfl (by decide) _ (y_move rfl rfl) (fun a hF => ?_)
      refine vc_y hF rfl rfl (by decide) _ (y_lenStr rfl Tryz.underlying9 rfl (show ((ByteArray.mk (q).toArray).size : Int) = ((q).length : Int) from rfl)) (fun a hF => ?_)
      refine vc_y hF rfl rfl (by decide) _ (y_move rfl rfl) (fun a hF => ?_)
      refine vc_op rfl (fun K hK => ws_call hF rfl (by decide) cl139_hw rfl rfl ?_)
      with_reducible refine (hw_bound w5 _ _ ).mono ?_
      rintro e' w8 ⟨rfl, rfl⟩
      refine ⟨_, rfl, fun a hF => hK _ _ ?_⟩
      clear hK K
      refine vc_y hF rfl rfl (by decide) _ (y_cmp rfl rfl rfl rfl rfl) (fun a hF => ?_)
      refine vc_nil ?_
      refine hK12 _ _ ?_; clear  hK12 K12
      by_cases h6 : bnd each 65535 < (q.length : Int)
      · refine vc_trueB hF rfl (gtr_t (by omega)) ?_
        apply wp_seq_k; intro K13 hK13
        refine wp_region_lit ?_
        refine vc_y hF rfl rfl (by decide) _ (y_assign rfl rfl) (fun a hF => ?_)
        refine vc_nil ?_
        refine hK13 _ _ ?_; clear  hK13 K13
        apply wp_ret
        simp only [Exit.then, Exit.inBlock]
        refine vc_ret1 hF Tryz.results106 rfl ?_
        rw [if_pos h6, if_neg (by decide)] at hE
        exact ⟨Y, by rw [hE]; rfl, by rw [textsB, hE, if_neg (by decide), List.append_nil]; exact hY, hA4⟩
      · refine vc_falseB hF rfl (gtr_f (by omega)) ?_
        rw [if_neg h6] at hE
        by_cases hi0 : i = 0
        · rw [if_neg (show ¬(0 < i ∧ _) from fun h => by omega)] at hE
          rw [if_pos rfl] at hE
          apply wp_skip
          refine hK11 _ _ ?_; clear  hK11 K11
          apply wp_seq_k; intro K14 hK14
          refine wp_region_lit ?_
          refine vc_y hF rfl rfl (by decide) _ (y_move rfl rfl) (fun a hF => ?_)
          refine vc_y hF rfl rfl (by decide) _ (y_cmp rfl rfl rfl rfl (gtr_f (by omega))) (fun a hF => ?_)
          refine vc_y hF rfl rfl (by decide) _ (y_move rfl rfl) (fun a hF => ?_)
          refine vc_skip hF rfl rfl rfl rfl rfl rfl (by decide) (fun a hF => ?_)
          refine vc_skip hF rfl rfl rfl rfl rfl rfl (by decide) (fun a hF => ?_)
          refine vc_skip hF rfl rfl rfl rfl rfl rfl (by decide) (fun a hF => ?_)
          refine vc_skip hF rfl rfl rfl rfl rfl rfl (by decide) (fun a hF => ?_)
          refine vc_skip hF rfl rfl rfl rfl rfl rfl (by decide) (fun a hF => ?_)
          refine vc_skip hF rfl rfl rfl rfl rfl rfl (by decide) (fun a hF => ?_)
          refine vc_skip hF rfl rfl rfl rfl rfl rfl (by decide) (fun a hF => ?_)
          refine vc_y hF rfl rfl (by decide) _ (y_pick rfl rfl rfl) (fun a hF => ?_)
          refine vc_nil ?_
          refine hK14 _ _ ?_; clear  hK14 K14
          refine vc_false hF rfl ?_
          apply wp_skip
          refine hK9 _ _ ?_; clear  hK9 K9
          refine wp_region_lit ?_
          refine vc_y hF rfl rfl (by decide) _ (y_add rfl rfl rfl (IntWalk.i64_in _ (by omega))) (fun a hF => ?_)
          refine vc_y hF rfl rfl (by decide) _ (y_move rfl rfl) (fun a hF => ?_)
          refine vc_nil ?_
          exact ⟨i + 1, by omega, by omega, hE, hF.keep [20, 0, 1, 2, 3, 18, 19] rfl, hA4⟩
        · obtain ⟨q0, hp0⟩ : ∃ q0, ss[i - 1]? = some q0 := ⟨_, List.getElem?_eq_getElem (by omega)⟩
          have hq0 : ss.getD (i - 1) [] = q0 := by rw [List.getD_eq_getElem?_getD, hp0]; rfl
          rw [hq0] at hE
          by_cases hge : strB .geq q0 q = true
          · apply wp_skip
            refine hK11 _ _ ?_; clear  hK11 K11
            apply wp_seq_k; intro K15 hK15
            refine wp_region_lit ?_
            refine vc_y hF rfl rfl (by decide) _ (y_move rfl rfl) (fun a hF => ?_)
            refine vc_y hF rfl rfl (by decide) _ (y_cmp rfl rfl rfl rfl (gtr_t (by omega))) (fun a hF => ?_)
            refine vc_y hF rfl rfl (by decide) _ (y_move rfl rfl) (fun a hF => ?_)
            refine vc_yg hF rfl rfl rfl rfl rfl (by decide) _ (y_move rfl rfl) (fun a hF => ?_)
            refine vc_yg hF rfl rfl rfl rfl rfl (by decide) _ (y_move rfl rfl) (fun a hF => ?_)
            refine vc_yg hF rfl rfl rfl rfl rfl (by decide) _ (y_sub rfl rfl rfl (IntWalk.i64_in _ (by omega))) (fun a hF => ?_)
            refine vc_yg hF rfl rfl rfl rfl rfl (by decide) _ (y_ixSl rfl Tryz.underlying23 sz9_hw rfl rfl (i - 1) (by omega) (by omega) (ad2 _ _ _)) (fun a hF => ?_)
            refine vc_yg hF rfl rfl rfl rfl rfl (by decide) _ (y_ldC (u := strV q0) rfl (Hq.sub hA4.q (fun _ h => List.mem_cons_of_mem _ h)) rfl hc (i - 1) (by rw [List.length_map]; omega) rfl (by rw [List.getElem?_map, hp0]; rfl) nr9_hw) (fun a hF => ?_)
            refine vc_yg hF rfl rfl rfl rfl rfl (by decide) _ (y_move rfl rfl) (fun a hF => ?_)
            refine vc_yg hF rfl rfl rfl rfl rfl (by decide) _ (y_cmpS rfl rfl rfl rfl (hge)) (fun a hF => ?_)
            refine vc_y hF rfl rfl (by decide) _ (y_pick rfl rfl rfl) (fun a hF => ?_)
            refine vc_nil ?_
            refine hK15 _ _ ?_; clear  hK15 K15
            refine vc_true hF rfl ?_
            apply wp_seq_k; intro K16 hK16
            refine wp_region_lit ?_
            refine vc_y hF rfl rfl (by decide) _ (y_assign rfl rfl) (fun a hF => ?_)
            refine vc_nil ?_
            refine hK16 _ _ ?_; clear  hK16 K16
            apply wp_ret
            simp only [Exit.then, Exit.inBlock]
            refine vc_ret1 hF Tryz.results106 rfl ?_
            rw [if_pos (show 0 < i ∧ strB .geq q0 q = true from ⟨by omega, hge⟩), if_neg (by decide)] at hE
            exact ⟨Y, by rw [hE]; rfl, by rw [textsB, hE, if_neg (by decide), List.append_nil]; exact hY, hA4⟩
          · replace hge : strB .geq q0 q = false := by simpa using hge
            rw [if_neg (show ¬(0 < i ∧ strB .geq q0 q = true) from fun h => by rw [hge] at h; exact absurd h.2 (by decide))] at hE
            rw [if_pos rfl] at hE
            apply wp_skip
            refine hK11 _ _ ?_; clear  hK11 K11
            apply wp_seq_k; intro K17 hK17
            refine wp_region_lit ?_
            refine vc_y hF rfl rfl (by decide) _ (y_move rfl rfl) (fun a hF => ?_)
            refine vc_y hF rfl rfl (by decide) _ (y_cmp rfl rfl rfl rfl (gtr_t (by omega))) (fun a hF => ?_)
            refine vc_y hF rfl rfl (by decide) _ (y_move rfl rfl) (fun a hF => ?_)
            refine vc_yg hF rfl rfl rfl rfl rfl (by decide) _ (y_move rfl rfl) (fun a hF => ?_)
            refine vc_yg hF rfl rfl rfl rfl rfl (by decide) _ (y_move rfl rfl) (fun a hF => ?_)
            refine vc_yg hF rfl rfl rfl rfl rfl (by decide) _ (y_sub rfl rfl rfl (IntWalk.i64_in _ (by omega))) (fun a hF => ?_)
            refine vc_yg hF rfl rfl rfl rfl rfl (by decide) _ (y_ixSl rfl Tryz.underlying23 sz9_hw rfl rfl (i - 1) (by omega) (by omega) (ad2 _ _ _)) (fun a hF => ?_)
            refine vc_yg hF rfl rfl rfl rfl rfl (by decide) _ (y_ldC (u := strV q0) rfl (Hq.sub hA4.q (fun _ h => List.mem_cons_of_mem _ h)) rfl hc (i - 1) (by rw [List.length_map]; omega) rfl (by rw [List.getElem?_map, hp0]; rfl) nr9_hw) (fun a hF => ?_)
            refine vc_yg hF rfl rfl rfl rfl rfl (by decide) _ (y_move rfl rfl) (fun a hF => ?_)
            refine vc_yg hF rfl rfl rfl rfl rfl (by decide) _ (y_cmpS rfl rfl rfl rfl (hge)) (fun a hF => ?_)
            refine vc_y hF rfl rfl (by decide) _ (y_pick rfl rfl rfl) (fun a hF => ?_)
            refine vc_nil ?_
            refine hK17 _ _ ?_; clear  hK17 K17
            refine vc_false hF rfl ?_
            apply wp_skip
            refine hK9 _ _ ?_; clear  hK9 K9
            refine wp_region_lit ?_
            refine vc_y hF rfl rfl (by decide) _ (y_add rfl rfl rfl (IntWalk.i64_in _ (by omega))) (fun a hF => ?_)
            refine vc_y hF rfl rfl (by decide) _ (y_move rfl rfl) (fun a hF => ?_)
            refine vc_nil ?_
            exact ⟨i + 1, by omega, by omega, hE, hF.keep [20, 0, 1, 2, 3, 18, 19] rfl, hA4⟩
    · refine vc_falseB hF rfl (lss_f (by omega)) ?_
      obtain rfl : i = ss.length := by omega
      rw [Nat.sub_self, firstE] at hE
      have hall : ∀ j, j < ss.length → textsAt ss each j = 0 := fun j hj => by
        have h1 := hE
        rw [textsE, if_neg h7] at h1
        exact firstE_zero _ _ _ h1 j (Nat.zero_le _) (by omega)
      have hsmall : ∀ (j : Nat) (q : List UInt8), ss[j]? = some q → q.length ≤ 65535 := fun j q hj => by
        have h1 := hall j (List.getElem?_eq_some_iff.1 hj).1
        have h2 : ss.getD j [] = q := by rw [List.getD_eq_getElem?_getD, hj]; rfl
        rw [textsAt, h2] at h1
        by_cases h3 : bnd each 65535 < (q.length : Int)
        · rw [if_pos h3] at h1; exact absurd h1 (by decide)
        · omega
      apply wp_exit
      refine hK5 _ _ ?_; clear hK8 K8 hK5 K5
      apply wp_seq_k; intro K18 hK18
      refine wp_region_lit ?_
      refine vc_y hF rfl rfl (by decide) _ (y_move rfl rfl) (fun a hF => ?_)
      refine vc_y hF rfl rfl (by decide) _ (y_move rfl rfl) (fun a hF => ?_)
      refine vc_y hF rfl rfl (by decide) _ (y_lenSl rfl Tryz.underlying23 rfl rfl) (fun a hF => ?_)
      refine vc_y hF rfl rfl (by decide) _ (y_conv rfl Tryz.underlying3 Tryz.underlying81 rfl (show IntKind.u16.wrap (ss.length : Int) = (ss.length : Int) by rw [IntKind.wrap_u16]; omega)) (fun a hF => ?_)
      refine vc_op rfl (fun K hK => ws_call hF rfl (by decide) cl88_hw rfl rfl ?_)
      with_reducible refine (hw_put_uint16 w0 _ R wb l Y ss.length (by omega) _ rfl hY hA4 (by omega) ).mono ?_
      rintro e' w9 ⟨Y1, rfl, hY, hA10⟩
      refine ⟨_, rfl, fun a hF => hK _ _ ?_⟩
      clear hK K
      replace hA10 : Hp w0 (Y1 :: R) w9 := hA10
      refine vc_nil ?_
      refine hK18 _ _ ?_; clear  hK18 K18
      apply wp_seq_k; intro K19 hK19
      apply wp_seq_k; intro K20 hK20
      refine wp_region_lit ?_
      refine vc_y hF rfl rfl (by decide) _ (y_move rfl rfl) (fun a hF => ?_)
      refine vc_y hF rfl rfl (by decide) _ (y_lenSl rfl Tryz.underlying23 rfl rfl) (fun a hF => ?_)
      refine vc_y hF rfl rfl (by decide) _ (y_move rfl rfl) (fun a hF => ?_)
      refine vc_nil ?_
      refine hK20 _ _ ?_; clear  hK20 K20
      apply wp_block
      refine vc_loop (G := Nat) (fun i a x => ∃ (Y2 : Seg), i ≤ ss.length ∧ WrS wb (l ++ be 2 ss.length ++ tflat (ss.take i)) Y2 ∧ Fr 57 [(49, .int .i64 (i : Int)), (0, .pointer (some ⟨wb, 0, none⟩)), (47, .slice pa ss.length c), (48, .int .i64 ss.length)] a ∧ Hp w0 (Y2 :: R) x) (fun i => ss.length - i) 0 (⟨Y1, Nat.zero_le _, by rw [List.take_zero, tflat_nil, List.append_nil]; exact hY, hF.keep [49, 0, 47, 48] rfl, hA10⟩) ?_
      clear hF
      rintro i a w12 ⟨Y2, hi, hY, hF, hA11⟩
      apply wp_seq_k; intro K21 hK21
      refine wp_region_lit ?_
      refine vc_y hF rfl rfl (by decide) _ (y_cmp rfl rfl rfl rfl rfl) (fun a hF => ?_)
      refine vc_nil ?_
      refine hK21 _ _ ?_; clear  hK21 K21
      apply wp_seq_k; intro K22 hK22
      by_cases hlt : i < ss.length
      · refine vc_trueB hF rfl (lss_t (by omega)) ?_
        obtain ⟨q, hp⟩ : ∃ q, ss[i]? = some q := ⟨_, List.getElem?_eq_getElem hlt⟩
        obtain ⟨b, o, rfl, hc⟩ := hS.ne (i := i) (by rw [List.length_map]; exact hlt)
        have hq := hsmall i q hp
        have hft := tflat_take hp
        have hfle := tflat_le hp
        have hT0 : textB q 65535 = be 2 q.length ++ q := by rw [textB, if_neg (by unfold bnd; omega)]
        apply wp_skip
        refine hK22 _ _ ?_; clear  hK22 K22
        apply wp_seq_k; intro K23 hK23
        apply wp_block
        apply wp_seq_k; intro K24 hK24
        refine wp_region_lit ?_
        refine vc_y hF rfl rfl (by decide) _ (y_ixSl rfl Tryz.underlying23 sz9_hw rfl rfl i rfl hlt (ad2 _ _ _)) (fun a hF => ?_)
        refine vc_y hF rfl rfl (by decide) _ (y_ldC (u := strV q) rfl (Hq.sub hA11.q (fun _ h => List.mem_cons_of_mem _ h)) rfl hc i (by rw [List.length_map]; exact hlt) rfl (by rw [List.getElem?_map, hp]; rfl) nr9_hw) (fun a hF => ?_)
        refine vc_y hF rfl rfl (by decide) _ (y_assign rfl rfl) (fun a hF => ?_)
        refine vc_nil ?_
        refine hK24 _ _ ?_; clear  hK24 K24
        refine wp_region_lit ?_
        refine vc_y hF rfl rfl (by decide) _ (y_move rfl rfl) (fun a hF => ?_)
        refine vc_y hF rfl rfl (by decide) _ (y_move rfl rfl) (fun a hF => ?_)
        refine vc_op rfl (fun K hK => ws_call hF rfl (by decide) cl76_hw rfl rfl ?_)
        with_reducible refine (hw_text w0 _ R wb _ _ q 65535 hY hA11 (by rw [List.length_append, List.length_append, be_length]; omega) ).mono ?_
        rintro e' w13 ⟨Y3, rfl, hY, hA14⟩
        refine ⟨_, rfl, fun a hF => hK _ _ ?_⟩
        clear hK K
        replace hA14 : Hp w0 (Y3 :: R) w13 := hA14
        refine vc_nil ?_
        refine hK23 _ _ ?_; clear  hK23 K23
        refine wp_region_lit ?_
        refine vc_y hF rfl rfl (by decide) _ (y_add rfl rfl rfl (IntWalk.i64_in _ (by omega))) (fun a hF => ?_)
        refine vc_y hF rfl rfl (by decide) _ (y_move rfl rfl) (fun a hF => ?_)
        refine vc_nil ?_
        rw [hT0, List.append_assoc, List.append_assoc, ← hft, ← List.append_assoc] at hY
        exact ⟨i + 1, by omega, Y3, by omega, hY, hF.keep [49, 0, 47, 48] rfl, hA14⟩
      · refine vc_falseB hF rfl (lss_f (by omega)) ?_
        obtain rfl : i = ss.length := by omega
        rw [List.take_length, List.append_assoc] at hY
        apply wp_exit
        refine hK19 _ _ ?_; clear hK22 K22 hK19 K19
        apply wp_seq_k; intro K25 hK25
        refine wp_region_lit ?_
        refine vc_y hF rfl rfl (by decide) _ (y_assign rfl rfl) (fun a hF => ?_)
        refine vc_nil ?_
        refine hK25 _ _ ?_; clear  hK25 K25
        apply wp_ret
        refine vc_ret1 hF Tryz.results106 rfl ?_
        exact ⟨Y2, by rw [hE]; rfl, by rw [textsB, if_pos hE]; exact hY, hA11⟩
end Go.Proofs.YtepbmdlgdaedpaaGreatDoor
