/- The table over segments. -/
import Derived.Test.YtpomngkcfbnjoaaDoorOctetH
import Derived.Test.YtpomngkcfbnjoaaDoorCs
import Derived.Test.YtpomngkcfbnjoaaDoorTabR
import Derived.Test.YtpomngkcfbnjoaaDoorTab8
import Derived.Test.YtpomngkcfbnjoaaDoorTab9
import Derived.Test.YtpomngkcfbnjoaaDoorTab4
import Derived.Test.YtpomngkcfbnjoaaDoorHs
namespace Go.Proofs.YtpomngkcfbnjoaaDoor
open Go.RowKit Go.Dk
theorem cl70_tt : CallsTo Tryd.prog 97 := ⟨_, Tryd.func97, by kernel_rfl, by kernel_rfl⟩
theorem cl72_tt : CallsTo Tryd.prog 100 := ⟨_, Tryd.func100, by kernel_rfl, by kernel_rfl⟩
theorem cl75_tt : CallsTo Tryd.prog 98 := ⟨_, Tryd.func98, by kernel_rfl, by kernel_rfl⟩
theorem cl76_tt : CallsTo Tryd.prog 99 := ⟨_, Tryd.func99, by kernel_rfl, by kernel_rfl⟩


set_option maxRecDepth 100000 in
set_option maxHeartbeats 1000000 in
theorem tt_text0 (w0 w : World) (R G : List Seg) (hG : G ⊆ R) (dom : UInt8) (di : Int) (hdi : IntKind.u8.wrap di = (dom.toNat : Int)) (pa : Option Addr) (ps : List Piece) (c : Nat) (hP : PcS w0 G pa ps) (hl : (flat ps).length < 140737488353000) (hnb : ps.length ≤ 9223372036854775807) (hA : Hp w0 R w) : Calls Tryd.prog 75 #[.int .i64 di, .slice pa ps.length c] w fun e w' => ∃ v Z, e = .returned v ∧ Buf 5 1 Z v (dom :: flat ps).length (dc (dom :: flat ps)) ∧ Hp w0 (Z :: R) w' := by
  refine vc_enter Tryd.func75 rfl Tryd.ntmps75 (Nat.le_of_ble_eq_true rfl) (fun a hF => ?_)
  apply wp_seq_k; intro K1 hK1
  refine wp_region_lit ?_
  refine vc_y hF rfl rfl (by decide) _ (y_assign rfl rfl) (fun a hF => ?_)
  refine vc_nil ?_
  refine hK1 _ _ ?_; clear  hK1 K1
  apply wp_seq_k; intro K2 hK2
  refine wp_region_lit ?_
  refine vc_op rfl (fun K hK => ws_call hF rfl (by decide) cl70_tt rfl rfl ?_)
  with_reducible refine (hw_new w0 _ R hA ).mono ?_
  rintro e' w1 ⟨g, Y, rfl, hY, hA2⟩
  refine ⟨_, rfl, fun a hF => hK _ _ ?_⟩
  clear hK K
  replace hA2 : Hp w0 (Y :: R) w1 := hA2
  refine vc_y hF rfl rfl (by decide) _ (y_assign rfl rfl) (fun a hF => ?_)
  refine vc_nil ?_
  refine hK2 _ _ ?_; clear  hK2 K2
  apply wp_seq_k; intro K3 hK3
  refine wp_region_lit ?_
  refine vc_y hF rfl rfl (by decide) _ (y_move rfl rfl) (fun a hF => ?_)
  refine vc_y hF rfl rfl (by decide) _ (y_move rfl rfl) (fun a hF => ?_)
  refine vc_y hF rfl rfl (by decide) _ (y_conv rfl Tryd.underlying3 Tryd.underlying5 rfl hdi) (fun a hF => ?_)
  refine vc_op rfl (fun K hK => ws_call hF rfl (by decide) cl75_tt rfl rfl ?_)
  with_reducible refine (hw_put_uint8 w0 _ R g [] Y dom.toNat dom.toNat_lt _ rfl hY hA2 (by decide) ).mono ?_
  rintro e' w3 ⟨Y1, rfl, hY1, hA4⟩
  refine ⟨_, rfl, fun a hF => hK _ _ ?_⟩
  clear hK K
  replace hA4 : Hp w0 (Y1 :: R) w3 := hA4
  replace hY1 : WrS g [dom] Y1 := hY1.same (by simp [be])
  refine vc_nil ?_
  refine hK3 _ _ ?_; clear  hK3 K3
  apply wp_seq_k; intro K4 hK4
  refine wp_region_lit ?_
  refine vc_y hF rfl rfl (by decide) _ (y_move rfl rfl) (fun a hF => ?_)
  refine vc_y hF rfl rfl (by decide) _ (y_move rfl rfl) (fun a hF => ?_)
  refine vc_op rfl (fun K hK => ws_call hF rfl (by decide) cl76_tt rfl rfl ?_)
  with_reducible refine (hw_raw w0 _ R g [dom] Y1 pa ps c (hP.mono hG) hY1 hA4 (by have h0 : pflat ps = flat ps := rfl; rw [h0]; simp only [List.length_cons, List.length_nil]; omega) hnb ).mono ?_
  rintro e' w5 ⟨Y2, rfl, hY2, hA6⟩
  refine ⟨_, rfl, fun a hF => hK _ _ ?_⟩
  clear hK K
  replace hA6 : Hp w0 (Y2 :: R) w5 := hA6
  replace hY2 : WrS g (dom :: flat ps) Y2 := hY2
  refine vc_nil ?_
  refine hK4 _ _ ?_; clear  hK4 K4
  apply wp_seq_k; intro K5 hK5
  refine wp_region_lit ?_
  refine vc_y hF rfl rfl (by decide) _ (y_move rfl rfl) (fun a hF => ?_)
  refine vc_op rfl (fun K hK => ws_call hF rfl (by decide) cl72_tt rfl rfl ?_)
  with_reducible refine (hw_all w0 _ R g (dom :: flat ps) Y2 hY2 hA6 (by simp only [List.length_cons]; omega) ).mono ?_
  rintro e' w7 ⟨v4, Z, Y3, rfl, hZ, _, hA8⟩
  refine ⟨_, rfl, fun a hF => hK _ _ ?_⟩
  clear hK K
  replace hA8 : Hp w0 (Z :: Y3 :: R) w7 := hA8
  refine vc_y hF rfl rfl (by decide) _ (y_assign rfl rfl) (fun a hF => ?_)
  refine vc_nil ?_
  refine hK5 _ _ ?_; clear  hK5 K5
  apply wp_ret
  refine vc_ret1 hF Tryd.results75 rfl ?_
  have hA9 : Hp w0 (Z :: R) w7 := Hp.sel [Z, Y3] R [0] [1] hA8 rfl
  exact ⟨v4, Z, rfl, hZ, hA9⟩
theorem tt_flat (ps : List Piece) : flat ps = (ps.map (·.2.2)).flatten := List.flatMap_def ..
theorem tt_branch (w0 w : World) (R : List Seg) (width : Int) (X Y : List UInt8) (hX : X.length = 32) (hY : Y.length = 32) (hT : Tab w0) (hA : Hp w0 R w) : Calls Tryd.prog 96 #[.int .i64 width, .agg (dc X).toArray, .agg (dc Y).toArray] w fun e w' => e = .returned (.agg (dc (ofL width 4 (X ++ Y))).toArray) ∧ Hp w0 R w' := by
  refine (branch_all w width X Y hX hY (hT.hp hA)).mono ?_
  rintro e w' ⟨rfl, hw⟩
  exact ⟨rfl, hA.then0 hw⟩
theorem tt_empty (w0 w : World) (R : List Seg) (width h : Int) (hT : Tab w0) (hA : Hp w0 R w) : Calls Tryd.prog 95 #[.int .i64 width, .int .i64 h] w fun e w' => e = .returned (.agg (dc (emptyL width (min (max h 0) 256).toNat)).toArray) ∧ Hp w0 R w' := by
  refine (empty_all w width h (hT.hp hA)).mono ?_
  rintro e w' ⟨rfl, hw⟩
  exact ⟨rfl, hA.then0 hw⟩
theorem tt_text (w0 w : World) (R : List Seg) (G : List Seg) (hG : G ⊆ R) (dom : UInt8) (di : Int) (hdi : IntKind.u8.wrap di = (dom.toNat : Int)) (pa : Option Addr) (ps : List Piece) (TS : List (List UInt8)) (c k : Nat) (hk : k = ps.length) (hTS : ps.map (·.2.2) = TS) (hP : PcS w0 G pa ps) (hl : TS.flatten.length < 140737488353000) (hnb : k < 9223372036854775807) (hA : Hp w0 R w) : Calls Tryd.prog 75 #[.int .i64 di, .slice pa k c] w fun e w' => ∃ v Z, e = .returned v ∧ Buf 5 1 Z v (dom :: TS.flatten).length (dc (dom :: TS.flatten)) ∧ Hp w0 (Z :: R) w' := by
  subst hTS hk
  rw [← tt_flat] at hl ⊢
  exact tt_text0 w0 w R G hG dom di hdi pa ps c hP hl (by omega) hA
theorem tt_rtext (w0 w : World) (R : List Seg) (G : List Seg) (hG : G ⊆ R) (dom : UInt8) (di : Int) (hdi : IntKind.u8.wrap di = (dom.toNat : Int)) (pa : Option Addr) (ps : List Piece) (TS : List (List UInt8)) (c k : Nat) (hk : k = ps.length) (hTS : ps.map (·.2.2) = TS) (hP : PcS w0 G pa ps) (hl : TS.flatten.length < 140737488353000) (hnb : k < 9223372036854775807) (hA : Hp w0 R w) : Calls Tryd.prog 48 #[.int .i64 di, .slice pa k c] w fun e w' => ∃ A2 c2 Z, e = .returned (.slice A2 (dom :: TS.flatten).length c2) ∧ Rd w0 [Z] A2 (dom :: TS.flatten) ∧ Hp w0 (Z :: R) w' := by
  subst hTS
  rw [← tt_flat] at hl ⊢
  refine (rtext_any w dom di hdi pa ps c k hk (pcs_pieces (hP.mono hG) hA.q) hl hnb).mono ?_
  rintro e w' ⟨v, Y, rfl, hO, hw⟩
  have hm : Hp w0 (its Y :: R) w' := hA.thenNew hw (fun r hr => hO.new r hr)
  rcases hO.2 with ⟨h1, h2, h3⟩ | ⟨g2, c2, Z2, h1, h2, h3, h4, h5⟩
  · exact absurd h2 (Nat.succ_ne_zero _)
  · subst h5
    refine ⟨some ⟨g2, 0, none⟩, c2, _, by rw [h1], ?_, hm⟩
    exact Rc.ofRow (i := 0) (off := 0) rfl (by rw [List.drop_zero]; exact List.take_left' rfl)
end Go.Proofs.YtpomngkcfbnjoaaDoor
