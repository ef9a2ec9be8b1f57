/- An event's fields: which there are, whether what is not is zero, what is refused. -/
import Derived.Test.YtepbmdlgdaedpaaGreatDoorEv2
import Derived.Test.YtepbmdlgdaedpaaGreatDoorRx
namespace Go.Proofs.YtepbmdlgdaedpaaGreatDoor
open Go.RowKit Go.Dk

theorem nr3_v3 : notRow Tryz.prog 3 = true := by kernel_rfl
theorem nr4_v3 : notRow Tryz.prog 4 = true := by kernel_rfl
theorem nr9_v3 : notRow Tryz.prog 9 = true := by kernel_rfl
theorem nr22_v3 : notRow Tryz.prog 22 = true := by kernel_rfl
theorem nr23_v3 : notRow Tryz.prog 23 = true := by kernel_rfl
theorem nr26_v3 : notRow Tryz.prog 26 = true := by kernel_rfl
theorem nr27_v3 : notRow Tryz.prog 27 = true := by kernel_rfl
theorem rw25_v3 : isRow Tryz.prog 25 4 = true := by kernel_rfl
theorem rw31_v3 : isRow Tryz.prog 31 44 = true := by kernel_rfl
theorem rw129_v3 : isRow Tryz.prog 129 6 = true := by kernel_rfl
theorem sz3_v3 : (Tryz.prog.info? 3).map (·.size) = some 1 := by kernel_rfl
theorem sz4_v3 : (Tryz.prog.info? 4).map (·.size) = some 1 := by kernel_rfl
theorem sz9_v3 : (Tryz.prog.info? 9).map (·.size) = some 1 := by kernel_rfl
theorem sz22_v3 : (Tryz.prog.info? 22).map (·.size) = some 1 := by kernel_rfl
theorem sz23_v3 : (Tryz.prog.info? 23).map (·.size) = some 1 := by kernel_rfl
theorem sz25_v3 : (Tryz.prog.info? 25).map (·.size) = some 4 := by kernel_rfl
theorem sz26_v3 : (Tryz.prog.info? 26).map (·.size) = some 1 := by kernel_rfl
theorem sz27_v3 : (Tryz.prog.info? 27).map (·.size) = some 1 := by kernel_rfl
theorem sz129_v3 : (Tryz.prog.info? 129).map (·.size) = some 6 := by kernel_rfl
theorem cl87_v3 : CallsTo Tryz.prog 87 := ⟨_, Tryz.func87, by kernel_rfl, by kernel_rfl⟩
theorem cl101_v3 : CallsTo Tryz.prog 101 := ⟨_, Tryz.func101, by kernel_rfl, by kernel_rfl⟩
theorem cl135_v3 : CallsTo Tryz.prog 135 := ⟨_, Tryz.func135, by kernel_rfl, by kernel_rfl⟩
theorem cl136_v3 : CallsTo Tryz.prog 136 := ⟨_, Tryz.func136, by kernel_rfl, by kernel_rfl⟩

theorem zr25_v3 : zeroIs Tryz.prog 25 (.agg ([.int .i64 0, .int .i64 0, .string (⟨#[]⟩), .slice none 0 0] : List Value).toArray) := by unfold zeroIs; kernel_rfl
theorem zr129_v3 : zeroIs Tryz.prog 129 (.agg ([.bool false, .bool false, .bool false, .bool false, .bool false, .bool false] : List Value).toArray) := by unfold zeroIs; kernel_rfl
theorem fb_05 (w : World) : (Instr.build 129 #[(0, .bool true), (5, .bool true)]).run Tryz.prog w = .ok (.agg ([.bool true, .bool false, .bool false, .bool false, .bool false, .bool true] : List Value).toArray) w := by kernel_rfl
theorem fb_10 (w : World) : (Instr.build 129 #[(1, .bool true), (0, .bool true)]).run Tryz.prog w = .ok (.agg ([.bool true, .bool true, .bool false, .bool false, .bool false, .bool false] : List Value).toArray) w := by kernel_rfl
theorem fb_123 (w : World) : (Instr.build 129 #[(1, .bool true), (2, .bool true), (3, .bool true)]).run Tryz.prog w = .ok (.agg ([.bool false, .bool true, .bool true, .bool true, .bool false, .bool false] : List Value).toArray) w := by kernel_rfl
theorem fb_124 (w : World) : (Instr.build 129 #[(1, .bool true), (2, .bool true), (4, .bool true)]).run Tryz.prog w = .ok (.agg ([.bool false, .bool true, .bool true, .bool false, .bool true, .bool false] : List Value).toArray) w := by kernel_rfl
theorem fb_ (w : World) : (Instr.build 129 #[]).run Tryz.prog w = .ok (.agg ([.bool false, .bool false, .bool false, .bool false, .bool false, .bool false] : List Value).toArray) w := by kernel_rfl
/-- what fieldsOf tells -/
def fldC (op : Int) : List Value := if okOp op then (fldOf op).cells else noFld.cells
theorem fld_1 {op : Int} (h : op = 1) : (.returned (.tuple #[.agg (fldC op).toArray, .bool (decide (okOp op))]) : Ending) = .returned (.tuple #[.agg ([.bool true, .bool false, .bool false, .bool false, .bool false, .bool true] : List Value).toArray, .bool true]) := by subst h; rfl
theorem fld_2 {op : Int} (h : op = 2) : (.returned (.tuple #[.agg (fldC op).toArray, .bool (decide (okOp op))]) : Ending) = .returned (.tuple #[.agg ([.bool true, .bool true, .bool false, .bool false, .bool false, .bool false] : List Value).toArray, .bool true]) := by subst h; rfl
theorem fld_3 {op : Int} (h : op = 3) : (.returned (.tuple #[.agg (fldC op).toArray, .bool (decide (okOp op))]) : Ending) = .returned (.tuple #[.agg ([.bool false, .bool true, .bool true, .bool true, .bool false, .bool false] : List Value).toArray, .bool true]) := by subst h; rfl
theorem fld_4 {op : Int} (h : op = 4) : (.returned (.tuple #[.agg (fldC op).toArray, .bool (decide (okOp op))]) : Ending) = .returned (.tuple #[.agg ([.bool false, .bool true, .bool true, .bool false, .bool true, .bool false] : List Value).toArray, .bool true]) := by subst h; rfl
theorem fld_5 {op : Int} (h : op = 5) : (.returned (.tuple #[.agg (fldC op).toArray, .bool (decide (okOp op))]) : Ending) = .returned (.tuple #[.agg ([.bool false, .bool false, .bool false, .bool false, .bool false, .bool false] : List Value).toArray, .bool true]) := by subst h; rfl
theorem fld_x {op : Int} (h1 : ¬ op = 1) (h2 : ¬ op = 2) (h3 : ¬ op = 3) (h4 : ¬ op = 4) (h5 : ¬ op = 5) : (.returned (.tuple #[.agg (fldC op).toArray, .bool (decide (okOp op))]) : Ending) = .returned (.tuple #[.agg ([.bool false, .bool false, .bool false, .bool false, .bool false, .bool false] : List Value).toArray, .bool false]) := by
  have h : ¬ okOp op := fun hh => by unfold okOp at hh; omega
  unfold fldC
  rw [if_neg h, decide_eq_false h]
  rfl

set_option maxRecDepth 100000 in
set_option maxHeartbeats 2000000 in
theorem ev_fields {w0 : World} {R : List Seg} (op : Int) (w : World) (hA : Hp w0 R w) : Calls Tryz.prog 72 #[.int .i64 op] w fun e w' => e = .returned (.tuple #[.agg (fldC op).toArray, .bool (decide (okOp op))]) ∧ Hp w0 R w' := by
  refine vc_enter Tryz.func72 rfl Tryz.ntmps72 (Nat.le_of_ble_eq_true rfl) (fun a hF => ?_)
  apply wp_seq_k; intro K1 hK1
  refine wp_region_lit ?_
  refine vc_op rfl (fun K hK => hs_alloc hF rfl (by decide) rfl hA (zr129_v3) (fun b1 w2 a hb1 hF hA3 => hK _ _ ?_))
  clear hK K
  replace hA3 : Hp w0 ([row b1 129 [.bool false, .bool false, .bool false, .bool false, .bool false, .bool false]] :: R) w2 := hA3
  refine vc_y hF rfl rfl (by decide) _ (y_assign rfl rfl) (fun a hF => ?_)
  refine vc_nil ?_
  refine hK1 _ _ ?_; clear  hK1 K1
  apply wp_seq_k; intro K2 hK2
  apply wp_seq_k; intro K3 hK3
  refine wp_region_lit ?_
  refine vc_y hF rfl rfl (by decide) _ (y_move rfl rfl) (fun a hF => ?_)
  refine vc_nil ?_
  refine hK3 _ _ ?_; clear  hK3 K3
  apply wp_block
  apply wp_seq_k; intro K4 hK4
  refine wp_region_lit ?_
  refine vc_y hF rfl rfl (by decide) _ (y_cmp rfl rfl rfl rfl rfl) (fun a hF => ?_)
  refine vc_y hF rfl rfl (by decide) _ (y_assign rfl rfl) (fun a hF => ?_)
  refine vc_nil ?_
  refine hK4 _ _ ?_; clear  hK4 K4
  by_cases hk1 : op = 1
  · refine vc_trueB hF rfl (eql_t (by omega)) ?_
    apply wp_seq_k; intro K5 hK5
    refine wp_region_lit ?_
    refine vc_y hF rfl rfl (by decide) _ (y_build (qs := #[(0, .bool true), (5, .bool true)]) rfl rfl fb_05) (fun a hF => ?_)
    refine vc_op rfl (fun K hK => hs_storeAll (new := [.bool true, .bool false, .bool false, .bool false, .bool false, .bool true]) hF rfl rfl hA3 rfl rfl 0 rfl rfl (by simp [Value.oneCell']) sz129_v3 (fun w4 hA5 => hK _ _ ?_))
    clear hK K
    replace hA5 : Hp w0 ([row b1 129 [.bool true, .bool false, .bool false, .bool false, .bool false, .bool true]] :: R) w4 := hA5
    refine vc_y hF rfl rfl (by decide) _ (y_assign rfl rfl) (fun a hF => ?_)
    refine vc_nil ?_
    refine hK5 _ _ ?_; clear  hK5 K5
    apply wp_ret
    simp only [Exit.then, Exit.inBlock]
    refine vc_retCT hF Tryz.results72 hA5.q rfl rfl 0 rfl rw129_v3 ?_
    have hA6 : Hp w0 (R) w4 := Hp.sel [[row b1 129 [.bool true, .bool false, .bool false, .bool false, .bool false, .bool true]]] R [] [0] hA5 rfl
    exact ⟨by rw [fld_1 hk1], hA6⟩
  · by_cases hk2 : op = 2
    · refine vc_falseB hF rfl (eql_f (by omega)) ?_
      apply wp_seq_k; intro K6 hK6
      refine wp_region_lit ?_
      refine vc_y hF rfl rfl (by decide) _ (y_cmp rfl rfl rfl rfl rfl) (fun a hF => ?_)
      refine vc_y hF rfl rfl (by decide) _ (y_assign rfl rfl) (fun a hF => ?_)
      refine vc_nil ?_
      refine hK6 _ _ ?_; clear  hK6 K6
      refine vc_trueB hF rfl (eql_t (by omega)) ?_
      apply wp_seq_k; intro K7 hK7
      refine wp_region_lit ?_
      refine vc_y hF rfl rfl (by decide) _ (y_build (qs := #[(1, .bool true), (0, .bool true)]) rfl rfl fb_10) (fun a hF => ?_)
      refine vc_op rfl (fun K hK => hs_storeAll (new := [.bool true, .bool true, .bool false, .bool false, .bool false, .bool false]) hF rfl rfl hA3 rfl rfl 0 rfl rfl (by simp [Value.oneCell']) sz129_v3 (fun w7 hA8 => hK _ _ ?_))
      clear hK K
      replace hA8 : Hp w0 ([row b1 129 [.bool true, .bool true, .bool false, .bool false, .bool false, .bool false]] :: R) w7 := hA8
      refine vc_y hF rfl rfl (by decide) _ (y_assign rfl rfl) (fun a hF => ?_)
      refine vc_nil ?_
      refine hK7 _ _ ?_; clear  hK7 K7
      apply wp_ret
      simp only [Exit.then, Exit.inBlock]
      refine vc_retCT hF Tryz.results72 hA8.q rfl rfl 0 rfl rw129_v3 ?_
      have hA9 : Hp w0 (R) w7 := Hp.sel [[row b1 129 [.bool true, .bool true, .bool false, .bool false, .bool false, .bool false]]] R [] [0] hA8 rfl
      exact ⟨by rw [fld_2 hk2], hA9⟩
    · by_cases hk3 : op = 3
      · refine vc_falseB hF rfl (eql_f (by omega)) ?_
        apply wp_seq_k; intro K8 hK8
        refine wp_region_lit ?_
        refine vc_y hF rfl rfl (by decide) _ (y_cmp rfl rfl rfl rfl rfl) (fun a hF => ?_)
        refine vc_y hF rfl rfl (by decide) _ (y_assign rfl rfl) (fun a hF => ?_)
        refine vc_nil ?_
        refine hK8 _ _ ?_; clear  hK8 K8
        refine vc_falseB hF rfl (eql_f (by omega)) ?_
        apply wp_seq_k; intro K9 hK9
        refine wp_region_lit ?_
        refine vc_y hF rfl rfl (by decide) _ (y_cmp rfl rfl rfl rfl rfl) (fun a hF => ?_)
        refine vc_y hF rfl rfl (by decide) _ (y_assign rfl rfl) (fun a hF => ?_)
        refine vc_nil ?_
        refine hK9 _ _ ?_; clear  hK9 K9
        refine vc_trueB hF rfl (eql_t (by omega)) ?_
        apply wp_seq_k; intro K10 hK10
        refine wp_region_lit ?_
        refine vc_y hF rfl rfl (by decide) _ (y_build (qs := #[(1, .bool true), (2, .bool true), (3, .bool true)]) rfl rfl fb_123) (fun a hF => ?_)
        refine vc_op rfl (fun K hK => hs_storeAll (new := [.bool false, .bool true, .bool true, .bool true, .bool false, .bool false]) hF rfl rfl hA3 rfl rfl 0 rfl rfl (by simp [Value.oneCell']) sz129_v3 (fun w10 hA11 => hK _ _ ?_))
        clear hK K
        replace hA11 : Hp w0 ([row b1 129 [.bool false, .bool true, .bool true, .bool true, .bool false, .bool false]] :: R) w10 := hA11
        refine vc_y hF rfl rfl (by decide) _ (y_assign rfl rfl) (fun a hF => ?_)
        refine vc_nil ?_
        refine hK10 _ _ ?_; clear  hK10 K10
        apply wp_ret
        simp only [Exit.then, Exit.inBlock]
        refine vc_retCT hF Tryz.results72 hA11.q rfl rfl 0 rfl rw129_v3 ?_
        have hA12 : Hp w0 (R) w10 := Hp.sel [[row b1 129 [.bool false, .bool true, .bool true, .bool true, .bool false, .bool false]]] R [] [0] hA11 rfl
        exact ⟨by rw [fld_3 hk3], hA12⟩
      · by_cases hk4 : op = 4
        · refine vc_falseB hF rfl (eql_f (by omega)) ?_
          apply wp_seq_k; intro K11 hK11
          refine wp_region_lit ?_
          refine vc_y hF rfl rfl (by decide) _ (y_cmp rfl rfl rfl rfl rfl) (fun a hF => ?_)
          refine vc_y hF rfl rfl (by decide) _ (y_assign rfl rfl) (fun a hF => ?_)
          refine vc_nil ?_
          refine hK11 _ _ ?_; clear  hK11 K11
          refine vc_falseB hF rfl (eql_f (by omega)) ?_
          apply wp_seq_k; intro K12 hK12
          refine wp_region_lit ?_
          refine vc_y hF rfl rfl (by decide) _ (y_cmp rfl rfl rfl rfl rfl) (fun a hF => ?_)
          refine vc_y hF rfl rfl (by decide) _ (y_assign rfl rfl) (fun a hF => ?_)
          refine vc_nil ?_
          refine hK12 _ _ ?_; clear  hK12 K12
          refine vc_falseB hF rfl (eql_f (by omega)) ?_
          apply wp_seq_k; intro K13 hK13
          refine wp_region_lit ?_
          refine vc_y hF rfl rfl (by decide) _ (y_cmp rfl rfl rfl rfl rfl) (fun a hF => ?_)
          refine vc_y hF rfl rfl (by decide) _ (y_assign rfl rfl) (fun a hF => ?_)
          refine vc_nil ?_
          refine hK13 _ _ ?_; clear  hK13 K13
          refine vc_trueB hF rfl (eql_t (by omega)) ?_
          apply wp_seq_k; intro K14 hK14
          refine wp_region_lit ?_
          refine vc_y hF rfl rfl (by decide) _ (y_build (qs := #[(1, .bool true), (2, .bool true), (4, .bool true)]) rfl rfl fb_124) (fun a hF => ?_)
          refine vc_op rfl (fun K hK => hs_storeAll (new := [.bool false, .bool true, .bool true, .bool false, .bool true, .bool false]) hF rfl rfl hA3 rfl rfl 0 rfl rfl (by simp [Value.oneCell']) sz129_v3 (fun w13 hA14 => hK _ _ ?_))
          clear hK K
          replace hA14 : Hp w0 ([row b1 129 [.bool false, .bool true, .bool true, .bool false, .bool true, .bool false]] :: R) w13 := hA14
          refine vc_y hF rfl rfl (by decide) _ (y_assign rfl rfl) (fun a hF => ?_)
          refine vc_nil ?_
          refine hK14 _ _ ?_; clear  hK14 K14
          apply wp_ret
          simp only [Exit.then, Exit.inBlock]
          refine vc_retCT hF Tryz.results72 hA14.q rfl rfl 0 rfl rw129_v3 ?_
          have hA15 : Hp w0 (R) w13 := Hp.sel [[row b1 129 [.bool false, .bool true, .bool true, .bool false, .bool true, .bool false]]] R [] [0] hA14 rfl
          exact ⟨by rw [fld_4 hk4], hA15⟩
        · by_cases hk5 : op = 5
          · refine vc_falseB hF rfl (eql_f (by omega)) ?_
            apply wp_seq_k; intro K15 hK15
            refine wp_region_lit ?_
            refine vc_y hF rfl rfl (by decide) _ (y_cmp rfl rfl rfl rfl rfl) (fun a hF => ?_)
            refine vc_y hF rfl rfl (by decide) _ (y_assign rfl rfl) (fun a hF => ?_)
            refine vc_nil ?_
            refine hK15 _ _ ?_; clear  hK15 K15
            refine vc_falseB hF rfl (eql_f (by omega)) ?_
            apply wp_seq_k; intro K16 hK16
            refine wp_region_lit ?_
            refine vc_y hF rfl rfl (by decide) _ (y_cmp rfl rfl rfl rfl rfl) (fun a hF => ?_)
            refine vc_y hF rfl rfl (by decide) _ (y_assign rfl rfl) (fun a hF => ?_)
            refine vc_nil ?_
            refine hK16 _ _ ?_; clear  hK16 K16
            refine vc_falseB hF rfl (eql_f (by omega)) ?_
            apply wp_seq_k; intro K17 hK17
            refine wp_region_lit ?_
            refine vc_y hF rfl rfl (by decide) _ (y_cmp rfl rfl rfl rfl rfl) (fun a hF => ?_)
            refine vc_y hF rfl rfl (by decide) _ (y_assign rfl rfl) (fun a hF => ?_)
            refine vc_nil ?_
            refine hK17 _ _ ?_; clear  hK17 K17
            refine vc_falseB hF rfl (eql_f (by omega)) ?_
            apply wp_seq_k; intro K18 hK18
            refine wp_region_lit ?_
            refine vc_y hF rfl rfl (by decide) _ (y_cmp rfl rfl rfl rfl rfl) (fun a hF => ?_)
            refine vc_y hF rfl rfl (by decide) _ (y_assign rfl rfl) (fun a hF => ?_)
            refine vc_nil ?_
            refine hK18 _ _ ?_; clear  hK18 K18
            refine vc_trueB hF rfl (eql_t (by omega)) ?_
            apply wp_seq_k; intro K19 hK19
            refine wp_region_lit ?_
            refine vc_y hF rfl rfl (by decide) _ (y_build0 rfl fb_) (fun a hF => ?_)
            refine vc_op rfl (fun K hK => hs_storeAll (new := [.bool false, .bool false, .bool false, .bool false, .bool false, .bool false]) hF rfl rfl hA3 rfl rfl 0 rfl rfl (by simp [Value.oneCell']) sz129_v3 (fun w16 hA17 => hK _ _ ?_))
            clear hK K
            replace hA17 : Hp w0 ([row b1 129 [.bool false, .bool false, .bool false, .bool false, .bool false, .bool false]] :: R) w16 := hA17
            refine vc_y hF rfl rfl (by decide) _ (y_assign rfl rfl) (fun a hF => ?_)
            refine vc_nil ?_
            refine hK19 _ _ ?_; clear  hK19 K19
            apply wp_ret
            simp only [Exit.then, Exit.inBlock]
            refine vc_retCT hF Tryz.results72 hA17.q rfl rfl 0 rfl rw129_v3 ?_
            have hA18 : Hp w0 (R) w16 := Hp.sel [[row b1 129 [.bool false, .bool false, .bool false, .bool false, .bool false, .bool false]]] R [] [0] hA17 rfl
            exact ⟨by rw [fld_5 hk5], hA18⟩
          · refine vc_falseB hF rfl (eql_f (by omega)) ?_
            apply wp_seq_k; intro K20 hK20
            refine wp_region_lit ?_
            refine vc_y hF rfl rfl (by decide) _ (y_cmp rfl rfl rfl rfl rfl) (fun a hF => ?_)
            refine vc_y hF rfl rfl (by decide) _ (y_assign rfl rfl) (fun a hF => ?_)
            refine vc_nil ?_
            refine hK20 _ _ ?_; clear  hK20 K20
            refine vc_falseB hF rfl (eql_f (by omega)) ?_
            apply wp_seq_k; intro K21 hK21
            refine wp_region_lit ?_
            refine vc_y hF rfl rfl (by decide) _ (y_cmp rfl rfl rfl rfl rfl) (fun a hF => ?_)
            refine vc_y hF rfl rfl (by decide) _ (y_assign rfl rfl) (fun a hF => ?_)
            refine vc_nil ?_
            refine hK21 _ _ ?_; clear  hK21 K21
            refine vc_falseB hF rfl (eql_f (by omega)) ?_
            apply wp_seq_k; intro K22 hK22
            refine wp_region_lit ?_
            refine vc_y hF rfl rfl (by decide) _ (y_cmp rfl rfl rfl rfl rfl) (fun a hF => ?_)
            refine vc_y hF rfl rfl (by decide) _ (y_assign rfl rfl) (fun a hF => ?_)
            refine vc_nil ?_
            refine hK22 _ _ ?_; clear  hK22 K22
            refine vc_falseB hF rfl (eql_f (by omega)) ?_
            apply wp_seq_k; intro K23 hK23
            refine wp_region_lit ?_
            refine vc_y hF rfl rfl (by decide) _ (y_cmp rfl rfl rfl rfl rfl) (fun a hF => ?_)
            refine vc_y hF rfl rfl (by decide) _ (y_assign rfl rfl) (fun a hF => ?_)
            refine vc_nil ?_
            refine hK23 _ _ ?_; clear  hK23 K23
            refine vc_falseB hF rfl (eql_f (by omega)) ?_
            apply wp_skip
            refine hK2 _ _ ?_; clear  hK2 K2
            apply wp_seq_k; intro K24 hK24
            refine wp_region_lit ?_
            refine vc_y hF rfl rfl (by decide) _ (y_build0 rfl fb_) (fun a hF => ?_)
            refine vc_op rfl (fun K hK => hs_storeAll (new := [.bool false, .bool false, .bool false, .bool false, .bool false, .bool false]) hF rfl rfl hA3 rfl rfl 0 rfl rfl (by simp [Value.oneCell']) sz129_v3 (fun w19 hA20 => hK _ _ ?_))
            clear hK K
            replace hA20 : Hp w0 ([row b1 129 [.bool false, .bool false, .bool false, .bool false, .bool false, .bool false]] :: R) w19 := hA20
            refine vc_y hF rfl rfl (by decide) _ (y_assign rfl rfl) (fun a hF => ?_)
            refine vc_nil ?_
            refine hK24 _ _ ?_; clear  hK24 K24
            apply wp_ret
            refine vc_retCT hF Tryz.results72 hA20.q rfl rfl 0 rfl rw129_v3 ?_
            have hA21 : Hp w0 (R) w19 := Hp.sel [[row b1 129 [.bool false, .bool false, .bool false, .bool false, .bool false, .bool false]]] R [] [0] hA20 rfl
            exact ⟨by rw [fld_x hk1 hk2 hk3 hk4 hk5], hA21⟩
/-- an event with the memory of its lists -/
structure EA where
  op : Int
  num : Int
  clk : Int
  typ : List UInt8
  cas : List UInt8
  nam : List UInt8
  v : VA
  args : List VA
  aA : Option Addr
  aC : Nat
  src : List UInt8
  bA : Option Addr
  bC : Nat
  eff : List UInt8
abbrev EA.cells (e : EA) : List Value := [.int .i64 e.op, .int .i64 e.num, .int .i64 e.clk, strV e.typ, strV e.cas, strV e.nam, .int .i64 e.v.v.k, .int .i64 e.v.v.n, strV e.v.v.t, .slice e.v.sA e.v.v.s.length e.v.sC, .slice e.aA e.args.length e.aC, .slice e.bA e.src.length e.bC] ++ dc e.eff
def EA.ev (e : EA) : Ev := ⟨e.op, e.num, e.clk, e.typ, e.cas, e.nam, e.v.v, e.args.map VA.v, e.src, e.eff⟩
abbrev argC (l : List VA) : List Value := (l.map VA.cells).flatten
structure EA.Ok (w0 : World) (G : List Seg) (e : EA) : Prop where
  v : e.v.Ok w0 G
  args : ∀ a ∈ e.args, a.Ok w0 G
  rc : Rc w0 G e.aA (argC e.args)
  n : e.args.length ≤ 9223372036854775807
  src : Rd w0 G e.bA e.src
  sn : e.src.length ≤ 9223372036854775807
  i : e.ev.In
theorem str_nil (l : List UInt8) : strB .eql l [] = decide (l = []) := by
  unfold strB
  rw [Bool.eq_iff_iff]
  simp
theorem len_nil {α : Type} (l : List α) : cmpB .eql ((l.length : Nat) : Int) 0 = decide (l = []) := by
  unfold cmpB
  rw [Bool.eq_iff_iff]
  simp
theorem int_nil (z : Int) : cmpB .eql z 0 = decide (z = 0) := by
  unfold cmpB
  rw [Bool.eq_iff_iff]
  simp
theorem spare_eq (ea : EA) (f : Fld) : (((((((f.typed) || (strB .eql ea.typ [])) && ((f.cased) || (strB .eql ea.cas []))) && ((f.named) || (strB .eql ea.nam []))) && ((f.valued) || ((((cmpB .eql (ea.v.v.k) (0)) && (cmpB .eql (ea.v.v.n) (0))) && (strB .eql ea.v.v.t [])) && (cmpB .eql (ea.v.v.s.length) (0))))) && ((f.args) || (cmpB .eql (ea.args.length) (0)))) && ((f.source) || (cmpB .eql (ea.src.length) (0)))) = spareE ea.ev f := by
  rw [str_nil, str_nil, str_nil, str_nil, int_nil, int_nil, len_nil, len_nil, len_nil]
  unfold spareE Val.nothing EA.ev
  simp only [Bool.decide_and, List.map_eq_nil_iff, Bool.and_assoc]

set_option maxRecDepth 100000 in
set_option maxHeartbeats 2000000 in
theorem ev_spare {w0 : World} {R : List Seg} {G : List Seg} (ea : EA) (f : Fld) (w : World) (hV : ea.Ok w0 G) (hG : G ⊆ R) (hA : Hp w0 R w) : Calls Tryz.prog 135 #[.agg ea.cells.toArray, .agg f.cells.toArray] w fun e w' => e = .returned (.bool (spareE ea.ev f)) ∧ Hp w0 R w' := by
  have he32 : ea.eff.length = 32 := hV.i.2.2.2.2.2
  have hn := hV.n
  have hsn := hV.sn
  have hvn := hV.v.n
  refine vc_enter Tryz.func135 rfl Tryz.ntmps135 (Nat.le_of_ble_eq_true rfl) (fun a hF => ?_)
  apply wp_seq_k; intro K1 hK1
  refine wp_region_lit ?_
  refine vc_op rfl (fun K hK => hs_box (cs := ea.cells) hF rfl (by decide) rfl hA rfl (fun b1 w2 a hb1 hF hA3 => hK _ _ ?_))
  clear hK K
  replace hA3 : Hp w0 ([row b1 31 ([.int .i64 ea.op, .int .i64 ea.num, .int .i64 ea.clk, strV ea.typ, strV ea.cas, strV ea.nam, .int .i64 ea.v.v.k, .int .i64 ea.v.v.n, strV ea.v.v.t, .slice ea.v.sA ea.v.v.s.length ea.v.sC, .slice ea.aA ea.args.length ea.aC, .slice ea.bA ea.src.length ea.bC] ++ dc ea.eff)] :: R) w2 := hA3
  refine vc_op rfl (fun K hK => hs_box (cs := [.bool f.typed, .bool f.cased, .bool f.named, .bool f.valued, .bool f.args, .bool f.source]) hF rfl (by decide) rfl hA3 rfl (fun b4 w5 a hb4 hF hA6 => hK _ _ ?_))
  clear hK K
  replace hA6 : Hp w0 ([row b4 129 [.bool f.typed, .bool f.cased, .bool f.named, .bool f.valued, .bool f.args, .bool f.source]] :: [row b1 31 ([.int .i64 ea.op, .int .i64 ea.num, .int .i64 ea.clk, strV ea.typ, strV ea.cas, strV ea.nam, .int .i64 ea.v.v.k, .int .i64 ea.v.v.n, strV ea.v.v.t, .slice ea.v.sA ea.v.v.s.length ea.v.sC, .slice ea.aA ea.args.length ea.aC, .slice ea.bA ea.src.length ea.bC] ++ dc ea.eff)] :: R) w5 := hA6
  refine vc_y hF rfl rfl (by decide) _ (y_assign rfl rfl) (fun a hF => ?_)
  refine vc_nil ?_
  refine hK1 _ _ ?_; clear  hK1 K1
  apply wp_seq_k; intro K2 hK2
  refine wp_region_lit ?_
  refine vc_y hF rfl rfl (by decide) _ (y_field rfl Tryz.underlying31 rfl sz25_v3 (by decide) rfl (rfl : (⟨_, 0 + _, none⟩ : Addr) = ⟨_, 6, none⟩)) (fun a hF => ?_)
  refine vc_y hF rfl rfl (by decide) _ (y_ldRow (new := [.int .i64 ea.v.v.k, .int .i64 ea.v.v.n, strV ea.v.v.t, .slice ea.v.sA ea.v.v.s.length ea.v.sC]) rfl hA6.q rfl 1 rfl rw25_v3 (by rw [List.length_append]; exact Nat.le_add_right_of_le (Nat.le_of_ble_eq_true rfl)) rfl) (fun a hF => ?_)
  refine vc_op rfl (fun K hK => hs_alloc hF rfl (by decide) rfl hA6 (zr25_v3) (fun b7 w8 a hb7 hF hA9 => hK _ _ ?_))
  clear hK K
  replace hA9 : Hp w0 ([row b7 25 [.int .i64 0, .int .i64 0, .string (⟨#[]⟩), .slice none 0 0]] :: [row b4 129 [.bool f.typed, .bool f.cased, .bool f.named, .bool f.valued, .bool f.args, .bool f.source]] :: [row b1 31 ([.int .i64 ea.op, .int .i64 ea.num, .int .i64 ea.clk, strV ea.typ, strV ea.cas, strV ea.nam, .int .i64 ea.v.v.k, .int .i64 ea.v.v.n, strV ea.v.v.t, .slice ea.v.sA ea.v.v.s.length ea.v.sC, .slice ea.aA ea.args.length ea.aC, .slice ea.bA ea.src.length ea.bC] ++ dc ea.eff)] :: R) w8 := hA9
  refine vc_op rfl (fun K hK => hs_storeAll (new := [.int .i64 ea.v.v.k, .int .i64 ea.v.v.n, strV ea.v.v.t, .slice ea.v.sA ea.v.v.s.length ea.v.sC]) hF rfl rfl hA9 rfl rfl 0 rfl rfl (by simp [Value.oneCell']) sz25_v3 (fun w10 hA11 => hK _ _ ?_))
  clear hK K
  replace hA11 : Hp w0 ([row b7 25 [.int .i64 ea.v.v.k, .int .i64 ea.v.v.n, strV ea.v.v.t, .slice ea.v.sA ea.v.v.s.length ea.v.sC]] :: [row b4 129 [.bool f.typed, .bool f.cased, .bool f.named, .bool f.valued, .bool f.args, .bool f.source]] :: [row b1 31 ([.int .i64 ea.op, .int .i64 ea.num, .int .i64 ea.clk, strV ea.typ, strV ea.cas, strV ea.nam, .int .i64 ea.v.v.k, .int .i64 ea.v.v.n, strV ea.v.v.t, .slice ea.v.sA ea.v.v.s.length ea.v.sC, .slice ea.aA ea.args.length ea.aC, .slice ea.bA ea.src.length ea.bC] ++ dc ea.eff)] :: R) w10 := hA11
  refine vc_nil ?_
  refine hK2 _ _ ?_; clear  hK2 K2
  apply wp_seq_k; intro K3 hK3
  refine wp_region_lit ?_
  refine vc_y hF rfl rfl (by decide) _ (y_field rfl Tryz.underlying129 rfl sz4_v3 (by decide) rfl (rfl : (⟨_, 0 + _, none⟩ : Addr) = ⟨_, 0, none⟩)) (fun a hF => ?_)
  refine vc_y hF rfl rfl (by decide) _ (y_ld rfl hA11.q rfl 1 rfl rfl nr4_v3) (fun a hF => ?_)
  refine vc_y hF rfl rfl (by decide) _ (y_move rfl rfl) (fun a hF => ?_)
  refine vc_meet (l2 := ?lA1) hF [(14, .bool ((f.typed) || (strB .eql ea.typ []))), (0, .agg (ea.cells).toArray), (1, .agg ([.bool f.typed, .bool f.cased, .bool f.named, .bool f.valued, .bool f.args, .bool f.source]).toArray), (2, .pointer (some ⟨b1, 0, none⟩)), (3, .pointer (some ⟨b4, 0, none⟩)), (4, .bool false), (6, .pointer (some ⟨b1, 6, none⟩)), (7, .agg ([.int .i64 ea.v.v.k, .int .i64 ea.v.v.n, strV ea.v.v.t, .slice ea.v.sA ea.v.v.s.length ea.v.sC]).toArray), (5, .pointer (some ⟨b7, 0, none⟩))] (fun hJ1 => ?elA1) (fun a hF => ?flA1)
  case elA1 =>
    rcases tf (f.typed) with hg1 | hg1
    · refine vc_yg hF rfl rfl rfl rfl (some_bool hg1) (by decide) _ (y_field rfl Tryz.underlying31 rfl sz9_v3 (by decide) rfl (rfl : (⟨_, 0 + _, none⟩ : Addr) = ⟨_, 3, none⟩)) (fun a hF => ?_)
      refine vc_yg hF rfl rfl rfl rfl (some_bool hg1) (by decide) _ (y_ld rfl hA11.q rfl 2 rfl rfl nr9_v3) (fun a hF => ?_)
      refine vc_yg hF rfl rfl rfl rfl (some_bool hg1) (by decide) _ (y_cmpS rfl rfl rfl rfl rfl) (fun a hF => ?_)
      refine vc_y hF rfl rfl (by decide) _ (y_pickF hg1 rfl rfl rfl) (fun a hF => ?_)
      exact hJ1 _ ((hF.keep [14, 0, 1, 2, 3, 4, 6, 7, 5] (F' := [(14, _), (0, _), (1, _), (2, _), (3, _), (4, _), (6, _), (7, _), (5, _)]) rfl).bool (by rw [hg1]; rfl))
    · refine vc_skip hF rfl rfl rfl rfl rfl (ne_want hg1) (by decide) (fun a hF => ?_)
      refine vc_skip hF rfl rfl rfl rfl rfl (ne_want hg1) (by decide) (fun a hF => ?_)
      refine vc_skip hF rfl rfl rfl rfl rfl (ne_want hg1) (by decide) (fun a hF => ?_)
      refine vc_y hF rfl rfl (by decide) _ (y_pickT hg1 rfl rfl rfl) (fun a hF => ?_)
      exact hJ1 _ ((hF.keep [14, 0, 1, 2, 3, 4, 6, 7, 5] (F' := [(14, _), (0, _), (1, _), (2, _), (3, _), (4, _), (6, _), (7, _), (5, _)]) rfl).bool (by rw [hg1]; rfl))
  refine vc_y hF rfl rfl (by decide) _ (y_move rfl rfl) (fun a hF => ?_)
  refine vc_meet (l2 := ?lA2) hF [(23, .bool (((f.typed) || (strB .eql ea.typ [])) && ((f.cased) || (strB .eql ea.cas [])))), (0, .agg (ea.cells).toArray), (1, .agg ([.bool f.typed, .bool f.cased, .bool f.named, .bool f.valued, .bool f.args, .bool f.source]).toArray), (2, .pointer (some ⟨b1, 0, none⟩)), (3, .pointer (some ⟨b4, 0, none⟩)), (4, .bool false), (6, .pointer (some ⟨b1, 6, none⟩)), (7, .agg ([.int .i64 ea.v.v.k, .int .i64 ea.v.v.n, strV ea.v.v.t, .slice ea.v.sA ea.v.v.s.length ea.v.sC]).toArray), (5, .pointer (some ⟨b7, 0, none⟩))] (fun hJ2 => ?elA2) (fun a hF => ?flA2)
  case elA2 =>
    rcases tf ((f.typed) || (strB .eql ea.typ [])) with hg2 | hg2
    · refine vc_skip hF rfl rfl rfl rfl rfl (ne_want hg2) (by decide) (fun a hF => ?_)
      refine vc_skip hF rfl rfl rfl rfl rfl (ne_want hg2) (by decide) (fun a hF => ?_)
      refine vc_skip hF rfl rfl rfl rfl rfl (ne_want hg2) (by decide) (fun a hF => ?_)
      refine vc_skipU hF rfl rfl rfl rfl rfl (by decide) (fun a hF => ?_)
      refine vc_skipU hF rfl rfl rfl rfl rfl (by decide) (fun a hF => ?_)
      refine vc_skipU hF rfl rfl rfl rfl rfl (by decide) (fun a hF => ?_)
      refine vc_skip hF rfl rfl rfl rfl rfl (ne_want hg2) (by decide) (fun a hF => ?_)
      refine vc_y hF rfl rfl (by decide) _ (y_pickF hg2 rfl rfl rfl) (fun a hF => ?_)
      exact hJ2 _ ((hF.keep [23, 0, 1, 2, 3, 4, 6, 7, 5] (F' := [(23, _), (0, _), (1, _), (2, _), (3, _), (4, _), (6, _), (7, _), (5, _)]) rfl).bool (by rw [hg2]; rfl))
    · refine vc_yg hF rfl rfl rfl rfl (some_bool hg2) (by decide) _ (y_field rfl Tryz.underlying129 rfl sz4_v3 (by decide) rfl (rfl : (⟨_, 0 + _, none⟩ : Addr) = ⟨_, 1, none⟩)) (fun a hF => ?_)
      refine vc_yg hF rfl rfl rfl rfl (some_bool hg2) (by decide) _ (y_ld rfl hA11.q rfl 1 rfl rfl nr4_v3) (fun a hF => ?_)
      refine vc_yg hF rfl rfl rfl rfl (some_bool hg2) (by decide) _ (y_move rfl rfl) (fun a hF => ?_)
      refine vc_meet (l2 := ?lA3) hF [(22, .bool ((f.cased) || (strB .eql ea.cas []))), (0, .agg (ea.cells).toArray), (1, .agg ([.bool f.typed, .bool f.cased, .bool f.named, .bool f.valued, .bool f.args, .bool f.source]).toArray), (2, .pointer (some ⟨b1, 0, none⟩)), (3, .pointer (some ⟨b4, 0, none⟩)), (4, .bool false), (6, .pointer (some ⟨b1, 6, none⟩)), (7, .agg ([.int .i64 ea.v.v.k, .int .i64 ea.v.v.n, strV ea.v.v.t, .slice ea.v.sA ea.v.v.s.length ea.v.sC]).toArray), (5, .pointer (some ⟨b7, 0, none⟩)), (15, .bool ((f.typed) || (strB .eql ea.typ [])))] (fun hJ3 => ?elA3) (fun a hF => ?flA3)
      case elA3 =>
        rcases tf (f.cased) with hg3 | hg3
        · refine vc_yg hF rfl rfl rfl rfl (some_bool hg3) (by decide) _ (y_field rfl Tryz.underlying31 rfl sz9_v3 (by decide) rfl (rfl : (⟨_, 0 + _, none⟩ : Addr) = ⟨_, 4, none⟩)) (fun a hF => ?_)
          refine vc_yg hF rfl rfl rfl rfl (some_bool hg3) (by decide) _ (y_ld rfl hA11.q rfl 2 rfl rfl nr9_v3) (fun a hF => ?_)
          refine vc_yg hF rfl rfl rfl rfl (some_bool hg3) (by decide) _ (y_cmpS rfl rfl rfl rfl rfl) (fun a hF => ?_)
          refine vc_yg hF rfl rfl rfl rfl (some_bool hg2) (by decide) _ (y_pickF hg3 rfl rfl rfl) (fun a hF => ?_)
          exact hJ3 _ ((hF.keep [22, 0, 1, 2, 3, 4, 6, 7, 5, 15] (F' := [(22, _), (0, _), (1, _), (2, _), (3, _), (4, _), (6, _), (7, _), (5, _), (15, _)]) rfl).bool (by rw [hg3]; rfl))
        · refine vc_skip hF rfl rfl rfl rfl rfl (ne_want hg3) (by decide) (fun a hF => ?_)
          refine vc_skip hF rfl rfl rfl rfl rfl (ne_want hg3) (by decide) (fun a hF => ?_)
          refine vc_skip hF rfl rfl rfl rfl rfl (ne_want hg3) (by decide) (fun a hF => ?_)
          refine vc_yg hF rfl rfl rfl rfl (some_bool hg2) (by decide) _ (y_pickT hg3 rfl rfl rfl) (fun a hF => ?_)
          exact hJ3 _ ((hF.keep [22, 0, 1, 2, 3, 4, 6, 7, 5, 15] (F' := [(22, _), (0, _), (1, _), (2, _), (3, _), (4, _), (6, _), (7, _), (5, _), (15, _)]) rfl).bool (by rw [hg3]; rfl))
      refine vc_y hF rfl rfl (by decide) _ (y_pickT hg2 rfl rfl rfl) (fun a hF => ?_)
      exact hJ2 _ ((hF.keep [23, 0, 1, 2, 3, 4, 6, 7, 5] (F' := [(23, _), (0, _), (1, _), (2, _), (3, _), (4, _), (6, _), (7, _), (5, _)]) rfl).bool (by rw [hg2]; rfl))
  refine vc_y hF rfl rfl (by decide) _ (y_move rfl rfl) (fun a hF => ?_)
  refine vc_meet (l2 := ?lA4) hF [(32, .bool ((((f.typed) || (strB .eql ea.typ [])) && ((f.cased) || (strB .eql ea.cas []))) && ((f.named) || (strB .eql ea.nam [])))), (0, .agg (ea.cells).toArray), (1, .agg ([.bool f.typed, .bool f.cased, .bool f.named, .bool f.valued, .bool f.args, .bool f.source]).toArray), (2, .pointer (some ⟨b1, 0, none⟩)), (3, .pointer (some ⟨b4, 0, none⟩)), (4, .bool false), (6, .pointer (some ⟨b1, 6, none⟩)), (7, .agg ([.int .i64 ea.v.v.k, .int .i64 ea.v.v.n, strV ea.v.v.t, .slice ea.v.sA ea.v.v.s.length ea.v.sC]).toArray), (5, .pointer (some ⟨b7, 0, none⟩))] (fun hJ4 => ?elA4) (fun a hF => ?flA4)
  case elA4 =>
    rcases tf (((f.typed) || (strB .eql ea.typ [])) && ((f.cased) || (strB .eql ea.cas []))) with hg4 | hg4
    · refine vc_skip hF rfl rfl rfl rfl rfl (ne_want hg4) (by decide) (fun a hF => ?_)
      refine vc_skip hF rfl rfl rfl rfl rfl (ne_want hg4) (by decide) (fun a hF => ?_)
      refine vc_skip hF rfl rfl rfl rfl rfl (ne_want hg4) (by decide) (fun a hF => ?_)
      refine vc_skipU hF rfl rfl rfl rfl rfl (by decide) (fun a hF => ?_)
      refine vc_skipU hF rfl rfl rfl rfl rfl (by decide) (fun a hF => ?_)
      refine vc_skipU hF rfl rfl rfl rfl rfl (by decide) (fun a hF => ?_)
      refine vc_skip hF rfl rfl rfl rfl rfl (ne_want hg4) (by decide) (fun a hF => ?_)
      refine vc_y hF rfl rfl (by decide) _ (y_pickF hg4 rfl rfl rfl) (fun a hF => ?_)
      exact hJ4 _ ((hF.keep [32, 0, 1, 2, 3, 4, 6, 7, 5] (F' := [(32, _), (0, _), (1, _), (2, _), (3, _), (4, _), (6, _), (7, _), (5, _)]) rfl).bool (by rw [hg4]; rfl))
    · refine vc_yg hF rfl rfl rfl rfl (some_bool hg4) (by decide) _ (y_field rfl Tryz.underlying129 rfl sz4_v3 (by decide) rfl (rfl : (⟨_, 0 + _, none⟩ : Addr) = ⟨_, 2, none⟩)) (fun a hF => ?_)
      refine vc_yg hF rfl rfl rfl rfl (some_bool hg4) (by decide) _ (y_ld rfl hA11.q rfl 1 rfl rfl nr4_v3) (fun a hF => ?_)
      refine vc_yg hF rfl rfl rfl rfl (some_bool hg4) (by decide) _ (y_move rfl rfl) (fun a hF => ?_)
      refine vc_meet (l2 := ?lA5) hF [(31, .bool ((f.named) || (strB .eql ea.nam []))), (0, .agg (ea.cells).toArray), (1, .agg ([.bool f.typed, .bool f.cased, .bool f.named, .bool f.valued, .bool f.args, .bool f.source]).toArray), (2, .pointer (some ⟨b1, 0, none⟩)), (3, .pointer (some ⟨b4, 0, none⟩)), (4, .bool false), (6, .pointer (some ⟨b1, 6, none⟩)), (7, .agg ([.int .i64 ea.v.v.k, .int .i64 ea.v.v.n, strV ea.v.v.t, .slice ea.v.sA ea.v.v.s.length ea.v.sC]).toArray), (5, .pointer (some ⟨b7, 0, none⟩)), (24, .bool (((f.typed) || (strB .eql ea.typ [])) && ((f.cased) || (strB .eql ea.cas []))))] (fun hJ5 => ?elA5) (fun a hF => ?flA5)
      case elA5 =>
        rcases tf (f.named) with hg5 | hg5
        · refine vc_yg hF rfl rfl rfl rfl (some_bool hg5) (by decide) _ (y_field rfl Tryz.underlying31 rfl sz9_v3 (by decide) rfl (rfl : (⟨_, 0 + _, none⟩ : Addr) = ⟨_, 5, none⟩)) (fun a hF => ?_)
          refine vc_yg hF rfl rfl rfl rfl (some_bool hg5) (by decide) _ (y_ld rfl hA11.q rfl 2 rfl rfl nr9_v3) (fun a hF => ?_)
          refine vc_yg hF rfl rfl rfl rfl (some_bool hg5) (by decide) _ (y_cmpS rfl rfl rfl rfl rfl) (fun a hF => ?_)
          refine vc_yg hF rfl rfl rfl rfl (some_bool hg4) (by decide) _ (y_pickF hg5 rfl rfl rfl) (fun a hF => ?_)
          exact hJ5 _ ((hF.keep [31, 0, 1, 2, 3, 4, 6, 7, 5, 24] (F' := [(31, _), (0, _), (1, _), (2, _), (3, _), (4, _), (6, _), (7, _), (5, _), (24, _)]) rfl).bool (by rw [hg5]; rfl))
        · refine vc_skip hF rfl rfl rfl rfl rfl (ne_want hg5) (by decide) (fun a hF => ?_)
          refine vc_skip hF rfl rfl rfl rfl rfl (ne_want hg5) (by decide) (fun a hF => ?_)
          refine vc_skip hF rfl rfl rfl rfl rfl (ne_want hg5) (by decide) (fun a hF => ?_)
          refine vc_yg hF rfl rfl rfl rfl (some_bool hg4) (by decide) _ (y_pickT hg5 rfl rfl rfl) (fun a hF => ?_)
          exact hJ5 _ ((hF.keep [31, 0, 1, 2, 3, 4, 6, 7, 5, 24] (F' := [(31, _), (0, _), (1, _), (2, _), (3, _), (4, _), (6, _), (7, _), (5, _), (24, _)]) rfl).bool (by rw [hg5]; rfl))
      refine vc_y hF rfl rfl (by decide) _ (y_pickT hg4 rfl rfl rfl) (fun a hF => ?_)
      exact hJ4 _ ((hF.keep [32, 0, 1, 2, 3, 4, 6, 7, 5] (F' := [(32, _), (0, _), (1, _), (2, _), (3, _), (4, _), (6, _), (7, _), (5, _)]) rfl).bool (by rw [hg4]; rfl))
  refine vc_y hF rfl rfl (by decide) _ (y_move rfl rfl) (fun a hF => ?_)
  refine vc_meet (l2 := ?lA6) hF [(57, .bool (((((f.typed) || (strB .eql ea.typ [])) && ((f.cased) || (strB .eql ea.cas []))) && ((f.named) || (strB .eql ea.nam []))) && ((f.valued) || ((((cmpB .eql (ea.v.v.k) (0)) && (cmpB .eql (ea.v.v.n) (0))) && (strB .eql ea.v.v.t [])) && (cmpB .eql (ea.v.v.s.length) (0)))))), (0, .agg (ea.cells).toArray), (1, .agg ([.bool f.typed, .bool f.cased, .bool f.named, .bool f.valued, .bool f.args, .bool f.source]).toArray), (2, .pointer (some ⟨b1, 0, none⟩)), (3, .pointer (some ⟨b4, 0, none⟩)), (4, .bool false), (6, .pointer (some ⟨b1, 6, none⟩)), (7, .agg ([.int .i64 ea.v.v.k, .int .i64 ea.v.v.n, strV ea.v.v.t, .slice ea.v.sA ea.v.v.s.length ea.v.sC]).toArray), (5, .pointer (some ⟨b7, 0, none⟩))] (fun hJ6 => ?elA6) (fun a hF => ?flA6)
  case elA6 =>
    rcases tf ((((f.typed) || (strB .eql ea.typ [])) && ((f.cased) || (strB .eql ea.cas []))) && ((f.named) || (strB .eql ea.nam []))) with hg6 | hg6
    · refine vc_skip hF rfl rfl rfl rfl rfl (ne_want hg6) (by decide) (fun a hF => ?_)
      refine vc_skip hF rfl rfl rfl rfl rfl (ne_want hg6) (by decide) (fun a hF => ?_)
      refine vc_skip hF rfl rfl rfl rfl rfl (ne_want hg6) (by decide) (fun a hF => ?_)
      refine vc_skipU hF rfl rfl rfl rfl rfl (by decide) (fun a hF => ?_)
      refine vc_skipU hF rfl rfl rfl rfl rfl (by decide) (fun a hF => ?_)
      refine vc_skipU hF rfl rfl rfl rfl rfl (by decide) (fun a hF => ?_)
      refine vc_skipU hF rfl rfl rfl rfl rfl (by decide) (fun a hF => ?_)
      refine vc_skipU hF rfl rfl rfl rfl rfl (by decide) (fun a hF => ?_)
      refine vc_skipU hF rfl rfl rfl rfl rfl (by decide) (fun a hF => ?_)
      refine vc_skipU hF rfl rfl rfl rfl rfl (by decide) (fun a hF => ?_)
      refine vc_skipU hF rfl rfl rfl rfl rfl (by decide) (fun a hF => ?_)
      refine vc_skipU hF rfl rfl rfl rfl rfl (by decide) (fun a hF => ?_)
      refine vc_skipU hF rfl rfl rfl rfl rfl (by decide) (fun a hF => ?_)
      refine vc_skipU hF rfl rfl rfl rfl rfl (by decide) (fun a hF => ?_)
      refine vc_skipU hF rfl rfl rfl rfl rfl (by decide) (fun a hF => ?_)
      refine vc_skipU hF rfl rfl rfl rfl rfl (by decide) (fun a hF => ?_)
      refine vc_skipU hF rfl rfl rfl rfl rfl (by decide) (fun a hF => ?_)
      refine vc_skipU hF rfl rfl rfl rfl rfl (by decide) (fun a hF => ?_)
      refine vc_skipU hF rfl rfl rfl rfl rfl (by decide) (fun a hF => ?_)
      refine vc_skipU hF rfl rfl rfl rfl rfl (by decide) (fun a hF => ?_)
      refine vc_skipU hF rfl rfl rfl rfl rfl (by decide) (fun a hF => ?_)
      refine vc_skipU hF rfl rfl rfl rfl rfl (by decide) (fun a hF => ?_)
      refine vc_skip hF rfl rfl rfl rfl rfl (ne_want hg6) (by decide) (fun a hF => ?_)
      refine vc_y hF rfl rfl (by decide) _ (y_pickF hg6 rfl rfl rfl) (fun a hF => ?_)
      exact hJ6 _ ((hF.keep [57, 0, 1, 2, 3, 4, 6, 7, 5] (F' := [(57, _), (0, _), (1, _), (2, _), (3, _), (4, _), (6, _), (7, _), (5, _)]) rfl).bool (by rw [hg6]; rfl))
    · refine vc_yg hF rfl rfl rfl rfl (some_bool hg6) (by decide) _ (y_field rfl Tryz.underlying129 rfl sz4_v3 (by decide) rfl (rfl : (⟨_, 0 + _, none⟩ : Addr) = ⟨_, 3, none⟩)) (fun a hF => ?_)
      refine vc_yg hF rfl rfl rfl rfl (some_bool hg6) (by decide) _ (y_ld rfl hA11.q rfl 1 rfl rfl nr4_v3) (fun a hF => ?_)
      refine vc_yg hF rfl rfl rfl rfl (some_bool hg6) (by decide) _ (y_move rfl rfl) (fun a hF => ?_)
      refine vc_meet (l2 := ?lA7) hF [(56, .bool ((f.valued) || ((((cmpB .eql (ea.v.v.k) (0)) && (cmpB .eql (ea.v.v.n) (0))) && (strB .eql ea.v.v.t [])) && (cmpB .eql (ea.v.v.s.length) (0))))), (0, .agg (ea.cells).toArray), (1, .agg ([.bool f.typed, .bool f.cased, .bool f.named, .bool f.valued, .bool f.args, .bool f.source]).toArray), (2, .pointer (some ⟨b1, 0, none⟩)), (3, .pointer (some ⟨b4, 0, none⟩)), (4, .bool false), (6, .pointer (some ⟨b1, 6, none⟩)), (7, .agg ([.int .i64 ea.v.v.k, .int .i64 ea.v.v.n, strV ea.v.v.t, .slice ea.v.sA ea.v.v.s.length ea.v.sC]).toArray), (5, .pointer (some ⟨b7, 0, none⟩)), (33, .bool ((((f.typed) || (strB .eql ea.typ [])) && ((f.cased) || (strB .eql ea.cas []))) && ((f.named) || (strB .eql ea.nam []))))] (fun hJ7 => ?elA7) (fun a hF => ?flA7)
      case elA7 =>
        rcases tf (f.valued) with hg7 | hg7
        · refine vc_yg hF rfl rfl rfl rfl (some_bool hg7) (by decide) _ (y_field rfl Tryz.underlying25 rfl sz22_v3 (by decide) rfl (rfl : (⟨_, 0 + _, none⟩ : Addr) = ⟨_, 0, none⟩)) (fun a hF => ?_)
          refine vc_yg hF rfl rfl rfl rfl (some_bool hg7) (by decide) _ (y_ld rfl hA11.q rfl 0 rfl rfl nr22_v3) (fun a hF => ?_)
          refine vc_yg hF rfl rfl rfl rfl (some_bool hg7) (by decide) _ (y_cmp rfl rfl rfl rfl rfl) (fun a hF => ?_)
          refine vc_yg hF rfl rfl rfl rfl (some_bool hg7) (by decide) _ (y_move rfl rfl) (fun a hF => ?_)
          refine vc_meet (l2 := ?lA8) hF [(44, .bool ((cmpB .eql (ea.v.v.k) (0)) && (cmpB .eql (ea.v.v.n) (0)))), (0, .agg (ea.cells).toArray), (1, .agg ([.bool f.typed, .bool f.cased, .bool f.named, .bool f.valued, .bool f.args, .bool f.source]).toArray), (2, .pointer (some ⟨b1, 0, none⟩)), (3, .pointer (some ⟨b4, 0, none⟩)), (4, .bool false), (6, .pointer (some ⟨b1, 6, none⟩)), (7, .agg ([.int .i64 ea.v.v.k, .int .i64 ea.v.v.n, strV ea.v.v.t, .slice ea.v.sA ea.v.v.s.length ea.v.sC]).toArray), (5, .pointer (some ⟨b7, 0, none⟩)), (33, .bool ((((f.typed) || (strB .eql ea.typ [])) && ((f.cased) || (strB .eql ea.cas []))) && ((f.named) || (strB .eql ea.nam [])))), (36, .bool f.valued)] (fun hJ8 => ?elA8) (fun a hF => ?flA8)
          case elA8 =>
            rcases tf (cmpB .eql (ea.v.v.k) (0)) with hg8 | hg8
            · refine vc_skip hF rfl rfl rfl rfl rfl (ne_want hg8) (by decide) (fun a hF => ?_)
              refine vc_skip hF rfl rfl rfl rfl rfl (ne_want hg8) (by decide) (fun a hF => ?_)
              refine vc_skip hF rfl rfl rfl rfl rfl (ne_want hg8) (by decide) (fun a hF => ?_)
              refine vc_yg hF rfl rfl rfl rfl (some_bool hg7) (by decide) _ (y_pickF hg8 rfl rfl rfl) (fun a hF => ?_)
              exact hJ8 _ ((hF.keep [44, 0, 1, 2, 3, 4, 6, 7, 5, 33, 36] (F' := [(44, _), (0, _), (1, _), (2, _), (3, _), (4, _), (6, _), (7, _), (5, _), (33, _), (36, _)]) rfl).bool (by rw [hg8]; rfl))
            · refine vc_yg hF rfl rfl rfl rfl (some_bool hg8) (by decide) _ (y_field rfl Tryz.underlying25 rfl sz3_v3 (by decide) rfl (rfl : (⟨_, 0 + _, none⟩ : Addr) = ⟨_, 1, none⟩)) (fun a hF => ?_)
              refine vc_yg hF rfl rfl rfl rfl (some_bool hg8) (by decide) _ (y_ld rfl hA11.q rfl 0 rfl rfl nr3_v3) (fun a hF => ?_)
              refine vc_yg hF rfl rfl rfl rfl (some_bool hg8) (by decide) _ (y_cmp rfl rfl rfl rfl rfl) (fun a hF => ?_)
              refine vc_yg hF rfl rfl rfl rfl (some_bool hg7) (by decide) _ (y_pickT hg8 rfl rfl rfl) (fun a hF => ?_)
              exact hJ8 _ ((hF.keep [44, 0, 1, 2, 3, 4, 6, 7, 5, 33, 36] (F' := [(44, _), (0, _), (1, _), (2, _), (3, _), (4, _), (6, _), (7, _), (5, _), (33, _), (36, _)]) rfl).bool (by rw [hg8]; rfl))
          refine vc_yg hF rfl rfl rfl rfl (some_bool hg7) (by decide) _ (y_move rfl rfl) (fun a hF => ?_)
          refine vc_meet (l2 := ?lA9) hF [(49, .bool (((cmpB .eql (ea.v.v.k) (0)) && (cmpB .eql (ea.v.v.n) (0))) && (strB .eql ea.v.v.t []))), (0, .agg (ea.cells).toArray), (1, .agg ([.bool f.typed, .bool f.cased, .bool f.named, .bool f.valued, .bool f.args, .bool f.source]).toArray), (2, .pointer (some ⟨b1, 0, none⟩)), (3, .pointer (some ⟨b4, 0, none⟩)), (4, .bool false), (6, .pointer (some ⟨b1, 6, none⟩)), (7, .agg ([.int .i64 ea.v.v.k, .int .i64 ea.v.v.n, strV ea.v.v.t, .slice ea.v.sA ea.v.v.s.length ea.v.sC]).toArray), (5, .pointer (some ⟨b7, 0, none⟩)), (33, .bool ((((f.typed) || (strB .eql ea.typ [])) && ((f.cased) || (strB .eql ea.cas []))) && ((f.named) || (strB .eql ea.nam [])))), (36, .bool f.valued)] (fun hJ9 => ?elA9) (fun a hF => ?flA9)
          case elA9 =>
            rcases tf ((cmpB .eql (ea.v.v.k) (0)) && (cmpB .eql (ea.v.v.n) (0))) with hg9 | hg9
            · refine vc_skip hF rfl rfl rfl rfl rfl (ne_want hg9) (by decide) (fun a hF => ?_)
              refine vc_skip hF rfl rfl rfl rfl rfl (ne_want hg9) (by decide) (fun a hF => ?_)
              refine vc_skip hF rfl rfl rfl rfl rfl (ne_want hg9) (by decide) (fun a hF => ?_)
              refine vc_yg hF rfl rfl rfl rfl (some_bool hg7) (by decide) _ (y_pickF hg9 rfl rfl rfl) (fun a hF => ?_)
              exact hJ9 _ ((hF.keep [49, 0, 1, 2, 3, 4, 6, 7, 5, 33, 36] (F' := [(49, _), (0, _), (1, _), (2, _), (3, _), (4, _), (6, _), (7, _), (5, _), (33, _), (36, _)]) rfl).bool (by rw [hg9]; rfl))
            · refine vc_yg hF rfl rfl rfl rfl (some_bool hg9) (by decide) _ (y_field rfl Tryz.underlying25 rfl sz9_v3 (by decide) rfl (rfl : (⟨_, 0 + _, none⟩ : Addr) = ⟨_, 2, none⟩)) (fun a hF => ?_)
              refine vc_yg hF rfl rfl rfl rfl (some_bool hg9) (by decide) _ (y_ld rfl hA11.q rfl 0 rfl rfl nr9_v3) (fun a hF => ?_)
              refine vc_yg hF rfl rfl rfl rfl (some_bool hg9) (by decide) _ (y_cmpS rfl rfl rfl rfl rfl) (fun a hF => ?_)
              refine vc_yg hF rfl rfl rfl rfl (some_bool hg7) (by decide) _ (y_pickT hg9 rfl rfl rfl) (fun a hF => ?_)
              exact hJ9 _ ((hF.keep [49, 0, 1, 2, 3, 4, 6, 7, 5, 33, 36] (F' := [(49, _), (0, _), (1, _), (2, _), (3, _), (4, _), (6, _), (7, _), (5, _), (33, _), (36, _)]) rfl).bool (by rw [hg9]; rfl))
          refine vc_yg hF rfl rfl rfl rfl (some_bool hg7) (by decide) _ (y_move rfl rfl) (fun a hF => ?_)
          refine vc_meet (l2 := ?lA10) hF [(55, .bool ((((cmpB .eql (ea.v.v.k) (0)) && (cmpB .eql (ea.v.v.n) (0))) && (strB .eql ea.v.v.t [])) && (cmpB .eql (ea.v.v.s.length) (0)))), (0, .agg (ea.cells).toArray), (1, .agg ([.bool f.typed, .bool f.cased, .bool f.named, .bool f.valued, .bool f.args, .bool f.source]).toArray), (2, .pointer (some ⟨b1, 0, none⟩)), (3, .pointer (some ⟨b4, 0, none⟩)), (4, .bool false), (6, .pointer (some ⟨b1, 6, none⟩)), (7, .agg ([.int .i64 ea.v.v.k, .int .i64 ea.v.v.n, strV ea.v.v.t, .slice ea.v.sA ea.v.v.s.length ea.v.sC]).toArray), (5, .pointer (some ⟨b7, 0, none⟩)), (33, .bool ((((f.typed) || (strB .eql ea.typ [])) && ((f.cased) || (strB .eql ea.cas []))) && ((f.named) || (strB .eql ea.nam [])))), (36, .bool f.valued)] (fun hJ10 => ?elA10) (fun a hF => ?flA10)
          case elA10 =>
            rcases tf (((cmpB .eql (ea.v.v.k) (0)) && (cmpB .eql (ea.v.v.n) (0))) && (strB .eql ea.v.v.t [])) with hg10 | hg10
            · refine vc_skip hF rfl rfl rfl rfl rfl (ne_want hg10) (by decide) (fun a hF => ?_)
              refine vc_skip hF rfl rfl rfl rfl rfl (ne_want hg10) (by decide) (fun a hF => ?_)
              refine vc_skip hF rfl rfl rfl rfl rfl (ne_want hg10) (by decide) (fun a hF => ?_)
              refine vc_skip hF rfl rfl rfl rfl rfl (ne_want hg10) (by decide) (fun a hF => ?_)
              refine vc_yg hF rfl rfl rfl rfl (some_bool hg7) (by decide) _ (y_pickF hg10 rfl rfl rfl) (fun a hF => ?_)
              exact hJ10 _ ((hF.keep [55, 0, 1, 2, 3, 4, 6, 7, 5, 33, 36] (F' := [(55, _), (0, _), (1, _), (2, _), (3, _), (4, _), (6, _), (7, _), (5, _), (33, _), (36, _)]) rfl).bool (by rw [hg10]; rfl))
            · refine vc_yg hF rfl rfl rfl rfl (some_bool hg10) (by decide) _ (y_field rfl Tryz.underlying25 rfl sz23_v3 (by decide) rfl (rfl : (⟨_, 0 + _, none⟩ : Addr) = ⟨_, 3, none⟩)) (fun a hF => ?_)
              refine vc_yg hF rfl rfl rfl rfl (some_bool hg10) (by decide) _ (y_ld rfl hA11.q rfl 0 rfl rfl nr23_v3) (fun a hF => ?_)
              refine vc_yg hF rfl rfl rfl rfl (some_bool hg10) (by decide) _ (y_lenSl rfl Tryz.underlying23 rfl rfl) (fun a hF => ?_)
              refine vc_yg hF rfl rfl rfl rfl (some_bool hg10) (by decide) _ (y_cmp rfl rfl rfl rfl rfl) (fun a hF => ?_)
              refine vc_yg hF rfl rfl rfl rfl (some_bool hg7) (by decide) _ (y_pickT hg10 rfl rfl rfl) (fun a hF => ?_)
              exact hJ10 _ ((hF.keep [55, 0, 1, 2, 3, 4, 6, 7, 5, 33, 36] (F' := [(55, _), (0, _), (1, _), (2, _), (3, _), (4, _), (6, _), (7, _), (5, _), (33, _), (36, _)]) rfl).bool (by rw [hg10]; rfl))
          refine vc_yg hF rfl rfl rfl rfl (some_bool hg6) (by decide) _ (y_pickF hg7 rfl rfl rfl) (fun a hF => ?_)
          exact hJ7 _ ((hF.keep [56, 0, 1, 2, 3, 4, 6, 7, 5, 33] (F' := [(56, _), (0, _), (1, _), (2, _), (3, _), (4, _), (6, _), (7, _), (5, _), (33, _)]) rfl).bool (by rw [hg7]; rfl))
        · refine vc_skip hF rfl rfl rfl rfl rfl (ne_want hg7) (by decide) (fun a hF => ?_)
          refine vc_skip hF rfl rfl rfl rfl rfl (ne_want hg7) (by decide) (fun a hF => ?_)
          refine vc_skip hF rfl rfl rfl rfl rfl (ne_want hg7) (by decide) (fun a hF => ?_)
          refine vc_skip hF rfl rfl rfl rfl rfl (ne_want hg7) (by decide) (fun a hF => ?_)
          refine vc_skipU hF rfl rfl rfl rfl rfl (by decide) (fun a hF => ?_)
          refine vc_skipU hF rfl rfl rfl rfl rfl (by decide) (fun a hF => ?_)
          refine vc_skipU hF rfl rfl rfl rfl rfl (by decide) (fun a hF => ?_)
          refine vc_skip hF rfl rfl rfl rfl rfl (ne_want hg7) (by decide) (fun a hF => ?_)
          refine vc_skip hF rfl rfl rfl rfl rfl (ne_want hg7) (by decide) (fun a hF => ?_)
          refine vc_skipU hF rfl rfl rfl rfl rfl (by decide) (fun a hF => ?_)
          refine vc_skipU hF rfl rfl rfl rfl rfl (by decide) (fun a hF => ?_)
          refine vc_skipU hF rfl rfl rfl rfl rfl (by decide) (fun a hF => ?_)
          refine vc_skip hF rfl rfl rfl rfl rfl (ne_want hg7) (by decide) (fun a hF => ?_)
          refine vc_skip hF rfl rfl rfl rfl rfl (ne_want hg7) (by decide) (fun a hF => ?_)
          refine vc_skipU hF rfl rfl rfl rfl rfl (by decide) (fun a hF => ?_)
          refine vc_skipU hF rfl rfl rfl rfl rfl (by decide) (fun a hF => ?_)
          refine vc_skipU hF rfl rfl rfl rfl rfl (by decide) (fun a hF => ?_)
          refine vc_skipU hF rfl rfl rfl rfl rfl (by decide) (fun a hF => ?_)
          refine vc_skip hF rfl rfl rfl rfl rfl (ne_want hg7) (by decide) (fun a hF => ?_)
          refine vc_yg hF rfl rfl rfl rfl (some_bool hg6) (by decide) _ (y_pickT hg7 rfl rfl rfl) (fun a hF => ?_)
          exact hJ7 _ ((hF.keep [56, 0, 1, 2, 3, 4, 6, 7, 5, 33] (F' := [(56, _), (0, _), (1, _), (2, _), (3, _), (4, _), (6, _), (7, _), (5, _), (33, _)]) rfl).bool (by rw [hg7]; rfl))
      refine vc_y hF rfl rfl (by decide) _ (y_pickT hg6 rfl rfl rfl) (fun a hF => ?_)
      exact hJ6 _ ((hF.keep [57, 0, 1, 2, 3, 4, 6, 7, 5] (F' := [(57, _), (0, _), (1, _), (2, _), (3, _), (4, _), (6, _), (7, _), (5, _)]) rfl).bool (by rw [hg6]; rfl))
  refine vc_y hF rfl rfl (by decide) _ (y_move rfl rfl) (fun a hF => ?_)
  refine vc_meet (l2 := ?lA11) hF [(67, .bool ((((((f.typed) || (strB .eql ea.typ [])) && ((f.cased) || (strB .eql ea.cas []))) && ((f.named) || (strB .eql ea.nam []))) && ((f.valued) || ((((cmpB .eql (ea.v.v.k) (0)) && (cmpB .eql (ea.v.v.n) (0))) && (strB .eql ea.v.v.t [])) && (cmpB .eql (ea.v.v.s.length) (0))))) && ((f.args) || (cmpB .eql (ea.args.length) (0))))), (0, .agg (ea.cells).toArray), (1, .agg ([.bool f.typed, .bool f.cased, .bool f.named, .bool f.valued, .bool f.args, .bool f.source]).toArray), (2, .pointer (some ⟨b1, 0, none⟩)), (3, .pointer (some ⟨b4, 0, none⟩)), (4, .bool false), (6, .pointer (some ⟨b1, 6, none⟩)), (7, .agg ([.int .i64 ea.v.v.k, .int .i64 ea.v.v.n, strV ea.v.v.t, .slice ea.v.sA ea.v.v.s.length ea.v.sC]).toArray), (5, .pointer (some ⟨b7, 0, none⟩))] (fun hJ11 => ?elA11) (fun a hF => ?flA11)
  case elA11 =>
    rcases tf (((((f.typed) || (strB .eql ea.typ [])) && ((f.cased) || (strB .eql ea.cas []))) && ((f.named) || (strB .eql ea.nam []))) && ((f.valued) || ((((cmpB .eql (ea.v.v.k) (0)) && (cmpB .eql (ea.v.v.n) (0))) && (strB .eql ea.v.v.t [])) && (cmpB .eql (ea.v.v.s.length) (0))))) with hg11 | hg11
    · refine vc_skip hF rfl rfl rfl rfl rfl (ne_want hg11) (by decide) (fun a hF => ?_)
      refine vc_skip hF rfl rfl rfl rfl rfl (ne_want hg11) (by decide) (fun a hF => ?_)
      refine vc_skip hF rfl rfl rfl rfl rfl (ne_want hg11) (by decide) (fun a hF => ?_)
      refine vc_skipU hF rfl rfl rfl rfl rfl (by decide) (fun a hF => ?_)
      refine vc_skipU hF rfl rfl rfl rfl rfl (by decide) (fun a hF => ?_)
      refine vc_skipU hF rfl rfl rfl rfl rfl (by decide) (fun a hF => ?_)
      refine vc_skipU hF rfl rfl rfl rfl rfl (by decide) (fun a hF => ?_)
      refine vc_skip hF rfl rfl rfl rfl rfl (ne_want hg11) (by decide) (fun a hF => ?_)
      refine vc_y hF rfl rfl (by decide) _ (y_pickF hg11 rfl rfl rfl) (fun a hF => ?_)
      exact hJ11 _ ((hF.keep [67, 0, 1, 2, 3, 4, 6, 7, 5] (F' := [(67, _), (0, _), (1, _), (2, _), (3, _), (4, _), (6, _), (7, _), (5, _)]) rfl).bool (by rw [hg11]; rfl))
    · refine vc_yg hF rfl rfl rfl rfl (some_bool hg11) (by decide) _ (y_field rfl Tryz.underlying129 rfl sz4_v3 (by decide) rfl (rfl : (⟨_, 0 + _, none⟩ : Addr) = ⟨_, 4, none⟩)) (fun a hF => ?_)
      refine vc_yg hF rfl rfl rfl rfl (some_bool hg11) (by decide) _ (y_ld rfl hA11.q rfl 1 rfl rfl nr4_v3) (fun a hF => ?_)
      refine vc_yg hF rfl rfl rfl rfl (some_bool hg11) (by decide) _ (y_move rfl rfl) (fun a hF => ?_)
      refine vc_meet (l2 := ?lA12) hF [(66, .bool ((f.args) || (cmpB .eql (ea.args.length) (0)))), (0, .agg (ea.cells).toArray), (1, .agg ([.bool f.typed, .bool f.cased, .bool f.named, .bool f.valued, .bool f.args, .bool f.source]).toArray), (2, .pointer (some ⟨b1, 0, none⟩)), (3, .pointer (some ⟨b4, 0, none⟩)), (4, .bool false), (6, .pointer (some ⟨b1, 6, none⟩)), (7, .agg ([.int .i64 ea.v.v.k, .int .i64 ea.v.v.n, strV ea.v.v.t, .slice ea.v.sA ea.v.v.s.length ea.v.sC]).toArray), (5, .pointer (some ⟨b7, 0, none⟩)), (58, .bool (((((f.typed) || (strB .eql ea.typ [])) && ((f.cased) || (strB .eql ea.cas []))) && ((f.named) || (strB .eql ea.nam []))) && ((f.valued) || ((((cmpB .eql (ea.v.v.k) (0)) && (cmpB .eql (ea.v.v.n) (0))) && (strB .eql ea.v.v.t [])) && (cmpB .eql (ea.v.v.s.length) (0))))))] (fun hJ12 => ?elA12) (fun a hF => ?flA12)
      case elA12 =>
        rcases tf (f.args) with hg12 | hg12
        · refine vc_yg hF rfl rfl rfl rfl (some_bool hg12) (by decide) _ (y_field rfl Tryz.underlying31 rfl sz26_v3 (by decide) rfl (rfl : (⟨_, 0 + _, none⟩ : Addr) = ⟨_, 10, none⟩)) (fun a hF => ?_)
          refine vc_yg hF rfl rfl rfl rfl (some_bool hg12) (by decide) _ (y_ld rfl hA11.q rfl 2 rfl rfl nr26_v3) (fun a hF => ?_)
          refine vc_yg hF rfl rfl rfl rfl (some_bool hg12) (by decide) _ (y_lenSl rfl Tryz.underlying26 rfl rfl) (fun a hF => ?_)
          refine vc_yg hF rfl rfl rfl rfl (some_bool hg12) (by decide) _ (y_cmp rfl rfl rfl rfl rfl) (fun a hF => ?_)
          refine vc_yg hF rfl rfl rfl rfl (some_bool hg11) (by decide) _ (y_pickF hg12 rfl rfl rfl) (fun a hF => ?_)
          exact hJ12 _ ((hF.keep [66, 0, 1, 2, 3, 4, 6, 7, 5, 58] (F' := [(66, _), (0, _), (1, _), (2, _), (3, _), (4, _), (6, _), (7, _), (5, _), (58, _)]) rfl).bool (by rw [hg12]; rfl))
        · refine vc_skip hF rfl rfl rfl rfl rfl (ne_want hg12) (by decide) (fun a hF => ?_)
          refine vc_skip hF rfl rfl rfl rfl rfl (ne_want hg12) (by decide) (fun a hF => ?_)
          refine vc_skip hF rfl rfl rfl rfl rfl (ne_want hg12) (by decide) (fun a hF => ?_)
          refine vc_skip hF rfl rfl rfl rfl rfl (ne_want hg12) (by decide) (fun a hF => ?_)
          refine vc_yg hF rfl rfl rfl rfl (some_bool hg11) (by decide) _ (y_pickT hg12 rfl rfl rfl) (fun a hF => ?_)
          exact hJ12 _ ((hF.keep [66, 0, 1, 2, 3, 4, 6, 7, 5, 58] (F' := [(66, _), (0, _), (1, _), (2, _), (3, _), (4, _), (6, _), (7, _), (5, _), (58, _)]) rfl).bool (by rw [hg12]; rfl))
      refine vc_y hF rfl rfl (by decide) _ (y_pickT hg11 rfl rfl rfl) (fun a hF => ?_)
      exact hJ11 _ ((hF.keep [67, 0, 1, 2, 3, 4, 6, 7, 5] (F' := [(67, _), (0, _), (1, _), (2, _), (3, _), (4, _), (6, _), (7, _), (5, _)]) rfl).bool (by rw [hg11]; rfl))
  refine vc_y hF rfl rfl (by decide) _ (y_move rfl rfl) (fun a hF => ?_)
  refine vc_meet (l2 := ?lA13) hF [(77, .bool (((((((f.typed) || (strB .eql ea.typ [])) && ((f.cased) || (strB .eql ea.cas []))) && ((f.named) || (strB .eql ea.nam []))) && ((f.valued) || ((((cmpB .eql (ea.v.v.k) (0)) && (cmpB .eql (ea.v.v.n) (0))) && (strB .eql ea.v.v.t [])) && (cmpB .eql (ea.v.v.s.length) (0))))) && ((f.args) || (cmpB .eql (ea.args.length) (0)))) && ((f.source) || (cmpB .eql (ea.src.length) (0))))), (0, .agg (ea.cells).toArray), (1, .agg ([.bool f.typed, .bool f.cased, .bool f.named, .bool f.valued, .bool f.args, .bool f.source]).toArray), (2, .pointer (some ⟨b1, 0, none⟩)), (4, .bool false), (6, .pointer (some ⟨b1, 6, none⟩)), (7, .agg ([.int .i64 ea.v.v.k, .int .i64 ea.v.v.n, strV ea.v.v.t, .slice ea.v.sA ea.v.v.s.length ea.v.sC]).toArray), (5, .pointer (some ⟨b7, 0, none⟩))] (fun hJ13 => ?elA13) (fun a hF => ?flA13)
  case elA13 =>
    rcases tf ((((((f.typed) || (strB .eql ea.typ [])) && ((f.cased) || (strB .eql ea.cas []))) && ((f.named) || (strB .eql ea.nam []))) && ((f.valued) || ((((cmpB .eql (ea.v.v.k) (0)) && (cmpB .eql (ea.v.v.n) (0))) && (strB .eql ea.v.v.t [])) && (cmpB .eql (ea.v.v.s.length) (0))))) && ((f.args) || (cmpB .eql (ea.args.length) (0)))) with hg13 | hg13
    · refine vc_skip hF rfl rfl rfl rfl rfl (ne_want hg13) (by decide) (fun a hF => ?_)
      refine vc_skip hF rfl rfl rfl rfl rfl (ne_want hg13) (by decide) (fun a hF => ?_)
      refine vc_skip hF rfl rfl rfl rfl rfl (ne_want hg13) (by decide) (fun a hF => ?_)
      refine vc_skipU hF rfl rfl rfl rfl rfl (by decide) (fun a hF => ?_)
      refine vc_skipU hF rfl rfl rfl rfl rfl (by decide) (fun a hF => ?_)
      refine vc_skipU hF rfl rfl rfl rfl rfl (by decide) (fun a hF => ?_)
      refine vc_skipU hF rfl rfl rfl rfl rfl (by decide) (fun a hF => ?_)
      refine vc_skip hF rfl rfl rfl rfl rfl (ne_want hg13) (by decide) (fun a hF => ?_)
      refine vc_y hF rfl rfl (by decide) _ (y_pickF hg13 rfl rfl rfl) (fun a hF => ?_)
      exact hJ13 _ ((hF.keep [77, 0, 1, 2, 4, 6, 7, 5] (F' := [(77, _), (0, _), (1, _), (2, _), (4, _), (6, _), (7, _), (5, _)]) rfl).bool (by rw [hg13]; rfl))
    · refine vc_yg hF rfl rfl rfl rfl (some_bool hg13) (by decide) _ (y_field rfl Tryz.underlying129 rfl sz4_v3 (by decide) rfl (rfl : (⟨_, 0 + _, none⟩ : Addr) = ⟨_, 5, none⟩)) (fun a hF => ?_)
      refine vc_yg hF rfl rfl rfl rfl (some_bool hg13) (by decide) _ (y_ld rfl hA11.q rfl 1 rfl rfl nr4_v3) (fun a hF => ?_)
      refine vc_yg hF rfl rfl rfl rfl (some_bool hg13) (by decide) _ (y_move rfl rfl) (fun a hF => ?_)
      refine vc_meet (l2 := ?lA14) hF [(76, .bool ((f.source) || (cmpB .eql (ea.src.length) (0)))), (0, .agg (ea.cells).toArray), (1, .agg ([.bool f.typed, .bool f.cased, .bool f.named, .bool f.valued, .bool f.args, .bool f.source]).toArray), (2, .pointer (some ⟨b1, 0, none⟩)), (4, .bool false), (6, .pointer (some ⟨b1, 6, none⟩)), (7, .agg ([.int .i64 ea.v.v.k, .int .i64 ea.v.v.n, strV ea.v.v.t, .slice ea.v.sA ea.v.v.s.length ea.v.sC]).toArray), (5, .pointer (some ⟨b7, 0, none⟩)), (68, .bool ((((((f.typed) || (strB .eql ea.typ [])) && ((f.cased) || (strB .eql ea.cas []))) && ((f.named) || (strB .eql ea.nam []))) && ((f.valued) || ((((cmpB .eql (ea.v.v.k) (0)) && (cmpB .eql (ea.v.v.n) (0))) && (strB .eql ea.v.v.t [])) && (cmpB .eql (ea.v.v.s.length) (0))))) && ((f.args) || (cmpB .eql (ea.args.length) (0)))))] (fun hJ14 => ?elA14) (fun a hF => ?flA14)
      case elA14 =>
        rcases tf (f.source) with hg14 | hg14
        · refine vc_yg hF rfl rfl rfl rfl (some_bool hg14) (by decide) _ (y_field rfl Tryz.underlying31 rfl sz27_v3 (by decide) rfl (rfl : (⟨_, 0 + _, none⟩ : Addr) = ⟨_, 11, none⟩)) (fun a hF => ?_)
          refine vc_yg hF rfl rfl rfl rfl (some_bool hg14) (by decide) _ (y_ld rfl hA11.q rfl 2 rfl rfl nr27_v3) (fun a hF => ?_)
          refine vc_yg hF rfl rfl rfl rfl (some_bool hg14) (by decide) _ (y_lenSl rfl Tryz.underlying27 rfl rfl) (fun a hF => ?_)
          refine vc_yg hF rfl rfl rfl rfl (some_bool hg14) (by decide) _ (y_cmp rfl rfl rfl rfl rfl) (fun a hF => ?_)
          refine vc_yg hF rfl rfl rfl rfl (some_bool hg13) (by decide) _ (y_pickF hg14 rfl rfl rfl) (fun a hF => ?_)
          exact hJ14 _ ((hF.keep [76, 0, 1, 2, 4, 6, 7, 5, 68] (F' := [(76, _), (0, _), (1, _), (2, _), (4, _), (6, _), (7, _), (5, _), (68, _)]) rfl).bool (by rw [hg14]; rfl))
        · refine vc_skip hF rfl rfl rfl rfl rfl (ne_want hg14) (by decide) (fun a hF => ?_)
          refine vc_skip hF rfl rfl rfl rfl rfl (ne_want hg14) (by decide) (fun a hF => ?_)
          refine vc_skip hF rfl rfl rfl rfl rfl (ne_want hg14) (by decide) (fun a hF => ?_)
          refine vc_skip hF rfl rfl rfl rfl rfl (ne_want hg14) (by decide) (fun a hF => ?_)
          refine vc_yg hF rfl rfl rfl rfl (some_bool hg13) (by decide) _ (y_pickT hg14 rfl rfl rfl) (fun a hF => ?_)
          exact hJ14 _ ((hF.keep [76, 0, 1, 2, 4, 6, 7, 5, 68] (F' := [(76, _), (0, _), (1, _), (2, _), (4, _), (6, _), (7, _), (5, _), (68, _)]) rfl).bool (by rw [hg14]; rfl))
      refine vc_y hF rfl rfl (by decide) _ (y_pickT hg13 rfl rfl rfl) (fun a hF => ?_)
      exact hJ13 _ ((hF.keep [77, 0, 1, 2, 4, 6, 7, 5] (F' := [(77, _), (0, _), (1, _), (2, _), (4, _), (6, _), (7, _), (5, _)]) rfl).bool (by rw [hg13]; rfl))
  refine vc_y hF rfl rfl (by decide) _ (y_assign rfl rfl) (fun a hF => ?_)
  refine vc_nil ?_
  refine hK3 _ _ ?_; clear  hK3 K3
  apply wp_ret
  refine vc_ret1 hF Tryz.results135 rfl ?_
  have hA12 : Hp w0 (R) w10 := Hp.sel [[row b7 25 [.int .i64 ea.v.v.k, .int .i64 ea.v.v.n, strV ea.v.v.t, .slice ea.v.sA ea.v.v.s.length ea.v.sC]], [row b4 129 [.bool f.typed, .bool f.cased, .bool f.named, .bool f.valued, .bool f.args, .bool f.source]], [row b1 31 ([.int .i64 ea.op, .int .i64 ea.num, .int .i64 ea.clk, strV ea.typ, strV ea.cas, strV ea.nam, .int .i64 ea.v.v.k, .int .i64 ea.v.v.n, strV ea.v.v.t, .slice ea.v.sA ea.v.v.s.length ea.v.sC, .slice ea.aA ea.args.length ea.aC, .slice ea.bA ea.src.length ea.bC] ++ dc ea.eff)]] R [] [0, 1, 2] hA11 rfl
  exact ⟨by rw [spare_eq], hA12⟩
theorem argC_len (l : List VA) : (argC l).length = l.length * 4 := by
  unfold argC
  induction l with
  | nil => rfl
  | cons a l ih => rw [List.map_cons, List.flatten_cons, List.length_append, ih]; show 4 + l.length * 4 = (l.length + 1) * 4; omega
theorem argC_one (l : List VA) : ∀ v ∈ argC l, v.oneCell' = true := fun v hv => by
  obtain ⟨W, h1, h2⟩ := List.mem_flatten.1 hv
  obtain ⟨a, _, rfl⟩ := List.mem_map.1 h1
  simp only [List.mem_cons, List.not_mem_nil, or_false] at h2
  rcases h2 with rfl | rfl | rfl | rfl <;> rfl
theorem ev_bsV (a : VA) (w : World) : (Instr.buildSlice 26 1 #[(0, .agg a.cells.toArray)]).run Tryz.prog w = .ok (.slice (some ⟨w.heap.size, 0, none⟩) 1 1) (w.alloc (.cells a.cells.toArray 25)) := by kernel_rfl
theorem ev_elemV : elemInfo Tryz.prog 25 4 56 := elemInfo_of (z := .agg ([.int .i64 0, .int .i64 0, strV [], .slice none 0 0] : List Value).toArray) (by kernel_rfl) (by kernel_rfl)
theorem and_no {a b : Bool} (h : (a && !b) = true) : a = true ∧ b = false := by cases a <;> cases b <;> simp_all
theorem names_no {a b c d e f : Bool} (h1 : (a && !b) = false) (h2 : (c && !d) = false) (h3 : (e && !f) = false) : ¬ ((a = true ∧ b = false) ∨ (c = true ∧ d = false) ∨ (e = true ∧ f = false)) := by
  cases a <;> cases b <;> cases c <;> cases d <;> cases e <;> cases f <;> simp_all
theorem gtr_no {n : Nat} (h : cmpB .gtr (n : Int) 16 = false) : n ≤ 16 := by simp [cmpB] at h; omega
theorem neq_yes {n : Nat} (h : cmpB .neq (n : Int) 0 = true) : ¬ n = 0 := by simp [cmpB] at h; exact h
theorem neq_no {n : Nat} (h : cmpB .neq (n : Int) 0 = false) : n = 0 := by simp [cmpB] at h; exact h
theorem ref_8 {ea : EA} {f : Fld} (h0 : (!((spareE ea.ev f))) = true) : refusedE ea.ev f = 8 := by
  unfold refusedE
  exact if_pos (by simpa using h0)
theorem ref_34 {ea : EA} {f : Fld} (h0 : (!((spareE ea.ev f))) = false) (hn : ((f.cased = true ∧ legalC ea.cas 64 = false) ∨ (f.typed = true ∧ legalN ea.typ = false) ∨ (f.named = true ∧ legalN ea.nam = false))) : refusedE ea.ev f = 34 := by
  unfold refusedE
  refine Eq.trans (if_neg (by simpa using h0)) ?_
  exact if_pos hn
theorem ref_5 {ea : EA} {f : Fld} (h0 : (!((spareE ea.ev f))) = false) (hn : ¬ ((f.cased = true ∧ legalC ea.cas 64 = false) ∨ (f.typed = true ∧ legalN ea.typ = false) ∨ (f.named = true ∧ legalN ea.nam = false))) (h4 : ((cmpB .lss ea.num 0) || (cmpB .geq ea.num 1099511627776)) = true) : refusedE ea.ev f = 5 := by
  unfold refusedE
  refine Eq.trans (if_neg (by simpa using h0)) ?_
  refine Eq.trans (if_neg hn) ?_
  exact if_pos (by simp [cmpB] at h4; show ea.num < 0 ∨ _ ≤ ea.num; omega)
theorem ref_132 {ea : EA} {f : Fld} (h0 : (!((spareE ea.ev f))) = false) (hn : ¬ ((f.cased = true ∧ legalC ea.cas 64 = false) ∨ (f.typed = true ∧ legalN ea.typ = false) ∨ (f.named = true ∧ legalN ea.nam = false))) (h4 : ((cmpB .lss ea.num 0) || (cmpB .geq ea.num 1099511627776)) = false) (h5 : ((cmpB .lss ea.clk 0) || (cmpB .gtr ea.clk 4611686018427387904)) = true) : refusedE ea.ev f = 132 := by
  unfold refusedE
  refine Eq.trans (if_neg (by simpa using h0)) ?_
  refine Eq.trans (if_neg hn) ?_
  refine Eq.trans (if_neg (by simp [cmpB] at h4; show ¬ (ea.num < 0 ∨ _ ≤ ea.num); omega)) ?_
  exact if_pos (by simp [cmpB] at h5; show ea.clk < 0 ∨ _ < ea.clk; omega)
theorem ref_7 {ea : EA} {f : Fld} (h0 : (!((spareE ea.ev f))) = false) (hn : ¬ ((f.cased = true ∧ legalC ea.cas 64 = false) ∨ (f.typed = true ∧ legalN ea.typ = false) ∨ (f.named = true ∧ legalN ea.nam = false))) (h4 : ((cmpB .lss ea.num 0) || (cmpB .geq ea.num 1099511627776)) = false) (h5 : ((cmpB .lss ea.clk 0) || (cmpB .gtr ea.clk 4611686018427387904)) = false) (h6 : (cmpB .gtr ((ea.args.length : Nat) : Int) 16) = true) : refusedE ea.ev f = 7 := by
  unfold refusedE
  refine Eq.trans (if_neg (by simpa using h0)) ?_
  refine Eq.trans (if_neg hn) ?_
  refine Eq.trans (if_neg (by simp [cmpB] at h4; show ¬ (ea.num < 0 ∨ _ ≤ ea.num); omega)) ?_
  refine Eq.trans (if_neg (by simp [cmpB] at h5; show ¬ (ea.clk < 0 ∨ _ < ea.clk); omega)) ?_
  exact if_pos (by simp [cmpB] at h6; show 16 < (ea.args.map VA.v).length; rw [List.length_map]; omega)
theorem ref_v {ea : EA} {f : Fld} (h0 : (!((spareE ea.ev f))) = false) (hn : ¬ ((f.cased = true ∧ legalC ea.cas 64 = false) ∨ (f.typed = true ∧ legalN ea.typ = false) ∨ (f.named = true ∧ legalN ea.nam = false))) (h4 : ((cmpB .lss ea.num 0) || (cmpB .geq ea.num 1099511627776)) = false) (h5 : ((cmpB .lss ea.clk 0) || (cmpB .gtr ea.clk 4611686018427387904)) = false) (h6 : (cmpB .gtr ((ea.args.length : Nat) : Int) 16) = false) {k : Nat} (hf : firstR (ea.v.v :: ea.args.map VA.v) = k) (hk : ¬ k = 0) : refusedE ea.ev f = k := by
  unfold refusedE
  refine Eq.trans (if_neg (by simpa using h0)) ?_
  refine Eq.trans (if_neg hn) ?_
  refine Eq.trans (if_neg (by simp [cmpB] at h4; show ¬ (ea.num < 0 ∨ _ ≤ ea.num); omega)) ?_
  refine Eq.trans (if_neg (by simp [cmpB] at h5; show ¬ (ea.clk < 0 ∨ _ < ea.clk); omega)) ?_
  refine Eq.trans (if_neg (by simp [cmpB] at h6; show ¬ 16 < (ea.args.map VA.v).length; rw [List.length_map]; omega)) ?_
  refine Eq.trans (if_neg (show ¬ firstR (ea.v.v :: ea.args.map VA.v) = 0 from fun hh => hk (hf.symm.trans hh))) ?_
  exact hf
theorem ref_6 {ea : EA} {f : Fld} (h0 : (!((spareE ea.ev f))) = false) (hn : ¬ ((f.cased = true ∧ legalC ea.cas 64 = false) ∨ (f.typed = true ∧ legalN ea.typ = false) ∨ (f.named = true ∧ legalN ea.nam = false))) (h4 : ((cmpB .lss ea.num 0) || (cmpB .geq ea.num 1099511627776)) = false) (h5 : ((cmpB .lss ea.clk 0) || (cmpB .gtr ea.clk 4611686018427387904)) = false) (h6 : (cmpB .gtr ((ea.args.length : Nat) : Int) 16) = false) (hf : firstR (ea.v.v :: ea.args.map VA.v) = 0) (h7 : (cmpB .gtr ((ea.src.length : Nat) : Int) 60000) = true) : refusedE ea.ev f = 6 := by
  unfold refusedE
  refine Eq.trans (if_neg (by simpa using h0)) ?_
  refine Eq.trans (if_neg hn) ?_
  refine Eq.trans (if_neg (by simp [cmpB] at h4; show ¬ (ea.num < 0 ∨ _ ≤ ea.num); omega)) ?_
  refine Eq.trans (if_neg (by simp [cmpB] at h5; show ¬ (ea.clk < 0 ∨ _ < ea.clk); omega)) ?_
  refine Eq.trans (if_neg (by simp [cmpB] at h6; show ¬ 16 < (ea.args.map VA.v).length; rw [List.length_map]; omega)) ?_
  refine Eq.trans (if_pos hf) ?_
  exact if_pos (by simp [cmpB] at h7; show 60000 < ea.src.length; omega)
theorem ref_ok {ea : EA} {f : Fld} (h0 : (!((spareE ea.ev f))) = false) (hn : ¬ ((f.cased = true ∧ legalC ea.cas 64 = false) ∨ (f.typed = true ∧ legalN ea.typ = false) ∨ (f.named = true ∧ legalN ea.nam = false))) (h4 : ((cmpB .lss ea.num 0) || (cmpB .geq ea.num 1099511627776)) = false) (h5 : ((cmpB .lss ea.clk 0) || (cmpB .gtr ea.clk 4611686018427387904)) = false) (h6 : (cmpB .gtr ((ea.args.length : Nat) : Int) 16) = false) (hf : firstR (ea.v.v :: ea.args.map VA.v) = 0) (h7 : (cmpB .gtr ((ea.src.length : Nat) : Int) 60000) = false) : refusedE ea.ev f = 0 := by
  unfold refusedE
  refine Eq.trans (if_neg (by simpa using h0)) ?_
  refine Eq.trans (if_neg hn) ?_
  refine Eq.trans (if_neg (by simp [cmpB] at h4; show ¬ (ea.num < 0 ∨ _ ≤ ea.num); omega)) ?_
  refine Eq.trans (if_neg (by simp [cmpB] at h5; show ¬ (ea.clk < 0 ∨ _ < ea.clk); omega)) ?_
  refine Eq.trans (if_neg (by simp [cmpB] at h6; show ¬ 16 < (ea.args.map VA.v).length; rw [List.length_map]; omega)) ?_
  refine Eq.trans (if_pos hf) ?_
  exact if_neg (by simp [cmpB] at h7; show ¬ 60000 < ea.src.length; omega)

set_option maxRecDepth 100000 in
set_option maxHeartbeats 2000000 in
theorem ev_refused {w0 : World} {R : List Seg} {G : List Seg} (ea : EA) (f : Fld) (w : World) (hT : TabS w0) (hV : ea.Ok w0 G) (hG : G ⊆ R) (hA : Hp w0 R w) : Calls Tryz.prog 73 #[.agg ea.cells.toArray, .agg f.cells.toArray] w fun e w' => e = .returned (.int .i64 (refusedE ea.ev f : Nat)) ∧ Hp w0 R w' := by
  have he32 : ea.eff.length = 32 := hV.i.2.2.2.2.2
  have hn := hV.n
  have hsn := hV.sn
  have hvn := hV.v.n
  refine vc_enter Tryz.func73 rfl Tryz.ntmps73 (Nat.le_of_ble_eq_true rfl) (fun a hF => ?_)
  apply wp_seq_k; intro K1 hK1
  refine wp_region_lit ?_
  refine vc_op rfl (fun K hK => hs_box (cs := ea.cells) hF rfl (by decide) rfl hA rfl (fun b1 w2 a hb1 hF hA3 => hK _ _ ?_))
  clear hK K
  replace hA3 : Hp w0 ([row b1 31 ([.int .i64 ea.op, .int .i64 ea.num, .int .i64 ea.clk, strV ea.typ, strV ea.cas, strV ea.nam, .int .i64 ea.v.v.k, .int .i64 ea.v.v.n, strV ea.v.v.t, .slice ea.v.sA ea.v.v.s.length ea.v.sC, .slice ea.aA ea.args.length ea.aC, .slice ea.bA ea.src.length ea.bC] ++ dc ea.eff)] :: R) w2 := hA3
  refine vc_op rfl (fun K hK => hs_box (cs := [.bool f.typed, .bool f.cased, .bool f.named, .bool f.valued, .bool f.args, .bool f.source]) hF rfl (by decide) rfl hA3 rfl (fun b4 w5 a hb4 hF hA6 => hK _ _ ?_))
  clear hK K
  replace hA6 : Hp w0 ([row b4 129 [.bool f.typed, .bool f.cased, .bool f.named, .bool f.valued, .bool f.args, .bool f.source]] :: [row b1 31 ([.int .i64 ea.op, .int .i64 ea.num, .int .i64 ea.clk, strV ea.typ, strV ea.cas, strV ea.nam, .int .i64 ea.v.v.k, .int .i64 ea.v.v.n, strV ea.v.v.t, .slice ea.v.sA ea.v.v.s.length ea.v.sC, .slice ea.aA ea.args.length ea.aC, .slice ea.bA ea.src.length ea.bC] ++ dc ea.eff)] :: R) w5 := hA6
  refine vc_y hF rfl rfl (by decide) _ (y_assign rfl rfl) (fun a hF => ?_)
  refine vc_nil ?_
  refine hK1 _ _ ?_; clear  hK1 K1
  apply wp_seq_k; intro K2 hK2
  apply wp_block
  apply wp_seq_k; intro K3 hK3
  refine wp_region_lit ?_
  refine vc_y hF rfl rfl (by decide) _ (y_ldRow (new := [.int .i64 ea.op, .int .i64 ea.num, .int .i64 ea.clk, strV ea.typ, strV ea.cas, strV ea.nam, .int .i64 ea.v.v.k, .int .i64 ea.v.v.n, strV ea.v.v.t, .slice ea.v.sA ea.v.v.s.length ea.v.sC, .slice ea.aA ea.args.length ea.aC, .slice ea.bA ea.src.length ea.bC] ++ dc ea.eff) rfl hA6.q rfl 1 rfl rw31_v3 (by rw [List.length_append, dc_length, he32]; exact Nat.le_of_ble_eq_true rfl) (by rw [List.drop_zero]; exact List.take_of_length_le (by rw [List.length_append, dc_length, he32]; exact Nat.le_of_ble_eq_true rfl))) (fun a hF => ?_)
  refine vc_y hF rfl rfl (by decide) _ (y_ldRow (new := [.bool f.typed, .bool f.cased, .bool f.named, .bool f.valued, .bool f.args, .bool f.source]) rfl hA6.q rfl 0 rfl rw129_v3 (Nat.le_of_ble_eq_true rfl) rfl) (fun a hF => ?_)
  refine vc_op rfl (fun K hK => ws_call hF rfl (by decide) cl135_v3 rfl rfl ?_)
  with_reducible refine (ev_spare ea f _ hV (List.Subset.trans hG (subC (subC (sub0)))) hA6 ).mono ?_
  rintro e' w7 ⟨rfl, hA8⟩
  refine ⟨_, rfl, fun a hF => hK _ _ ?_⟩
  clear hK K
  replace hA8 : Hp w0 ([row b4 129 [.bool f.typed, .bool f.cased, .bool f.named, .bool f.valued, .bool f.args, .bool f.source]] :: [row b1 31 ([.int .i64 ea.op, .int .i64 ea.num, .int .i64 ea.clk, strV ea.typ, strV ea.cas, strV ea.nam, .int .i64 ea.v.v.k, .int .i64 ea.v.v.n, strV ea.v.v.t, .slice ea.v.sA ea.v.v.s.length ea.v.sC, .slice ea.aA ea.args.length ea.aC, .slice ea.bA ea.src.length ea.bC] ++ dc ea.eff)] :: R) w7 := hA8
  refine vc_y hF rfl rfl (by decide) _ (y_not rfl rfl rfl) (fun a hF => ?_)
  refine vc_y hF rfl rfl (by decide) _ (y_assign rfl rfl) (fun a hF => ?_)
  refine vc_nil ?_
  refine hK3 _ _ ?_; clear  hK3 K3
  rcases tf (!(spareE ea.ev f)) with h0 | h0
  · refine vc_falseB hF rfl h0 ?_
    apply wp_seq_k; intro K4 hK4
    apply wp_seq_k; intro K5 hK5
    refine wp_region_lit ?_
    refine vc_y hF rfl rfl (by decide) _ (y_field rfl Tryz.underlying129 rfl sz4_v3 (by decide) rfl (rfl : (⟨_, 0 + _, none⟩ : Addr) = ⟨_, 1, none⟩)) (fun a hF => ?_)
    refine vc_y hF rfl rfl (by decide) _ (y_ld rfl hA8.q rfl 0 rfl rfl nr4_v3) (fun a hF => ?_)
    refine vc_y hF rfl rfl (by decide) _ (y_move rfl rfl) (fun a hF => ?_)
    refine vc_meet (l2 := ?lA1) hF [(21, .bool ((f.cased) && (!(legalC ea.cas 64)))), (0, .agg (ea.cells).toArray), (1, .agg ([.bool f.typed, .bool f.cased, .bool f.named, .bool f.valued, .bool f.args, .bool f.source]).toArray), (2, .pointer (some ⟨b1, 0, none⟩)), (3, .pointer (some ⟨b4, 0, none⟩)), (4, .int .i64 0), (9, .agg ([.int .i64 ea.op, .int .i64 ea.num, .int .i64 ea.clk, strV ea.typ, strV ea.cas, strV ea.nam, .int .i64 ea.v.v.k, .int .i64 ea.v.v.n, strV ea.v.v.t, .slice ea.v.sA ea.v.v.s.length ea.v.sC, .slice ea.aA ea.args.length ea.aC, .slice ea.bA ea.src.length ea.bC] ++ dc ea.eff).toArray), (10, .agg ([.bool f.typed, .bool f.cased, .bool f.named, .bool f.valued, .bool f.args, .bool f.source]).toArray), (11, .bool (spareE ea.ev f)), (12, .bool (!(spareE ea.ev f))), (8, .bool (!(spareE ea.ev f)))] (fun hJ1 => ?elA1) (fun a hF => ?flA1)
    case elA1 =>
      rcases tf (f.cased) with hg1 | hg1
      · refine vc_skip hF rfl rfl rfl rfl rfl (ne_want hg1) (by decide) (fun a hF => ?_)
        refine vc_skip hF rfl rfl rfl rfl rfl (ne_want hg1) (by decide) (fun a hF => ?_)
        refine vc_skip hF rfl rfl rfl rfl rfl (ne_want hg1) (by decide) (fun a hF => ?_)
        refine vc_skip hF rfl rfl rfl rfl rfl (ne_want hg1) (by decide) (fun a hF => ?_)
        refine vc_y hF rfl rfl (by decide) _ (y_pickF hg1 rfl rfl rfl) (fun a hF => ?_)
        exact hJ1 _ ((hF.keep [21, 0, 1, 2, 3, 4, 9, 10, 11, 12, 8] (F' := [(21, _), (0, _), (1, _), (2, _), (3, _), (4, _), (9, _), (10, _), (11, _), (12, _), (8, _)]) rfl).bool (by rw [hg1]; rfl))
      · refine vc_yg hF rfl rfl rfl rfl (some_bool hg1) (by decide) _ (y_field rfl Tryz.underlying31 rfl sz9_v3 (by decide) rfl (rfl : (⟨_, 0 + _, none⟩ : Addr) = ⟨_, 4, none⟩)) (fun a hF => ?_)
        refine vc_yg hF rfl rfl rfl rfl (some_bool hg1) (by decide) _ (y_ld rfl hA8.q rfl 1 rfl rfl nr9_v3) (fun a hF => ?_)
        refine vc_opg hF rfl rfl rfl (some_bool hg1) (fun K hK => ws_call hF rfl (by decide) cl136_v3 rfl rfl ?_)
        with_reducible refine (ev_case ea.cas 64 (by decide) _ hA8 ).mono ?_
        rintro e' w11 ⟨rfl, rfl⟩
        refine ⟨_, rfl, fun a hF => hK _ _ ?_⟩
        clear hK K
        refine vc_yg hF rfl rfl rfl rfl (some_bool hg1) (by decide) _ (y_not rfl rfl rfl) (fun a hF => ?_)
        refine vc_y hF rfl rfl (by decide) _ (y_pickT hg1 rfl rfl rfl) (fun a hF => ?_)
        exact hJ1 _ ((hF.keep [21, 0, 1, 2, 3, 4, 9, 10, 11, 12, 8] (F' := [(21, _), (0, _), (1, _), (2, _), (3, _), (4, _), (9, _), (10, _), (11, _), (12, _), (8, _)]) rfl).bool (by rw [hg1]; rfl))
    refine vc_y hF rfl rfl (by decide) _ (y_assign rfl rfl) (fun a hF => ?_)
    refine vc_nil ?_
    refine hK5 _ _ ?_; clear  hK5 K5
    rcases tf ((f.cased) && (!(legalC ea.cas 64))) with h1 | h1
    · refine vc_falseB hF rfl h1 ?_
      apply wp_seq_k; intro K6 hK6
      refine wp_region_lit ?_
      refine vc_y hF rfl rfl (by decide) _ (y_field rfl Tryz.underlying129 rfl sz4_v3 (by decide) rfl (rfl : (⟨_, 0 + _, none⟩ : Addr) = ⟨_, 0, none⟩)) (fun a hF => ?_)
      refine vc_y hF rfl rfl (by decide) _ (y_ld rfl hA8.q rfl 0 rfl rfl nr4_v3) (fun a hF => ?_)
      refine vc_y hF rfl rfl (by decide) _ (y_move rfl rfl) (fun a hF => ?_)
      refine vc_meet (l2 := ?lA2) hF [(29, .bool ((f.typed) && (!(legalN ea.typ)))), (0, .agg (ea.cells).toArray), (1, .agg ([.bool f.typed, .bool f.cased, .bool f.named, .bool f.valued, .bool f.args, .bool f.source]).toArray), (2, .pointer (some ⟨b1, 0, none⟩)), (3, .pointer (some ⟨b4, 0, none⟩)), (4, .int .i64 0), (9, .agg ([.int .i64 ea.op, .int .i64 ea.num, .int .i64 ea.clk, strV ea.typ, strV ea.cas, strV ea.nam, .int .i64 ea.v.v.k, .int .i64 ea.v.v.n, strV ea.v.v.t, .slice ea.v.sA ea.v.v.s.length ea.v.sC, .slice ea.aA ea.args.length ea.aC, .slice ea.bA ea.src.length ea.bC] ++ dc ea.eff).toArray), (10, .agg ([.bool f.typed, .bool f.cased, .bool f.named, .bool f.valued, .bool f.args, .bool f.source]).toArray), (11, .bool (spareE ea.ev f)), (12, .bool (!(spareE ea.ev f))), (8, .bool (!(spareE ea.ev f))), (21, .bool ((f.cased) && (!(legalC ea.cas 64)))), (13, .bool ((f.cased) && (!(legalC ea.cas 64))))] (fun hJ2 => ?elA2) (fun a hF => ?flA2)
      case elA2 =>
        rcases tf (f.typed) with hg2 | hg2
        · refine vc_skip hF rfl rfl rfl rfl rfl (ne_want hg2) (by decide) (fun a hF => ?_)
          refine vc_skip hF rfl rfl rfl rfl rfl (ne_want hg2) (by decide) (fun a hF => ?_)
          refine vc_skip hF rfl rfl rfl rfl rfl (ne_want hg2) (by decide) (fun a hF => ?_)
          refine vc_skip hF rfl rfl rfl rfl rfl (ne_want hg2) (by decide) (fun a hF => ?_)
          refine vc_y hF rfl rfl (by decide) _ (y_pickF hg2 rfl rfl rfl) (fun a hF => ?_)
          exact hJ2 _ ((hF.keep [29, 0, 1, 2, 3, 4, 9, 10, 11, 12, 8, 21, 13] (F' := [(29, _), (0, _), (1, _), (2, _), (3, _), (4, _), (9, _), (10, _), (11, _), (12, _), (8, _), (21, _), (13, _)]) rfl).bool (by rw [hg2]; rfl))
        · refine vc_yg hF rfl rfl rfl rfl (some_bool hg2) (by decide) _ (y_field rfl Tryz.underlying31 rfl sz9_v3 (by decide) rfl (rfl : (⟨_, 0 + _, none⟩ : Addr) = ⟨_, 3, none⟩)) (fun a hF => ?_)
          refine vc_yg hF rfl rfl rfl rfl (some_bool hg2) (by decide) _ (y_ld rfl hA8.q rfl 1 rfl rfl nr9_v3) (fun a hF => ?_)
          refine vc_opg hF rfl rfl rfl (some_bool hg2) (fun K hK => ws_call hF rfl (by decide) cl87_v3 rfl rfl ?_)
          with_reducible refine (ev_legal ea.typ _ hT hA8 ).mono ?_
          rintro e' w14 ⟨rfl, rfl⟩
          refine ⟨_, rfl, fun a hF => hK _ _ ?_⟩
          clear hK K
          refine vc_yg hF rfl rfl rfl rfl (some_bool hg2) (by decide) _ (y_not rfl rfl rfl) (fun a hF => ?_)
          refine vc_y hF rfl rfl (by decide) _ (y_pickT hg2 rfl rfl rfl) (fun a hF => ?_)
          exact hJ2 _ ((hF.keep [29, 0, 1, 2, 3, 4, 9, 10, 11, 12, 8, 21, 13] (F' := [(29, _), (0, _), (1, _), (2, _), (3, _), (4, _), (9, _), (10, _), (11, _), (12, _), (8, _), (21, _), (13, _)]) rfl).bool (by rw [hg2]; rfl))
      refine vc_y hF rfl rfl (by decide) _ (y_assign rfl rfl) (fun a hF => ?_)
      refine vc_nil ?_
      refine hK6 _ _ ?_; clear  hK6 K6
      rcases tf ((f.typed) && (!(legalN ea.typ))) with h2 | h2
      · refine vc_falseB hF rfl h2 ?_
        refine wp_region_lit ?_
        refine vc_y hF rfl rfl (by decide) _ (y_field rfl Tryz.underlying129 rfl sz4_v3 (by decide) rfl (rfl : (⟨_, 0 + _, none⟩ : Addr) = ⟨_, 2, none⟩)) (fun a hF => ?_)
        refine vc_y hF rfl rfl (by decide) _ (y_ld rfl hA8.q rfl 0 rfl rfl nr4_v3) (fun a hF => ?_)
        refine vc_y hF rfl rfl (by decide) _ (y_move rfl rfl) (fun a hF => ?_)
        refine vc_meet (l2 := ?lA3) hF [(37, .bool ((f.named) && (!(legalN ea.nam)))), (0, .agg (ea.cells).toArray), (1, .agg ([.bool f.typed, .bool f.cased, .bool f.named, .bool f.valued, .bool f.args, .bool f.source]).toArray), (2, .pointer (some ⟨b1, 0, none⟩)), (3, .pointer (some ⟨b4, 0, none⟩)), (4, .int .i64 0), (9, .agg ([.int .i64 ea.op, .int .i64 ea.num, .int .i64 ea.clk, strV ea.typ, strV ea.cas, strV ea.nam, .int .i64 ea.v.v.k, .int .i64 ea.v.v.n, strV ea.v.v.t, .slice ea.v.sA ea.v.v.s.length ea.v.sC, .slice ea.aA ea.args.length ea.aC, .slice ea.bA ea.src.length ea.bC] ++ dc ea.eff).toArray), (10, .agg ([.bool f.typed, .bool f.cased, .bool f.named, .bool f.valued, .bool f.args, .bool f.source]).toArray), (11, .bool (spareE ea.ev f)), (12, .bool (!(spareE ea.ev f))), (8, .bool (!(spareE ea.ev f))), (21, .bool ((f.cased) && (!(legalC ea.cas 64)))), (13, .bool ((f.typed) && (!(legalN ea.typ)))), (29, .bool ((f.typed) && (!(legalN ea.typ))))] (fun hJ3 => ?elA3) (fun a hF => ?flA3)
        case elA3 =>
          rcases tf (f.named) with hg3 | hg3
          · refine vc_skip hF rfl rfl rfl rfl rfl (ne_want hg3) (by decide) (fun a hF => ?_)
            refine vc_skip hF rfl rfl rfl rfl rfl (ne_want hg3) (by decide) (fun a hF => ?_)
            refine vc_skip hF rfl rfl rfl rfl rfl (ne_want hg3) (by decide) (fun a hF => ?_)
            refine vc_skip hF rfl rfl rfl rfl rfl (ne_want hg3) (by decide) (fun a hF => ?_)
            refine vc_y hF rfl rfl (by decide) _ (y_pickF hg3 rfl rfl rfl) (fun a hF => ?_)
            exact hJ3 _ ((hF.keep [37, 0, 1, 2, 3, 4, 9, 10, 11, 12, 8, 21, 13, 29] (F' := [(37, _), (0, _), (1, _), (2, _), (3, _), (4, _), (9, _), (10, _), (11, _), (12, _), (8, _), (21, _), (13, _), (29, _)]) rfl).bool (by rw [hg3]; rfl))
          · refine vc_yg hF rfl rfl rfl rfl (some_bool hg3) (by decide) _ (y_field rfl Tryz.underlying31 rfl sz9_v3 (by decide) rfl (rfl : (⟨_, 0 + _, none⟩ : Addr) = ⟨_, 5, none⟩)) (fun a hF => ?_)
            refine vc_yg hF rfl rfl rfl rfl (some_bool hg3) (by decide) _ (y_ld rfl hA8.q rfl 1 rfl rfl nr9_v3) (fun a hF => ?_)
            refine vc_opg hF rfl rfl rfl (some_bool hg3) (fun K hK => ws_call hF rfl (by decide) cl87_v3 rfl rfl ?_)
            with_reducible refine (ev_legal ea.nam _ hT hA8 ).mono ?_
            rintro e' w17 ⟨rfl, rfl⟩
            refine ⟨_, rfl, fun a hF => hK _ _ ?_⟩
            clear hK K
            refine vc_yg hF rfl rfl rfl rfl (some_bool hg3) (by decide) _ (y_not rfl rfl rfl) (fun a hF => ?_)
            refine vc_y hF rfl rfl (by decide) _ (y_pickT hg3 rfl rfl rfl) (fun a hF => ?_)
            exact hJ3 _ ((hF.keep [37, 0, 1, 2, 3, 4, 9, 10, 11, 12, 8, 21, 13, 29] (F' := [(37, _), (0, _), (1, _), (2, _), (3, _), (4, _), (9, _), (10, _), (11, _), (12, _), (8, _), (21, _), (13, _), (29, _)]) rfl).bool (by rw [hg3]; rfl))
        refine vc_y hF rfl rfl (by decide) _ (y_assign rfl rfl) (fun a hF => ?_)
        refine vc_nil ?_
        refine hK4 _ _ ?_; clear  hK4 K4
        rcases tf ((f.named) && (!(legalN ea.nam))) with h3 | h3
        · refine vc_falseB hF rfl h3 ?_
          apply wp_seq_k; intro K7 hK7
          refine wp_region_lit ?_
          refine vc_y hF rfl rfl (by decide) _ (y_field rfl Tryz.underlying31 rfl sz3_v3 (by decide) rfl (rfl : (⟨_, 0 + _, none⟩ : Addr) = ⟨_, 1, none⟩)) (fun a hF => ?_)
          refine vc_y hF rfl rfl (by decide) _ (y_ld rfl hA8.q rfl 1 rfl rfl nr3_v3) (fun a hF => ?_)
          refine vc_y hF rfl rfl (by decide) _ (y_cmp rfl rfl rfl rfl rfl) (fun a hF => ?_)
          refine vc_y hF rfl rfl (by decide) _ (y_move rfl rfl) (fun a hF => ?_)
          refine vc_meet (l2 := ?lA4) hF [(46, .bool ((cmpB .lss (ea.num) (0)) || (cmpB .geq (ea.num) (1099511627776)))), (0, .agg (ea.cells).toArray), (1, .agg ([.bool f.typed, .bool f.cased, .bool f.named, .bool f.valued, .bool f.args, .bool f.source]).toArray), (2, .pointer (some ⟨b1, 0, none⟩)), (3, .pointer (some ⟨b4, 0, none⟩)), (4, .int .i64 0), (9, .agg ([.int .i64 ea.op, .int .i64 ea.num, .int .i64 ea.clk, strV ea.typ, strV ea.cas, strV ea.nam, .int .i64 ea.v.v.k, .int .i64 ea.v.v.n, strV ea.v.v.t, .slice ea.v.sA ea.v.v.s.length ea.v.sC, .slice ea.aA ea.args.length ea.aC, .slice ea.bA ea.src.length ea.bC] ++ dc ea.eff).toArray), (10, .agg ([.bool f.typed, .bool f.cased, .bool f.named, .bool f.valued, .bool f.args, .bool f.source]).toArray), (11, .bool (spareE ea.ev f)), (12, .bool (!(spareE ea.ev f))), (8, .bool (!(spareE ea.ev f))), (21, .bool ((f.cased) && (!(legalC ea.cas 64)))), (13, .bool ((f.named) && (!(legalN ea.nam)))), (29, .bool ((f.typed) && (!(legalN ea.typ)))), (37, .bool ((f.named) && (!(legalN ea.nam))))] (fun hJ4 => ?elA4) (fun a hF => ?flA4)
          case elA4 =>
            rcases tf (cmpB .lss (ea.num) (0)) with hg4 | hg4
            · refine vc_yg hF rfl rfl rfl rfl (some_bool hg4) (by decide) _ (y_field rfl Tryz.underlying31 rfl sz3_v3 (by decide) rfl (rfl : (⟨_, 0 + _, none⟩ : Addr) = ⟨_, 1, none⟩)) (fun a hF => ?_)
              refine vc_yg hF rfl rfl rfl rfl (some_bool hg4) (by decide) _ (y_ld rfl hA8.q rfl 1 rfl rfl nr3_v3) (fun a hF => ?_)
              refine vc_yg hF rfl rfl rfl rfl (some_bool hg4) (by decide) _ (y_cmp rfl rfl rfl rfl rfl) (fun a hF => ?_)
              refine vc_y hF rfl rfl (by decide) _ (y_pickF hg4 rfl rfl rfl) (fun a hF => ?_)
              exact hJ4 _ ((hF.keep [46, 0, 1, 2, 3, 4, 9, 10, 11, 12, 8, 21, 13, 29, 37] (F' := [(46, _), (0, _), (1, _), (2, _), (3, _), (4, _), (9, _), (10, _), (11, _), (12, _), (8, _), (21, _), (13, _), (29, _), (37, _)]) rfl).bool (by rw [hg4]; rfl))
            · refine vc_skip hF rfl rfl rfl rfl rfl (ne_want hg4) (by decide) (fun a hF => ?_)
              refine vc_skip hF rfl rfl rfl rfl rfl (ne_want hg4) (by decide) (fun a hF => ?_)
              refine vc_skip hF rfl rfl rfl rfl rfl (ne_want hg4) (by decide) (fun a hF => ?_)
              refine vc_y hF rfl rfl (by decide) _ (y_pickT hg4 rfl rfl rfl) (fun a hF => ?_)
              exact hJ4 _ ((hF.keep [46, 0, 1, 2, 3, 4, 9, 10, 11, 12, 8, 21, 13, 29, 37] (F' := [(46, _), (0, _), (1, _), (2, _), (3, _), (4, _), (9, _), (10, _), (11, _), (12, _), (8, _), (21, _), (13, _), (29, _), (37, _)]) rfl).bool (by rw [hg4]; rfl))
          refine vc_y hF rfl rfl (by decide) _ (y_assign rfl rfl) (fun a hF => ?_)
          refine vc_nil ?_
          refine hK7 _ _ ?_; clear  hK7 K7
          have hnm := names_no h1 h2 h3
          rcases tf ((cmpB .lss (ea.num) (0)) || (cmpB .geq (ea.num) (1099511627776))) with h4 | h4
          · refine vc_falseB hF rfl h4 ?_
            apply wp_seq_k; intro K8 hK8
            refine wp_region_lit ?_
            refine vc_y hF rfl rfl (by decide) _ (y_field rfl Tryz.underlying31 rfl sz3_v3 (by decide) rfl (rfl : (⟨_, 0 + _, none⟩ : Addr) = ⟨_, 2, none⟩)) (fun a hF => ?_)
            refine vc_y hF rfl rfl (by decide) _ (y_ld rfl hA8.q rfl 1 rfl rfl nr3_v3) (fun a hF => ?_)
            refine vc_y hF rfl rfl (by decide) _ (y_cmp rfl rfl rfl rfl rfl) (fun a hF => ?_)
            refine vc_y hF rfl rfl (by decide) _ (y_move rfl rfl) (fun a hF => ?_)
            refine vc_meet (l2 := ?lA5) hF [(55, .bool ((cmpB .lss (ea.clk) (0)) || (cmpB .gtr (ea.clk) (4611686018427387904)))), (0, .agg (ea.cells).toArray), (1, .agg ([.bool f.typed, .bool f.cased, .bool f.named, .bool f.valued, .bool f.args, .bool f.source]).toArray), (2, .pointer (some ⟨b1, 0, none⟩)), (3, .pointer (some ⟨b4, 0, none⟩)), (4, .int .i64 0), (9, .agg ([.int .i64 ea.op, .int .i64 ea.num, .int .i64 ea.clk, strV ea.typ, strV ea.cas, strV ea.nam, .int .i64 ea.v.v.k, .int .i64 ea.v.v.n, strV ea.v.v.t, .slice ea.v.sA ea.v.v.s.length ea.v.sC, .slice ea.aA ea.args.length ea.aC, .slice ea.bA ea.src.length ea.bC] ++ dc ea.eff).toArray), (10, .agg ([.bool f.typed, .bool f.cased, .bool f.named, .bool f.valued, .bool f.args, .bool f.source]).toArray), (11, .bool (spareE ea.ev f)), (12, .bool (!(spareE ea.ev f))), (8, .bool (!(spareE ea.ev f))), (21, .bool ((f.cased) && (!(legalC ea.cas 64)))), (13, .bool ((f.named) && (!(legalN ea.nam)))), (29, .bool ((f.typed) && (!(legalN ea.typ)))), (37, .bool ((f.named) && (!(legalN ea.nam)))), (46, .bool ((cmpB .lss (ea.num) (0)) || (cmpB .geq (ea.num) (1099511627776)))), (38, .bool ((cmpB .lss (ea.num) (0)) || (cmpB .geq (ea.num) (1099511627776))))] (fun hJ5 => ?elA5) (fun a hF => ?flA5)
            case elA5 =>
              rcases tf (cmpB .lss (ea.clk) (0)) with hg5 | hg5
              · refine vc_yg hF rfl rfl rfl rfl (some_bool hg5) (by decide) _ (y_field rfl Tryz.underlying31 rfl sz3_v3 (by decide) rfl (rfl : (⟨_, 0 + _, none⟩ : Addr) = ⟨_, 2, none⟩)) (fun a hF => ?_)
                refine vc_yg hF rfl rfl rfl rfl (some_bool hg5) (by decide) _ (y_ld rfl hA8.q rfl 1 rfl rfl nr3_v3) (fun a hF => ?_)
                refine vc_yg hF rfl rfl rfl rfl (some_bool hg5) (by decide) _ (y_cmp rfl rfl rfl rfl rfl) (fun a hF => ?_)
                refine vc_y hF rfl rfl (by decide) _ (y_pickF hg5 rfl rfl rfl) (fun a hF => ?_)
                exact hJ5 _ ((hF.keep [55, 0, 1, 2, 3, 4, 9, 10, 11, 12, 8, 21, 13, 29, 37, 46, 38] (F' := [(55, _), (0, _), (1, _), (2, _), (3, _), (4, _), (9, _), (10, _), (11, _), (12, _), (8, _), (21, _), (13, _), (29, _), (37, _), (46, _), (38, _)]) rfl).bool (by rw [hg5]; rfl))
              · refine vc_skip hF rfl rfl rfl rfl rfl (ne_want hg5) (by decide) (fun a hF => ?_)
                refine vc_skip hF rfl rfl rfl rfl rfl (ne_want hg5) (by decide) (fun a hF => ?_)
                refine vc_skip hF rfl rfl rfl rfl rfl (ne_want hg5) (by decide) (fun a hF => ?_)
                refine vc_y hF rfl rfl (by decide) _ (y_pickT hg5 rfl rfl rfl) (fun a hF => ?_)
                exact hJ5 _ ((hF.keep [55, 0, 1, 2, 3, 4, 9, 10, 11, 12, 8, 21, 13, 29, 37, 46, 38] (F' := [(55, _), (0, _), (1, _), (2, _), (3, _), (4, _), (9, _), (10, _), (11, _), (12, _), (8, _), (21, _), (13, _), (29, _), (37, _), (46, _), (38, _)]) rfl).bool (by rw [hg5]; rfl))
            refine vc_y hF rfl rfl (by decide) _ (y_assign rfl rfl) (fun a hF => ?_)
            refine vc_nil ?_
            refine hK8 _ _ ?_; clear  hK8 K8
            rcases tf ((cmpB .lss (ea.clk) (0)) || (cmpB .gtr (ea.clk) (4611686018427387904))) with h5 | h5
            · refine vc_falseB hF rfl h5 ?_
              apply wp_seq_k; intro K9 hK9
              refine wp_region_lit ?_
              refine vc_y hF rfl rfl (by decide) _ (y_field rfl Tryz.underlying31 rfl sz26_v3 (by decide) rfl (rfl : (⟨_, 0 + _, none⟩ : Addr) = ⟨_, 10, none⟩)) (fun a hF => ?_)
              refine vc_y hF rfl rfl (by decide) _ (y_ld rfl hA8.q rfl 1 rfl rfl nr26_v3) (fun a hF => ?_)
              refine vc_y hF rfl rfl (by decide) _ (y_lenSl rfl Tryz.underlying26 rfl rfl) (fun a hF => ?_)
              refine vc_y hF rfl rfl (by decide) _ (y_cmp rfl rfl rfl rfl rfl) (fun a hF => ?_)
              refine vc_y hF rfl rfl (by decide) _ (y_assign rfl rfl) (fun a hF => ?_)
              refine vc_nil ?_
              refine hK9 _ _ ?_; clear  hK9 K9
              rcases tf (cmpB .gtr (ea.args.length) (16)) with h6 | h6
              · refine vc_falseB hF rfl h6 ?_
                have hle := gtr_no h6
                apply wp_skip
                refine hK2 _ _ ?_; clear  hK2 K2
                apply wp_seq_k; intro K10 hK10
                apply wp_seq_k; intro K11 hK11
                refine wp_region_lit ?_
                refine vc_y hF rfl rfl (by decide) _ (y_field rfl Tryz.underlying31 rfl sz25_v3 (by decide) rfl (rfl : (⟨_, 0 + _, none⟩ : Addr) = ⟨_, 6, none⟩)) (fun a hF => ?_)
                refine vc_y hF rfl rfl (by decide) _ (y_ldRow (new := [.int .i64 ea.v.v.k, .int .i64 ea.v.v.n, strV ea.v.v.t, .slice ea.v.sA ea.v.v.s.length ea.v.sC]) rfl hA8.q rfl 1 rfl rw25_v3 (by rw [List.length_append]; exact Nat.le_add_right_of_le (Nat.le_of_ble_eq_true rfl)) rfl) (fun a hF => ?_)
                refine vc_op rfl (fun K hK => hs_bs (qs := #[(0, .agg ea.v.cells.toArray)]) (cells := ea.v.cells.toArray) hF rfl (by decide) rfl hA8 rfl (ev_bsV ea.v) (fun b18 w19 a hb18 hF hA20 => hK _ _ ?_))
                clear hK K
                replace hA20 : Hp w0 ([row b18 25 ea.v.cells] :: [row b4 129 [.bool f.typed, .bool f.cased, .bool f.named, .bool f.valued, .bool f.args, .bool f.source]] :: [row b1 31 ([.int .i64 ea.op, .int .i64 ea.num, .int .i64 ea.clk, strV ea.typ, strV ea.cas, strV ea.nam, .int .i64 ea.v.v.k, .int .i64 ea.v.v.n, strV ea.v.v.t, .slice ea.v.sA ea.v.v.s.length ea.v.sC, .slice ea.aA ea.args.length ea.aC, .slice ea.bA ea.src.length ea.bC] ++ dc ea.eff)] :: R) w19 := hA20
                have hZ0 : Buf 25 4 [row b18 25 ea.v.cells] (.slice (some ⟨b18, 0, none⟩) 1 1) 1 ea.v.cells := Buf.full rfl (by decide)
                refine vc_y hF rfl rfl (by decide) _ (y_field rfl Tryz.underlying31 rfl sz26_v3 (by decide) rfl (rfl : (⟨_, 0 + _, none⟩ : Addr) = ⟨_, 10, none⟩)) (fun a hF => ?_)
                refine vc_y hF rfl rfl (by decide) _ (y_ld rfl hA20.q rfl 2 rfl rfl nr26_v3) (fun a hF => ?_)
                refine vc_op rfl (fun K hK => hs_append hF rfl (by decide) rfl hA20 0 rfl hZ0 Tryz.underlying26 ev_elemV rfl rfl (Rc.srcC (W := argC ea.args) (m := ea.args.length) (size := 4) (R := [row b18 25 ea.v.cells] :: [row b4 129 [.bool f.typed, .bool f.cased, .bool f.named, .bool f.valued, .bool f.args, .bool f.source]] :: [row b1 31 ([.int .i64 ea.op, .int .i64 ea.num, .int .i64 ea.clk, strV ea.typ, strV ea.cas, strV ea.nam, .int .i64 ea.v.v.k, .int .i64 ea.v.v.n, strV ea.v.v.t, .slice ea.v.sA ea.v.v.s.length ea.v.sC, .slice ea.aA ea.args.length ea.aC, .slice ea.bA ea.src.length ea.bC] ++ dc ea.eff)] :: R) (hV.rc.mono (List.Subset.trans hG (subC (subC (subC (sub0)))))) hA20.q Tryz.underlying26 (by decide) (argC_len _) (argC_one _)) (by omega) (by decide) (fun vB ZB w21 a hZ hF hA22 => hK _ _ ?_))
                clear hK K
                replace hA22 : Hp w0 (ZB :: [row b4 129 [.bool f.typed, .bool f.cased, .bool f.named, .bool f.valued, .bool f.args, .bool f.source]] :: [row b1 31 ([.int .i64 ea.op, .int .i64 ea.num, .int .i64 ea.clk, strV ea.typ, strV ea.cas, strV ea.nam, .int .i64 ea.v.v.k, .int .i64 ea.v.v.n, strV ea.v.v.t, .slice ea.v.sA ea.v.v.s.length ea.v.sC, .slice ea.aA ea.args.length ea.aC, .slice ea.bA ea.src.length ea.bC] ++ dc ea.eff)] :: R) w21 := hA22
                replace hZ : Buf 25 4 ZB vB (ea.v :: ea.args).length (argC (ea.v :: ea.args)) := by rw [List.length_cons, Nat.add_comm]; exact hZ
                obtain ⟨A1, c1, rfl, hc1, hRc⟩ := hZ.rc (w0 := w0) (R := [ZB]) (List.mem_cons_self ..)
                obtain ⟨L, hL⟩ : ∃ L, L = ea.v :: ea.args := ⟨_, rfl⟩
                rw [← hL] at hF hRc
                have hLk : ∀ a ∈ L, a.Ok w0 G := fun a ha => by
                  rw [hL] at ha
                  rcases List.mem_cons.1 ha with rfl | ha
                  · exact hV.v
                  · exact hV.args _ ha
                have hLn : L.length ≤ 17 := by rw [hL, List.length_cons]; omega
                refine vc_y hF rfl rfl (by decide) _ (y_lenSl rfl Tryz.underlying26 rfl rfl) (fun a hF => ?_)
                refine vc_y hF rfl rfl (by decide) _ (y_move rfl rfl) (fun a hF => ?_)
                refine vc_nil ?_
                refine hK11 _ _ ?_; clear  hK11 K11
                apply wp_block
                refine vc_loop (G := Nat) (fun i a x => i ≤ L.length ∧ firstR (L.map VA.v) = firstR ((L.drop i).map VA.v) ∧ Fr 82 [(68, .int .i64 (i : Int)), (2, .pointer (some ⟨b1, 0, none⟩)), (3, .pointer (some ⟨b4, 0, none⟩)), (66, .slice A1 L.length c1), (67, .int .i64 L.length)] a ∧ Hp w0 (ZB :: [row b4 129 [.bool f.typed, .bool f.cased, .bool f.named, .bool f.valued, .bool f.args, .bool f.source]] :: [row b1 31 ([.int .i64 ea.op, .int .i64 ea.num, .int .i64 ea.clk, strV ea.typ, strV ea.cas, strV ea.nam, .int .i64 ea.v.v.k, .int .i64 ea.v.v.n, strV ea.v.v.t, .slice ea.v.sA ea.v.v.s.length ea.v.sC, .slice ea.aA ea.args.length ea.aC, .slice ea.bA ea.src.length ea.bC] ++ dc ea.eff)] :: R) x) (fun i => L.length - i) 0 (⟨Nat.zero_le _, rfl, hF.keep [68, 2, 3, 66, 67] rfl, hA22⟩) ?_
                clear hF
                rintro i a w24 ⟨hi, hfr, hF, hA23⟩
                apply wp_seq_k; intro K12 hK12
                refine wp_region_lit ?_
                refine vc_y hF rfl rfl (by decide) _ (y_cmp rfl rfl rfl rfl rfl) (fun a hF => ?_)
                refine vc_nil ?_
                refine hK12 _ _ ?_; clear  hK12 K12
                apply wp_seq_k; intro K13 hK13
                by_cases hlt : i < L.length
                · refine vc_trueB hF rfl (lss_t (by omega)) ?_
                  obtain ⟨va, hp⟩ : ∃ q, L[i]? = some q := ⟨_, List.getElem?_eq_getElem hlt⟩
                  obtain ⟨hat, hle4⟩ := Go.Dk.flat_at (z := 4) (Ws := L.map VA.cells) (V := va.cells) (i := i) (fun V hV => by obtain ⟨u, _, rfl⟩ := List.mem_map.1 hV; rfl) (by rw [List.getElem?_map, hp]; rfl)
                  obtain ⟨b, o, hsA, hc⟩ := hRc.ne (i := i * 4) (by have := argC_len L; omega)
                  rw [hsA] at hF
                  rw [List.drop_eq_getElem_cons hlt, List.map_cons, (List.getElem?_eq_some_iff.1 hp).2, firstR] at hfr
                  have hva := hLk va (List.mem_of_getElem? hp)
                  have hvan := hva.n
                  apply wp_skip
                  refine hK13 _ _ ?_; clear  hK13 K13
                  apply wp_seq_k; intro K14 hK14
                  apply wp_block
                  apply wp_seq_k; intro K15 hK15
                  refine wp_region_lit ?_
                  refine vc_y hF rfl rfl (by decide) _ (y_ixSl rfl Tryz.underlying26 sz25_v3 rfl rfl i rfl hlt rfl) (fun a hF => ?_)
                  refine vc_y hF rfl rfl (by decide) _ (y_ldRowC (new := va.cells) rfl (Hq.sub hA23.q (List.cons_subset.2 ⟨((List.mem_cons_self ..)), List.nil_subset _⟩)) rfl hc (i * 4) hle4 rfl hat rw25_v3) (fun a hF => ?_)
                  refine vc_op rfl (fun K hK => hs_alloc hF rfl (by decide) rfl hA23 (zr25_v3) (fun b25 w26 a hb25 hF hA27 => hK _ _ ?_))
                  clear hK K
                  replace hA27 : Hp w0 ([row b25 25 [.int .i64 0, .int .i64 0, .string (⟨#[]⟩), .slice none 0 0]] :: ZB :: [row b4 129 [.bool f.typed, .bool f.cased, .bool f.named, .bool f.valued, .bool f.args, .bool f.source]] :: [row b1 31 ([.int .i64 ea.op, .int .i64 ea.num, .int .i64 ea.clk, strV ea.typ, strV ea.cas, strV ea.nam, .int .i64 ea.v.v.k, .int .i64 ea.v.v.n, strV ea.v.v.t, .slice ea.v.sA ea.v.v.s.length ea.v.sC, .slice ea.aA ea.args.length ea.aC, .slice ea.bA ea.src.length ea.bC] ++ dc ea.eff)] :: R) w26 := hA27
                  refine vc_op rfl (fun K hK => hs_storeAll (new := [.int .i64 va.v.k, .int .i64 va.v.n, strV va.v.t, .slice va.sA va.v.s.length va.sC]) hF rfl rfl hA27 rfl rfl 0 rfl rfl (by simp [Value.oneCell']) sz25_v3 (fun w28 hA29 => hK _ _ ?_))
                  clear hK K
                  replace hA29 : Hp w0 ([row b25 25 [.int .i64 va.v.k, .int .i64 va.v.n, strV va.v.t, .slice va.sA va.v.s.length va.sC]] :: ZB :: [row b4 129 [.bool f.typed, .bool f.cased, .bool f.named, .bool f.valued, .bool f.args, .bool f.source]] :: [row b1 31 ([.int .i64 ea.op, .int .i64 ea.num, .int .i64 ea.clk, strV ea.typ, strV ea.cas, strV ea.nam, .int .i64 ea.v.v.k, .int .i64 ea.v.v.n, strV ea.v.v.t, .slice ea.v.sA ea.v.v.s.length ea.v.sC, .slice ea.aA ea.args.length ea.aC, .slice ea.bA ea.src.length ea.bC] ++ dc ea.eff)] :: R) w28 := hA29
                  refine vc_nil ?_
                  refine hK15 _ _ ?_; clear  hK15 K15
                  apply wp_seq_k; intro K16 hK16
                  refine wp_region_lit ?_
                  refine vc_y hF rfl rfl (by decide) _ (y_ldRow (new := [.int .i64 va.v.k, .int .i64 va.v.n, strV va.v.t, .slice va.sA va.v.s.length va.sC]) rfl hA29.q rfl 0 rfl rw25_v3 (Nat.le_of_ble_eq_true rfl) rfl) (fun a hF => ?_)
                  refine vc_op rfl (fun K hK => ws_call hF rfl (by decide) cl101_v3 rfl rfl ?_)
                  with_reducible refine (ev_right va _ hva (List.Subset.trans hG (subC (subC (subC (subC (sub0)))))) hA29 ).mono ?_
                  rintro e' w30 ⟨rfl, hA31⟩
                  refine ⟨_, rfl, fun a hF => hK _ _ ?_⟩
                  clear hK K
                  replace hA31 : Hp w0 ([row b25 25 [.int .i64 va.v.k, .int .i64 va.v.n, strV va.v.t, .slice va.sA va.v.s.length va.sC]] :: ZB :: [row b4 129 [.bool f.typed, .bool f.cased, .bool f.named, .bool f.valued, .bool f.args, .bool f.source]] :: [row b1 31 ([.int .i64 ea.op, .int .i64 ea.num, .int .i64 ea.clk, strV ea.typ, strV ea.cas, strV ea.nam, .int .i64 ea.v.v.k, .int .i64 ea.v.v.n, strV ea.v.v.t, .slice ea.v.sA ea.v.v.s.length ea.v.sC, .slice ea.aA ea.args.length ea.aC, .slice ea.bA ea.src.length ea.bC] ++ dc ea.eff)] :: R) w30 := hA31
                  refine vc_y hF rfl rfl (by decide) _ (y_assign rfl rfl) (fun a hF => ?_)
                  refine vc_nil ?_
                  refine hK16 _ _ ?_; clear  hK16 K16
                  apply wp_seq_k; intro K17 hK17
                  refine wp_region_lit ?_
                  refine vc_y hF rfl rfl (by decide) _ (y_move rfl rfl) (fun a hF => ?_)
                  refine vc_y hF rfl rfl (by decide) _ (y_cmp rfl rfl rfl rfl rfl) (fun a hF => ?_)
                  refine vc_nil ?_
                  refine hK17 _ _ ?_; clear  hK17 K17
                  rcases tf (cmpB .neq (((va.v.right : Nat) : Int)) (0)) with hr | hr
                  · refine vc_falseB hF rfl hr ?_
                    rw [if_pos (neq_no hr)] at hfr
                    rw [← hsA] at hF
                    apply wp_skip
                    refine hK14 _ _ ?_; clear  hK14 K14
                    refine wp_region_lit ?_
                    refine vc_y hF rfl rfl (by decide) _ (y_add rfl rfl rfl (IntWalk.i64_in _ (by omega))) (fun a hF => ?_)
                    refine vc_y hF rfl rfl (by decide) _ (y_move rfl rfl) (fun a hF => ?_)
                    refine vc_nil ?_
                    have hA32 : Hp w0 (ZB :: [row b4 129 [.bool f.typed, .bool f.cased, .bool f.named, .bool f.valued, .bool f.args, .bool f.source]] :: [row b1 31 ([.int .i64 ea.op, .int .i64 ea.num, .int .i64 ea.clk, strV ea.typ, strV ea.cas, strV ea.nam, .int .i64 ea.v.v.k, .int .i64 ea.v.v.n, strV ea.v.v.t, .slice ea.v.sA ea.v.v.s.length ea.v.sC, .slice ea.aA ea.args.length ea.aC, .slice ea.bA ea.src.length ea.bC] ++ dc ea.eff)] :: R) w30 := Hp.sel [[row b25 25 [.int .i64 va.v.k, .int .i64 va.v.n, strV va.v.t, .slice va.sA va.v.s.length va.sC]], ZB, [row b4 129 [.bool f.typed, .bool f.cased, .bool f.named, .bool f.valued, .bool f.args, .bool f.source]], [row b1 31 ([.int .i64 ea.op, .int .i64 ea.num, .int .i64 ea.clk, strV ea.typ, strV ea.cas, strV ea.nam, .int .i64 ea.v.v.k, .int .i64 ea.v.v.n, strV ea.v.v.t, .slice ea.v.sA ea.v.v.s.length ea.v.sC, .slice ea.aA ea.args.length ea.aC, .slice ea.bA ea.src.length ea.bC] ++ dc ea.eff)]] R [1, 2, 3] [0] hA31 rfl
                    exact ⟨i + 1, by omega, by omega, hfr, hF.keep [68, 2, 3, 66, 67] rfl, hA32⟩
                  · refine vc_trueB hF rfl hr ?_
                    apply wp_seq_k; intro K18 hK18
                    refine wp_region_lit ?_
                    refine vc_y hF rfl rfl (by decide) _ (y_move rfl rfl) (fun a hF => ?_)
                    refine vc_y hF rfl rfl (by decide) _ (y_assign rfl rfl) (fun a hF => ?_)
                    refine vc_nil ?_
                    refine hK18 _ _ ?_; clear  hK18 K18
                    apply wp_ret
                    simp only [Exit.then, Exit.inBlock]
                    refine vc_ret1 hF Tryz.results73 rfl ?_
                    have hA33 : Hp w0 (R) w30 := Hp.sel [[row b25 25 [.int .i64 va.v.k, .int .i64 va.v.n, strV va.v.t, .slice va.sA va.v.s.length va.sC]], ZB, [row b4 129 [.bool f.typed, .bool f.cased, .bool f.named, .bool f.valued, .bool f.args, .bool f.source]], [row b1 31 ([.int .i64 ea.op, .int .i64 ea.num, .int .i64 ea.clk, strV ea.typ, strV ea.cas, strV ea.nam, .int .i64 ea.v.v.k, .int .i64 ea.v.v.n, strV ea.v.v.t, .slice ea.v.sA ea.v.v.s.length ea.v.sC, .slice ea.aA ea.args.length ea.aC, .slice ea.bA ea.src.length ea.bC] ++ dc ea.eff)]] R [] [0, 1, 2, 3] hA31 rfl
                    exact ⟨by rw [ref_v h0 hnm h4 h5 h6 (by rw [← List.map_cons, ← hL, hfr, if_neg (neq_yes hr)]) (neq_yes hr)], hA33⟩
                · refine vc_falseB hF rfl (lss_f (by omega)) ?_
                  obtain rfl : i = L.length := by omega
                  rw [List.drop_length] at hfr
                  apply wp_exit
                  refine hK10 _ _ ?_; clear hK13 K13 hK10 K10
                  apply wp_seq_k; intro K19 hK19
                  apply wp_seq_k; intro K20 hK20
                  refine wp_region_lit ?_
                  refine vc_y hF rfl rfl (by decide) _ (y_field rfl Tryz.underlying31 rfl sz27_v3 (by decide) rfl (rfl : (⟨_, 0 + _, none⟩ : Addr) = ⟨_, 11, none⟩)) (fun a hF => ?_)
                  refine vc_y hF rfl rfl (by decide) _ (y_ld rfl hA23.q rfl 2 rfl rfl nr27_v3) (fun a hF => ?_)
                  refine vc_y hF rfl rfl (by decide) _ (y_lenSl rfl Tryz.underlying27 rfl rfl) (fun a hF => ?_)
                  refine vc_y hF rfl rfl (by decide) _ (y_cmp rfl rfl rfl rfl rfl) (fun a hF => ?_)
                  refine vc_nil ?_
                  refine hK20 _ _ ?_; clear  hK20 K20
                  rcases tf (cmpB .gtr (ea.src.length) (60000)) with h7 | h7
                  · refine vc_falseB hF rfl h7 ?_
                    apply wp_skip
                    refine hK19 _ _ ?_; clear  hK19 K19
                    apply wp_seq_k; intro K21 hK21
                    refine wp_region_lit ?_
                    refine vc_y hF rfl rfl (by decide) _ (y_assign rfl rfl) (fun a hF => ?_)
                    refine vc_nil ?_
                    refine hK21 _ _ ?_; clear  hK21 K21
                    apply wp_ret
                    refine vc_ret1 hF Tryz.results73 rfl ?_
                    have hA34 : Hp w0 (R) w24 := Hp.sel [ZB, [row b4 129 [.bool f.typed, .bool f.cased, .bool f.named, .bool f.valued, .bool f.args, .bool f.source]], [row b1 31 ([.int .i64 ea.op, .int .i64 ea.num, .int .i64 ea.clk, strV ea.typ, strV ea.cas, strV ea.nam, .int .i64 ea.v.v.k, .int .i64 ea.v.v.n, strV ea.v.v.t, .slice ea.v.sA ea.v.v.s.length ea.v.sC, .slice ea.aA ea.args.length ea.aC, .slice ea.bA ea.src.length ea.bC] ++ dc ea.eff)]] R [] [0, 1, 2] hA23 rfl
                    exact ⟨by rw [ref_ok h0 hnm h4 h5 h6 (by rw [← List.map_cons, ← hL, hfr]; rfl) h7]; rfl, hA34⟩
                  · refine vc_trueB hF rfl h7 ?_
                    apply wp_seq_k; intro K22 hK22
                    refine wp_region_lit ?_
                    refine vc_y hF rfl rfl (by decide) _ (y_assign rfl rfl) (fun a hF => ?_)
                    refine vc_nil ?_
                    refine hK22 _ _ ?_; clear  hK22 K22
                    apply wp_ret
                    simp only [Exit.then]
                    refine vc_ret1 hF Tryz.results73 rfl ?_
                    have hA35 : Hp w0 (R) w24 := Hp.sel [ZB, [row b4 129 [.bool f.typed, .bool f.cased, .bool f.named, .bool f.valued, .bool f.args, .bool f.source]], [row b1 31 ([.int .i64 ea.op, .int .i64 ea.num, .int .i64 ea.clk, strV ea.typ, strV ea.cas, strV ea.nam, .int .i64 ea.v.v.k, .int .i64 ea.v.v.n, strV ea.v.v.t, .slice ea.v.sA ea.v.v.s.length ea.v.sC, .slice ea.aA ea.args.length ea.aC, .slice ea.bA ea.src.length ea.bC] ++ dc ea.eff)]] R [] [0, 1, 2] hA23 rfl
                    exact ⟨by rw [ref_6 h0 hnm h4 h5 h6 (by rw [← List.map_cons, ← hL, hfr]; rfl) h7]; rfl, hA35⟩
              · refine vc_trueB hF rfl h6 ?_
                apply wp_seq_k; intro K23 hK23
                refine wp_region_lit ?_
                refine vc_y hF rfl rfl (by decide) _ (y_assign rfl rfl) (fun a hF => ?_)
                refine vc_nil ?_
                refine hK23 _ _ ?_; clear  hK23 K23
                apply wp_ret
                simp only [Exit.then, Exit.inBlock]
                refine vc_ret1 hF Tryz.results73 rfl ?_
                have hA36 : Hp w0 (R) w7 := Hp.sel [[row b4 129 [.bool f.typed, .bool f.cased, .bool f.named, .bool f.valued, .bool f.args, .bool f.source]], [row b1 31 ([.int .i64 ea.op, .int .i64 ea.num, .int .i64 ea.clk, strV ea.typ, strV ea.cas, strV ea.nam, .int .i64 ea.v.v.k, .int .i64 ea.v.v.n, strV ea.v.v.t, .slice ea.v.sA ea.v.v.s.length ea.v.sC, .slice ea.aA ea.args.length ea.aC, .slice ea.bA ea.src.length ea.bC] ++ dc ea.eff)]] R [] [0, 1] hA8 rfl
                exact ⟨by rw [ref_7 h0 hnm h4 h5 h6]; rfl, hA36⟩
            · refine vc_trueB hF rfl h5 ?_
              apply wp_seq_k; intro K24 hK24
              refine wp_region_lit ?_
              refine vc_y hF rfl rfl (by decide) _ (y_assign rfl rfl) (fun a hF => ?_)
              refine vc_nil ?_
              refine hK24 _ _ ?_; clear  hK24 K24
              apply wp_ret
              simp only [Exit.then, Exit.inBlock]
              refine vc_ret1 hF Tryz.results73 rfl ?_
              have hA37 : Hp w0 (R) w7 := Hp.sel [[row b4 129 [.bool f.typed, .bool f.cased, .bool f.named, .bool f.valued, .bool f.args, .bool f.source]], [row b1 31 ([.int .i64 ea.op, .int .i64 ea.num, .int .i64 ea.clk, strV ea.typ, strV ea.cas, strV ea.nam, .int .i64 ea.v.v.k, .int .i64 ea.v.v.n, strV ea.v.v.t, .slice ea.v.sA ea.v.v.s.length ea.v.sC, .slice ea.aA ea.args.length ea.aC, .slice ea.bA ea.src.length ea.bC] ++ dc ea.eff)]] R [] [0, 1] hA8 rfl
              exact ⟨by rw [ref_132 h0 hnm h4 h5]; rfl, hA37⟩
          · refine vc_trueB hF rfl h4 ?_
            apply wp_seq_k; intro K25 hK25
            refine wp_region_lit ?_
            refine vc_y hF rfl rfl (by decide) _ (y_assign rfl rfl) (fun a hF => ?_)
            refine vc_nil ?_
            refine hK25 _ _ ?_; clear  hK25 K25
            apply wp_ret
            simp only [Exit.then, Exit.inBlock]
            refine vc_ret1 hF Tryz.results73 rfl ?_
            have hA38 : Hp w0 (R) w7 := Hp.sel [[row b4 129 [.bool f.typed, .bool f.cased, .bool f.named, .bool f.valued, .bool f.args, .bool f.source]], [row b1 31 ([.int .i64 ea.op, .int .i64 ea.num, .int .i64 ea.clk, strV ea.typ, strV ea.cas, strV ea.nam, .int .i64 ea.v.v.k, .int .i64 ea.v.v.n, strV ea.v.v.t, .slice ea.v.sA ea.v.v.s.length ea.v.sC, .slice ea.aA ea.args.length ea.aC, .slice ea.bA ea.src.length ea.bC] ++ dc ea.eff)]] R [] [0, 1] hA8 rfl
            exact ⟨by rw [ref_5 h0 hnm h4]; rfl, hA38⟩
        · refine vc_trueB hF rfl h3 ?_
          apply wp_seq_k; intro K26 hK26
          refine wp_region_lit ?_
          refine vc_y hF rfl rfl (by decide) _ (y_assign rfl rfl) (fun a hF => ?_)
          refine vc_nil ?_
          refine hK26 _ _ ?_; clear  hK26 K26
          apply wp_ret
          simp only [Exit.then, Exit.inBlock]
          refine vc_ret1 hF Tryz.results73 rfl ?_
          have hA39 : Hp w0 (R) w7 := Hp.sel [[row b4 129 [.bool f.typed, .bool f.cased, .bool f.named, .bool f.valued, .bool f.args, .bool f.source]], [row b1 31 ([.int .i64 ea.op, .int .i64 ea.num, .int .i64 ea.clk, strV ea.typ, strV ea.cas, strV ea.nam, .int .i64 ea.v.v.k, .int .i64 ea.v.v.n, strV ea.v.v.t, .slice ea.v.sA ea.v.v.s.length ea.v.sC, .slice ea.aA ea.args.length ea.aC, .slice ea.bA ea.src.length ea.bC] ++ dc ea.eff)]] R [] [0, 1] hA8 rfl
          exact ⟨by rw [ref_34 h0 (.inr (.inr (and_no h3)))]; rfl, hA39⟩
      · refine vc_trueB hF rfl h2 ?_
        apply wp_skip
        refine hK4 _ _ ?_; clear  hK4 K4
        refine vc_trueB hF rfl h2 ?_
        apply wp_seq_k; intro K27 hK27
        refine wp_region_lit ?_
        refine vc_y hF rfl rfl (by decide) _ (y_assign rfl rfl) (fun a hF => ?_)
        refine vc_nil ?_
        refine hK27 _ _ ?_; clear  hK27 K27
        apply wp_ret
        simp only [Exit.then, Exit.inBlock]
        refine vc_ret1 hF Tryz.results73 rfl ?_
        have hA40 : Hp w0 (R) w7 := Hp.sel [[row b4 129 [.bool f.typed, .bool f.cased, .bool f.named, .bool f.valued, .bool f.args, .bool f.source]], [row b1 31 ([.int .i64 ea.op, .int .i64 ea.num, .int .i64 ea.clk, strV ea.typ, strV ea.cas, strV ea.nam, .int .i64 ea.v.v.k, .int .i64 ea.v.v.n, strV ea.v.v.t, .slice ea.v.sA ea.v.v.s.length ea.v.sC, .slice ea.aA ea.args.length ea.aC, .slice ea.bA ea.src.length ea.bC] ++ dc ea.eff)]] R [] [0, 1] hA8 rfl
        exact ⟨by rw [ref_34 h0 (.inr (.inl (and_no h2)))]; rfl, hA40⟩
    · refine vc_trueB hF rfl h1 ?_
      apply wp_skip
      refine hK4 _ _ ?_; clear  hK4 K4
      refine vc_trueB hF rfl h1 ?_
      apply wp_seq_k; intro K28 hK28
      refine wp_region_lit ?_
      refine vc_y hF rfl rfl (by decide) _ (y_assign rfl rfl) (fun a hF => ?_)
      refine vc_nil ?_
      refine hK28 _ _ ?_; clear  hK28 K28
      apply wp_ret
      simp only [Exit.then, Exit.inBlock]
      refine vc_ret1 hF Tryz.results73 rfl ?_
      have hA41 : Hp w0 (R) w7 := Hp.sel [[row b4 129 [.bool f.typed, .bool f.cased, .bool f.named, .bool f.valued, .bool f.args, .bool f.source]], [row b1 31 ([.int .i64 ea.op, .int .i64 ea.num, .int .i64 ea.clk, strV ea.typ, strV ea.cas, strV ea.nam, .int .i64 ea.v.v.k, .int .i64 ea.v.v.n, strV ea.v.v.t, .slice ea.v.sA ea.v.v.s.length ea.v.sC, .slice ea.aA ea.args.length ea.aC, .slice ea.bA ea.src.length ea.bC] ++ dc ea.eff)]] R [] [0, 1] hA8 rfl
      exact ⟨by rw [ref_34 h0 (.inl (and_no h1))]; rfl, hA41⟩
  · refine vc_trueB hF rfl h0 ?_
    apply wp_seq_k; intro K29 hK29
    refine wp_region_lit ?_
    refine vc_y hF rfl rfl (by decide) _ (y_assign rfl rfl) (fun a hF => ?_)
    refine vc_nil ?_
    refine hK29 _ _ ?_; clear  hK29 K29
    apply wp_ret
    simp only [Exit.then, Exit.inBlock]
    refine vc_ret1 hF Tryz.results73 rfl ?_
    have hA42 : Hp w0 (R) w7 := Hp.sel [[row b4 129 [.bool f.typed, .bool f.cased, .bool f.named, .bool f.valued, .bool f.args, .bool f.source]], [row b1 31 ([.int .i64 ea.op, .int .i64 ea.num, .int .i64 ea.clk, strV ea.typ, strV ea.cas, strV ea.nam, .int .i64 ea.v.v.k, .int .i64 ea.v.v.n, strV ea.v.v.t, .slice ea.v.sA ea.v.v.s.length ea.v.sC, .slice ea.aA ea.args.length ea.aC, .slice ea.bA ea.src.length ea.bC] ++ dc ea.eff)]] R [] [0, 1] hA8 rfl
    exact ⟨by rw [ref_8 h0]; rfl, hA42⟩
end Go.Proofs.YtepbmdlgdaedpaaGreatDoor
