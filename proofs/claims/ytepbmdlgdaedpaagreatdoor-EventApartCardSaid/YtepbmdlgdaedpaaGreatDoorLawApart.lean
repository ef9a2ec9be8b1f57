/- EventApart walked: of two events' bytes neither begins the other's. -/
import Derived.Test.YtepbmdlgdaedpaaGreatDoorEvI
import Derived.Test.YtepbmdlgdaedpaaGreatDoorEv9
namespace Go.Proofs.YtepbmdlgdaedpaaGreatDoor
open Go.RowKit Go.Dk

theorem nr3_v11 : notRow Tryz.prog 3 = true := by kernel_rfl
theorem nr5_v11 : notRow Tryz.prog 5 = true := by kernel_rfl
theorem rw31_v11 : isRow Tryz.prog 31 44 = true := by kernel_rfl
theorem sz3_v11 : (Tryz.prog.info? 3).map (·.size) = some 1 := by kernel_rfl
theorem sz5_v11 : (Tryz.prog.info? 5).map (·.size) = some 1 := by kernel_rfl
theorem cl15_v11 : CallsTo Tryz.prog 15 := ⟨_, Tryz.func15, by kernel_rfl, by kernel_rfl⟩
theorem cl19_v11 : CallsTo Tryz.prog 19 := ⟨_, Tryz.func19, by kernel_rfl, by kernel_rfl⟩
theorem cl20_v11 : CallsTo Tryz.prog 20 := ⟨_, Tryz.func20, by kernel_rfl, by kernel_rfl⟩
theorem cl21_v11 : CallsTo Tryz.prog 21 := ⟨_, Tryz.func21, by kernel_rfl, by kernel_rfl⟩
theorem cl22_v11 : CallsTo Tryz.prog 22 := ⟨_, Tryz.func22, by kernel_rfl, by kernel_rfl⟩
theorem cl23_v11 : CallsTo Tryz.prog 23 := ⟨_, Tryz.func23, by kernel_rfl, by kernel_rfl⟩


def withinI (n lo hi : Int) : Int := lo + n.emod (hi - lo + 1)
theorem within_key (n m : Int) (hm : 0 < m) : -m < n.tmod m ∧ n.tmod m < m ∧ n.emod m = if n.tmod m < 0 then n.tmod m + m else n.tmod m := by
  have h1 := Int.tmod_lt_of_pos n hm
  have h2 := Int.emod_nonneg n (show m ≠ 0 by omega)
  have h3 := Int.emod_lt_of_pos n hm
  have h4 := Int.mul_tdiv_add_tmod n m
  have h5 := Int.mul_ediv_add_emod n m
  have h6 : -m < n.tmod m := by
    have := Int.tmod_lt_of_pos (-n) hm
    rw [Int.neg_tmod] at this
    omega
  refine ⟨h6, h1, ?_⟩
  have h7 : m * (n / m - n.tdiv m) = n.tmod m - n.emod m := by
    rw [Int.mul_sub]
    have : n.emod m = n % m := rfl
    rw [this]
    omega
  have h8 : n.emod m = n % m := rfl
  split
  · have h9 : n / m - n.tdiv m = -1 := by
      have a1 : m * (n / m - n.tdiv m) < 0 := by omega
      have a2 : -(2 * m) < m * (n / m - n.tdiv m) := by omega
      have a3 : n / m - n.tdiv m < 0 := by
        rcases Int.lt_or_le (n / m - n.tdiv m) 0 with h | h
        · exact h
        · have := Int.mul_nonneg (Int.le_of_lt hm) h; omega
      have a4 : -2 < n / m - n.tdiv m := by
        rcases Int.lt_or_le (-2) (n / m - n.tdiv m) with h | h
        · exact h
        · have := Int.mul_le_mul_of_nonneg_left h (Int.le_of_lt hm); omega
      omega
    rw [h9] at h7
    omega
  · have h9 : n / m - n.tdiv m = 0 := by
      have a1 : -m < m * (n / m - n.tdiv m) := by omega
      have a2 : m * (n / m - n.tdiv m) < m := by omega
      have a3 : n / m - n.tdiv m < 1 := by
        rcases Int.lt_or_le (n / m - n.tdiv m) 1 with h | h
        · exact h
        · have := Int.mul_le_mul_of_nonneg_left h (Int.le_of_lt hm); omega
      have a4 : -1 < n / m - n.tdiv m := by
        rcases Int.lt_or_le (-1) (n / m - n.tdiv m) with h | h
        · exact h
        · have := Int.mul_le_mul_of_nonneg_left h (Int.le_of_lt hm); omega
      omega
    rw [h9] at h7
    omega
theorem within_le (n lo hi : Int) (h : lo ≤ hi) : lo ≤ withinI n lo hi ∧ withinI n lo hi ≤ hi := by
  have h2 := Int.emod_nonneg n (show hi - lo + 1 ≠ 0 by omega)
  have h3 := Int.emod_lt_of_pos n (show 0 < hi - lo + 1 by omega)
  unfold withinI
  have h4 : n.emod (hi - lo + 1) = n % (hi - lo + 1) := rfl
  omega

set_option maxRecDepth 100000 in
set_option maxHeartbeats 8000000 in
theorem bk_within (w : World) (n lo hi : Int) (h0 : 0 ≤ lo) (h1 : lo ≤ hi) (h2 : hi < 2305843009213693952) : Calls Tryz.prog 19 #[.int .i64 n, .int .i64 lo, .int .i64 hi] w fun e w' => e = .returned (.int .i64 (withinI n lo hi)) ∧ w = w' := by
  obtain ⟨k1, k2, k3⟩ := within_key n (hi - lo + 1) (by omega)
  have k4 : withinI n lo hi = lo + n.emod (hi - lo + 1) := rfl
  generalize hq : n.tmod (hi - lo + 1) = q at *
  refine vc_enter Tryz.func19 rfl Tryz.ntmps19 (Nat.le_of_ble_eq_true rfl) (fun a hF => ?_)
  apply wp_seq_k; intro K1 hK1
  refine wp_region_lit ?_
  refine vc_y hF rfl rfl (by decide) _ (y_assign rfl rfl) (fun a hF => ?_)
  refine vc_nil ?_
  refine hK1 _ _ ?_; clear  hK1 K1
  apply wp_seq_k; intro K2 hK2
  refine wp_region_lit ?_
  refine vc_y hF rfl rfl (by decide) _ (y_move rfl rfl) (fun a hF => ?_)
  refine vc_y hF rfl rfl (by decide) _ (y_move rfl rfl) (fun a hF => ?_)
  refine vc_y hF rfl rfl (by decide) _ (y_move rfl rfl) (fun a hF => ?_)
  refine vc_y hF rfl rfl (by decide) _ (y_sub rfl rfl rfl (IntWalk.i64_in _ (by omega))) (fun a hF => ?_)
  refine vc_y hF rfl rfl (by decide) _ (y_add rfl rfl rfl (IntWalk.i64_in _ (by omega))) (fun a hF => ?_)
  refine vc_y hF rfl rfl (by decide) _ (y_rem rfl rfl rfl (by omega) hq) (fun a hF => ?_)
  refine vc_y hF rfl rfl (by decide) _ (y_assign rfl rfl) (fun a hF => ?_)
  refine vc_nil ?_
  refine hK2 _ _ ?_; clear  hK2 K2
  apply wp_seq_k; intro K3 hK3
  apply wp_seq_k; intro K4 hK4
  refine wp_region_lit ?_
  refine vc_y hF rfl rfl (by decide) _ (y_move rfl rfl) (fun a hF => ?_)
  refine vc_y hF rfl rfl (by decide) _ (y_cmp rfl rfl rfl rfl rfl) (fun a hF => ?_)
  refine vc_nil ?_
  refine hK4 _ _ ?_; clear  hK4 K4
  by_cases hneg : q < 0
  · refine vc_trueB hF rfl (lss_t hneg) ?_
    refine wp_region_lit ?_
    refine vc_y hF rfl rfl (by decide) _ (y_move rfl rfl) (fun a hF => ?_)
    refine vc_y hF rfl rfl (by decide) _ (y_move rfl rfl) (fun a hF => ?_)
    refine vc_y hF rfl rfl (by decide) _ (y_add rfl rfl rfl (IntWalk.i64_in _ (by omega))) (fun a hF => ?_)
    refine vc_y hF rfl rfl (by decide) _ (y_move rfl rfl) (fun a hF => ?_)
    refine vc_y hF rfl rfl (by decide) _ (y_sub rfl rfl rfl (IntWalk.i64_in _ (by omega))) (fun a hF => ?_)
    refine vc_y hF rfl rfl (by decide) _ (y_add rfl rfl rfl (IntWalk.i64_in _ (by omega))) (fun a hF => ?_)
    refine vc_y hF rfl rfl (by decide) _ (y_assign rfl rfl) (fun a hF => ?_)
    refine vc_nil ?_
    refine hK3 _ _ ?_; clear  hK3 K3
    apply wp_seq_k; intro K5 hK5
    refine wp_region_lit ?_
    refine vc_y hF rfl rfl (by decide) _ (y_move rfl rfl) (fun a hF => ?_)
    refine vc_y hF rfl rfl (by decide) _ (y_move rfl rfl) (fun a hF => ?_)
    refine vc_y hF rfl rfl (by decide) _ (y_add rfl rfl rfl (show IntKind.i64.wrap _ = withinI n lo hi by rw [IntWalk.i64_in _ (by omega), k4, k3]; first | rw [if_pos hneg]; omega | rw [if_neg hneg])) (fun a hF => ?_)
    refine vc_y hF rfl rfl (by decide) _ (y_assign rfl rfl) (fun a hF => ?_)
    refine vc_nil ?_
    refine hK5 _ _ ?_; clear  hK5 K5
    apply wp_ret
    refine vc_ret1 hF Tryz.results19 rfl ?_
    exact ⟨rfl, rfl⟩
  · refine vc_falseB hF rfl (lss_f (by omega)) ?_
    apply wp_skip
    refine hK3 _ _ ?_; clear  hK3 K3
    apply wp_seq_k; intro K6 hK6
    refine wp_region_lit ?_
    refine vc_y hF rfl rfl (by decide) _ (y_move rfl rfl) (fun a hF => ?_)
    refine vc_y hF rfl rfl (by decide) _ (y_move rfl rfl) (fun a hF => ?_)
    refine vc_y hF rfl rfl (by decide) _ (y_add rfl rfl rfl (show IntKind.i64.wrap _ = withinI n lo hi by rw [IntWalk.i64_in _ (by omega), k4, k3]; first | rw [if_pos hneg]; omega | rw [if_neg hneg])) (fun a hF => ?_)
    refine vc_y hF rfl rfl (by decide) _ (y_assign rfl rfl) (fun a hF => ?_)
    refine vc_nil ?_
    refine hK6 _ _ ?_; clear  hK6 K6
    apply wp_ret
    refine vc_ret1 hF Tryz.results19 rfl ?_
    exact ⟨rfl, rfl⟩
theorem y_neBool {P : Program} {w : World} {n : Nat} {F : List (Nat × Value)} {o : Oper} {x y : Operand} {t t' : TypeId} {b c e : Bool} (ho : o.op = .binOp .neq t x y t') (hu : P.underlying t = some .bool) (hx : ev F x = some (.bool b)) (hy : ev F y = some (.bool c)) (he : (!(b == c)) = e) : Yd P n F o w (.bool e) := fun a hF => by
  subst he
  unfold execOp
  have h0 : (eqGuard .neq t x y (.bool b) (.bool c)).run P w = .ok () w := rfl
  simp only [ho, hF.ev hx, hF.ev hy, Sem.run_bind, h0, Result.andThen_ok, run_neq_bool w t b c hu, Sem.run_pure]
theorem enc_pos {e : Ev} (h : encE e = 0) : 0 < (encB e).length := by
  obtain ⟨R, hB⟩ := Ev.rt h
  rw [hB]
  unfold Ev.bytes
  simp only [List.length_append, be_length]
  omega
theorem enc_op0 {e : Ev} (h : encE e = 0) : (1 ≤ e.op ∧ e.op ≤ 5) ∧ (dc (encB e))[0]? = some (.int .u8 e.op) := by
  obtain ⟨R, hB⟩ := Ev.rt h
  have hop := R.op
  refine ⟨hop, ?_⟩
  rw [hB]
  unfold Ev.bytes
  simp only [List.append_assoc]
  rw [dc_append]
  have e1 : be 1 e.op.toNat = [UInt8.ofNat e.op.toNat] := by
    show [UInt8.ofNat (e.op.toNat / 256 ^ 0)] = _
    rw [Nat.pow_zero, Nat.div_one]
  rw [e1]
  show some (Value.int .u8 ((UInt8.ofNat e.op.toNat).toNat : Int)) = _
  rw [UInt8.toNat_ofNat']
  have e2 : ((e.op.toNat % 2 ^ 8 : Nat) : Int) = e.op := by have := hop.1; have := hop.2; omega
  rw [e2]
theorem lss_le {m n c : Nat} (h : cmpB .lss (m : Int) (n : Int) = true) (hc : n ≤ c) : m ≤ c := by
  have : (m : Int) < (n : Int) := of_decide_eq_true h
  omega
theorem lss_tk {m : Nat} {l : List UInt8} (h : cmpB .lss (m : Int) (l.length : Int) = true) : (l.take m).length = m := by
  have : (m : Int) < (l.length : Int) := of_decide_eq_true h
  rw [List.length_take]; omega
theorem no_pre {a b : Ev} (ha : a.In) (hb : b.In) (h0 : encE a = 0) (h1 : encE b = 0) : (cmpB .lss ((encB a).length : Int) ((encB b).length : Int) && decide (encB a = (encB b).take (encB a).length)) = false := by
  rw [Bool.and_eq_false_iff]
  by_cases h : encB a = (encB b).take (encB a).length
  · left
    have h2 : encB a ++ (encB b).drop (encB a).length = encB b := by
      conv => lhs; lhs; rw [h]
      exact List.take_append_drop _ _
    have h3 := (enc_prefix ha hb h0 h1 h2).2
    have h4 := congrArg List.length h3
    rw [List.length_drop] at h4
    simp at h4
    exact decide_eq_false (by omega)
  · exact .inr (decide_eq_false h)
theorem apart_no {ea eb : EA} (ha : ea.ev.In) (hb : eb.ev.In) (h0 : encE ea.ev = 0) (h1 : encE eb.ev = 0) : (((cmpB .lss ((encB ea.ev).length) ((encB eb.ev).length)) && ((decide (encB ea.ev = (encB eb.ev).take (encB ea.ev).length)))) || ((cmpB .lss ((encB eb.ev).length) ((encB ea.ev).length)) && ((decide (encB eb.ev = (encB ea.ev).take (encB eb.ev).length))))) = false := by
  have e1 := no_pre ha hb h0 h1
  have e2 := no_pre hb ha h1 h0
  rw [e1, e2]
  rfl

set_option maxRecDepth 100000 in
set_option maxHeartbeats 8000000 in
theorem law_apart (w0 : World) (ea eb : EA) (at_ : Int) (c : UInt8) (hT : TabS w0) (hV : ea.Ok w0 []) (hW : eb.Ok w0 []) : Calls Tryz.prog 6 #[.agg ea.cells.toArray, .agg eb.cells.toArray, .int .i64 at_, .int .u8 (c.toNat : Int)] w0 fun e W' => e = .returned (.bool true) ∧ At w0 [] W' := by
  have hA : Hp w0 [] w0 := Hp.start w0
  have he32 : ea.eff.length = 32 := hV.i.2.2.2.2.2
  have hb32 : eb.eff.length = 32 := hW.i.2.2.2.2.2
  refine vc_enter Tryz.func6 rfl Tryz.ntmps6 (Nat.le_of_ble_eq_true rfl) (fun a hF => ?_)
  apply wp_seq_k; intro K1 hK1
  refine wp_region_lit ?_
  refine vc_op rfl (fun K hK => hs_box (cs := ea.cells) hF rfl (by decide) rfl hA rfl (fun b1 w2 a hb1 hF hA3 => hK _ _ ?_))
  clear hK K
  replace hA3 : Hp w0 ([row b1 31 ([.int .i64 ea.op, .int .i64 ea.num, .int .i64 ea.clk, strV ea.typ, strV ea.cas, strV ea.nam, .int .i64 ea.v.v.k, .int .i64 ea.v.v.n, strV ea.v.v.t, .slice ea.v.sA ea.v.v.s.length ea.v.sC, .slice ea.aA ea.args.length ea.aC, .slice ea.bA ea.src.length ea.bC] ++ dc ea.eff)] :: []) w2 := hA3
  refine vc_op rfl (fun K hK => hs_box (cs := eb.cells) hF rfl (by decide) rfl hA3 rfl (fun b4 w5 a hb4 hF hA6 => hK _ _ ?_))
  clear hK K
  replace hA6 : Hp w0 ([row b4 31 ([.int .i64 eb.op, .int .i64 eb.num, .int .i64 eb.clk, strV eb.typ, strV eb.cas, strV eb.nam, .int .i64 eb.v.v.k, .int .i64 eb.v.v.n, strV eb.v.v.t, .slice eb.v.sA eb.v.v.s.length eb.v.sC, .slice eb.aA eb.args.length eb.aC, .slice eb.bA eb.src.length eb.bC] ++ dc eb.eff)] :: [row b1 31 ([.int .i64 ea.op, .int .i64 ea.num, .int .i64 ea.clk, strV ea.typ, strV ea.cas, strV ea.nam, .int .i64 ea.v.v.k, .int .i64 ea.v.v.n, strV ea.v.v.t, .slice ea.v.sA ea.v.v.s.length ea.v.sC, .slice ea.aA ea.args.length ea.aC, .slice ea.bA ea.src.length ea.bC] ++ dc ea.eff)] :: []) w5 := hA6
  refine vc_y hF rfl rfl (by decide) _ (y_assign rfl rfl) (fun a hF => ?_)
  refine vc_nil ?_
  refine hK1 _ _ ?_; clear  hK1 K1
  apply wp_seq_k; intro K2 hK2
  refine wp_region_lit ?_
  refine vc_y hF rfl rfl (by decide) _ (y_ldRow (new := [.int .i64 ea.op, .int .i64 ea.num, .int .i64 ea.clk, strV ea.typ, strV ea.cas, strV ea.nam, .int .i64 ea.v.v.k, .int .i64 ea.v.v.n, strV ea.v.v.t, .slice ea.v.sA ea.v.v.s.length ea.v.sC, .slice ea.aA ea.args.length ea.aC, .slice ea.bA ea.src.length ea.bC] ++ dc ea.eff) rfl hA6.q rfl 1 rfl rw31_v11 (by rw [List.length_append, dc_length, he32]; exact Nat.le_of_ble_eq_true rfl) (by rw [List.drop_zero]; exact List.take_of_length_le (by rw [List.length_append, dc_length, he32]; exact Nat.le_of_ble_eq_true rfl))) (fun a hF => ?_)
  refine vc_op rfl (fun K hK => ws_call hF rfl (by decide) cl20_v11 rfl rfl ?_)
  with_reducible refine (ev_encode ea _ hT hV (List.nil_subset _) hA6 ).mono ?_
  rintro e' w7 ⟨vE1, ZE1, rfl, hZE1, hA8⟩
  refine ⟨_, rfl, fun a hF => hK _ _ ?_⟩
  clear hK K
  replace hA8 : Hp w0 (ZE1 :: [row b4 31 ([.int .i64 eb.op, .int .i64 eb.num, .int .i64 eb.clk, strV eb.typ, strV eb.cas, strV eb.nam, .int .i64 eb.v.v.k, .int .i64 eb.v.v.n, strV eb.v.v.t, .slice eb.v.sA eb.v.v.s.length eb.v.sC, .slice eb.aA eb.args.length eb.aC, .slice eb.bA eb.src.length eb.bC] ++ dc eb.eff)] :: [row b1 31 ([.int .i64 ea.op, .int .i64 ea.num, .int .i64 ea.clk, strV ea.typ, strV ea.cas, strV ea.nam, .int .i64 ea.v.v.k, .int .i64 ea.v.v.n, strV ea.v.v.t, .slice ea.v.sA ea.v.v.s.length ea.v.sC, .slice ea.aA ea.args.length ea.aC, .slice ea.bA ea.src.length ea.bC] ++ dc ea.eff)] :: []) w7 := hA8
  obtain ⟨_, AE1, cE1, rfl, hcE1, hRE1⟩ := hZE1.rd (w0 := w0) (R := [ZE1]) (List.mem_cons_self ..)
  obtain ⟨_, _, _, hle1, hlf1⟩ := hZE1.cap
  refine vc_y hF rfl rfl (by decide) _ (y_move rfl rfl) (fun a hF => ?_)
  refine vc_y hF rfl rfl (by decide) _ (y_extract (v := .slice AE1 ((encB ea.ev).length) cE1) rfl rfl rfl) (fun a hF => ?_)
  refine vc_y hF rfl rfl (by decide) _ (y_extract (v := .int .i64 ((encE ea.ev : Nat) : Int)) rfl rfl rfl) (fun a hF => ?_)
  refine vc_y hF rfl rfl (by decide) _ (y_assign rfl rfl) (fun a hF => ?_)
  refine vc_y hF rfl rfl (by decide) _ (y_assign rfl rfl) (fun a hF => ?_)
  refine vc_nil ?_
  refine hK2 _ _ ?_; clear  hK2 K2
  apply wp_seq_k; intro K3 hK3
  refine wp_region_lit ?_
  refine vc_y hF rfl rfl (by decide) _ (y_ldRow (new := [.int .i64 eb.op, .int .i64 eb.num, .int .i64 eb.clk, strV eb.typ, strV eb.cas, strV eb.nam, .int .i64 eb.v.v.k, .int .i64 eb.v.v.n, strV eb.v.v.t, .slice eb.v.sA eb.v.v.s.length eb.v.sC, .slice eb.aA eb.args.length eb.aC, .slice eb.bA eb.src.length eb.bC] ++ dc eb.eff) rfl hA8.q rfl 1 rfl rw31_v11 (by rw [List.length_append, dc_length, hb32]; exact Nat.le_of_ble_eq_true rfl) (by rw [List.drop_zero]; exact List.take_of_length_le (by rw [List.length_append, dc_length, hb32]; exact Nat.le_of_ble_eq_true rfl))) (fun a hF => ?_)
  refine vc_op rfl (fun K hK => ws_call hF rfl (by decide) cl20_v11 rfl rfl ?_)
  with_reducible refine (ev_encode eb _ hT hW (List.nil_subset _) hA8 ).mono ?_
  rintro e' w9 ⟨vE2, ZE2, rfl, hZE2, hA10⟩
  refine ⟨_, rfl, fun a hF => hK _ _ ?_⟩
  clear hK K
  replace hA10 : Hp w0 (ZE2 :: ZE1 :: [row b4 31 ([.int .i64 eb.op, .int .i64 eb.num, .int .i64 eb.clk, strV eb.typ, strV eb.cas, strV eb.nam, .int .i64 eb.v.v.k, .int .i64 eb.v.v.n, strV eb.v.v.t, .slice eb.v.sA eb.v.v.s.length eb.v.sC, .slice eb.aA eb.args.length eb.aC, .slice eb.bA eb.src.length eb.bC] ++ dc eb.eff)] :: [row b1 31 ([.int .i64 ea.op, .int .i64 ea.num, .int .i64 ea.clk, strV ea.typ, strV ea.cas, strV ea.nam, .int .i64 ea.v.v.k, .int .i64 ea.v.v.n, strV ea.v.v.t, .slice ea.v.sA ea.v.v.s.length ea.v.sC, .slice ea.aA ea.args.length ea.aC, .slice ea.bA ea.src.length ea.bC] ++ dc ea.eff)] :: []) w9 := hA10
  obtain ⟨_, AE2, cE2, rfl, hcE2, hRE2⟩ := hZE2.rd (w0 := w0) (R := [ZE2]) (List.mem_cons_self ..)
  obtain ⟨_, _, _, hle2, hlf2⟩ := hZE2.cap
  refine vc_y hF rfl rfl (by decide) _ (y_move rfl rfl) (fun a hF => ?_)
  refine vc_y hF rfl rfl (by decide) _ (y_extract (v := .slice AE2 ((encB eb.ev).length) cE2) rfl rfl rfl) (fun a hF => ?_)
  refine vc_y hF rfl rfl (by decide) _ (y_extract (v := .int .i64 ((encE eb.ev : Nat) : Int)) rfl rfl rfl) (fun a hF => ?_)
  refine vc_y hF rfl rfl (by decide) _ (y_assign rfl rfl) (fun a hF => ?_)
  refine vc_y hF rfl rfl (by decide) _ (y_assign rfl rfl) (fun a hF => ?_)
  refine vc_nil ?_
  refine hK3 _ _ ?_; clear  hK3 K3
  apply wp_seq_k; intro K4 hK4
  apply wp_seq_k; intro K5 hK5
  refine wp_region_lit ?_
  refine vc_y hF rfl rfl (by decide) _ (y_move rfl rfl) (fun a hF => ?_)
  refine vc_y hF rfl rfl (by decide) _ (y_cmp rfl rfl rfl rfl rfl) (fun a hF => ?_)
  refine vc_nil ?_
  refine hK5 _ _ ?_; clear  hK5 K5
  by_cases h0 : encE ea.ev = 0
  · have hlb := enc_len h0
    have hpos := enc_pos h0
    obtain ⟨hop, hx0⟩ := enc_op0 h0
    obtain ⟨bx, ox, hAx1, hcx1⟩ := hRE1.ne (i := 0) (by rw [dc_length]; exact enc_pos h0)
    have hFn := hF
    subst hAx1
    have hF := hFn
    clear hFn
    refine vc_falseB hF rfl (by rw [h0] <;> rfl) ?_
    apply wp_skip
    refine hK4 _ _ ?_; clear  hK4 K4
    apply wp_seq_k; intro K6 hK6
    apply wp_seq_k; intro K7 hK7
    refine wp_region_lit ?_
    refine vc_y hF rfl rfl (by decide) _ (y_move rfl rfl) (fun a hF => ?_)
    refine vc_y hF rfl rfl (by decide) _ (y_lenSl rfl Tryz.underlying27 rfl rfl) (fun a hF => ?_)
    refine vc_y hF rfl rfl (by decide) _ (y_cmp rfl rfl rfl rfl (eql_f (by omega))) (fun a hF => ?_)
    refine vc_nil ?_
    refine hK7 _ _ ?_; clear  hK7 K7
    refine vc_falseB hF rfl rfl ?_
    obtain ⟨k, hk⟩ : ∃ k : Nat, withinI at_ 0 (((encB ea.ev).length : Int) - 1) = (k : Int) := ⟨(withinI at_ 0 (((encB ea.ev).length : Int) - 1)).toNat, by have := within_le at_ 0 (((encB ea.ev).length : Int) - 1) (by omega); omega⟩
    have hkl := within_le at_ 0 (((encB ea.ev).length : Int) - 1) (by omega)
    rw [hk] at hkl
    have htl : ((encB ea.ev).take k).length = k := by rw [List.length_take]; omega
    apply wp_skip
    refine hK6 _ _ ?_; clear  hK6 K6
    apply wp_seq_k; intro K8 hK8
    refine wp_region_lit ?_
    refine vc_y hF rfl rfl (by decide) _ (y_move rfl rfl) (fun a hF => ?_)
    refine vc_y hF rfl rfl (by decide) _ (y_move rfl rfl) (fun a hF => ?_)
    refine vc_y hF rfl rfl (by decide) _ (y_move rfl rfl) (fun a hF => ?_)
    refine vc_y hF rfl rfl (by decide) _ (y_lenSl rfl Tryz.underlying27 rfl rfl) (fun a hF => ?_)
    refine vc_y hF rfl rfl (by decide) _ (y_sub rfl rfl rfl (IntWalk.i64_in _ (by omega))) (fun a hF => ?_)
    refine vc_op rfl (fun K hK => ws_call hF rfl (by decide) cl19_v11 rfl rfl ?_)
    with_reducible refine (bk_within w9 at_ 0 (((encB ea.ev).length : Int) - 1) (by decide) (by omega) (by omega) ).mono ?_
    rintro e' w13 ⟨rfl, rfl⟩
    refine ⟨_, rfl, fun a hF => hK _ _ ?_⟩
    clear hK K
    rw [hk] at hF
    refine vc_y hF rfl rfl (by decide) _ (y_slice rfl Tryz.underlying27 ow_size5 rfl (.none 0) (.some rfl rfl) (Nat.zero_le _) (by omega) (show Value.slice (sub (some ⟨bx, ox, none⟩) 0 cE1 1) (k - 0) (cE1 - 0) = .slice (some ⟨bx, ox, none⟩) ((encB ea.ev).take k).length cE1 by rw [sub_zero, htl]; rfl)) (fun a hF => ?_)
    refine vc_op rfl (fun K hK => ws_call hF rfl (by decide) cl21_v11 rfl rfl ?_)
    with_reducible refine (ev_decode (some ⟨bx, ox, none⟩) ((encB ea.ev).take k) cE1 _ hT (Rd.take hRE1 k) (List.cons_subset.2 ⟨(List.mem_cons_of_mem _ ((List.mem_cons_self ..))), List.nil_subset _⟩) (by omega) hA10 ).mono ?_
    rintro e' w14 ⟨ex, ZD3, rfl, hev3, hOk3, hA15⟩
    refine ⟨_, rfl, fun a hF => hK _ _ ?_⟩
    clear hK K
    replace hA15 : Hp w0 (ZD3 :: ZE2 :: ZE1 :: [row b4 31 ([.int .i64 eb.op, .int .i64 eb.num, .int .i64 eb.clk, strV eb.typ, strV eb.cas, strV eb.nam, .int .i64 eb.v.v.k, .int .i64 eb.v.v.n, strV eb.v.v.t, .slice eb.v.sA eb.v.v.s.length eb.v.sC, .slice eb.aA eb.args.length eb.aC, .slice eb.bA eb.src.length eb.bC] ++ dc eb.eff)] :: [row b1 31 ([.int .i64 ea.op, .int .i64 ea.num, .int .i64 ea.clk, strV ea.typ, strV ea.cas, strV ea.nam, .int .i64 ea.v.v.k, .int .i64 ea.v.v.n, strV ea.v.v.t, .slice ea.v.sA ea.v.v.s.length ea.v.sC, .slice ea.aA ea.args.length ea.aC, .slice ea.bA ea.src.length ea.bC] ++ dc ea.eff)] :: []) w14 := hA15
    have hx32 : ex.eff.length = 32 := hOk3.i.2.2.2.2.2
    refine vc_y hF rfl rfl (by decide) _ (y_move rfl rfl) (fun a hF => ?_)
    refine vc_y hF rfl rfl (by decide) _ (y_extract (v := .agg (ex.cells).toArray) rfl rfl rfl) (fun a hF => ?_)
    refine vc_y hF rfl rfl (by decide) _ (y_extract (v := .int .i64 ((decE ((encB ea.ev).take k) : Nat) : Int)) rfl rfl rfl) (fun a hF => ?_)
    refine vc_op rfl (fun K hK => hs_alloc hF rfl (by decide) rfl hA15 ev_zE (fun b16 w17 a hb16 hF hA18 => hK _ _ ?_))
    clear hK K
    replace hA18 : Hp w0 ([row b16 31 noEA.cells] :: ZD3 :: ZE2 :: ZE1 :: [row b4 31 ([.int .i64 eb.op, .int .i64 eb.num, .int .i64 eb.clk, strV eb.typ, strV eb.cas, strV eb.nam, .int .i64 eb.v.v.k, .int .i64 eb.v.v.n, strV eb.v.v.t, .slice eb.v.sA eb.v.v.s.length eb.v.sC, .slice eb.aA eb.args.length eb.aC, .slice eb.bA eb.src.length eb.bC] ++ dc eb.eff)] :: [row b1 31 ([.int .i64 ea.op, .int .i64 ea.num, .int .i64 ea.clk, strV ea.typ, strV ea.cas, strV ea.nam, .int .i64 ea.v.v.k, .int .i64 ea.v.v.n, strV ea.v.v.t, .slice ea.v.sA ea.v.v.s.length ea.v.sC, .slice ea.aA ea.args.length ea.aC, .slice ea.bA ea.src.length ea.bC] ++ dc ea.eff)] :: []) w17 := hA18
    refine vc_op rfl (fun K hK => hs_storeAll (new := ex.cells) hF rfl rfl hA18 rfl rfl 0 rfl (by rw [List.length_append, dc_length, hx32]; rfl) (fun v hv => evc_one (e := ex) hv) ev_szE (fun w19 hA20 => hK _ _ ?_))
    clear hK K
    replace hA20 : Hp w0 ([row b16 31 ([.int .i64 ex.op, .int .i64 ex.num, .int .i64 ex.clk, strV ex.typ, strV ex.cas, strV ex.nam, .int .i64 ex.v.v.k, .int .i64 ex.v.v.n, strV ex.v.v.t, .slice ex.v.sA ex.v.v.s.length ex.v.sC, .slice ex.aA ex.args.length ex.aC, .slice ex.bA ex.src.length ex.bC] ++ dc ex.eff)] :: ZD3 :: ZE2 :: ZE1 :: [row b4 31 ([.int .i64 eb.op, .int .i64 eb.num, .int .i64 eb.clk, strV eb.typ, strV eb.cas, strV eb.nam, .int .i64 eb.v.v.k, .int .i64 eb.v.v.n, strV eb.v.v.t, .slice eb.v.sA eb.v.v.s.length eb.v.sC, .slice eb.aA eb.args.length eb.aC, .slice eb.bA eb.src.length eb.bC] ++ dc eb.eff)] :: [row b1 31 ([.int .i64 ea.op, .int .i64 ea.num, .int .i64 ea.clk, strV ea.typ, strV ea.cas, strV ea.nam, .int .i64 ea.v.v.k, .int .i64 ea.v.v.n, strV ea.v.v.t, .slice ea.v.sA ea.v.v.s.length ea.v.sC, .slice ea.aA ea.args.length ea.aC, .slice ea.bA ea.src.length ea.bC] ++ dc ea.eff)] :: []) w19 := hA20
    refine vc_y hF rfl rfl (by decide) _ (y_assign rfl rfl) (fun a hF => ?_)
    refine vc_nil ?_
    refine hK8 _ _ ?_; clear  hK8 K8
    apply wp_seq_k; intro K9 hK9
    refine wp_region_lit ?_
    refine vc_y hF rfl rfl (by decide) _ (y_move rfl rfl) (fun a hF => ?_)
    have hA21 : Hp w0 (([] : Seg) :: [row b16 31 ([.int .i64 ex.op, .int .i64 ex.num, .int .i64 ex.clk, strV ex.typ, strV ex.cas, strV ex.nam, .int .i64 ex.v.v.k, .int .i64 ex.v.v.n, strV ex.v.v.t, .slice ex.v.sA ex.v.v.s.length ex.v.sC, .slice ex.aA ex.args.length ex.aC, .slice ex.bA ex.src.length ex.bC] ++ dc ex.eff)] :: ZD3 :: ZE2 :: ZE1 :: [row b4 31 ([.int .i64 eb.op, .int .i64 eb.num, .int .i64 eb.clk, strV eb.typ, strV eb.cas, strV eb.nam, .int .i64 eb.v.v.k, .int .i64 eb.v.v.n, strV eb.v.v.t, .slice eb.v.sA eb.v.v.s.length eb.v.sC, .slice eb.aA eb.args.length eb.aC, .slice eb.bA eb.src.length eb.bC] ++ dc eb.eff)] :: [row b1 31 ([.int .i64 ea.op, .int .i64 ea.num, .int .i64 ea.clk, strV ea.typ, strV ea.cas, strV ea.nam, .int .i64 ea.v.v.k, .int .i64 ea.v.v.n, strV ea.v.v.t, .slice ea.v.sA ea.v.v.s.length ea.v.sC, .slice ea.aA ea.args.length ea.aC, .slice ea.bA ea.src.length ea.bC] ++ dc ea.eff)] :: []) w19 := Hp.nil hA20
    refine vc_op rfl (fun K hK => hs_append hF rfl (by decide) rfl hA21 0 rfl (Buf.nil 5 1) Tryz.underlying27 ow_elem5 rfl rfl (Rc.src hRE1 (Hq.sub hA21.q (List.cons_subset.2 ⟨(List.mem_cons_of_mem _ (List.mem_cons_of_mem _ (List.mem_cons_of_mem _ (List.mem_cons_of_mem _ ((List.mem_cons_self ..)))))), List.nil_subset _⟩)) Tryz.underlying27) (by omega) (by decide) (fun v2 X2 w22 a hO2 hF hA23 => hK _ _ ?_))
    clear hK K
    replace hA23 : Hp w0 (X2 :: [row b16 31 ([.int .i64 ex.op, .int .i64 ex.num, .int .i64 ex.clk, strV ex.typ, strV ex.cas, strV ex.nam, .int .i64 ex.v.v.k, .int .i64 ex.v.v.n, strV ex.v.v.t, .slice ex.v.sA ex.v.v.s.length ex.v.sC, .slice ex.aA ex.args.length ex.aC, .slice ex.bA ex.src.length ex.bC] ++ dc ex.eff)] :: ZD3 :: ZE2 :: ZE1 :: [row b4 31 ([.int .i64 eb.op, .int .i64 eb.num, .int .i64 eb.clk, strV eb.typ, strV eb.cas, strV eb.nam, .int .i64 eb.v.v.k, .int .i64 eb.v.v.n, strV eb.v.v.t, .slice eb.v.sA eb.v.v.s.length eb.v.sC, .slice eb.aA eb.args.length eb.aC, .slice eb.bA eb.src.length eb.bC] ++ dc eb.eff)] :: [row b1 31 ([.int .i64 ea.op, .int .i64 ea.num, .int .i64 ea.clk, strV ea.typ, strV ea.cas, strV ea.nam, .int .i64 ea.v.v.k, .int .i64 ea.v.v.n, strV ea.v.v.t, .slice ea.v.sA ea.v.v.s.length ea.v.sC, .slice ea.aA ea.args.length ea.aC, .slice ea.bA ea.src.length ea.bC] ++ dc ea.eff)] :: []) w22 := hA23
    rw [List.nil_append, Nat.zero_add] at hO2
    refine vc_y hF rfl rfl (by decide) _ (y_move rfl rfl) (fun a hF => ?_)
    refine vc_op rfl (fun K hK => hs_byte1 hF rfl (by decide) rfl hA23 c rfl ow_build (fun b24 w25 a hb24 hF hA26 => hK _ _ ?_))
    clear hK K
    replace hA26 : Hp w0 ([row b24 5 (dc [c])] :: X2 :: [row b16 31 ([.int .i64 ex.op, .int .i64 ex.num, .int .i64 ex.clk, strV ex.typ, strV ex.cas, strV ex.nam, .int .i64 ex.v.v.k, .int .i64 ex.v.v.n, strV ex.v.v.t, .slice ex.v.sA ex.v.v.s.length ex.v.sC, .slice ex.aA ex.args.length ex.aC, .slice ex.bA ex.src.length ex.bC] ++ dc ex.eff)] :: ZD3 :: ZE2 :: ZE1 :: [row b4 31 ([.int .i64 eb.op, .int .i64 eb.num, .int .i64 eb.clk, strV eb.typ, strV eb.cas, strV eb.nam, .int .i64 eb.v.v.k, .int .i64 eb.v.v.n, strV eb.v.v.t, .slice eb.v.sA eb.v.v.s.length eb.v.sC, .slice eb.aA eb.args.length eb.aC, .slice eb.bA eb.src.length eb.bC] ++ dc eb.eff)] :: [row b1 31 ([.int .i64 ea.op, .int .i64 ea.num, .int .i64 ea.clk, strV ea.typ, strV ea.cas, strV ea.nam, .int .i64 ea.v.v.k, .int .i64 ea.v.v.n, strV ea.v.v.t, .slice ea.v.sA ea.v.v.s.length ea.v.sC, .slice ea.aA ea.args.length ea.aC, .slice ea.bA ea.src.length ea.bC] ++ dc ea.eff)] :: []) w25 := hA26
    refine vc_op rfl (fun K hK => hs_append hF rfl (by decide) rfl hA26 1 rfl hO2 Tryz.underlying27 ow_elem5 rfl rfl (Rc.src (l := [c]) (Rc.ofRow (R := [row b24 5 (dc [c])] :: X2 :: [row b16 31 ([.int .i64 ex.op, .int .i64 ex.num, .int .i64 ex.clk, strV ex.typ, strV ex.cas, strV ex.nam, .int .i64 ex.v.v.k, .int .i64 ex.v.v.n, strV ex.v.v.t, .slice ex.v.sA ex.v.v.s.length ex.v.sC, .slice ex.aA ex.args.length ex.aC, .slice ex.bA ex.src.length ex.bC] ++ dc ex.eff)] :: ZD3 :: ZE2 :: ZE1 :: [row b4 31 ([.int .i64 eb.op, .int .i64 eb.num, .int .i64 eb.clk, strV eb.typ, strV eb.cas, strV eb.nam, .int .i64 eb.v.v.k, .int .i64 eb.v.v.n, strV eb.v.v.t, .slice eb.v.sA eb.v.v.s.length eb.v.sC, .slice eb.aA eb.args.length eb.aC, .slice eb.bA eb.src.length eb.bC] ++ dc eb.eff)] :: [row b1 31 ([.int .i64 ea.op, .int .i64 ea.num, .int .i64 ea.clk, strV ea.typ, strV ea.cas, strV ea.nam, .int .i64 ea.v.v.k, .int .i64 ea.v.v.n, strV ea.v.v.t, .slice ea.v.sA ea.v.v.s.length ea.v.sC, .slice ea.aA ea.args.length ea.aC, .slice ea.bA ea.src.length ea.bC] ++ dc ea.eff)] :: []) (i := 0) (off := 0) rfl rfl) hA26.q Tryz.underlying27) (by rw [show [c].length = 1 from rfl]; omega) (by decide) (fun v3 X3 w27 a hO3 hF hA28 => hK _ _ ?_))
    clear hK K
    replace hA28 : Hp w0 ([row b24 5 (dc [c])] :: X3 :: [row b16 31 ([.int .i64 ex.op, .int .i64 ex.num, .int .i64 ex.clk, strV ex.typ, strV ex.cas, strV ex.nam, .int .i64 ex.v.v.k, .int .i64 ex.v.v.n, strV ex.v.v.t, .slice ex.v.sA ex.v.v.s.length ex.v.sC, .slice ex.aA ex.args.length ex.aC, .slice ex.bA ex.src.length ex.bC] ++ dc ex.eff)] :: ZD3 :: ZE2 :: ZE1 :: [row b4 31 ([.int .i64 eb.op, .int .i64 eb.num, .int .i64 eb.clk, strV eb.typ, strV eb.cas, strV eb.nam, .int .i64 eb.v.v.k, .int .i64 eb.v.v.n, strV eb.v.v.t, .slice eb.v.sA eb.v.v.s.length eb.v.sC, .slice eb.aA eb.args.length eb.aC, .slice eb.bA eb.src.length eb.bC] ++ dc eb.eff)] :: [row b1 31 ([.int .i64 ea.op, .int .i64 ea.num, .int .i64 ea.clk, strV ea.typ, strV ea.cas, strV ea.nam, .int .i64 ea.v.v.k, .int .i64 ea.v.v.n, strV ea.v.v.t, .slice ea.v.sA ea.v.v.s.length ea.v.sC, .slice ea.aA ea.args.length ea.aC, .slice ea.bA ea.src.length ea.bC] ++ dc ea.eff)] :: []) w27 := hA28
    replace hO3 : Buf 5 1 X3 v3 (encB ea.ev ++ [c]).length (dc (encB ea.ev ++ [c])) := by rw [dc_append, List.length_append]; exact hO3
    obtain ⟨_, A4, c4, rfl, hc4, hR4⟩ := hO3.rd (w0 := w0) (R := [X3]) (List.mem_cons_self ..)
    refine vc_op rfl (fun K hK => ws_call hF rfl (by decide) cl21_v11 rfl rfl ?_)
    with_reducible refine (ev_decode A4 (encB ea.ev ++ [c]) c4 _ hT hR4 (List.cons_subset.2 ⟨(List.mem_cons_of_mem _ ((List.mem_cons_self ..))), List.nil_subset _⟩) (by rw [List.length_append, show [c].length = 1 from rfl]; omega) hA28 ).mono ?_
    rintro e' w29 ⟨ed, ZD4, rfl, hev4, hOk4, hA30⟩
    refine ⟨_, rfl, fun a hF => hK _ _ ?_⟩
    clear hK K
    replace hA30 : Hp w0 (ZD4 :: [row b24 5 (dc [c])] :: X3 :: [row b16 31 ([.int .i64 ex.op, .int .i64 ex.num, .int .i64 ex.clk, strV ex.typ, strV ex.cas, strV ex.nam, .int .i64 ex.v.v.k, .int .i64 ex.v.v.n, strV ex.v.v.t, .slice ex.v.sA ex.v.v.s.length ex.v.sC, .slice ex.aA ex.args.length ex.aC, .slice ex.bA ex.src.length ex.bC] ++ dc ex.eff)] :: ZD3 :: ZE2 :: ZE1 :: [row b4 31 ([.int .i64 eb.op, .int .i64 eb.num, .int .i64 eb.clk, strV eb.typ, strV eb.cas, strV eb.nam, .int .i64 eb.v.v.k, .int .i64 eb.v.v.n, strV eb.v.v.t, .slice eb.v.sA eb.v.v.s.length eb.v.sC, .slice eb.aA eb.args.length eb.aC, .slice eb.bA eb.src.length eb.bC] ++ dc eb.eff)] :: [row b1 31 ([.int .i64 ea.op, .int .i64 ea.num, .int .i64 ea.clk, strV ea.typ, strV ea.cas, strV ea.nam, .int .i64 ea.v.v.k, .int .i64 ea.v.v.n, strV ea.v.v.t, .slice ea.v.sA ea.v.v.s.length ea.v.sC, .slice ea.aA ea.args.length ea.aC, .slice ea.bA ea.src.length ea.bC] ++ dc ea.eff)] :: []) w29 := hA30
    have hd32 : ed.eff.length = 32 := hOk4.i.2.2.2.2.2
    refine vc_y hF rfl rfl (by decide) _ (y_move rfl rfl) (fun a hF => ?_)
    refine vc_y hF rfl rfl (by decide) _ (y_extract (v := .agg (ed.cells).toArray) rfl rfl rfl) (fun a hF => ?_)
    refine vc_y hF rfl rfl (by decide) _ (y_extract (v := .int .i64 ((decE (encB ea.ev ++ [c]) : Nat) : Int)) rfl rfl rfl) (fun a hF => ?_)
    refine vc_op rfl (fun K hK => hs_alloc hF rfl (by decide) rfl hA30 ev_zE (fun b31 w32 a hb31 hF hA33 => hK _ _ ?_))
    clear hK K
    replace hA33 : Hp w0 ([row b31 31 noEA.cells] :: ZD4 :: [row b24 5 (dc [c])] :: X3 :: [row b16 31 ([.int .i64 ex.op, .int .i64 ex.num, .int .i64 ex.clk, strV ex.typ, strV ex.cas, strV ex.nam, .int .i64 ex.v.v.k, .int .i64 ex.v.v.n, strV ex.v.v.t, .slice ex.v.sA ex.v.v.s.length ex.v.sC, .slice ex.aA ex.args.length ex.aC, .slice ex.bA ex.src.length ex.bC] ++ dc ex.eff)] :: ZD3 :: ZE2 :: ZE1 :: [row b4 31 ([.int .i64 eb.op, .int .i64 eb.num, .int .i64 eb.clk, strV eb.typ, strV eb.cas, strV eb.nam, .int .i64 eb.v.v.k, .int .i64 eb.v.v.n, strV eb.v.v.t, .slice eb.v.sA eb.v.v.s.length eb.v.sC, .slice eb.aA eb.args.length eb.aC, .slice eb.bA eb.src.length eb.bC] ++ dc eb.eff)] :: [row b1 31 ([.int .i64 ea.op, .int .i64 ea.num, .int .i64 ea.clk, strV ea.typ, strV ea.cas, strV ea.nam, .int .i64 ea.v.v.k, .int .i64 ea.v.v.n, strV ea.v.v.t, .slice ea.v.sA ea.v.v.s.length ea.v.sC, .slice ea.aA ea.args.length ea.aC, .slice ea.bA ea.src.length ea.bC] ++ dc ea.eff)] :: []) w32 := hA33
    refine vc_op rfl (fun K hK => hs_storeAll (new := ed.cells) hF rfl rfl hA33 rfl rfl 0 rfl (by rw [List.length_append, dc_length, hd32]; rfl) (fun v hv => evc_one (e := ed) hv) ev_szE (fun w34 hA35 => hK _ _ ?_))
    clear hK K
    replace hA35 : Hp w0 ([row b31 31 ([.int .i64 ed.op, .int .i64 ed.num, .int .i64 ed.clk, strV ed.typ, strV ed.cas, strV ed.nam, .int .i64 ed.v.v.k, .int .i64 ed.v.v.n, strV ed.v.v.t, .slice ed.v.sA ed.v.v.s.length ed.v.sC, .slice ed.aA ed.args.length ed.aC, .slice ed.bA ed.src.length ed.bC] ++ dc ed.eff)] :: ZD4 :: [row b24 5 (dc [c])] :: X3 :: [row b16 31 ([.int .i64 ex.op, .int .i64 ex.num, .int .i64 ex.clk, strV ex.typ, strV ex.cas, strV ex.nam, .int .i64 ex.v.v.k, .int .i64 ex.v.v.n, strV ex.v.v.t, .slice ex.v.sA ex.v.v.s.length ex.v.sC, .slice ex.aA ex.args.length ex.aC, .slice ex.bA ex.src.length ex.bC] ++ dc ex.eff)] :: ZD3 :: ZE2 :: ZE1 :: [row b4 31 ([.int .i64 eb.op, .int .i64 eb.num, .int .i64 eb.clk, strV eb.typ, strV eb.cas, strV eb.nam, .int .i64 eb.v.v.k, .int .i64 eb.v.v.n, strV eb.v.v.t, .slice eb.v.sA eb.v.v.s.length eb.v.sC, .slice eb.aA eb.args.length eb.aC, .slice eb.bA eb.src.length eb.bC] ++ dc eb.eff)] :: [row b1 31 ([.int .i64 ea.op, .int .i64 ea.num, .int .i64 ea.clk, strV ea.typ, strV ea.cas, strV ea.nam, .int .i64 ea.v.v.k, .int .i64 ea.v.v.n, strV ea.v.v.t, .slice ea.v.sA ea.v.v.s.length ea.v.sC, .slice ea.aA ea.args.length ea.aC, .slice ea.bA ea.src.length ea.bC] ++ dc ea.eff)] :: []) w34 := hA35
    refine vc_y hF rfl rfl (by decide) _ (y_assign rfl rfl) (fun a hF => ?_)
    refine vc_nil ?_
    refine hK9 _ _ ?_; clear  hK9 K9
    apply wp_seq_k; intro K10 hK10
    apply wp_seq_k; intro K11 hK11
    have hA36 : Hp w0 ([row b1 31 ([.int .i64 ea.op, .int .i64 ea.num, .int .i64 ea.clk, strV ea.typ, strV ea.cas, strV ea.nam, .int .i64 ea.v.v.k, .int .i64 ea.v.v.n, strV ea.v.v.t, .slice ea.v.sA ea.v.v.s.length ea.v.sC, .slice ea.aA ea.args.length ea.aC, .slice ea.bA ea.src.length ea.bC] ++ dc ea.eff)] :: [row b4 31 ([.int .i64 eb.op, .int .i64 eb.num, .int .i64 eb.clk, strV eb.typ, strV eb.cas, strV eb.nam, .int .i64 eb.v.v.k, .int .i64 eb.v.v.n, strV eb.v.v.t, .slice eb.v.sA eb.v.v.s.length eb.v.sC, .slice eb.aA eb.args.length eb.aC, .slice eb.bA eb.src.length eb.bC] ++ dc eb.eff)] :: ZE1 :: ZE2 :: []) w34 := Hp.sel [[row b31 31 ([.int .i64 ed.op, .int .i64 ed.num, .int .i64 ed.clk, strV ed.typ, strV ed.cas, strV ed.nam, .int .i64 ed.v.v.k, .int .i64 ed.v.v.n, strV ed.v.v.t, .slice ed.v.sA ed.v.v.s.length ed.v.sC, .slice ed.aA ed.args.length ed.aC, .slice ed.bA ed.src.length ed.bC] ++ dc ed.eff)], ZD4, [row b24 5 (dc [c])], X3, [row b16 31 ([.int .i64 ex.op, .int .i64 ex.num, .int .i64 ex.clk, strV ex.typ, strV ex.cas, strV ex.nam, .int .i64 ex.v.v.k, .int .i64 ex.v.v.n, strV ex.v.v.t, .slice ex.v.sA ex.v.v.s.length ex.v.sC, .slice ex.aA ex.args.length ex.aC, .slice ex.bA ex.src.length ex.bC] ++ dc ex.eff)], ZD3, ZE2, ZE1, [row b4 31 ([.int .i64 eb.op, .int .i64 eb.num, .int .i64 eb.clk, strV eb.typ, strV eb.cas, strV eb.nam, .int .i64 eb.v.v.k, .int .i64 eb.v.v.n, strV eb.v.v.t, .slice eb.v.sA eb.v.v.s.length eb.v.sC, .slice eb.aA eb.args.length eb.aC, .slice eb.bA eb.src.length eb.bC] ++ dc eb.eff)], [row b1 31 ([.int .i64 ea.op, .int .i64 ea.num, .int .i64 ea.clk, strV ea.typ, strV ea.cas, strV ea.nam, .int .i64 ea.v.v.k, .int .i64 ea.v.v.n, strV ea.v.v.t, .slice ea.v.sA ea.v.v.s.length ea.v.sC, .slice ea.aA ea.args.length ea.aC, .slice ea.bA ea.src.length ea.bC] ++ dc ea.eff)]] [] [9, 8, 7, 6] [0, 1, 2, 3, 4, 5] hA35 rfl
    have hd3 : decE ((encB ea.ev).take k) = 8 := ev_cut hV.i h0 (by omega)
    have hd4 : decE (encB ea.ev ++ [c]) = 8 := ev_more hV.i h0 c
    refine wp_region_plan 14 [14] [0,1,2,3,4,5,6,7,8,9,10,11,12,13,14] (fun x => Hq w0 ([row b1 31 ([.int .i64 ea.op, .int .i64 ea.num, .int .i64 ea.clk, strV ea.typ, strV ea.cas, strV ea.nam, .int .i64 ea.v.v.k, .int .i64 ea.v.v.n, strV ea.v.v.t, .slice ea.v.sA ea.v.v.s.length ea.v.sC, .slice ea.aA ea.args.length ea.aC, .slice ea.bA ea.src.length ea.bC] ++ dc ea.eff)] :: [row b4 31 ([.int .i64 eb.op, .int .i64 eb.num, .int .i64 eb.clk, strV eb.typ, strV eb.cas, strV eb.nam, .int .i64 eb.v.v.k, .int .i64 eb.v.v.n, strV eb.v.v.t, .slice eb.v.sA eb.v.v.s.length eb.v.sC, .slice eb.aA eb.args.length eb.aC, .slice eb.bA eb.src.length eb.bC] ++ dc eb.eff)] :: ZE1 :: ZE2 :: []) x) (by kernel_rfl) (by kernel_rfl) (Hq.drew (Hp.qp [[row b1 31 ([.int .i64 ea.op, .int .i64 ea.num, .int .i64 ea.clk, strV ea.typ, strV ea.cas, strV ea.nam, .int .i64 ea.v.v.k, .int .i64 ea.v.v.n, strV ea.v.v.t, .slice ea.v.sA ea.v.v.s.length ea.v.sC, .slice ea.aA ea.args.length ea.aC, .slice ea.bA ea.src.length ea.bC] ++ dc ea.eff)], [row b4 31 ([.int .i64 eb.op, .int .i64 eb.num, .int .i64 eb.clk, strV eb.typ, strV eb.cas, strV eb.nam, .int .i64 eb.v.v.k, .int .i64 eb.v.v.n, strV eb.v.v.t, .slice eb.v.sA eb.v.v.s.length eb.v.sC, .slice eb.aA eb.args.length eb.aC, .slice eb.bA eb.src.length eb.bC] ++ dc eb.eff)], ZE1, ZE2] [] [0, 1, 2, 3] hA36)) ?_
    have hA37 := Hl.drew hA36
    refine vp_y hF rfl rfl rfl rfl (by decide) _ (fun x hx => y_move rfl rfl) (fun a hF => ?_)
    refine vp_y hF rfl rfl rfl rfl (by decide) _ (fun x hx => y_cmp rfl rfl rfl rfl (by rw [hd3] <;> rfl)) (fun a hF => ?_)
    refine vp_y hF rfl rfl rfl rfl (by decide) _ (fun x hx => y_move rfl rfl) (fun a hF => ?_)
    refine vp_yg hF rfl rfl rfl rfl rfl rfl rfl (by decide) _ (fun x hx => y_move rfl rfl) (fun a hF => ?_)
    refine vp_yg hF rfl rfl rfl rfl rfl rfl rfl (by decide) _ (fun x hx => y_cmp rfl rfl rfl rfl (by rw [hd4] <;> rfl)) (fun a hF => ?_)
    refine vp_y hF rfl rfl rfl rfl (by decide) _ (fun x hx => y_pick rfl rfl rfl) (fun a hF => ?_)
    refine vp_y hF rfl rfl rfl rfl (by decide) _ (fun x hx => y_move rfl rfl) (fun a hF => ?_)
    refine vp_yg hF rfl rfl rfl rfl rfl rfl rfl (by decide) _ (fun x hx => y_move rfl rfl) (fun a hF => ?_)
    refine vp_yg hF rfl rfl rfl rfl rfl rfl rfl (by decide) _ (fun x hx => y_ixSl rfl Tryz.underlying27 sz5_v11 rfl rfl 0 rfl hpos rfl) (fun a hF => ?_)
    refine vp_yg hF rfl rfl rfl rfl rfl rfl rfl (by decide) _ (fun x hx => y_ldC rfl (Hq.sub hx (List.cons_subset.2 ⟨(List.mem_cons_of_mem _ (List.mem_cons_of_mem _ ((List.mem_cons_self ..)))), List.nil_subset _⟩)) rfl hcx1 0 (by rw [dc_length]; exact hpos) rfl hx0 nr5_v11) (fun a hF => ?_)
    refine vp_yg hF rfl rfl rfl rfl rfl rfl rfl (by decide) _ (fun x hx => y_conv rfl Tryz.underlying5 Tryz.underlying3 rfl (IntWalk.i64_in _ (by omega))) (fun a hF => ?_)
    refine vp_yg hF rfl rfl rfl rfl rfl rfl rfl (by decide) _ (fun x hx => y_field rfl Tryz.underlying31 rfl sz3_v11 (by decide) rfl (rfl : (⟨_, 0 + _, none⟩ : Addr) = ⟨_, 0, none⟩)) (fun a hF => ?_)
    refine vp_yg hF rfl rfl rfl rfl rfl rfl rfl (by decide) _ (fun x hx => y_ld rfl hx rfl 0 rfl rfl nr3_v11) (fun a hF => ?_)
    refine vp_yg hF rfl rfl rfl rfl rfl rfl rfl (by decide) _ (fun x hx => y_cmp rfl rfl rfl rfl (neq_f rfl)) (fun a hF => ?_)
    refine vp_ly hF rfl rfl rfl rfl (by decide) _ (y_pick rfl rfl rfl) (fun h => absurd h (by decide)) (fun a hF => ?_)
    refine plan_end ?_
    refine hK11 _ _ ?_; clear  hK11 K11
    refine vc_falseB hF rfl rfl ?_
    apply wp_skip
    refine hK10 _ _ ?_; clear  hK10 K10
    apply wp_seq_k; intro K12 hK12
    apply wp_seq_k; intro K13 hK13
    refine wp_region_lit ?_
    refine vc_y hF rfl rfl (by decide) _ (y_move rfl rfl) (fun a hF => ?_)
    refine vc_y hF rfl rfl (by decide) _ (y_cmp rfl rfl rfl rfl rfl) (fun a hF => ?_)
    refine vc_nil ?_
    refine hK13 _ _ ?_; clear  hK13 K13
    by_cases h1 : encE eb.ev = 0
    · have hlb2 := enc_len h1
      have hse : decide (ea.ev = eb.ev) = decide (encB ea.ev = encB eb.ev) := decide_eq_decide.2 ⟨fun e => by rw [e], enc_inj hV.i hW.i h0 h1⟩
      refine vc_falseB hF rfl (by rw [h1] <;> rfl) ?_
      apply wp_skip
      refine hK12 _ _ ?_; clear  hK12 K12
      apply wp_seq_k; intro K14 hK14
      apply wp_seq_k; intro K15 hK15
      refine wp_region_lit ?_
      refine vc_y hF rfl rfl (by decide) _ (y_ldRow (new := [.int .i64 ea.op, .int .i64 ea.num, .int .i64 ea.clk, strV ea.typ, strV ea.cas, strV ea.nam, .int .i64 ea.v.v.k, .int .i64 ea.v.v.n, strV ea.v.v.t, .slice ea.v.sA ea.v.v.s.length ea.v.sC, .slice ea.aA ea.args.length ea.aC, .slice ea.bA ea.src.length ea.bC] ++ dc ea.eff) rfl hA37.q rfl 0 rfl rw31_v11 (by rw [List.length_append, dc_length, he32]; exact Nat.le_of_ble_eq_true rfl) (by rw [List.drop_zero]; exact List.take_of_length_le (by rw [List.length_append, dc_length, he32]; exact Nat.le_of_ble_eq_true rfl))) (fun a hF => ?_)
      refine vc_y hF rfl rfl (by decide) _ (y_ldRow (new := [.int .i64 eb.op, .int .i64 eb.num, .int .i64 eb.clk, strV eb.typ, strV eb.cas, strV eb.nam, .int .i64 eb.v.v.k, .int .i64 eb.v.v.n, strV eb.v.v.t, .slice eb.v.sA eb.v.v.s.length eb.v.sC, .slice eb.aA eb.args.length eb.aC, .slice eb.bA eb.src.length eb.bC] ++ dc eb.eff) rfl hA37.q rfl 1 rfl rw31_v11 (by rw [List.length_append, dc_length, hb32]; exact Nat.le_of_ble_eq_true rfl) (by rw [List.drop_zero]; exact List.take_of_length_le (by rw [List.length_append, dc_length, hb32]; exact Nat.le_of_ble_eq_true rfl))) (fun a hF => ?_)
      refine vc_op rfl (fun K hK => ws_call hF rfl (by decide) cl22_v11 rfl rfl ?_)
      with_reducible refine (ev_sameE ea eb _ hV (List.nil_subset _) hW (List.nil_subset _) hA37 ).mono ?_
      rintro e' w38 ⟨rfl, hA39⟩
      refine ⟨_, rfl, fun a hF => hK _ _ ?_⟩
      clear hK K
      replace hA39 : Hp w0 ([row b1 31 ([.int .i64 ea.op, .int .i64 ea.num, .int .i64 ea.clk, strV ea.typ, strV ea.cas, strV ea.nam, .int .i64 ea.v.v.k, .int .i64 ea.v.v.n, strV ea.v.v.t, .slice ea.v.sA ea.v.v.s.length ea.v.sC, .slice ea.aA ea.args.length ea.aC, .slice ea.bA ea.src.length ea.bC] ++ dc ea.eff)] :: [row b4 31 ([.int .i64 eb.op, .int .i64 eb.num, .int .i64 eb.clk, strV eb.typ, strV eb.cas, strV eb.nam, .int .i64 eb.v.v.k, .int .i64 eb.v.v.n, strV eb.v.v.t, .slice eb.v.sA eb.v.v.s.length eb.v.sC, .slice eb.aA eb.args.length eb.aC, .slice eb.bA eb.src.length eb.bC] ++ dc eb.eff)] :: ZE1 :: ZE2 :: []) w38 := hA39
      refine vc_y hF rfl rfl (by decide) _ (y_move rfl rfl) (fun a hF => ?_)
      refine vc_y hF rfl rfl (by decide) _ (y_move rfl rfl) (fun a hF => ?_)
      refine vc_op rfl (fun K hK => ws_call hF rfl (by decide) cl23_v11 rfl rfl ?_)
      with_reducible refine (ev_sameB (l1 := (encB ea.ev)) (l2 := (encB eb.ev)) _ (Rc.mono hRE1 (List.cons_subset.2 ⟨(List.mem_cons_of_mem _ (List.mem_cons_of_mem _ ((List.mem_cons_self ..)))), List.nil_subset _⟩)) (Rc.mono hRE2 (List.cons_subset.2 ⟨(List.mem_cons_of_mem _ (List.mem_cons_of_mem _ (List.mem_cons_of_mem _ ((List.mem_cons_self ..))))), List.nil_subset _⟩)) (by omega) hA39 ).mono ?_
      rintro e' w40 ⟨rfl, hA41⟩
      refine ⟨_, rfl, fun a hF => hK _ _ ?_⟩
      clear hK K
      replace hA41 : Hp w0 ([row b1 31 ([.int .i64 ea.op, .int .i64 ea.num, .int .i64 ea.clk, strV ea.typ, strV ea.cas, strV ea.nam, .int .i64 ea.v.v.k, .int .i64 ea.v.v.n, strV ea.v.v.t, .slice ea.v.sA ea.v.v.s.length ea.v.sC, .slice ea.aA ea.args.length ea.aC, .slice ea.bA ea.src.length ea.bC] ++ dc ea.eff)] :: [row b4 31 ([.int .i64 eb.op, .int .i64 eb.num, .int .i64 eb.clk, strV eb.typ, strV eb.cas, strV eb.nam, .int .i64 eb.v.v.k, .int .i64 eb.v.v.n, strV eb.v.v.t, .slice eb.v.sA eb.v.v.s.length eb.v.sC, .slice eb.aA eb.args.length eb.aC, .slice eb.bA eb.src.length eb.bC] ++ dc eb.eff)] :: ZE1 :: ZE2 :: []) w40 := hA41
      refine vc_y hF rfl rfl (by decide) _ (y_neBool rfl Tryz.underlying4 rfl rfl rfl) (fun a hF => ?_)
      refine vc_nil ?_
      refine hK15 _ _ ?_; clear  hK15 K15
      refine vc_falseB hF rfl (by rw [hse]; simp) ?_
      apply wp_skip
      refine hK14 _ _ ?_; clear  hK14 K14
      apply wp_seq_k; intro K16 hK16
      apply wp_seq_k; intro K17 hK17
      refine wp_region_lit ?_
      refine vc_y hF rfl rfl (by decide) _ (y_move rfl rfl) (fun a hF => ?_)
      refine vc_y hF rfl rfl (by decide) _ (y_lenSl rfl Tryz.underlying27 rfl rfl) (fun a hF => ?_)
      refine vc_y hF rfl rfl (by decide) _ (y_move rfl rfl) (fun a hF => ?_)
      refine vc_y hF rfl rfl (by decide) _ (y_lenSl rfl Tryz.underlying27 rfl rfl) (fun a hF => ?_)
      refine vc_y hF rfl rfl (by decide) _ (y_cmp rfl rfl rfl rfl rfl) (fun a hF => ?_)
      refine vc_y hF rfl rfl (by decide) _ (y_move rfl rfl) (fun a hF => ?_)
      refine vc_meetW (l2 := ?lA1) hF (fun x => Hp w0 ([row b1 31 ([.int .i64 ea.op, .int .i64 ea.num, .int .i64 ea.clk, strV ea.typ, strV ea.cas, strV ea.nam, .int .i64 ea.v.v.k, .int .i64 ea.v.v.n, strV ea.v.v.t, .slice ea.v.sA ea.v.v.s.length ea.v.sC, .slice ea.aA ea.args.length ea.aC, .slice ea.bA ea.src.length ea.bC] ++ dc ea.eff)] :: [row b4 31 ([.int .i64 eb.op, .int .i64 eb.num, .int .i64 eb.clk, strV eb.typ, strV eb.cas, strV eb.nam, .int .i64 eb.v.v.k, .int .i64 eb.v.v.n, strV eb.v.v.t, .slice eb.v.sA eb.v.v.s.length eb.v.sC, .slice eb.aA eb.args.length eb.aC, .slice eb.bA eb.src.length eb.bC] ++ dc eb.eff)] :: ZE1 :: ZE2 :: []) x) [(100, .bool ((cmpB .lss ((encB ea.ev).length) ((encB eb.ev).length)) && ((decide (encB ea.ev = (encB eb.ev).take (encB ea.ev).length))))), (0, .agg (ea.cells).toArray), (1, .agg (eb.cells).toArray), (2, .int .i64 at_), (3, .int .u8 (c.toNat : Int)), (4, .pointer (some ⟨b1, 0, none⟩)), (5, .pointer (some ⟨b4, 0, none⟩)), (8, .bool false), (18, .agg ([.int .i64 ea.op, .int .i64 ea.num, .int .i64 ea.clk, strV ea.typ, strV ea.cas, strV ea.nam, .int .i64 ea.v.v.k, .int .i64 ea.v.v.n, strV ea.v.v.t, .slice ea.v.sA ea.v.v.s.length ea.v.sC, .slice ea.aA ea.args.length ea.aC, .slice ea.bA ea.src.length ea.bC] ++ dc ea.eff).toArray), (19, .tuple #[.slice (some ⟨bx, ox, none⟩) ((encB ea.ev).length) cE1, .int .i64 ((encE ea.ev : Nat) : Int)]), (17, .tuple #[.slice (some ⟨bx, ox, none⟩) ((encB ea.ev).length) cE1, .int .i64 ((encE ea.ev : Nat) : Int)]), (20, .slice (some ⟨bx, ox, none⟩) ((encB ea.ev).length) cE1), (21, .int .i64 ((encE ea.ev : Nat) : Int)), (9, .slice (some ⟨bx, ox, none⟩) ((encB ea.ev).length) cE1), (10, .int .i64 ((encE ea.ev : Nat) : Int)), (23, .agg ([.int .i64 eb.op, .int .i64 eb.num, .int .i64 eb.clk, strV eb.typ, strV eb.cas, strV eb.nam, .int .i64 eb.v.v.k, .int .i64 eb.v.v.n, strV eb.v.v.t, .slice eb.v.sA eb.v.v.s.length eb.v.sC, .slice eb.aA eb.args.length eb.aC, .slice eb.bA eb.src.length eb.bC] ++ dc eb.eff).toArray), (24, .tuple #[.slice AE2 ((encB eb.ev).length) cE2, .int .i64 ((encE eb.ev : Nat) : Int)]), (22, .tuple #[.slice AE2 ((encB eb.ev).length) cE2, .int .i64 ((encE eb.ev : Nat) : Int)]), (25, .slice AE2 ((encB eb.ev).length) cE2), (26, .int .i64 ((encE eb.ev : Nat) : Int)), (11, .slice AE2 ((encB eb.ev).length) cE2), (12, .int .i64 ((encE eb.ev : Nat) : Int)), (27, .int .i64 ((encE ea.ev : Nat) : Int)), (28, .bool (cmpB .neq (((encE ea.ev : Nat) : Int)) (0))), (35, .slice (some ⟨bx, ox, none⟩) ((encB ea.ev).length) cE1), (36, .int .i64 ((encB ea.ev).length)), (37, .bool false), (39, .slice (some ⟨bx, ox, none⟩) ((encB ea.ev).length) cE1), (40, .int .i64 at_), (41, .slice (some ⟨bx, ox, none⟩) ((encB ea.ev).length) cE1), (42, .int .i64 ((encB ea.ev).length)), (43, .int .i64 (((encB ea.ev).length) - (1))), (44, .int .i64 (k : Int)), (45, .slice (some ⟨bx, ox, none⟩) (((encB ea.ev).take k).length) cE1), (46, .tuple #[.agg (ex.cells).toArray, .int .i64 ((decE ((encB ea.ev).take k) : Nat) : Int)]), (38, .tuple #[.agg (ex.cells).toArray, .int .i64 ((decE ((encB ea.ev).take k) : Nat) : Int)]), (47, .agg (ex.cells).toArray), (48, .int .i64 ((decE ((encB ea.ev).take k) : Nat) : Int)), (13, .pointer (some ⟨b16, 0, none⟩)), (14, .int .i64 ((decE ((encB ea.ev).take k) : Nat) : Int)), (50, .slice (some ⟨bx, ox, none⟩) ((encB ea.ev).length) cE1), (51, v2), (52, .int .u8 (c.toNat : Int)), (53, .slice (some ⟨b24, 0, none⟩) 1 1), (54, .slice A4 ((encB ea.ev ++ [c]).length) c4), (55, .tuple #[.agg (ed.cells).toArray, .int .i64 ((decE (encB ea.ev ++ [c]) : Nat) : Int)]), (49, .tuple #[.agg (ed.cells).toArray, .int .i64 ((decE (encB ea.ev ++ [c]) : Nat) : Int)]), (56, .agg (ed.cells).toArray), (57, .int .i64 ((decE (encB ea.ev ++ [c]) : Nat) : Int)), (15, .pointer (some ⟨b31, 0, none⟩)), (16, .int .i64 ((decE (encB ea.ev ++ [c]) : Nat) : Int)), (58, .int .i64 ((decE ((encB ea.ev).take k) : Nat) : Int)), (59, .bool false), (60, .bool false), (61, .int .i64 ((decE (encB ea.ev ++ [c]) : Nat) : Int)), (62, .bool false), (63, .bool false), (64, .bool false), (65, .slice (some ⟨bx, ox, none⟩) ((encB ea.ev).length) cE1), (67, .int .u8 ea.op), (68, .int .i64 ea.op), (69, .pointer (some ⟨b1, 0, none⟩)), (70, .int .i64 ea.op), (71, .bool false), (72, .bool false), (73, .int .i64 ((encE eb.ev : Nat) : Int)), (74, .bool (cmpB .neq (((encE eb.ev : Nat) : Int)) (0))), (81, .agg ([.int .i64 ea.op, .int .i64 ea.num, .int .i64 ea.clk, strV ea.typ, strV ea.cas, strV ea.nam, .int .i64 ea.v.v.k, .int .i64 ea.v.v.n, strV ea.v.v.t, .slice ea.v.sA ea.v.v.s.length ea.v.sC, .slice ea.aA ea.args.length ea.aC, .slice ea.bA ea.src.length ea.bC] ++ dc ea.eff).toArray), (82, .agg ([.int .i64 eb.op, .int .i64 eb.num, .int .i64 eb.clk, strV eb.typ, strV eb.cas, strV eb.nam, .int .i64 eb.v.v.k, .int .i64 eb.v.v.n, strV eb.v.v.t, .slice eb.v.sA eb.v.v.s.length eb.v.sC, .slice eb.aA eb.args.length eb.aC, .slice eb.bA eb.src.length eb.bC] ++ dc eb.eff).toArray), (83, .bool (decide (ea.ev = eb.ev))), (84, .slice (some ⟨bx, ox, none⟩) ((encB ea.ev).length) cE1), (85, .slice AE2 ((encB eb.ev).length) cE2), (86, .bool (decide (encB ea.ev = encB eb.ev))), (87, .bool (!((decide (ea.ev = eb.ev)) == (decide (encB ea.ev = encB eb.ev)))))] (fun hJ1 => ?elA1) (fun a w42 hF hA43 => ?flA1)
      case elA1 =>
        rcases tf (cmpB .lss ((encB ea.ev).length) ((encB eb.ev).length)) with hg1 | hg1
        · refine vc_skip hF rfl rfl rfl rfl rfl (ne_want hg1) (by decide) (fun a hF => ?_)
          refine vc_skip hF rfl rfl rfl rfl rfl (ne_want hg1) (by decide) (fun a hF => ?_)
          refine vc_skip hF rfl rfl rfl rfl rfl (ne_want hg1) (by decide) (fun a hF => ?_)
          refine vc_skip hF rfl rfl rfl rfl rfl (ne_want hg1) (by decide) (fun a hF => ?_)
          refine vc_skip hF rfl rfl rfl rfl rfl (ne_want hg1) (by decide) (fun a hF => ?_)
          refine vc_skip hF rfl rfl rfl rfl rfl (ne_want hg1) (by decide) (fun a hF => ?_)
          refine vc_y hF rfl rfl (by decide) _ (y_pickF hg1 rfl rfl rfl) (fun a hF => ?_)
          exact hJ1 _ _ ((hF.keep [100, 0, 1, 2, 3, 4, 5, 8, 18, 19, 17, 20, 21, 9, 10, 23, 24, 22, 25, 26, 11, 12, 27, 28, 35, 36, 37, 39, 40, 41, 42, 43, 44, 45, 46, 38, 47, 48, 13, 14, 50, 51, 52, 53, 54, 55, 49, 56, 57, 15, 16, 58, 59, 60, 61, 62, 63, 64, 65, 67, 68, 69, 70, 71, 72, 73, 74, 81, 82, 83, 84, 85, 86, 87] (F' := [(100, _), (0, _), (1, _), (2, _), (3, _), (4, _), (5, _), (8, _), (18, _), (19, _), (17, _), (20, _), (21, _), (9, _), (10, _), (23, _), (24, _), (22, _), (25, _), (26, _), (11, _), (12, _), (27, _), (28, _), (35, _), (36, _), (37, _), (39, _), (40, _), (41, _), (42, _), (43, _), (44, _), (45, _), (46, _), (38, _), (47, _), (48, _), (13, _), (14, _), (50, _), (51, _), (52, _), (53, _), (54, _), (55, _), (49, _), (56, _), (57, _), (15, _), (16, _), (58, _), (59, _), (60, _), (61, _), (62, _), (63, _), (64, _), (65, _), (67, _), (68, _), (69, _), (70, _), (71, _), (72, _), (73, _), (74, _), (81, _), (82, _), (83, _), (84, _), (85, _), (86, _), (87, _)]) rfl).bool (by rw [hg1]; rfl)) hA41
        · refine vc_yg hF rfl rfl rfl rfl (some_bool hg1) (by decide) _ (y_move rfl rfl) (fun a hF => ?_)
          refine vc_yg hF rfl rfl rfl rfl (some_bool hg1) (by decide) _ (y_move rfl rfl) (fun a hF => ?_)
          refine vc_yg hF rfl rfl rfl rfl (some_bool hg1) (by decide) _ (y_move rfl rfl) (fun a hF => ?_)
          refine vc_yg hF rfl rfl rfl rfl (some_bool hg1) (by decide) _ (y_lenSl rfl Tryz.underlying27 rfl rfl) (fun a hF => ?_)
          refine vc_yg hF rfl rfl rfl rfl (some_bool hg1) (by decide) _ (y_slice rfl Tryz.underlying27 ow_size5 rfl (.none 0) (.some rfl rfl) (Nat.zero_le _) (lss_le (by assumption) hcE2) (show Value.slice (sub AE2 0 cE2 1) ((encB ea.ev).length - 0) (cE2 - 0) = .slice AE2 ((encB eb.ev).take (encB ea.ev).length).length cE2 by rw [sub_zero, lss_tk (by assumption)]; rfl)) (fun a hF => ?_)
          refine vc_opg hF rfl rfl rfl (some_bool hg1) (fun K hK => ws_call hF rfl (by decide) cl23_v11 rfl rfl ?_)
          with_reducible refine (ev_sameB (l1 := (encB ea.ev)) (l2 := ((encB eb.ev).take (encB ea.ev).length)) _ (Rc.mono hRE1 (List.cons_subset.2 ⟨(List.mem_cons_of_mem _ (List.mem_cons_of_mem _ ((List.mem_cons_self ..)))), List.nil_subset _⟩)) (Rc.mono (Rd.take hRE2 _) (List.cons_subset.2 ⟨(List.mem_cons_of_mem _ (List.mem_cons_of_mem _ (List.mem_cons_of_mem _ ((List.mem_cons_self ..))))), List.nil_subset _⟩)) (by omega) hA41 ).mono ?_
          rintro e' w44 ⟨rfl, hA45⟩
          refine ⟨_, rfl, fun a hF => hK _ _ ?_⟩
          clear hK K
          replace hA45 : Hp w0 ([row b1 31 ([.int .i64 ea.op, .int .i64 ea.num, .int .i64 ea.clk, strV ea.typ, strV ea.cas, strV ea.nam, .int .i64 ea.v.v.k, .int .i64 ea.v.v.n, strV ea.v.v.t, .slice ea.v.sA ea.v.v.s.length ea.v.sC, .slice ea.aA ea.args.length ea.aC, .slice ea.bA ea.src.length ea.bC] ++ dc ea.eff)] :: [row b4 31 ([.int .i64 eb.op, .int .i64 eb.num, .int .i64 eb.clk, strV eb.typ, strV eb.cas, strV eb.nam, .int .i64 eb.v.v.k, .int .i64 eb.v.v.n, strV eb.v.v.t, .slice eb.v.sA eb.v.v.s.length eb.v.sC, .slice eb.aA eb.args.length eb.aC, .slice eb.bA eb.src.length eb.bC] ++ dc eb.eff)] :: ZE1 :: ZE2 :: []) w44 := hA45
          refine vc_y hF rfl rfl (by decide) _ (y_pickT hg1 rfl rfl rfl) (fun a hF => ?_)
          exact hJ1 _ _ ((hF.keep [100, 0, 1, 2, 3, 4, 5, 8, 18, 19, 17, 20, 21, 9, 10, 23, 24, 22, 25, 26, 11, 12, 27, 28, 35, 36, 37, 39, 40, 41, 42, 43, 44, 45, 46, 38, 47, 48, 13, 14, 50, 51, 52, 53, 54, 55, 49, 56, 57, 15, 16, 58, 59, 60, 61, 62, 63, 64, 65, 67, 68, 69, 70, 71, 72, 73, 74, 81, 82, 83, 84, 85, 86, 87] (F' := [(100, _), (0, _), (1, _), (2, _), (3, _), (4, _), (5, _), (8, _), (18, _), (19, _), (17, _), (20, _), (21, _), (9, _), (10, _), (23, _), (24, _), (22, _), (25, _), (26, _), (11, _), (12, _), (27, _), (28, _), (35, _), (36, _), (37, _), (39, _), (40, _), (41, _), (42, _), (43, _), (44, _), (45, _), (46, _), (38, _), (47, _), (48, _), (13, _), (14, _), (50, _), (51, _), (52, _), (53, _), (54, _), (55, _), (49, _), (56, _), (57, _), (15, _), (16, _), (58, _), (59, _), (60, _), (61, _), (62, _), (63, _), (64, _), (65, _), (67, _), (68, _), (69, _), (70, _), (71, _), (72, _), (73, _), (74, _), (81, _), (82, _), (83, _), (84, _), (85, _), (86, _), (87, _)]) rfl).bool (by rw [hg1]; rfl)) hA45
      replace hA43 : Hp w0 ([row b1 31 ([.int .i64 ea.op, .int .i64 ea.num, .int .i64 ea.clk, strV ea.typ, strV ea.cas, strV ea.nam, .int .i64 ea.v.v.k, .int .i64 ea.v.v.n, strV ea.v.v.t, .slice ea.v.sA ea.v.v.s.length ea.v.sC, .slice ea.aA ea.args.length ea.aC, .slice ea.bA ea.src.length ea.bC] ++ dc ea.eff)] :: [row b4 31 ([.int .i64 eb.op, .int .i64 eb.num, .int .i64 eb.clk, strV eb.typ, strV eb.cas, strV eb.nam, .int .i64 eb.v.v.k, .int .i64 eb.v.v.n, strV eb.v.v.t, .slice eb.v.sA eb.v.v.s.length eb.v.sC, .slice eb.aA eb.args.length eb.aC, .slice eb.bA eb.src.length eb.bC] ++ dc eb.eff)] :: ZE1 :: ZE2 :: []) w42 := hA43
      refine vc_y hF rfl rfl (by decide) _ (y_move rfl rfl) (fun a hF => ?_)
      refine vc_meetW (l2 := ?lA2) hF (fun x => Hp w0 ([row b1 31 ([.int .i64 ea.op, .int .i64 ea.num, .int .i64 ea.clk, strV ea.typ, strV ea.cas, strV ea.nam, .int .i64 ea.v.v.k, .int .i64 ea.v.v.n, strV ea.v.v.t, .slice ea.v.sA ea.v.v.s.length ea.v.sC, .slice ea.aA ea.args.length ea.aC, .slice ea.bA ea.src.length ea.bC] ++ dc ea.eff)] :: [row b4 31 ([.int .i64 eb.op, .int .i64 eb.num, .int .i64 eb.clk, strV eb.typ, strV eb.cas, strV eb.nam, .int .i64 eb.v.v.k, .int .i64 eb.v.v.n, strV eb.v.v.t, .slice eb.v.sA eb.v.v.s.length eb.v.sC, .slice eb.aA eb.args.length eb.aC, .slice eb.bA eb.src.length eb.bC] ++ dc eb.eff)] :: ZE1 :: ZE2 :: []) x) [(115, .bool (((cmpB .lss ((encB ea.ev).length) ((encB eb.ev).length)) && ((decide (encB ea.ev = (encB eb.ev).take (encB ea.ev).length)))) || ((cmpB .lss ((encB eb.ev).length) ((encB ea.ev).length)) && ((decide (encB eb.ev = (encB ea.ev).take (encB eb.ev).length)))))), (0, .agg (ea.cells).toArray), (1, .agg (eb.cells).toArray), (2, .int .i64 at_), (3, .int .u8 (c.toNat : Int)), (4, .pointer (some ⟨b1, 0, none⟩)), (5, .pointer (some ⟨b4, 0, none⟩)), (8, .bool false), (18, .agg ([.int .i64 ea.op, .int .i64 ea.num, .int .i64 ea.clk, strV ea.typ, strV ea.cas, strV ea.nam, .int .i64 ea.v.v.k, .int .i64 ea.v.v.n, strV ea.v.v.t, .slice ea.v.sA ea.v.v.s.length ea.v.sC, .slice ea.aA ea.args.length ea.aC, .slice ea.bA ea.src.length ea.bC] ++ dc ea.eff).toArray), (19, .tuple #[.slice (some ⟨bx, ox, none⟩) ((encB ea.ev).length) cE1, .int .i64 ((encE ea.ev : Nat) : Int)]), (17, .tuple #[.slice (some ⟨bx, ox, none⟩) ((encB ea.ev).length) cE1, .int .i64 ((encE ea.ev : Nat) : Int)]), (20, .slice (some ⟨bx, ox, none⟩) ((encB ea.ev).length) cE1), (21, .int .i64 ((encE ea.ev : Nat) : Int)), (9, .slice (some ⟨bx, ox, none⟩) ((encB ea.ev).length) cE1), (10, .int .i64 ((encE ea.ev : Nat) : Int)), (23, .agg ([.int .i64 eb.op, .int .i64 eb.num, .int .i64 eb.clk, strV eb.typ, strV eb.cas, strV eb.nam, .int .i64 eb.v.v.k, .int .i64 eb.v.v.n, strV eb.v.v.t, .slice eb.v.sA eb.v.v.s.length eb.v.sC, .slice eb.aA eb.args.length eb.aC, .slice eb.bA eb.src.length eb.bC] ++ dc eb.eff).toArray), (24, .tuple #[.slice AE2 ((encB eb.ev).length) cE2, .int .i64 ((encE eb.ev : Nat) : Int)]), (22, .tuple #[.slice AE2 ((encB eb.ev).length) cE2, .int .i64 ((encE eb.ev : Nat) : Int)]), (25, .slice AE2 ((encB eb.ev).length) cE2), (26, .int .i64 ((encE eb.ev : Nat) : Int)), (11, .slice AE2 ((encB eb.ev).length) cE2), (12, .int .i64 ((encE eb.ev : Nat) : Int)), (27, .int .i64 ((encE ea.ev : Nat) : Int)), (28, .bool (cmpB .neq (((encE ea.ev : Nat) : Int)) (0))), (35, .slice (some ⟨bx, ox, none⟩) ((encB ea.ev).length) cE1), (36, .int .i64 ((encB ea.ev).length)), (37, .bool false), (39, .slice (some ⟨bx, ox, none⟩) ((encB ea.ev).length) cE1), (40, .int .i64 at_), (41, .slice (some ⟨bx, ox, none⟩) ((encB ea.ev).length) cE1), (42, .int .i64 ((encB ea.ev).length)), (43, .int .i64 (((encB ea.ev).length) - (1))), (44, .int .i64 (k : Int)), (45, .slice (some ⟨bx, ox, none⟩) (((encB ea.ev).take k).length) cE1), (46, .tuple #[.agg (ex.cells).toArray, .int .i64 ((decE ((encB ea.ev).take k) : Nat) : Int)]), (38, .tuple #[.agg (ex.cells).toArray, .int .i64 ((decE ((encB ea.ev).take k) : Nat) : Int)]), (47, .agg (ex.cells).toArray), (48, .int .i64 ((decE ((encB ea.ev).take k) : Nat) : Int)), (13, .pointer (some ⟨b16, 0, none⟩)), (14, .int .i64 ((decE ((encB ea.ev).take k) : Nat) : Int)), (50, .slice (some ⟨bx, ox, none⟩) ((encB ea.ev).length) cE1), (51, v2), (52, .int .u8 (c.toNat : Int)), (53, .slice (some ⟨b24, 0, none⟩) 1 1), (54, .slice A4 ((encB ea.ev ++ [c]).length) c4), (55, .tuple #[.agg (ed.cells).toArray, .int .i64 ((decE (encB ea.ev ++ [c]) : Nat) : Int)]), (49, .tuple #[.agg (ed.cells).toArray, .int .i64 ((decE (encB ea.ev ++ [c]) : Nat) : Int)]), (56, .agg (ed.cells).toArray), (57, .int .i64 ((decE (encB ea.ev ++ [c]) : Nat) : Int)), (15, .pointer (some ⟨b31, 0, none⟩)), (16, .int .i64 ((decE (encB ea.ev ++ [c]) : Nat) : Int)), (58, .int .i64 ((decE ((encB ea.ev).take k) : Nat) : Int)), (59, .bool false), (60, .bool false), (61, .int .i64 ((decE (encB ea.ev ++ [c]) : Nat) : Int)), (62, .bool false), (63, .bool false), (64, .bool false), (65, .slice (some ⟨bx, ox, none⟩) ((encB ea.ev).length) cE1), (67, .int .u8 ea.op), (68, .int .i64 ea.op), (69, .pointer (some ⟨b1, 0, none⟩)), (70, .int .i64 ea.op), (71, .bool false), (72, .bool false), (73, .int .i64 ((encE eb.ev : Nat) : Int)), (74, .bool (cmpB .neq (((encE eb.ev : Nat) : Int)) (0))), (81, .agg ([.int .i64 ea.op, .int .i64 ea.num, .int .i64 ea.clk, strV ea.typ, strV ea.cas, strV ea.nam, .int .i64 ea.v.v.k, .int .i64 ea.v.v.n, strV ea.v.v.t, .slice ea.v.sA ea.v.v.s.length ea.v.sC, .slice ea.aA ea.args.length ea.aC, .slice ea.bA ea.src.length ea.bC] ++ dc ea.eff).toArray), (82, .agg ([.int .i64 eb.op, .int .i64 eb.num, .int .i64 eb.clk, strV eb.typ, strV eb.cas, strV eb.nam, .int .i64 eb.v.v.k, .int .i64 eb.v.v.n, strV eb.v.v.t, .slice eb.v.sA eb.v.v.s.length eb.v.sC, .slice eb.aA eb.args.length eb.aC, .slice eb.bA eb.src.length eb.bC] ++ dc eb.eff).toArray), (83, .bool (decide (ea.ev = eb.ev))), (84, .slice (some ⟨bx, ox, none⟩) ((encB ea.ev).length) cE1), (85, .slice AE2 ((encB eb.ev).length) cE2), (86, .bool (decide (encB ea.ev = encB eb.ev))), (87, .bool (!((decide (ea.ev = eb.ev)) == (decide (encB ea.ev = encB eb.ev)))))] (fun hJ2 => ?elA2) (fun a w46 hF hA47 => ?flA2)
      case elA2 =>
        rcases tf ((cmpB .lss ((encB ea.ev).length) ((encB eb.ev).length)) && ((decide (encB ea.ev = (encB eb.ev).take (encB ea.ev).length)))) with hg2 | hg2
        · refine vc_yg hF rfl rfl rfl rfl (some_bool hg2) (by decide) _ (y_move rfl rfl) (fun a hF => ?_)
          refine vc_yg hF rfl rfl rfl rfl (some_bool hg2) (by decide) _ (y_lenSl rfl Tryz.underlying27 rfl rfl) (fun a hF => ?_)
          refine vc_yg hF rfl rfl rfl rfl (some_bool hg2) (by decide) _ (y_move rfl rfl) (fun a hF => ?_)
          refine vc_yg hF rfl rfl rfl rfl (some_bool hg2) (by decide) _ (y_lenSl rfl Tryz.underlying27 rfl rfl) (fun a hF => ?_)
          refine vc_yg hF rfl rfl rfl rfl (some_bool hg2) (by decide) _ (y_cmp rfl rfl rfl rfl rfl) (fun a hF => ?_)
          refine vc_yg hF rfl rfl rfl rfl (some_bool hg2) (by decide) _ (y_move rfl rfl) (fun a hF => ?_)
          refine vc_meetW (l2 := ?lA3) hF (fun x => Hp w0 ([row b1 31 ([.int .i64 ea.op, .int .i64 ea.num, .int .i64 ea.clk, strV ea.typ, strV ea.cas, strV ea.nam, .int .i64 ea.v.v.k, .int .i64 ea.v.v.n, strV ea.v.v.t, .slice ea.v.sA ea.v.v.s.length ea.v.sC, .slice ea.aA ea.args.length ea.aC, .slice ea.bA ea.src.length ea.bC] ++ dc ea.eff)] :: [row b4 31 ([.int .i64 eb.op, .int .i64 eb.num, .int .i64 eb.clk, strV eb.typ, strV eb.cas, strV eb.nam, .int .i64 eb.v.v.k, .int .i64 eb.v.v.n, strV eb.v.v.t, .slice eb.v.sA eb.v.v.s.length eb.v.sC, .slice eb.aA eb.args.length eb.aC, .slice eb.bA eb.src.length eb.bC] ++ dc eb.eff)] :: ZE1 :: ZE2 :: []) x) [(114, .bool ((cmpB .lss ((encB eb.ev).length) ((encB ea.ev).length)) && ((decide (encB eb.ev = (encB ea.ev).take (encB eb.ev).length))))), (0, .agg (ea.cells).toArray), (1, .agg (eb.cells).toArray), (2, .int .i64 at_), (3, .int .u8 (c.toNat : Int)), (4, .pointer (some ⟨b1, 0, none⟩)), (5, .pointer (some ⟨b4, 0, none⟩)), (8, .bool false), (18, .agg ([.int .i64 ea.op, .int .i64 ea.num, .int .i64 ea.clk, strV ea.typ, strV ea.cas, strV ea.nam, .int .i64 ea.v.v.k, .int .i64 ea.v.v.n, strV ea.v.v.t, .slice ea.v.sA ea.v.v.s.length ea.v.sC, .slice ea.aA ea.args.length ea.aC, .slice ea.bA ea.src.length ea.bC] ++ dc ea.eff).toArray), (19, .tuple #[.slice (some ⟨bx, ox, none⟩) ((encB ea.ev).length) cE1, .int .i64 ((encE ea.ev : Nat) : Int)]), (17, .tuple #[.slice (some ⟨bx, ox, none⟩) ((encB ea.ev).length) cE1, .int .i64 ((encE ea.ev : Nat) : Int)]), (20, .slice (some ⟨bx, ox, none⟩) ((encB ea.ev).length) cE1), (21, .int .i64 ((encE ea.ev : Nat) : Int)), (9, .slice (some ⟨bx, ox, none⟩) ((encB ea.ev).length) cE1), (10, .int .i64 ((encE ea.ev : Nat) : Int)), (23, .agg ([.int .i64 eb.op, .int .i64 eb.num, .int .i64 eb.clk, strV eb.typ, strV eb.cas, strV eb.nam, .int .i64 eb.v.v.k, .int .i64 eb.v.v.n, strV eb.v.v.t, .slice eb.v.sA eb.v.v.s.length eb.v.sC, .slice eb.aA eb.args.length eb.aC, .slice eb.bA eb.src.length eb.bC] ++ dc eb.eff).toArray), (24, .tuple #[.slice AE2 ((encB eb.ev).length) cE2, .int .i64 ((encE eb.ev : Nat) : Int)]), (22, .tuple #[.slice AE2 ((encB eb.ev).length) cE2, .int .i64 ((encE eb.ev : Nat) : Int)]), (25, .slice AE2 ((encB eb.ev).length) cE2), (26, .int .i64 ((encE eb.ev : Nat) : Int)), (11, .slice AE2 ((encB eb.ev).length) cE2), (12, .int .i64 ((encE eb.ev : Nat) : Int)), (27, .int .i64 ((encE ea.ev : Nat) : Int)), (28, .bool (cmpB .neq (((encE ea.ev : Nat) : Int)) (0))), (35, .slice (some ⟨bx, ox, none⟩) ((encB ea.ev).length) cE1), (36, .int .i64 ((encB ea.ev).length)), (37, .bool false), (39, .slice (some ⟨bx, ox, none⟩) ((encB ea.ev).length) cE1), (40, .int .i64 at_), (41, .slice (some ⟨bx, ox, none⟩) ((encB ea.ev).length) cE1), (42, .int .i64 ((encB ea.ev).length)), (43, .int .i64 (((encB ea.ev).length) - (1))), (44, .int .i64 (k : Int)), (45, .slice (some ⟨bx, ox, none⟩) (((encB ea.ev).take k).length) cE1), (46, .tuple #[.agg (ex.cells).toArray, .int .i64 ((decE ((encB ea.ev).take k) : Nat) : Int)]), (38, .tuple #[.agg (ex.cells).toArray, .int .i64 ((decE ((encB ea.ev).take k) : Nat) : Int)]), (47, .agg (ex.cells).toArray), (48, .int .i64 ((decE ((encB ea.ev).take k) : Nat) : Int)), (13, .pointer (some ⟨b16, 0, none⟩)), (14, .int .i64 ((decE ((encB ea.ev).take k) : Nat) : Int)), (50, .slice (some ⟨bx, ox, none⟩) ((encB ea.ev).length) cE1), (51, v2), (52, .int .u8 (c.toNat : Int)), (53, .slice (some ⟨b24, 0, none⟩) 1 1), (54, .slice A4 ((encB ea.ev ++ [c]).length) c4), (55, .tuple #[.agg (ed.cells).toArray, .int .i64 ((decE (encB ea.ev ++ [c]) : Nat) : Int)]), (49, .tuple #[.agg (ed.cells).toArray, .int .i64 ((decE (encB ea.ev ++ [c]) : Nat) : Int)]), (56, .agg (ed.cells).toArray), (57, .int .i64 ((decE (encB ea.ev ++ [c]) : Nat) : Int)), (15, .pointer (some ⟨b31, 0, none⟩)), (16, .int .i64 ((decE (encB ea.ev ++ [c]) : Nat) : Int)), (58, .int .i64 ((decE ((encB ea.ev).take k) : Nat) : Int)), (59, .bool false), (60, .bool false), (61, .int .i64 ((decE (encB ea.ev ++ [c]) : Nat) : Int)), (62, .bool false), (63, .bool false), (64, .bool false), (65, .slice (some ⟨bx, ox, none⟩) ((encB ea.ev).length) cE1), (67, .int .u8 ea.op), (68, .int .i64 ea.op), (69, .pointer (some ⟨b1, 0, none⟩)), (70, .int .i64 ea.op), (71, .bool false), (72, .bool false), (73, .int .i64 ((encE eb.ev : Nat) : Int)), (74, .bool (cmpB .neq (((encE eb.ev : Nat) : Int)) (0))), (81, .agg ([.int .i64 ea.op, .int .i64 ea.num, .int .i64 ea.clk, strV ea.typ, strV ea.cas, strV ea.nam, .int .i64 ea.v.v.k, .int .i64 ea.v.v.n, strV ea.v.v.t, .slice ea.v.sA ea.v.v.s.length ea.v.sC, .slice ea.aA ea.args.length ea.aC, .slice ea.bA ea.src.length ea.bC] ++ dc ea.eff).toArray), (82, .agg ([.int .i64 eb.op, .int .i64 eb.num, .int .i64 eb.clk, strV eb.typ, strV eb.cas, strV eb.nam, .int .i64 eb.v.v.k, .int .i64 eb.v.v.n, strV eb.v.v.t, .slice eb.v.sA eb.v.v.s.length eb.v.sC, .slice eb.aA eb.args.length eb.aC, .slice eb.bA eb.src.length eb.bC] ++ dc eb.eff).toArray), (83, .bool (decide (ea.ev = eb.ev))), (84, .slice (some ⟨bx, ox, none⟩) ((encB ea.ev).length) cE1), (85, .slice AE2 ((encB eb.ev).length) cE2), (86, .bool (decide (encB ea.ev = encB eb.ev))), (87, .bool (!((decide (ea.ev = eb.ev)) == (decide (encB ea.ev = encB eb.ev))))), (101, .bool ((cmpB .lss ((encB ea.ev).length) ((encB eb.ev).length)) && ((decide (encB ea.ev = (encB eb.ev).take (encB ea.ev).length)))))] (fun hJ3 => ?elA3) (fun a w48 hF hA49 => ?flA3)
          case elA3 =>
            rcases tf (cmpB .lss ((encB eb.ev).length) ((encB ea.ev).length)) with hg3 | hg3
            · refine vc_skip hF rfl rfl rfl rfl rfl (ne_want hg3) (by decide) (fun a hF => ?_)
              refine vc_skip hF rfl rfl rfl rfl rfl (ne_want hg3) (by decide) (fun a hF => ?_)
              refine vc_skip hF rfl rfl rfl rfl rfl (ne_want hg3) (by decide) (fun a hF => ?_)
              refine vc_skip hF rfl rfl rfl rfl rfl (ne_want hg3) (by decide) (fun a hF => ?_)
              refine vc_skip hF rfl rfl rfl rfl rfl (ne_want hg3) (by decide) (fun a hF => ?_)
              refine vc_skip hF rfl rfl rfl rfl rfl (ne_want hg3) (by decide) (fun a hF => ?_)
              refine vc_yg hF rfl rfl rfl rfl (some_bool hg2) (by decide) _ (y_pickF hg3 rfl rfl rfl) (fun a hF => ?_)
              exact hJ3 _ _ ((hF.keep [114, 0, 1, 2, 3, 4, 5, 8, 18, 19, 17, 20, 21, 9, 10, 23, 24, 22, 25, 26, 11, 12, 27, 28, 35, 36, 37, 39, 40, 41, 42, 43, 44, 45, 46, 38, 47, 48, 13, 14, 50, 51, 52, 53, 54, 55, 49, 56, 57, 15, 16, 58, 59, 60, 61, 62, 63, 64, 65, 67, 68, 69, 70, 71, 72, 73, 74, 81, 82, 83, 84, 85, 86, 87, 101] (F' := [(114, _), (0, _), (1, _), (2, _), (3, _), (4, _), (5, _), (8, _), (18, _), (19, _), (17, _), (20, _), (21, _), (9, _), (10, _), (23, _), (24, _), (22, _), (25, _), (26, _), (11, _), (12, _), (27, _), (28, _), (35, _), (36, _), (37, _), (39, _), (40, _), (41, _), (42, _), (43, _), (44, _), (45, _), (46, _), (38, _), (47, _), (48, _), (13, _), (14, _), (50, _), (51, _), (52, _), (53, _), (54, _), (55, _), (49, _), (56, _), (57, _), (15, _), (16, _), (58, _), (59, _), (60, _), (61, _), (62, _), (63, _), (64, _), (65, _), (67, _), (68, _), (69, _), (70, _), (71, _), (72, _), (73, _), (74, _), (81, _), (82, _), (83, _), (84, _), (85, _), (86, _), (87, _), (101, _)]) rfl).bool (by rw [hg3]; rfl)) hA43
            · refine vc_yg hF rfl rfl rfl rfl (some_bool hg3) (by decide) _ (y_move rfl rfl) (fun a hF => ?_)
              refine vc_yg hF rfl rfl rfl rfl (some_bool hg3) (by decide) _ (y_move rfl rfl) (fun a hF => ?_)
              refine vc_yg hF rfl rfl rfl rfl (some_bool hg3) (by decide) _ (y_move rfl rfl) (fun a hF => ?_)
              refine vc_yg hF rfl rfl rfl rfl (some_bool hg3) (by decide) _ (y_lenSl rfl Tryz.underlying27 rfl rfl) (fun a hF => ?_)
              refine vc_yg hF rfl rfl rfl rfl (some_bool hg3) (by decide) _ (y_slice rfl Tryz.underlying27 ow_size5 rfl (.none 0) (.some rfl rfl) (Nat.zero_le _) (lss_le (by assumption) hcE1) (show Value.slice (sub (some ⟨bx, ox, none⟩) 0 cE1 1) ((encB eb.ev).length - 0) (cE1 - 0) = .slice (some ⟨bx, ox, none⟩) ((encB ea.ev).take (encB eb.ev).length).length cE1 by rw [sub_zero, lss_tk (by assumption)]; rfl)) (fun a hF => ?_)
              refine vc_opg hF rfl rfl rfl (some_bool hg3) (fun K hK => ws_call hF rfl (by decide) cl23_v11 rfl rfl ?_)
              with_reducible refine (ev_sameB (l1 := (encB eb.ev)) (l2 := ((encB ea.ev).take (encB eb.ev).length)) _ (Rc.mono hRE2 (List.cons_subset.2 ⟨(List.mem_cons_of_mem _ (List.mem_cons_of_mem _ (List.mem_cons_of_mem _ ((List.mem_cons_self ..))))), List.nil_subset _⟩)) (Rc.mono (Rd.take hRE1 _) (List.cons_subset.2 ⟨(List.mem_cons_of_mem _ (List.mem_cons_of_mem _ ((List.mem_cons_self ..)))), List.nil_subset _⟩)) (by omega) hA43 ).mono ?_
              rintro e' w50 ⟨rfl, hA51⟩
              refine ⟨_, rfl, fun a hF => hK _ _ ?_⟩
              clear hK K
              replace hA51 : Hp w0 ([row b1 31 ([.int .i64 ea.op, .int .i64 ea.num, .int .i64 ea.clk, strV ea.typ, strV ea.cas, strV ea.nam, .int .i64 ea.v.v.k, .int .i64 ea.v.v.n, strV ea.v.v.t, .slice ea.v.sA ea.v.v.s.length ea.v.sC, .slice ea.aA ea.args.length ea.aC, .slice ea.bA ea.src.length ea.bC] ++ dc ea.eff)] :: [row b4 31 ([.int .i64 eb.op, .int .i64 eb.num, .int .i64 eb.clk, strV eb.typ, strV eb.cas, strV eb.nam, .int .i64 eb.v.v.k, .int .i64 eb.v.v.n, strV eb.v.v.t, .slice eb.v.sA eb.v.v.s.length eb.v.sC, .slice eb.aA eb.args.length eb.aC, .slice eb.bA eb.src.length eb.bC] ++ dc eb.eff)] :: ZE1 :: ZE2 :: []) w50 := hA51
              refine vc_yg hF rfl rfl rfl rfl (some_bool hg2) (by decide) _ (y_pickT hg3 rfl rfl rfl) (fun a hF => ?_)
              exact hJ3 _ _ ((hF.keep [114, 0, 1, 2, 3, 4, 5, 8, 18, 19, 17, 20, 21, 9, 10, 23, 24, 22, 25, 26, 11, 12, 27, 28, 35, 36, 37, 39, 40, 41, 42, 43, 44, 45, 46, 38, 47, 48, 13, 14, 50, 51, 52, 53, 54, 55, 49, 56, 57, 15, 16, 58, 59, 60, 61, 62, 63, 64, 65, 67, 68, 69, 70, 71, 72, 73, 74, 81, 82, 83, 84, 85, 86, 87, 101] (F' := [(114, _), (0, _), (1, _), (2, _), (3, _), (4, _), (5, _), (8, _), (18, _), (19, _), (17, _), (20, _), (21, _), (9, _), (10, _), (23, _), (24, _), (22, _), (25, _), (26, _), (11, _), (12, _), (27, _), (28, _), (35, _), (36, _), (37, _), (39, _), (40, _), (41, _), (42, _), (43, _), (44, _), (45, _), (46, _), (38, _), (47, _), (48, _), (13, _), (14, _), (50, _), (51, _), (52, _), (53, _), (54, _), (55, _), (49, _), (56, _), (57, _), (15, _), (16, _), (58, _), (59, _), (60, _), (61, _), (62, _), (63, _), (64, _), (65, _), (67, _), (68, _), (69, _), (70, _), (71, _), (72, _), (73, _), (74, _), (81, _), (82, _), (83, _), (84, _), (85, _), (86, _), (87, _), (101, _)]) rfl).bool (by rw [hg3]; rfl)) hA51
          replace hA49 : Hp w0 ([row b1 31 ([.int .i64 ea.op, .int .i64 ea.num, .int .i64 ea.clk, strV ea.typ, strV ea.cas, strV ea.nam, .int .i64 ea.v.v.k, .int .i64 ea.v.v.n, strV ea.v.v.t, .slice ea.v.sA ea.v.v.s.length ea.v.sC, .slice ea.aA ea.args.length ea.aC, .slice ea.bA ea.src.length ea.bC] ++ dc ea.eff)] :: [row b4 31 ([.int .i64 eb.op, .int .i64 eb.num, .int .i64 eb.clk, strV eb.typ, strV eb.cas, strV eb.nam, .int .i64 eb.v.v.k, .int .i64 eb.v.v.n, strV eb.v.v.t, .slice eb.v.sA eb.v.v.s.length eb.v.sC, .slice eb.aA eb.args.length eb.aC, .slice eb.bA eb.src.length eb.bC] ++ dc eb.eff)] :: ZE1 :: ZE2 :: []) w48 := hA49
          refine vc_y hF rfl rfl (by decide) _ (y_pickF hg2 rfl rfl rfl) (fun a hF => ?_)
          exact hJ2 _ _ ((hF.keep [115, 0, 1, 2, 3, 4, 5, 8, 18, 19, 17, 20, 21, 9, 10, 23, 24, 22, 25, 26, 11, 12, 27, 28, 35, 36, 37, 39, 40, 41, 42, 43, 44, 45, 46, 38, 47, 48, 13, 14, 50, 51, 52, 53, 54, 55, 49, 56, 57, 15, 16, 58, 59, 60, 61, 62, 63, 64, 65, 67, 68, 69, 70, 71, 72, 73, 74, 81, 82, 83, 84, 85, 86, 87] (F' := [(115, _), (0, _), (1, _), (2, _), (3, _), (4, _), (5, _), (8, _), (18, _), (19, _), (17, _), (20, _), (21, _), (9, _), (10, _), (23, _), (24, _), (22, _), (25, _), (26, _), (11, _), (12, _), (27, _), (28, _), (35, _), (36, _), (37, _), (39, _), (40, _), (41, _), (42, _), (43, _), (44, _), (45, _), (46, _), (38, _), (47, _), (48, _), (13, _), (14, _), (50, _), (51, _), (52, _), (53, _), (54, _), (55, _), (49, _), (56, _), (57, _), (15, _), (16, _), (58, _), (59, _), (60, _), (61, _), (62, _), (63, _), (64, _), (65, _), (67, _), (68, _), (69, _), (70, _), (71, _), (72, _), (73, _), (74, _), (81, _), (82, _), (83, _), (84, _), (85, _), (86, _), (87, _)]) rfl).bool (by rw [hg2]; rfl)) hA49
        · refine vc_skip hF rfl rfl rfl rfl rfl (ne_want hg2) (by decide) (fun a hF => ?_)
          refine vc_skip hF rfl rfl rfl rfl rfl (ne_want hg2) (by decide) (fun a hF => ?_)
          refine vc_skip hF rfl rfl rfl rfl rfl (ne_want hg2) (by decide) (fun a hF => ?_)
          refine vc_skip hF rfl rfl rfl rfl rfl (ne_want hg2) (by decide) (fun a hF => ?_)
          refine vc_skip hF rfl rfl rfl rfl rfl (ne_want hg2) (by decide) (fun a hF => ?_)
          refine vc_skip hF rfl rfl rfl rfl rfl (ne_want hg2) (by decide) (fun a hF => ?_)
          refine vc_skipU hF rfl rfl rfl rfl rfl (by decide) (fun a hF => ?_)
          refine vc_skipU hF rfl rfl rfl rfl rfl (by decide) (fun a hF => ?_)
          refine vc_skipU hF rfl rfl rfl rfl rfl (by decide) (fun a hF => ?_)
          refine vc_skipU hF rfl rfl rfl rfl rfl (by decide) (fun a hF => ?_)
          refine vc_skipU hF rfl rfl rfl rfl rfl (by decide) (fun a hF => ?_)
          refine vc_skipU hF rfl rfl rfl rfl rfl (by decide) (fun a hF => ?_)
          refine vc_skip hF rfl rfl rfl rfl rfl (ne_want hg2) (by decide) (fun a hF => ?_)
          refine vc_y hF rfl rfl (by decide) _ (y_pickT hg2 rfl rfl rfl) (fun a hF => ?_)
          exact hJ2 _ _ ((hF.keep [115, 0, 1, 2, 3, 4, 5, 8, 18, 19, 17, 20, 21, 9, 10, 23, 24, 22, 25, 26, 11, 12, 27, 28, 35, 36, 37, 39, 40, 41, 42, 43, 44, 45, 46, 38, 47, 48, 13, 14, 50, 51, 52, 53, 54, 55, 49, 56, 57, 15, 16, 58, 59, 60, 61, 62, 63, 64, 65, 67, 68, 69, 70, 71, 72, 73, 74, 81, 82, 83, 84, 85, 86, 87] (F' := [(115, _), (0, _), (1, _), (2, _), (3, _), (4, _), (5, _), (8, _), (18, _), (19, _), (17, _), (20, _), (21, _), (9, _), (10, _), (23, _), (24, _), (22, _), (25, _), (26, _), (11, _), (12, _), (27, _), (28, _), (35, _), (36, _), (37, _), (39, _), (40, _), (41, _), (42, _), (43, _), (44, _), (45, _), (46, _), (38, _), (47, _), (48, _), (13, _), (14, _), (50, _), (51, _), (52, _), (53, _), (54, _), (55, _), (49, _), (56, _), (57, _), (15, _), (16, _), (58, _), (59, _), (60, _), (61, _), (62, _), (63, _), (64, _), (65, _), (67, _), (68, _), (69, _), (70, _), (71, _), (72, _), (73, _), (74, _), (81, _), (82, _), (83, _), (84, _), (85, _), (86, _), (87, _)]) rfl).bool (by rw [hg2]; rfl)) hA43
      replace hA47 : Hp w0 ([row b1 31 ([.int .i64 ea.op, .int .i64 ea.num, .int .i64 ea.clk, strV ea.typ, strV ea.cas, strV ea.nam, .int .i64 ea.v.v.k, .int .i64 ea.v.v.n, strV ea.v.v.t, .slice ea.v.sA ea.v.v.s.length ea.v.sC, .slice ea.aA ea.args.length ea.aC, .slice ea.bA ea.src.length ea.bC] ++ dc ea.eff)] :: [row b4 31 ([.int .i64 eb.op, .int .i64 eb.num, .int .i64 eb.clk, strV eb.typ, strV eb.cas, strV eb.nam, .int .i64 eb.v.v.k, .int .i64 eb.v.v.n, strV eb.v.v.t, .slice eb.v.sA eb.v.v.s.length eb.v.sC, .slice eb.aA eb.args.length eb.aC, .slice eb.bA eb.src.length eb.bC] ++ dc eb.eff)] :: ZE1 :: ZE2 :: []) w46 := hA47
      refine vc_nil ?_
      refine hK17 _ _ ?_; clear  hK17 K17
      refine vc_falseB hF rfl (apart_no hV.i hW.i h0 h1) ?_
      apply wp_skip
      refine hK16 _ _ ?_; clear  hK16 K16
      apply wp_seq_k; intro K18 hK18
      refine wp_region_lit ?_
      refine vc_op rfl (fun K hK => ws_call hF rfl (by decide) cl15_v11 rfl rfl ?_)
      with_reducible refine (ev_known _ hT hA47 ).mono ?_
      rintro e' w52 ⟨rfl, hA53⟩
      refine ⟨_, rfl, fun a hF => hK _ _ ?_⟩
      clear hK K
      replace hA53 : Hp w0 ([row b1 31 ([.int .i64 ea.op, .int .i64 ea.num, .int .i64 ea.clk, strV ea.typ, strV ea.cas, strV ea.nam, .int .i64 ea.v.v.k, .int .i64 ea.v.v.n, strV ea.v.v.t, .slice ea.v.sA ea.v.v.s.length ea.v.sC, .slice ea.aA ea.args.length ea.aC, .slice ea.bA ea.src.length ea.bC] ++ dc ea.eff)] :: [row b4 31 ([.int .i64 eb.op, .int .i64 eb.num, .int .i64 eb.clk, strV eb.typ, strV eb.cas, strV eb.nam, .int .i64 eb.v.v.k, .int .i64 eb.v.v.n, strV eb.v.v.t, .slice eb.v.sA eb.v.v.s.length eb.v.sC, .slice eb.aA eb.args.length eb.aC, .slice eb.bA eb.src.length eb.bC] ++ dc eb.eff)] :: ZE1 :: ZE2 :: []) w52 := hA53
      refine vc_y hF rfl rfl (by decide) _ (y_assign rfl rfl) (fun a hF => ?_)
      refine vc_nil ?_
      refine hK18 _ _ ?_; clear  hK18 K18
      apply wp_ret
      refine vc_ret1 hF Tryz.results6 rfl ?_
      have hA54 : Hp w0 ([]) w52 := Hp.sel [[row b1 31 ([.int .i64 ea.op, .int .i64 ea.num, .int .i64 ea.clk, strV ea.typ, strV ea.cas, strV ea.nam, .int .i64 ea.v.v.k, .int .i64 ea.v.v.n, strV ea.v.v.t, .slice ea.v.sA ea.v.v.s.length ea.v.sC, .slice ea.aA ea.args.length ea.aC, .slice ea.bA ea.src.length ea.bC] ++ dc ea.eff)], [row b4 31 ([.int .i64 eb.op, .int .i64 eb.num, .int .i64 eb.clk, strV eb.typ, strV eb.cas, strV eb.nam, .int .i64 eb.v.v.k, .int .i64 eb.v.v.n, strV eb.v.v.t, .slice eb.v.sA eb.v.v.s.length eb.v.sC, .slice eb.aA eb.args.length eb.aC, .slice eb.bA eb.src.length eb.bC] ++ dc eb.eff)], ZE1, ZE2] [] [] [0, 1, 2, 3] hA53 rfl
      exact ⟨rfl, hA54.at0⟩
    · refine vc_trueB hF rfl (by simp [cmpB]; omega) ?_
      apply wp_seq_k; intro K19 hK19
      refine wp_region_lit ?_
      refine vc_y hF rfl rfl (by decide) _ (y_move rfl rfl) (fun a hF => ?_)
      refine vc_y hF rfl rfl (by decide) _ (y_lenSl rfl Tryz.underlying27 rfl rfl) (fun a hF => ?_)
      refine vc_y hF rfl rfl (by decide) _ (y_cmp rfl rfl rfl rfl (eql_t (by rw [show encB eb.ev = [] from if_neg h1]; rfl))) (fun a hF => ?_)
      refine vc_y hF rfl rfl (by decide) _ (y_move rfl rfl) (fun a hF => ?_)
      refine vc_opg hF rfl rfl rfl (some_bool rfl) (fun K hK => ws_call hF rfl (by decide) cl15_v11 rfl rfl ?_)
      with_reducible refine (ev_known _ hT hA37 ).mono ?_
      rintro e' w55 ⟨rfl, hA56⟩
      refine ⟨_, rfl, fun a hF => hK _ _ ?_⟩
      clear hK K
      replace hA56 : Hp w0 ([row b1 31 ([.int .i64 ea.op, .int .i64 ea.num, .int .i64 ea.clk, strV ea.typ, strV ea.cas, strV ea.nam, .int .i64 ea.v.v.k, .int .i64 ea.v.v.n, strV ea.v.v.t, .slice ea.v.sA ea.v.v.s.length ea.v.sC, .slice ea.aA ea.args.length ea.aC, .slice ea.bA ea.src.length ea.bC] ++ dc ea.eff)] :: [row b4 31 ([.int .i64 eb.op, .int .i64 eb.num, .int .i64 eb.clk, strV eb.typ, strV eb.cas, strV eb.nam, .int .i64 eb.v.v.k, .int .i64 eb.v.v.n, strV eb.v.v.t, .slice eb.v.sA eb.v.v.s.length eb.v.sC, .slice eb.aA eb.args.length eb.aC, .slice eb.bA eb.src.length eb.bC] ++ dc eb.eff)] :: ZE1 :: ZE2 :: []) w55 := hA56
      refine vc_y hF rfl rfl (by decide) _ (y_pickT rfl rfl rfl rfl) (fun a hF => ?_)
      refine vc_y hF rfl rfl (by decide) _ (y_assign rfl rfl) (fun a hF => ?_)
      refine vc_nil ?_
      refine hK19 _ _ ?_; clear  hK19 K19
      apply wp_ret
      simp only [Exit.then]
      refine vc_ret1 hF Tryz.results6 rfl ?_
      have hA57 : Hp w0 ([]) w55 := Hp.sel [[row b1 31 ([.int .i64 ea.op, .int .i64 ea.num, .int .i64 ea.clk, strV ea.typ, strV ea.cas, strV ea.nam, .int .i64 ea.v.v.k, .int .i64 ea.v.v.n, strV ea.v.v.t, .slice ea.v.sA ea.v.v.s.length ea.v.sC, .slice ea.aA ea.args.length ea.aC, .slice ea.bA ea.src.length ea.bC] ++ dc ea.eff)], [row b4 31 ([.int .i64 eb.op, .int .i64 eb.num, .int .i64 eb.clk, strV eb.typ, strV eb.cas, strV eb.nam, .int .i64 eb.v.v.k, .int .i64 eb.v.v.n, strV eb.v.v.t, .slice eb.v.sA eb.v.v.s.length eb.v.sC, .slice eb.aA eb.args.length eb.aC, .slice eb.bA eb.src.length eb.bC] ++ dc eb.eff)], ZE1, ZE2] [] [] [0, 1, 2, 3] hA56 rfl
      exact ⟨rfl, hA57.at0⟩
  · refine vc_trueB hF rfl (by simp [cmpB]; omega) ?_
    apply wp_seq_k; intro K20 hK20
    refine wp_region_lit ?_
    refine vc_y hF rfl rfl (by decide) _ (y_move rfl rfl) (fun a hF => ?_)
    refine vc_y hF rfl rfl (by decide) _ (y_lenSl rfl Tryz.underlying27 rfl rfl) (fun a hF => ?_)
    refine vc_y hF rfl rfl (by decide) _ (y_cmp rfl rfl rfl rfl (eql_t (by rw [show encB ea.ev = [] from if_neg h0]; rfl))) (fun a hF => ?_)
    refine vc_y hF rfl rfl (by decide) _ (y_move rfl rfl) (fun a hF => ?_)
    refine vc_opg hF rfl rfl rfl (some_bool rfl) (fun K hK => ws_call hF rfl (by decide) cl15_v11 rfl rfl ?_)
    with_reducible refine (ev_known _ hT hA10 ).mono ?_
    rintro e' w58 ⟨rfl, hA59⟩
    refine ⟨_, rfl, fun a hF => hK _ _ ?_⟩
    clear hK K
    replace hA59 : Hp w0 (ZE2 :: ZE1 :: [row b4 31 ([.int .i64 eb.op, .int .i64 eb.num, .int .i64 eb.clk, strV eb.typ, strV eb.cas, strV eb.nam, .int .i64 eb.v.v.k, .int .i64 eb.v.v.n, strV eb.v.v.t, .slice eb.v.sA eb.v.v.s.length eb.v.sC, .slice eb.aA eb.args.length eb.aC, .slice eb.bA eb.src.length eb.bC] ++ dc eb.eff)] :: [row b1 31 ([.int .i64 ea.op, .int .i64 ea.num, .int .i64 ea.clk, strV ea.typ, strV ea.cas, strV ea.nam, .int .i64 ea.v.v.k, .int .i64 ea.v.v.n, strV ea.v.v.t, .slice ea.v.sA ea.v.v.s.length ea.v.sC, .slice ea.aA ea.args.length ea.aC, .slice ea.bA ea.src.length ea.bC] ++ dc ea.eff)] :: []) w58 := hA59
    refine vc_y hF rfl rfl (by decide) _ (y_pickT rfl rfl rfl rfl) (fun a hF => ?_)
    refine vc_y hF rfl rfl (by decide) _ (y_assign rfl rfl) (fun a hF => ?_)
    refine vc_nil ?_
    refine hK20 _ _ ?_; clear  hK20 K20
    apply wp_ret
    simp only [Exit.then]
    refine vc_ret1 hF Tryz.results6 rfl ?_
    have hA60 : Hp w0 ([]) w58 := Hp.sel [ZE2, ZE1, [row b4 31 ([.int .i64 eb.op, .int .i64 eb.num, .int .i64 eb.clk, strV eb.typ, strV eb.cas, strV eb.nam, .int .i64 eb.v.v.k, .int .i64 eb.v.v.n, strV eb.v.v.t, .slice eb.v.sA eb.v.v.s.length eb.v.sC, .slice eb.aA eb.args.length eb.aC, .slice eb.bA eb.src.length eb.bC] ++ dc eb.eff)], [row b1 31 ([.int .i64 ea.op, .int .i64 ea.num, .int .i64 ea.clk, strV ea.typ, strV ea.cas, strV ea.nam, .int .i64 ea.v.v.k, .int .i64 ea.v.v.n, strV ea.v.v.t, .slice ea.v.sA ea.v.v.s.length ea.v.sC, .slice ea.aA ea.args.length ea.aC, .slice ea.bA ea.src.length ea.bC] ++ dc ea.eff)]] [] [] [0, 1, 2, 3] hA59 rfl
    exact ⟨rfl, hA60.at0⟩
end Go.Proofs.YtepbmdlgdaedpaaGreatDoor
