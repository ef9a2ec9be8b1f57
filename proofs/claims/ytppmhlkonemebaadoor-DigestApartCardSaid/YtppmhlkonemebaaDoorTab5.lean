/- sum and unlike of the law DigestApart. -/
import Derived.Test.YtppmhlkonemebaaDoorTab4
namespace Go.Proofs.YtppmhlkonemebaaDoor
open Go.RowKit Go.Dk

theorem y_build2 {n : Nat} {F : List (Nat × Value)} {o : Oper} {w : World} {t : TypeId} {x y : Operand} {u1 u2 v : Value} (ho : o.op = .build t #[(0, x), (1, y)]) (hx : ev F x = some u1) (hy : ev F y = some u2) (hr : ∀ w, (Instr.build t #[(0, u1), (1, u2)]).run Tryd.prog w = .ok v w) : Yd Tryd.prog n F o w v := fun a hF => by
  unfold execOp
  simp only [ho, Sem.run_bind]
  have h1 : (Instr.build t (Array.map (fun x : Nat × Operand => (x.1, a.eval x.2)) #[(0, x), (1, y)])).run Tryd.prog w = .ok v w := by simpa [hF.ev hx, hF.ev hy] using hr w
  simp only [h1, Result.andThen_ok, Sem.run_pure]
theorem ba_size (p : List UInt8) : (ByteArray.mk p.toArray).size = p.length := by
  have h : (ByteArray.mk p.toArray).data.toList.length = (ByteArray.mk p.toArray).size := Array.length_toList
  rw [← h]
def bval (l : List UInt8) : Nat := l.foldl (fun n c => n * 256 + c.toNat) 0
theorem be_succ (K n : Nat) : be (K + 1) n = be K (n / 256) ++ [UInt8.ofNat n] := by
  unfold be
  rw [List.range_succ, List.map_append]
  congr 1
  · apply List.map_congr_left
    intro j hj
    have hj' := List.mem_range.1 hj
    rw [show K + 1 - 1 - j = (K - 1 - j) + 1 by omega, Nat.pow_succ, Nat.mul_comm, Nat.div_div_eq_div_mul]
  · simp
theorem bval_be : ∀ K n, bval (be K n) = n % 256 ^ K
  | 0, n => by simp [be, bval, Nat.mod_one]
  | K + 1, n => by
    have h := bval_be K (n / 256)
    rw [be_succ, bval, List.foldl_append]
    show bval (be K (n / 256)) * 256 + (UInt8.ofNat n).toNat = _
    rw [h, UInt8.toNat_ofNat', show 256 ^ (K + 1) = 256 * 256 ^ K by rw [Nat.pow_succ, Nat.mul_comm], Nat.mod_mul]
    omega
theorem be8_inj {C D : Int} (hC : -9223372036854775808 ≤ C ∧ C ≤ 9223372036854775807) (hD : -9223372036854775808 ≤ D ∧ D ≤ 9223372036854775807) (h : be 8 (c64 C) = be 8 (c64 D)) : C = D := by
  have h1 := congrArg bval h
  rw [bval_be, bval_be, Nat.mod_eq_of_lt (c64_lt C), Nat.mod_eq_of_lt (c64_lt D)] at h1
  unfold c64 at h1
  omega
theorem be8_len (n : Nat) : (be 8 n).length = 8 := by simp [be]
theorem ne_dec {P Q : Prop} [Decidable Q] [i : Decidable (¬P)] (h : P ↔ Q) : (!decide Q) = @decide (¬P) i := by
  by_cases hq : Q
  · rw [decide_eq_true hq, decide_eq_false (fun hn => hn (h.2 hq))]; rfl
  · rw [decide_eq_false hq, decide_eq_true (fun hp => hq (h.1 hp))]; rfl
theorem ne_tru {P : Prop} [i : Decidable (¬P)] (h : ¬P) : true = @decide (¬P) i := (decide_eq_true h).symm
section
variable {c c' : Int} {X X' Y Y' p p' : List UInt8}
theorem tx_two (hX : X.length = 32) (hX' : X'.length = 32) (b : UInt8) : (b :: (X ++ Y) = b :: (X' ++ Y')) ↔ X = X' ∧ Y = Y' := by
  constructor
  · intro h
    injection h with _ h
    exact List.append_inj h (by omega)
  · rintro ⟨rfl, rfl⟩; rfl
theorem tx_three (hX : X.length = 32) (hX' : X'.length = 32) (hC : -9223372036854775808 ≤ c ∧ c ≤ 9223372036854775807) (hC' : -9223372036854775808 ≤ c' ∧ c' ≤ 9223372036854775807) (b : UInt8) : (b :: (X ++ be 8 (c64 c) ++ Y) = b :: (X' ++ be 8 (c64 c') ++ Y')) ↔ X = X' ∧ Y = Y' ∧ c = c' := by
  constructor
  · intro h
    injection h with _ h
    rw [List.append_assoc, List.append_assoc] at h
    obtain ⟨h1, h2⟩ := List.append_inj h (by omega)
    obtain ⟨h3, h4⟩ := List.append_inj h2 (by rw [be8_len, be8_len])
    exact ⟨h1, h4, be8_inj hC hC' h3⟩
  · rintro ⟨rfl, rfl, rfl⟩; rfl
end
theorem rw36_t5 : isRow Tryd.prog 36 32 = true := by kernel_rfl
theorem sz3_t5 : (Tryd.prog.info? 3).map (·.size) = some 1 := by kernel_rfl
theorem sz24_t5 : (Tryd.prog.info? 24).map (·.size) = some 1 := by kernel_rfl
theorem sz36_t5 : (Tryd.prog.info? 36).map (·.size) = some 32 := by kernel_rfl
theorem cl33_t5 : CallsTo Tryd.prog 33 := ⟨_, Tryd.func33, by kernel_rfl, by kernel_rfl⟩
theorem cl34_t5 : CallsTo Tryd.prog 34 := ⟨_, Tryd.func34, by kernel_rfl, by kernel_rfl⟩
theorem cl36_t5 : CallsTo Tryd.prog 36 := ⟨_, Tryd.func36, by kernel_rfl, by kernel_rfl⟩
theorem cl38_t5 : CallsTo Tryd.prog 38 := ⟨_, Tryd.func38, by kernel_rfl, by kernel_rfl⟩
theorem cl40_t5 : CallsTo Tryd.prog 40 := ⟨_, Tryd.func40, by kernel_rfl, by kernel_rfl⟩
theorem cl42_t5 : CallsTo Tryd.prog 42 := ⟨_, Tryd.func42, by kernel_rfl, by kernel_rfl⟩
theorem cl44_t5 : CallsTo Tryd.prog 44 := ⟨_, Tryd.func44, by kernel_rfl, by kernel_rfl⟩
theorem cl47_t5 : CallsTo Tryd.prog 47 := ⟨_, Tryd.func47, by kernel_rfl, by kernel_rfl⟩
theorem cl56_t5 : CallsTo Tryd.prog 56 := ⟨_, Tryd.func56, by kernel_rfl, by kernel_rfl⟩

set_option maxRecDepth 100000 in
set_option maxHeartbeats 1000000 in
theorem sum_1 (w : World) (pw pd pc ph : Int) (X Y : List UInt8) (PA : Option Addr) (p : List UInt8) (cp : Nat) (pq : Value) (hX : X.length = 32) (hY : Y.length = 32) (hcp : p.length ≤ cp) (hB : Bts w PA p) (hp : p.length < 140737488353000) (width : Int) (hT : Tab w) :
    Calls Tryd.prog 55 #[.int .i64 1, .int .i64 width, .agg (PC pw pd pc ph X Y (.slice PA p.length cp) pq).toArray] w fun e w' => e = .returned (.agg (dc (cutL (sha (textL 1 pc X Y p)) width)).toArray) ∧ At w [] w' := by
  have hA0 := At.refl w
  have hpos : 0 < w.heap.size := hT.lt
  refine vc_enter Tryd.func55 rfl Tryd.ntmps55 (Nat.le_of_ble_eq_true rfl) (fun a hF => ?_)
  apply wp_seq_k; intro K1 hK1
  refine wp_region_lit ?_
  refine vc_op rfl (fun K hK => ws_box (cs := PC pw pd pc ph X Y (.slice PA p.length cp) pq) hF rfl (by decide) rfl hA0 rfl (fun g w1 a hg hF hA1 => hK _ _ ?_))
  clear hK K
  refine vc_op rfl (fun K hK => ws_alloc hF rfl (by decide) rfl hA1 zero36 (fun b6 w2 a hb6 hF hA2 => hK _ _ ?_))
  clear hK K
  replace hA2 : At w [(b6, 36, dc (List.replicate 32 0)), (g, 64, PC pw pd pc ph X Y (.slice PA p.length cp) pq)] w2 := hA2
  refine vc_nil ?_
  refine hK1 _ _ ?_; clear  hK1 K1
  apply wp_seq_k; intro K2 hK2
  apply wp_seq_k; intro K3 hK3
  refine wp_region_lit ?_
  refine vc_y hF rfl rfl (by decide) _ (y_move rfl rfl) (fun a hF => ?_)
  refine vc_nil ?_
  refine hK3 _ _ ?_; clear  hK3 K3
  apply wp_block
  apply wp_seq_k; intro K4 hK4
  refine wp_region_lit ?_
  refine vc_y hF rfl rfl (by decide) _ (y_cmp (c := true) rfl rfl rfl rfl rfl) (fun a hF => ?_)
  refine vc_y hF rfl rfl (by decide) _ (y_assign rfl rfl) (fun a hF => ?_)
  refine vc_nil ?_
  refine hK4 _ _ ?_; clear  hK4 K4
  refine vc_true hF rfl ?_
  apply wp_seq_k; intro K5 hK5
  have q6 : w.heap.size ≤ b6 := by have := hA1.size; omega
  have hnr : ∀ r ∈ [((b6, 36, dc (List.replicate 32 0)) : Row), (g, 64, PC pw pd pc ph X Y (.slice PA p.length cp) pq)], w.heap.size ≤ r.1 := cons_new q6 (one_new hg)
  have hT2 : Tab w2 := hT.at_ hA2 (not0w hpos hnr)
  refine wp_region_lit ?_
  refine vc_y hF rfl rfl (by decide) _ (y_move rfl rfl) (fun a hF => ?_)
  refine vc_y hF rfl rfl (by decide) _ (y_field rfl Tryd.underlying64 rfl sz24_t5 (by decide) rfl (rfl : (⟨_, 0 + _, none⟩ : Addr) = ⟨_, 68, none⟩)) (fun a hF => ?_)
  refine vc_y hF rfl rfl (by decide) _ (y_loadAt rfl hA2 rfl 1 rfl (pc_P hX hY) ow_no24) (fun a hF => ?_)
  refine vc_op rfl (fun K hK => ws_call hF rfl (by decide) cl33_t5 rfl rfl ?_)
  with_reducible refine (leaf_all w2 width PA p cp _ rfl hcp (hB.fresh hA2 hnr) (by omega) hT2).mono ?_
  rintro e' w3 ⟨rfl, hc3⟩
  refine ⟨_, rfl, fun a hF => hK _ _ ?_⟩; clear hK K
  have hA3 : At w [(b6, 36, dc (List.replicate 32 0)), (g, 64, PC pw pd pc ph X Y (.slice PA p.length cp) pq)] w3 := hA2.then0 hc3
  clear hc3
  refine vc_op rfl (fun K hK => ws_storeAll hF rfl rfl hA3 rfl rfl 0 rfl (tb_z (ofL_length _ _ _)) (dc_one _) tb_s (fun w4 hA4 => hK _ _ ?_))
  clear hK K
  refine vc_nil ?_
  refine hK5 _ _ ?_; clear  hK5 K5
  apply wp_ret
  simp only [Exit.then, Exit.inBlock]
  refine vc_retc hF Tryd.results55 hA4 rfl 0 rfl (tb_row36 (ofL_length _ _ _)) ?_
  exact ⟨rfl, hA4.clear (cons_new q6 (one_new hg))⟩

set_option maxRecDepth 100000 in
set_option maxHeartbeats 1000000 in
theorem sum_2 (w : World) (pw pd pc ph : Int) (X Y : List UInt8) (PA : Option Addr) (p : List UInt8) (cp : Nat) (pq : Value) (hX : X.length = 32) (hY : Y.length = 32) (hcp : p.length ≤ cp) (hB : Bts w PA p) (hp : p.length < 140737488353000) (width : Int) (hT : Tab w) :
    Calls Tryd.prog 55 #[.int .i64 2, .int .i64 width, .agg (PC pw pd pc ph X Y (.slice PA p.length cp) pq).toArray] w fun e w' => e = .returned (.agg (dc (cutL (sha (textL 2 pc X Y p)) width)).toArray) ∧ At w [] w' := by
  have hA0 := At.refl w
  have hpos : 0 < w.heap.size := hT.lt
  refine vc_enter Tryd.func55 rfl Tryd.ntmps55 (Nat.le_of_ble_eq_true rfl) (fun a hF => ?_)
  apply wp_seq_k; intro K1 hK1
  refine wp_region_lit ?_
  refine vc_op rfl (fun K hK => ws_box (cs := PC pw pd pc ph X Y (.slice PA p.length cp) pq) hF rfl (by decide) rfl hA0 rfl (fun g w1 a hg hF hA1 => hK _ _ ?_))
  clear hK K
  refine vc_op rfl (fun K hK => ws_alloc hF rfl (by decide) rfl hA1 zero36 (fun b6 w2 a hb6 hF hA2 => hK _ _ ?_))
  clear hK K
  replace hA2 : At w [(b6, 36, dc (List.replicate 32 0)), (g, 64, PC pw pd pc ph X Y (.slice PA p.length cp) pq)] w2 := hA2
  refine vc_nil ?_
  refine hK1 _ _ ?_; clear  hK1 K1
  apply wp_seq_k; intro K2 hK2
  apply wp_seq_k; intro K3 hK3
  refine wp_region_lit ?_
  refine vc_y hF rfl rfl (by decide) _ (y_move rfl rfl) (fun a hF => ?_)
  refine vc_nil ?_
  refine hK3 _ _ ?_; clear  hK3 K3
  apply wp_block
  apply wp_seq_k; intro K4 hK4
  refine wp_region_lit ?_
  refine vc_y hF rfl rfl (by decide) _ (y_cmp (c := false) rfl rfl rfl rfl rfl) (fun a hF => ?_)
  refine vc_y hF rfl rfl (by decide) _ (y_assign rfl rfl) (fun a hF => ?_)
  refine vc_nil ?_
  refine hK4 _ _ ?_; clear  hK4 K4
  refine vc_false hF rfl ?_
  apply wp_seq_k; intro K5 hK5
  refine wp_region_lit ?_
  refine vc_y hF rfl rfl (by decide) _ (y_cmp (c := true) rfl rfl rfl rfl rfl) (fun a hF => ?_)
  refine vc_y hF rfl rfl (by decide) _ (y_assign rfl rfl) (fun a hF => ?_)
  refine vc_nil ?_
  refine hK5 _ _ ?_; clear  hK5 K5
  refine vc_true hF rfl ?_
  apply wp_seq_k; intro K6 hK6
  have q6 : w.heap.size ≤ b6 := by have := hA1.size; omega
  have hnr : ∀ r ∈ [((b6, 36, dc (List.replicate 32 0)) : Row), (g, 64, PC pw pd pc ph X Y (.slice PA p.length cp) pq)], w.heap.size ≤ r.1 := cons_new q6 (one_new hg)
  have hT2 : Tab w2 := hT.at_ hA2 (not0w hpos hnr)
  refine wp_region_lit ?_
  refine vc_y hF rfl rfl (by decide) _ (y_move rfl rfl) (fun a hF => ?_)
  refine vc_y hF rfl rfl (by decide) _ (y_field rfl Tryd.underlying64 rfl sz36_t5 (by decide) rfl (rfl : (⟨_, 0 + _, none⟩ : Addr) = ⟨_, 4, none⟩)) (fun a hF => ?_)
  refine vc_y hF rfl rfl (by decide) _ (y_loadRow rfl hA2 rfl 1 rfl rw36_t5 (by rw [pc_len hX hY]; decide) (new := dc X) (pc_A hX)) (fun a hF => ?_)
  refine vc_y hF rfl rfl (by decide) _ (y_field rfl Tryd.underlying64 rfl sz36_t5 (by decide) rfl (rfl : (⟨_, 0 + _, none⟩ : Addr) = ⟨_, 36, none⟩)) (fun a hF => ?_)
  refine vc_y hF rfl rfl (by decide) _ (y_loadRow rfl hA2 rfl 1 rfl rw36_t5 (by rw [pc_len hX hY]; decide) (new := dc Y) (pc_B hX hY)) (fun a hF => ?_)
  refine vc_op rfl (fun K hK => ws_call hF rfl (by decide) cl36_t5 rfl rfl ?_)
  with_reducible refine (node_any w2 width X Y hX hY hT2).mono ?_
  rintro e' w3 ⟨rfl, hc3⟩
  refine ⟨_, rfl, fun a hF => hK _ _ ?_⟩; clear hK K
  have hA3 : At w [(b6, 36, dc (List.replicate 32 0)), (g, 64, PC pw pd pc ph X Y (.slice PA p.length cp) pq)] w3 := hA2.then0 hc3
  clear hc3
  refine vc_op rfl (fun K hK => ws_storeAll hF rfl rfl hA3 rfl rfl 0 rfl (tb_z (ofL_length _ _ _)) (dc_one _) tb_s (fun w4 hA4 => hK _ _ ?_))
  clear hK K
  refine vc_nil ?_
  refine hK6 _ _ ?_; clear  hK6 K6
  apply wp_ret
  simp only [Exit.then, Exit.inBlock]
  refine vc_retc hF Tryd.results55 hA4 rfl 0 rfl (tb_row36 (ofL_length _ _ _)) ?_
  exact ⟨rfl, hA4.clear (cons_new q6 (one_new hg))⟩

set_option maxRecDepth 100000 in
set_option maxHeartbeats 1000000 in
theorem sum_3 (w : World) (pw pd pc ph : Int) (X Y : List UInt8) (PA : Option Addr) (p : List UInt8) (cp : Nat) (pq : Value) (hX : X.length = 32) (hY : Y.length = 32) (hcp : p.length ≤ cp) (hB : Bts w PA p) (hp : p.length < 140737488353000) (width : Int) (hT : Tab w) :
    Calls Tryd.prog 55 #[.int .i64 3, .int .i64 width, .agg (PC pw pd pc ph X Y (.slice PA p.length cp) pq).toArray] w fun e w' => e = .returned (.agg (dc (cutL (sha (textL 3 pc X Y p)) width)).toArray) ∧ At w [] w' := by
  have hA0 := At.refl w
  have hpos : 0 < w.heap.size := hT.lt
  refine vc_enter Tryd.func55 rfl Tryd.ntmps55 (Nat.le_of_ble_eq_true rfl) (fun a hF => ?_)
  apply wp_seq_k; intro K1 hK1
  refine wp_region_lit ?_
  refine vc_op rfl (fun K hK => ws_box (cs := PC pw pd pc ph X Y (.slice PA p.length cp) pq) hF rfl (by decide) rfl hA0 rfl (fun g w1 a hg hF hA1 => hK _ _ ?_))
  clear hK K
  refine vc_op rfl (fun K hK => ws_alloc hF rfl (by decide) rfl hA1 zero36 (fun b6 w2 a hb6 hF hA2 => hK _ _ ?_))
  clear hK K
  replace hA2 : At w [(b6, 36, dc (List.replicate 32 0)), (g, 64, PC pw pd pc ph X Y (.slice PA p.length cp) pq)] w2 := hA2
  refine vc_nil ?_
  refine hK1 _ _ ?_; clear  hK1 K1
  apply wp_seq_k; intro K2 hK2
  apply wp_seq_k; intro K3 hK3
  refine wp_region_lit ?_
  refine vc_y hF rfl rfl (by decide) _ (y_move rfl rfl) (fun a hF => ?_)
  refine vc_nil ?_
  refine hK3 _ _ ?_; clear  hK3 K3
  apply wp_block
  apply wp_seq_k; intro K4 hK4
  refine wp_region_lit ?_
  refine vc_y hF rfl rfl (by decide) _ (y_cmp (c := false) rfl rfl rfl rfl rfl) (fun a hF => ?_)
  refine vc_y hF rfl rfl (by decide) _ (y_assign rfl rfl) (fun a hF => ?_)
  refine vc_nil ?_
  refine hK4 _ _ ?_; clear  hK4 K4
  refine vc_false hF rfl ?_
  apply wp_seq_k; intro K5 hK5
  refine wp_region_lit ?_
  refine vc_y hF rfl rfl (by decide) _ (y_cmp (c := false) rfl rfl rfl rfl rfl) (fun a hF => ?_)
  refine vc_y hF rfl rfl (by decide) _ (y_assign rfl rfl) (fun a hF => ?_)
  refine vc_nil ?_
  refine hK5 _ _ ?_; clear  hK5 K5
  refine vc_false hF rfl ?_
  apply wp_seq_k; intro K6 hK6
  refine wp_region_lit ?_
  refine vc_y hF rfl rfl (by decide) _ (y_cmp (c := true) rfl rfl rfl rfl rfl) (fun a hF => ?_)
  refine vc_y hF rfl rfl (by decide) _ (y_assign rfl rfl) (fun a hF => ?_)
  refine vc_nil ?_
  refine hK6 _ _ ?_; clear  hK6 K6
  refine vc_true hF rfl ?_
  apply wp_seq_k; intro K7 hK7
  have q6 : w.heap.size ≤ b6 := by have := hA1.size; omega
  have hnr : ∀ r ∈ [((b6, 36, dc (List.replicate 32 0)) : Row), (g, 64, PC pw pd pc ph X Y (.slice PA p.length cp) pq)], w.heap.size ≤ r.1 := cons_new q6 (one_new hg)
  have hT2 : Tab w2 := hT.at_ hA2 (not0w hpos hnr)
  refine wp_region_lit ?_
  refine vc_y hF rfl rfl (by decide) _ (y_move rfl rfl) (fun a hF => ?_)
  refine vc_y hF rfl rfl (by decide) _ (y_field rfl Tryd.underlying64 rfl sz36_t5 (by decide) rfl (rfl : (⟨_, 0 + _, none⟩ : Addr) = ⟨_, 4, none⟩)) (fun a hF => ?_)
  refine vc_y hF rfl rfl (by decide) _ (y_loadRow rfl hA2 rfl 1 rfl rw36_t5 (by rw [pc_len hX hY]; decide) (new := dc X) (pc_A hX)) (fun a hF => ?_)
  refine vc_y hF rfl rfl (by decide) _ (y_field rfl Tryd.underlying64 rfl sz36_t5 (by decide) rfl (rfl : (⟨_, 0 + _, none⟩ : Addr) = ⟨_, 36, none⟩)) (fun a hF => ?_)
  refine vc_y hF rfl rfl (by decide) _ (y_loadRow rfl hA2 rfl 1 rfl rw36_t5 (by rw [pc_len hX hY]; decide) (new := dc Y) (pc_B hX hY)) (fun a hF => ?_)
  refine vc_op rfl (fun K hK => ws_call hF rfl (by decide) cl40_t5 rfl rfl ?_)
  with_reducible refine (link_any w2 width X Y hX hY hT2).mono ?_
  rintro e' w3 ⟨rfl, hc3⟩
  refine ⟨_, rfl, fun a hF => hK _ _ ?_⟩; clear hK K
  have hA3 : At w [(b6, 36, dc (List.replicate 32 0)), (g, 64, PC pw pd pc ph X Y (.slice PA p.length cp) pq)] w3 := hA2.then0 hc3
  clear hc3
  refine vc_op rfl (fun K hK => ws_storeAll hF rfl rfl hA3 rfl rfl 0 rfl (tb_z (ofL_length _ _ _)) (dc_one _) tb_s (fun w4 hA4 => hK _ _ ?_))
  clear hK K
  refine vc_nil ?_
  refine hK7 _ _ ?_; clear  hK7 K7
  apply wp_ret
  simp only [Exit.then, Exit.inBlock]
  refine vc_retc hF Tryd.results55 hA4 rfl 0 rfl (tb_row36 (ofL_length _ _ _)) ?_
  exact ⟨rfl, hA4.clear (cons_new q6 (one_new hg))⟩

set_option maxRecDepth 100000 in
set_option maxHeartbeats 1000000 in
theorem sum_4 (w : World) (pw pd pc ph : Int) (X Y : List UInt8) (PA : Option Addr) (p : List UInt8) (cp : Nat) (pq : Value) (hX : X.length = 32) (hY : Y.length = 32) (hcp : p.length ≤ cp) (hB : Bts w PA p) (hp : p.length < 140737488353000) (width : Int) (hT : Tab w) :
    Calls Tryd.prog 55 #[.int .i64 4, .int .i64 width, .agg (PC pw pd pc ph X Y (.slice PA p.length cp) pq).toArray] w fun e w' => e = .returned (.agg (dc (cutL (sha (textL 4 pc X Y p)) width)).toArray) ∧ At w [] w' := by
  have hA0 := At.refl w
  have hpos : 0 < w.heap.size := hT.lt
  refine vc_enter Tryd.func55 rfl Tryd.ntmps55 (Nat.le_of_ble_eq_true rfl) (fun a hF => ?_)
  apply wp_seq_k; intro K1 hK1
  refine wp_region_lit ?_
  refine vc_op rfl (fun K hK => ws_box (cs := PC pw pd pc ph X Y (.slice PA p.length cp) pq) hF rfl (by decide) rfl hA0 rfl (fun g w1 a hg hF hA1 => hK _ _ ?_))
  clear hK K
  refine vc_op rfl (fun K hK => ws_alloc hF rfl (by decide) rfl hA1 zero36 (fun b6 w2 a hb6 hF hA2 => hK _ _ ?_))
  clear hK K
  replace hA2 : At w [(b6, 36, dc (List.replicate 32 0)), (g, 64, PC pw pd pc ph X Y (.slice PA p.length cp) pq)] w2 := hA2
  refine vc_nil ?_
  refine hK1 _ _ ?_; clear  hK1 K1
  apply wp_seq_k; intro K2 hK2
  apply wp_seq_k; intro K3 hK3
  refine wp_region_lit ?_
  refine vc_y hF rfl rfl (by decide) _ (y_move rfl rfl) (fun a hF => ?_)
  refine vc_nil ?_
  refine hK3 _ _ ?_; clear  hK3 K3
  apply wp_block
  apply wp_seq_k; intro K4 hK4
  refine wp_region_lit ?_
  refine vc_y hF rfl rfl (by decide) _ (y_cmp (c := false) rfl rfl rfl rfl rfl) (fun a hF => ?_)
  refine vc_y hF rfl rfl (by decide) _ (y_assign rfl rfl) (fun a hF => ?_)
  refine vc_nil ?_
  refine hK4 _ _ ?_; clear  hK4 K4
  refine vc_false hF rfl ?_
  apply wp_seq_k; intro K5 hK5
  refine wp_region_lit ?_
  refine vc_y hF rfl rfl (by decide) _ (y_cmp (c := false) rfl rfl rfl rfl rfl) (fun a hF => ?_)
  refine vc_y hF rfl rfl (by decide) _ (y_assign rfl rfl) (fun a hF => ?_)
  refine vc_nil ?_
  refine hK5 _ _ ?_; clear  hK5 K5
  refine vc_false hF rfl ?_
  apply wp_seq_k; intro K6 hK6
  refine wp_region_lit ?_
  refine vc_y hF rfl rfl (by decide) _ (y_cmp (c := false) rfl rfl rfl rfl rfl) (fun a hF => ?_)
  refine vc_y hF rfl rfl (by decide) _ (y_assign rfl rfl) (fun a hF => ?_)
  refine vc_nil ?_
  refine hK6 _ _ ?_; clear  hK6 K6
  refine vc_false hF rfl ?_
  apply wp_seq_k; intro K7 hK7
  refine wp_region_lit ?_
  refine vc_y hF rfl rfl (by decide) _ (y_cmp (c := true) rfl rfl rfl rfl rfl) (fun a hF => ?_)
  refine vc_y hF rfl rfl (by decide) _ (y_assign rfl rfl) (fun a hF => ?_)
  refine vc_nil ?_
  refine hK7 _ _ ?_; clear  hK7 K7
  refine vc_true hF rfl ?_
  apply wp_seq_k; intro K8 hK8
  have q6 : w.heap.size ≤ b6 := by have := hA1.size; omega
  have hnr : ∀ r ∈ [((b6, 36, dc (List.replicate 32 0)) : Row), (g, 64, PC pw pd pc ph X Y (.slice PA p.length cp) pq)], w.heap.size ≤ r.1 := cons_new q6 (one_new hg)
  have hT2 : Tab w2 := hT.at_ hA2 (not0w hpos hnr)
  refine wp_region_lit ?_
  refine vc_y hF rfl rfl (by decide) _ (y_move rfl rfl) (fun a hF => ?_)
  refine vc_y hF rfl rfl (by decide) _ (y_field rfl Tryd.underlying64 rfl sz36_t5 (by decide) rfl (rfl : (⟨_, 0 + _, none⟩ : Addr) = ⟨_, 4, none⟩)) (fun a hF => ?_)
  refine vc_y hF rfl rfl (by decide) _ (y_loadRow rfl hA2 rfl 1 rfl rw36_t5 (by rw [pc_len hX hY]; decide) (new := dc X) (pc_A hX)) (fun a hF => ?_)
  refine vc_y hF rfl rfl (by decide) _ (y_field rfl Tryd.underlying64 rfl sz3_t5 (by decide) rfl (rfl : (⟨_, 0 + _, none⟩ : Addr) = ⟨_, 2, none⟩)) (fun a hF => ?_)
  refine vc_y hF rfl rfl (by decide) _ (y_loadAt rfl hA2 rfl 1 rfl pc_C tb_noInt) (fun a hF => ?_)
  refine vc_y hF rfl rfl (by decide) _ (y_field rfl Tryd.underlying64 rfl sz36_t5 (by decide) rfl (rfl : (⟨_, 0 + _, none⟩ : Addr) = ⟨_, 36, none⟩)) (fun a hF => ?_)
  refine vc_y hF rfl rfl (by decide) _ (y_loadRow rfl hA2 rfl 1 rfl rw36_t5 (by rw [pc_len hX hY]; decide) (new := dc Y) (pc_B hX hY)) (fun a hF => ?_)
  refine vc_y hF rfl rfl (by decide) _ (y_build2 rfl rfl rfl (tb_build66_at hY pc)) (fun a hF => ?_)
  refine vc_op rfl (fun K hK => ws_call hF rfl (by decide) cl42_t5 rfl rfl ?_)
  with_reducible refine (entry_any w2 width pc X Y hX hY hT2).mono ?_
  rintro e' w3 ⟨rfl, hc3⟩
  refine ⟨_, rfl, fun a hF => hK _ _ ?_⟩; clear hK K
  have hA3 : At w [(b6, 36, dc (List.replicate 32 0)), (g, 64, PC pw pd pc ph X Y (.slice PA p.length cp) pq)] w3 := hA2.then0 hc3
  clear hc3
  refine vc_op rfl (fun K hK => ws_storeAll hF rfl rfl hA3 rfl rfl 0 rfl (tb_z (ofL_length _ _ _)) (dc_one _) tb_s (fun w4 hA4 => hK _ _ ?_))
  clear hK K
  refine vc_nil ?_
  refine hK8 _ _ ?_; clear  hK8 K8
  apply wp_ret
  simp only [Exit.then, Exit.inBlock]
  refine vc_retc hF Tryd.results55 hA4 rfl 0 rfl (tb_row36 (ofL_length _ _ _)) ?_
  exact ⟨rfl, hA4.clear (cons_new q6 (one_new hg))⟩

set_option maxRecDepth 100000 in
set_option maxHeartbeats 1000000 in
theorem sum_5 (w : World) (pw pd pc ph : Int) (X Y : List UInt8) (PA : Option Addr) (p : List UInt8) (cp : Nat) (pq : Value) (hX : X.length = 32) (hY : Y.length = 32) (hcp : p.length ≤ cp) (hB : Bts w PA p) (hp : p.length < 140737488353000) (width : Int) (hT : Tab w) :
    Calls Tryd.prog 55 #[.int .i64 5, .int .i64 width, .agg (PC pw pd pc ph X Y (.slice PA p.length cp) pq).toArray] w fun e w' => e = .returned (.agg (dc (cutL (sha (textL 5 pc X Y p)) width)).toArray) ∧ At w [] w' := by
  have hA0 := At.refl w
  have hpos : 0 < w.heap.size := hT.lt
  refine vc_enter Tryd.func55 rfl Tryd.ntmps55 (Nat.le_of_ble_eq_true rfl) (fun a hF => ?_)
  apply wp_seq_k; intro K1 hK1
  refine wp_region_lit ?_
  refine vc_op rfl (fun K hK => ws_box (cs := PC pw pd pc ph X Y (.slice PA p.length cp) pq) hF rfl (by decide) rfl hA0 rfl (fun g w1 a hg hF hA1 => hK _ _ ?_))
  clear hK K
  refine vc_op rfl (fun K hK => ws_alloc hF rfl (by decide) rfl hA1 zero36 (fun b6 w2 a hb6 hF hA2 => hK _ _ ?_))
  clear hK K
  replace hA2 : At w [(b6, 36, dc (List.replicate 32 0)), (g, 64, PC pw pd pc ph X Y (.slice PA p.length cp) pq)] w2 := hA2
  refine vc_nil ?_
  refine hK1 _ _ ?_; clear  hK1 K1
  apply wp_seq_k; intro K2 hK2
  apply wp_seq_k; intro K3 hK3
  refine wp_region_lit ?_
  refine vc_y hF rfl rfl (by decide) _ (y_move rfl rfl) (fun a hF => ?_)
  refine vc_nil ?_
  refine hK3 _ _ ?_; clear  hK3 K3
  apply wp_block
  apply wp_seq_k; intro K4 hK4
  refine wp_region_lit ?_
  refine vc_y hF rfl rfl (by decide) _ (y_cmp (c := false) rfl rfl rfl rfl rfl) (fun a hF => ?_)
  refine vc_y hF rfl rfl (by decide) _ (y_assign rfl rfl) (fun a hF => ?_)
  refine vc_nil ?_
  refine hK4 _ _ ?_; clear  hK4 K4
  refine vc_false hF rfl ?_
  apply wp_seq_k; intro K5 hK5
  refine wp_region_lit ?_
  refine vc_y hF rfl rfl (by decide) _ (y_cmp (c := false) rfl rfl rfl rfl rfl) (fun a hF => ?_)
  refine vc_y hF rfl rfl (by decide) _ (y_assign rfl rfl) (fun a hF => ?_)
  refine vc_nil ?_
  refine hK5 _ _ ?_; clear  hK5 K5
  refine vc_false hF rfl ?_
  apply wp_seq_k; intro K6 hK6
  refine wp_region_lit ?_
  refine vc_y hF rfl rfl (by decide) _ (y_cmp (c := false) rfl rfl rfl rfl rfl) (fun a hF => ?_)
  refine vc_y hF rfl rfl (by decide) _ (y_assign rfl rfl) (fun a hF => ?_)
  refine vc_nil ?_
  refine hK6 _ _ ?_; clear  hK6 K6
  refine vc_false hF rfl ?_
  apply wp_seq_k; intro K7 hK7
  refine wp_region_lit ?_
  refine vc_y hF rfl rfl (by decide) _ (y_cmp (c := false) rfl rfl rfl rfl rfl) (fun a hF => ?_)
  refine vc_y hF rfl rfl (by decide) _ (y_assign rfl rfl) (fun a hF => ?_)
  refine vc_nil ?_
  refine hK7 _ _ ?_; clear  hK7 K7
  refine vc_false hF rfl ?_
  apply wp_seq_k; intro K8 hK8
  refine wp_region_lit ?_
  refine vc_y hF rfl rfl (by decide) _ (y_cmp (c := true) rfl rfl rfl rfl rfl) (fun a hF => ?_)
  refine vc_y hF rfl rfl (by decide) _ (y_assign rfl rfl) (fun a hF => ?_)
  refine vc_nil ?_
  refine hK8 _ _ ?_; clear  hK8 K8
  refine vc_true hF rfl ?_
  apply wp_seq_k; intro K9 hK9
  have q6 : w.heap.size ≤ b6 := by have := hA1.size; omega
  have hnr : ∀ r ∈ [((b6, 36, dc (List.replicate 32 0)) : Row), (g, 64, PC pw pd pc ph X Y (.slice PA p.length cp) pq)], w.heap.size ≤ r.1 := cons_new q6 (one_new hg)
  have hT2 : Tab w2 := hT.at_ hA2 (not0w hpos hnr)
  refine wp_region_lit ?_
  refine vc_y hF rfl rfl (by decide) _ (y_move rfl rfl) (fun a hF => ?_)
  refine vc_y hF rfl rfl (by decide) _ (y_field rfl Tryd.underlying64 rfl sz36_t5 (by decide) rfl (rfl : (⟨_, 0 + _, none⟩ : Addr) = ⟨_, 4, none⟩)) (fun a hF => ?_)
  refine vc_y hF rfl rfl (by decide) _ (y_loadRow rfl hA2 rfl 1 rfl rw36_t5 (by rw [pc_len hX hY]; decide) (new := dc X) (pc_A hX)) (fun a hF => ?_)
  refine vc_y hF rfl rfl (by decide) _ (y_field rfl Tryd.underlying64 rfl sz36_t5 (by decide) rfl (rfl : (⟨_, 0 + _, none⟩ : Addr) = ⟨_, 36, none⟩)) (fun a hF => ?_)
  refine vc_y hF rfl rfl (by decide) _ (y_loadRow rfl hA2 rfl 1 rfl rw36_t5 (by rw [pc_len hX hY]; decide) (new := dc Y) (pc_B hX hY)) (fun a hF => ?_)
  refine vc_op rfl (fun K hK => ws_call hF rfl (by decide) cl44_t5 rfl rfl ?_)
  with_reducible refine (branch_all w2 width X Y hX hY hT2).mono ?_
  rintro e' w3 ⟨rfl, hc3⟩
  refine ⟨_, rfl, fun a hF => hK _ _ ?_⟩; clear hK K
  have hA3 : At w [(b6, 36, dc (List.replicate 32 0)), (g, 64, PC pw pd pc ph X Y (.slice PA p.length cp) pq)] w3 := hA2.then0 hc3
  clear hc3
  refine vc_op rfl (fun K hK => ws_storeAll hF rfl rfl hA3 rfl rfl 0 rfl (tb_z (ofL_length _ _ _)) (dc_one _) tb_s (fun w4 hA4 => hK _ _ ?_))
  clear hK K
  refine vc_nil ?_
  refine hK9 _ _ ?_; clear  hK9 K9
  apply wp_ret
  simp only [Exit.then, Exit.inBlock]
  refine vc_retc hF Tryd.results55 hA4 rfl 0 rfl (tb_row36 (ofL_length _ _ _)) ?_
  exact ⟨rfl, hA4.clear (cons_new q6 (one_new hg))⟩

set_option maxRecDepth 100000 in
set_option maxHeartbeats 1000000 in
theorem sum_6 (w : World) (pw pd pc ph : Int) (X Y : List UInt8) (PA : Option Addr) (p : List UInt8) (cp : Nat) (pq : Value) (hX : X.length = 32) (hY : Y.length = 32) (hcp : p.length ≤ cp) (hB : Bts w PA p) (hp : p.length < 140737488353000) (width : Int) (hT : Tab w) :
    Calls Tryd.prog 55 #[.int .i64 6, .int .i64 width, .agg (PC pw pd pc ph X Y (.slice PA p.length cp) pq).toArray] w fun e w' => e = .returned (.agg (dc (cutL (sha (textL 6 pc X Y p)) width)).toArray) ∧ At w [] w' := by
  have hA0 := At.refl w
  have hpos : 0 < w.heap.size := hT.lt
  refine vc_enter Tryd.func55 rfl Tryd.ntmps55 (Nat.le_of_ble_eq_true rfl) (fun a hF => ?_)
  apply wp_seq_k; intro K1 hK1
  refine wp_region_lit ?_
  refine vc_op rfl (fun K hK => ws_box (cs := PC pw pd pc ph X Y (.slice PA p.length cp) pq) hF rfl (by decide) rfl hA0 rfl (fun g w1 a hg hF hA1 => hK _ _ ?_))
  clear hK K
  refine vc_op rfl (fun K hK => ws_alloc hF rfl (by decide) rfl hA1 zero36 (fun b6 w2 a hb6 hF hA2 => hK _ _ ?_))
  clear hK K
  replace hA2 : At w [(b6, 36, dc (List.replicate 32 0)), (g, 64, PC pw pd pc ph X Y (.slice PA p.length cp) pq)] w2 := hA2
  refine vc_nil ?_
  refine hK1 _ _ ?_; clear  hK1 K1
  apply wp_seq_k; intro K2 hK2
  apply wp_seq_k; intro K3 hK3
  refine wp_region_lit ?_
  refine vc_y hF rfl rfl (by decide) _ (y_move rfl rfl) (fun a hF => ?_)
  refine vc_nil ?_
  refine hK3 _ _ ?_; clear  hK3 K3
  apply wp_block
  apply wp_seq_k; intro K4 hK4
  refine wp_region_lit ?_
  refine vc_y hF rfl rfl (by decide) _ (y_cmp (c := false) rfl rfl rfl rfl rfl) (fun a hF => ?_)
  refine vc_y hF rfl rfl (by decide) _ (y_assign rfl rfl) (fun a hF => ?_)
  refine vc_nil ?_
  refine hK4 _ _ ?_; clear  hK4 K4
  refine vc_false hF rfl ?_
  apply wp_seq_k; intro K5 hK5
  refine wp_region_lit ?_
  refine vc_y hF rfl rfl (by decide) _ (y_cmp (c := false) rfl rfl rfl rfl rfl) (fun a hF => ?_)
  refine vc_y hF rfl rfl (by decide) _ (y_assign rfl rfl) (fun a hF => ?_)
  refine vc_nil ?_
  refine hK5 _ _ ?_; clear  hK5 K5
  refine vc_false hF rfl ?_
  apply wp_seq_k; intro K6 hK6
  refine wp_region_lit ?_
  refine vc_y hF rfl rfl (by decide) _ (y_cmp (c := false) rfl rfl rfl rfl rfl) (fun a hF => ?_)
  refine vc_y hF rfl rfl (by decide) _ (y_assign rfl rfl) (fun a hF => ?_)
  refine vc_nil ?_
  refine hK6 _ _ ?_; clear  hK6 K6
  refine vc_false hF rfl ?_
  apply wp_seq_k; intro K7 hK7
  refine wp_region_lit ?_
  refine vc_y hF rfl rfl (by decide) _ (y_cmp (c := false) rfl rfl rfl rfl rfl) (fun a hF => ?_)
  refine vc_y hF rfl rfl (by decide) _ (y_assign rfl rfl) (fun a hF => ?_)
  refine vc_nil ?_
  refine hK7 _ _ ?_; clear  hK7 K7
  refine vc_false hF rfl ?_
  apply wp_seq_k; intro K8 hK8
  refine wp_region_lit ?_
  refine vc_y hF rfl rfl (by decide) _ (y_cmp (c := false) rfl rfl rfl rfl rfl) (fun a hF => ?_)
  refine vc_y hF rfl rfl (by decide) _ (y_assign rfl rfl) (fun a hF => ?_)
  refine vc_nil ?_
  refine hK8 _ _ ?_; clear  hK8 K8
  refine vc_false hF rfl ?_
  apply wp_seq_k; intro K9 hK9
  refine wp_region_lit ?_
  refine vc_y hF rfl rfl (by decide) _ (y_cmp (c := true) rfl rfl rfl rfl rfl) (fun a hF => ?_)
  refine vc_y hF rfl rfl (by decide) _ (y_assign rfl rfl) (fun a hF => ?_)
  refine vc_nil ?_
  refine hK9 _ _ ?_; clear  hK9 K9
  refine vc_true hF rfl ?_
  apply wp_seq_k; intro K10 hK10
  have q6 : w.heap.size ≤ b6 := by have := hA1.size; omega
  have hnr : ∀ r ∈ [((b6, 36, dc (List.replicate 32 0)) : Row), (g, 64, PC pw pd pc ph X Y (.slice PA p.length cp) pq)], w.heap.size ≤ r.1 := cons_new q6 (one_new hg)
  have hT2 : Tab w2 := hT.at_ hA2 (not0w hpos hnr)
  refine wp_region_lit ?_
  refine vc_y hF rfl rfl (by decide) _ (y_move rfl rfl) (fun a hF => ?_)
  refine vc_op rfl (fun K hK => ws_call hF rfl (by decide) cl34_t5 rfl rfl ?_)
  with_reducible refine (empty_any w2 width 0 0 rfl (by decide) hT2).mono ?_
  rintro e' w3 ⟨rfl, hc3⟩
  refine ⟨_, rfl, fun a hF => hK _ _ ?_⟩; clear hK K
  have hA3 : At w [(b6, 36, dc (List.replicate 32 0)), (g, 64, PC pw pd pc ph X Y (.slice PA p.length cp) pq)] w3 := hA2.then0 hc3
  clear hc3
  refine vc_op rfl (fun K hK => ws_storeAll hF rfl rfl hA3 rfl rfl 0 rfl (tb_z (emptyL_length _ _)) (dc_one _) tb_s (fun w4 hA4 => hK _ _ ?_))
  clear hK K
  refine vc_nil ?_
  refine hK10 _ _ ?_; clear  hK10 K10
  apply wp_ret
  simp only [Exit.then, Exit.inBlock]
  refine vc_retc hF Tryd.results55 hA4 rfl 0 rfl (tb_row36 (emptyL_length _ _)) ?_
  exact ⟨rfl, hA4.clear (cons_new q6 (one_new hg))⟩

set_option maxRecDepth 100000 in
set_option maxHeartbeats 1000000 in
theorem sum_7 (w : World) (pw pd pc ph : Int) (X Y : List UInt8) (PA : Option Addr) (p : List UInt8) (cp : Nat) (pq : Value) (hX : X.length = 32) (hY : Y.length = 32) (hcp : p.length ≤ cp) (hB : Bts w PA p) (hp : p.length < 140737488353000) (width : Int) (hT : Tab w) :
    Calls Tryd.prog 55 #[.int .i64 7, .int .i64 width, .agg (PC pw pd pc ph X Y (.slice PA p.length cp) pq).toArray] w fun e w' => e = .returned (.agg (dc (cutL (sha (textL 7 pc X Y p)) width)).toArray) ∧ At w [] w' := by
  have hA0 := At.refl w
  have hpos : 0 < w.heap.size := hT.lt
  refine vc_enter Tryd.func55 rfl Tryd.ntmps55 (Nat.le_of_ble_eq_true rfl) (fun a hF => ?_)
  apply wp_seq_k; intro K1 hK1
  refine wp_region_lit ?_
  refine vc_op rfl (fun K hK => ws_box (cs := PC pw pd pc ph X Y (.slice PA p.length cp) pq) hF rfl (by decide) rfl hA0 rfl (fun g w1 a hg hF hA1 => hK _ _ ?_))
  clear hK K
  refine vc_op rfl (fun K hK => ws_alloc hF rfl (by decide) rfl hA1 zero36 (fun b6 w2 a hb6 hF hA2 => hK _ _ ?_))
  clear hK K
  replace hA2 : At w [(b6, 36, dc (List.replicate 32 0)), (g, 64, PC pw pd pc ph X Y (.slice PA p.length cp) pq)] w2 := hA2
  refine vc_nil ?_
  refine hK1 _ _ ?_; clear  hK1 K1
  apply wp_seq_k; intro K2 hK2
  apply wp_seq_k; intro K3 hK3
  refine wp_region_lit ?_
  refine vc_y hF rfl rfl (by decide) _ (y_move rfl rfl) (fun a hF => ?_)
  refine vc_nil ?_
  refine hK3 _ _ ?_; clear  hK3 K3
  apply wp_block
  apply wp_seq_k; intro K4 hK4
  refine wp_region_lit ?_
  refine vc_y hF rfl rfl (by decide) _ (y_cmp (c := false) rfl rfl rfl rfl rfl) (fun a hF => ?_)
  refine vc_y hF rfl rfl (by decide) _ (y_assign rfl rfl) (fun a hF => ?_)
  refine vc_nil ?_
  refine hK4 _ _ ?_; clear  hK4 K4
  refine vc_false hF rfl ?_
  apply wp_seq_k; intro K5 hK5
  refine wp_region_lit ?_
  refine vc_y hF rfl rfl (by decide) _ (y_cmp (c := false) rfl rfl rfl rfl rfl) (fun a hF => ?_)
  refine vc_y hF rfl rfl (by decide) _ (y_assign rfl rfl) (fun a hF => ?_)
  refine vc_nil ?_
  refine hK5 _ _ ?_; clear  hK5 K5
  refine vc_false hF rfl ?_
  apply wp_seq_k; intro K6 hK6
  refine wp_region_lit ?_
  refine vc_y hF rfl rfl (by decide) _ (y_cmp (c := false) rfl rfl rfl rfl rfl) (fun a hF => ?_)
  refine vc_y hF rfl rfl (by decide) _ (y_assign rfl rfl) (fun a hF => ?_)
  refine vc_nil ?_
  refine hK6 _ _ ?_; clear  hK6 K6
  refine vc_false hF rfl ?_
  apply wp_seq_k; intro K7 hK7
  refine wp_region_lit ?_
  refine vc_y hF rfl rfl (by decide) _ (y_cmp (c := false) rfl rfl rfl rfl rfl) (fun a hF => ?_)
  refine vc_y hF rfl rfl (by decide) _ (y_assign rfl rfl) (fun a hF => ?_)
  refine vc_nil ?_
  refine hK7 _ _ ?_; clear  hK7 K7
  refine vc_false hF rfl ?_
  apply wp_seq_k; intro K8 hK8
  refine wp_region_lit ?_
  refine vc_y hF rfl rfl (by decide) _ (y_cmp (c := false) rfl rfl rfl rfl rfl) (fun a hF => ?_)
  refine vc_y hF rfl rfl (by decide) _ (y_assign rfl rfl) (fun a hF => ?_)
  refine vc_nil ?_
  refine hK8 _ _ ?_; clear  hK8 K8
  refine vc_false hF rfl ?_
  apply wp_seq_k; intro K9 hK9
  refine wp_region_lit ?_
  refine vc_y hF rfl rfl (by decide) _ (y_cmp (c := false) rfl rfl rfl rfl rfl) (fun a hF => ?_)
  refine vc_y hF rfl rfl (by decide) _ (y_assign rfl rfl) (fun a hF => ?_)
  refine vc_nil ?_
  refine hK9 _ _ ?_; clear  hK9 K9
  refine vc_false hF rfl ?_
  apply wp_seq_k; intro K10 hK10
  refine wp_region_lit ?_
  refine vc_y hF rfl rfl (by decide) _ (y_cmp (c := true) rfl rfl rfl rfl rfl) (fun a hF => ?_)
  refine vc_y hF rfl rfl (by decide) _ (y_assign rfl rfl) (fun a hF => ?_)
  refine vc_nil ?_
  refine hK10 _ _ ?_; clear  hK10 K10
  refine vc_true hF rfl ?_
  apply wp_seq_k; intro K11 hK11
  have q6 : w.heap.size ≤ b6 := by have := hA1.size; omega
  have hnr : ∀ r ∈ [((b6, 36, dc (List.replicate 32 0)) : Row), (g, 64, PC pw pd pc ph X Y (.slice PA p.length cp) pq)], w.heap.size ≤ r.1 := cons_new q6 (one_new hg)
  have hT2 : Tab w2 := hT.at_ hA2 (not0w hpos hnr)
  refine wp_region_lit ?_
  refine vc_y hF rfl rfl (by decide) _ (y_field rfl Tryd.underlying64 rfl sz24_t5 (by decide) rfl (rfl : (⟨_, 0 + _, none⟩ : Addr) = ⟨_, 68, none⟩)) (fun a hF => ?_)
  refine vc_y hF rfl rfl (by decide) _ (y_loadAt rfl hA2 rfl 1 rfl (pc_P hX hY) ow_no24) (fun a hF => ?_)
  refine vc_y hF rfl rfl (by decide) _ (y_convStr rfl Tryd.underlying24 Tryd.underlying5 Tryd.underlying9 rfl rfl (hB.fresh hA2 hnr)) (fun a hF => ?_)
  refine vc_op rfl (fun K hK => ws_call hF rfl (by decide) cl47_t5 rfl rfl ?_)
  with_reducible refine (key_any w2 ⟨p.toArray⟩ (by rw [ba_size]; omega) hT2).mono ?_
  rintro e' w2b ⟨rfl, hc2⟩
  refine ⟨_, rfl, fun a hF => hK _ _ ?_⟩; clear hK K
  have hA2b : At w [(b6, 36, dc (List.replicate 32 0)), (g, 64, PC pw pd pc ph X Y (.slice PA p.length cp) pq)] w2b := hA2.then0 hc2
  clear hc2
  rw [show ofL 32 6 (ByteArray.mk p.toArray).data.toList = sha (6 :: p) from cutL_32 (sha_length _)] at hF
  refine vc_y hF rfl rfl (by decide) _ (y_move rfl rfl) (fun a hF => ?_)
  refine vc_op rfl (fun K hK => ws_call hF rfl (by decide) cl56_t5 rfl rfl ?_)
  with_reducible refine (cut_any _ width w2b (sha_length _)).mono ?_
  rintro e' w3 ⟨rfl, hc3⟩
  refine ⟨_, rfl, fun a hF => hK _ _ ?_⟩; clear hK K
  have hA3 : At w [(b6, 36, dc (List.replicate 32 0)), (g, 64, PC pw pd pc ph X Y (.slice PA p.length cp) pq)] w3 := hA2b.then0 hc3
  clear hc3
  refine vc_op rfl (fun K hK => ws_storeAll hF rfl rfl hA3 rfl rfl 0 rfl (tb_z (cutL_length _ _ (sha_length _))) (dc_one _) tb_s (fun w4 hA4 => hK _ _ ?_))
  clear hK K
  refine vc_nil ?_
  refine hK11 _ _ ?_; clear  hK11 K11
  apply wp_ret
  simp only [Exit.then, Exit.inBlock]
  refine vc_retc hF Tryd.results55 hA4 rfl 0 rfl (tb_row36 (cutL_length _ _ (sha_length _))) ?_
  exact ⟨rfl, hA4.clear (cons_new q6 (one_new hg))⟩

set_option maxRecDepth 100000 in
set_option maxHeartbeats 1000000 in
theorem sum_8 (w : World) (pw pd pc ph : Int) (X Y : List UInt8) (PA : Option Addr) (p : List UInt8) (cp : Nat) (pq : Value) (hX : X.length = 32) (hY : Y.length = 32) (hcp : p.length ≤ cp) (hB : Bts w PA p) (hp : p.length < 140737488353000) (width : Int) (hT : Tab w) :
    Calls Tryd.prog 55 #[.int .i64 8, .int .i64 width, .agg (PC pw pd pc ph X Y (.slice PA p.length cp) pq).toArray] w fun e w' => e = .returned (.agg (dc (cutL (sha (textL 8 pc X Y p)) width)).toArray) ∧ At w [] w' := by
  have hA0 := At.refl w
  have hpos : 0 < w.heap.size := hT.lt
  refine vc_enter Tryd.func55 rfl Tryd.ntmps55 (Nat.le_of_ble_eq_true rfl) (fun a hF => ?_)
  apply wp_seq_k; intro K1 hK1
  refine wp_region_lit ?_
  refine vc_op rfl (fun K hK => ws_box (cs := PC pw pd pc ph X Y (.slice PA p.length cp) pq) hF rfl (by decide) rfl hA0 rfl (fun g w1 a hg hF hA1 => hK _ _ ?_))
  clear hK K
  refine vc_op rfl (fun K hK => ws_alloc hF rfl (by decide) rfl hA1 zero36 (fun b6 w2 a hb6 hF hA2 => hK _ _ ?_))
  clear hK K
  replace hA2 : At w [(b6, 36, dc (List.replicate 32 0)), (g, 64, PC pw pd pc ph X Y (.slice PA p.length cp) pq)] w2 := hA2
  refine vc_nil ?_
  refine hK1 _ _ ?_; clear  hK1 K1
  apply wp_seq_k; intro K2 hK2
  apply wp_seq_k; intro K3 hK3
  refine wp_region_lit ?_
  refine vc_y hF rfl rfl (by decide) _ (y_move rfl rfl) (fun a hF => ?_)
  refine vc_nil ?_
  refine hK3 _ _ ?_; clear  hK3 K3
  apply wp_block
  apply wp_seq_k; intro K4 hK4
  refine wp_region_lit ?_
  refine vc_y hF rfl rfl (by decide) _ (y_cmp (c := false) rfl rfl rfl rfl rfl) (fun a hF => ?_)
  refine vc_y hF rfl rfl (by decide) _ (y_assign rfl rfl) (fun a hF => ?_)
  refine vc_nil ?_
  refine hK4 _ _ ?_; clear  hK4 K4
  refine vc_false hF rfl ?_
  apply wp_seq_k; intro K5 hK5
  refine wp_region_lit ?_
  refine vc_y hF rfl rfl (by decide) _ (y_cmp (c := false) rfl rfl rfl rfl rfl) (fun a hF => ?_)
  refine vc_y hF rfl rfl (by decide) _ (y_assign rfl rfl) (fun a hF => ?_)
  refine vc_nil ?_
  refine hK5 _ _ ?_; clear  hK5 K5
  refine vc_false hF rfl ?_
  apply wp_seq_k; intro K6 hK6
  refine wp_region_lit ?_
  refine vc_y hF rfl rfl (by decide) _ (y_cmp (c := false) rfl rfl rfl rfl rfl) (fun a hF => ?_)
  refine vc_y hF rfl rfl (by decide) _ (y_assign rfl rfl) (fun a hF => ?_)
  refine vc_nil ?_
  refine hK6 _ _ ?_; clear  hK6 K6
  refine vc_false hF rfl ?_
  apply wp_seq_k; intro K7 hK7
  refine wp_region_lit ?_
  refine vc_y hF rfl rfl (by decide) _ (y_cmp (c := false) rfl rfl rfl rfl rfl) (fun a hF => ?_)
  refine vc_y hF rfl rfl (by decide) _ (y_assign rfl rfl) (fun a hF => ?_)
  refine vc_nil ?_
  refine hK7 _ _ ?_; clear  hK7 K7
  refine vc_false hF rfl ?_
  apply wp_seq_k; intro K8 hK8
  refine wp_region_lit ?_
  refine vc_y hF rfl rfl (by decide) _ (y_cmp (c := false) rfl rfl rfl rfl rfl) (fun a hF => ?_)
  refine vc_y hF rfl rfl (by decide) _ (y_assign rfl rfl) (fun a hF => ?_)
  refine vc_nil ?_
  refine hK8 _ _ ?_; clear  hK8 K8
  refine vc_false hF rfl ?_
  apply wp_seq_k; intro K9 hK9
  refine wp_region_lit ?_
  refine vc_y hF rfl rfl (by decide) _ (y_cmp (c := false) rfl rfl rfl rfl rfl) (fun a hF => ?_)
  refine vc_y hF rfl rfl (by decide) _ (y_assign rfl rfl) (fun a hF => ?_)
  refine vc_nil ?_
  refine hK9 _ _ ?_; clear  hK9 K9
  refine vc_false hF rfl ?_
  apply wp_seq_k; intro K10 hK10
  refine wp_region_lit ?_
  refine vc_y hF rfl rfl (by decide) _ (y_cmp (c := false) rfl rfl rfl rfl rfl) (fun a hF => ?_)
  refine vc_y hF rfl rfl (by decide) _ (y_assign rfl rfl) (fun a hF => ?_)
  refine vc_nil ?_
  refine hK10 _ _ ?_; clear  hK10 K10
  refine vc_false hF rfl ?_
  apply wp_skip
  refine hK2 _ _ ?_; clear  hK2 K2
  apply wp_seq_k; intro K11 hK11
  have q6 : w.heap.size ≤ b6 := by have := hA1.size; omega
  have hnr : ∀ r ∈ [((b6, 36, dc (List.replicate 32 0)) : Row), (g, 64, PC pw pd pc ph X Y (.slice PA p.length cp) pq)], w.heap.size ≤ r.1 := cons_new q6 (one_new hg)
  have hT2 : Tab w2 := hT.at_ hA2 (not0w hpos hnr)
  refine wp_region_lit ?_
  refine vc_y hF rfl rfl (by decide) _ (y_move rfl rfl) (fun a hF => ?_)
  refine vc_op rfl (fun K hK => ws_call hF rfl (by decide) cl38_t5 rfl rfl ?_)
  with_reducible refine (nothing_any w2 width hT2).mono ?_
  rintro e' w3 ⟨rfl, hc3⟩
  refine ⟨_, rfl, fun a hF => hK _ _ ?_⟩; clear hK K
  have hA3 : At w [(b6, 36, dc (List.replicate 32 0)), (g, 64, PC pw pd pc ph X Y (.slice PA p.length cp) pq)] w3 := hA2.then0 hc3
  clear hc3
  refine vc_op rfl (fun K hK => ws_storeAll hF rfl rfl hA3 rfl rfl 0 rfl (tb_z (cutL_length _ _ (sha_length _))) (dc_one _) tb_s (fun w4 hA4 => hK _ _ ?_))
  clear hK K
  refine vc_nil ?_
  refine hK11 _ _ ?_; clear  hK11 K11
  apply wp_ret
  refine vc_retc hF Tryd.results55 hA4 rfl 0 rfl (tb_row36 (cutL_length _ _ (sha_length _))) ?_
  exact ⟨rfl, hA4.clear (cons_new q6 (one_new hg))⟩

set_option maxRecDepth 100000 in
set_option maxHeartbeats 1000000 in
theorem unlike_1 (w : World) (pw pd pc ph : Int) (X Y : List UInt8) (PA : Option Addr) (p : List UInt8) (cp : Nat) (pq : Value) (hX : X.length = 32) (hY : Y.length = 32) (hB : Bts w PA p) (qw qd qc qh : Int) (X2 Y2 : List UInt8) (QA : Option Addr) (q : List UInt8) (cq : Nat) (qq : Value) (hX2 : X2.length = 32) (hY2 : Y2.length = 32) (hBq : Bts w QA q) (hC : -9223372036854775808 ≤ pc ∧ pc ≤ 9223372036854775807) (hC2 : -9223372036854775808 ≤ qc ∧ qc ≤ 9223372036854775807) :
    Calls Tryd.prog 57 #[.int .i64 1, .int .i64 1, .agg (PC pw pd pc ph X Y (.slice PA p.length cp) pq).toArray, .agg (PC qw qd qc qh X2 Y2 (.slice QA q.length cq) qq).toArray] w fun e w' => e = .returned (.bool (decide (textL 1 pc X Y p ≠ textL 1 qc X2 Y2 q))) ∧ At w [] w' := by
  have hA0 := At.refl w
  refine vc_enter Tryd.func57 rfl Tryd.ntmps57 (Nat.le_of_ble_eq_true rfl) (fun a hF => ?_)
  apply wp_seq_k; intro K1 hK1
  refine wp_region_lit ?_
  refine vc_op rfl (fun K hK => ws_box (cs := PC pw pd pc ph X Y (.slice PA p.length cp) pq) hF rfl (by decide) rfl hA0 rfl (fun g w1 a hg hF hA1 => hK _ _ ?_))
  clear hK K
  refine vc_op rfl (fun K hK => ws_box (cs := PC qw qd qc qh X2 Y2 (.slice QA q.length cq) qq) hF rfl (by decide) rfl hA1 rfl (fun g2 w2 a hg2 hF hA2 => hK _ _ ?_))
  clear hK K
  have hnr : ∀ r ∈ [((g2, 64, PC qw qd qc qh X2 Y2 (.slice QA q.length cq) qq) : Row), (g, 64, PC pw pd pc ph X Y (.slice PA p.length cp) pq)], w.heap.size ≤ r.1 := cons_new (by have := hA1.size; omega) (one_new hg)
  refine vc_y hF rfl rfl (by decide) _ (y_assign rfl rfl) (fun a hF => ?_)
  refine vc_nil ?_
  refine hK1 _ _ ?_; clear  hK1 K1
  apply wp_seq_k; intro K2 hK2
  apply wp_seq_k; intro K3 hK3
  refine wp_region_lit ?_
  refine vc_y hF rfl rfl (by decide) _ (y_move rfl rfl) (fun a hF => ?_)
  refine vc_y hF rfl rfl (by decide) _ (y_move rfl rfl) (fun a hF => ?_)
  refine vc_y hF rfl rfl (by decide) _ (y_cmp (c := false) rfl rfl rfl rfl rfl) (fun a hF => ?_)
  refine vc_nil ?_
  refine hK3 _ _ ?_; clear  hK3 K3
  refine vc_false hF rfl ?_
  apply wp_skip
  refine hK2 _ _ ?_; clear  hK2 K2
  apply wp_seq_k; intro K4 hK4
  apply wp_seq_k; intro K5 hK5
  refine wp_region_lit ?_
  refine vc_y hF rfl rfl (by decide) _ (y_move rfl rfl) (fun a hF => ?_)
  refine vc_nil ?_
  refine hK5 _ _ ?_; clear  hK5 K5
  apply wp_block
  apply wp_seq_k; intro K6 hK6
  apply wp_seq_k; intro K7 hK7
  refine wp_region_lit ?_
  refine vc_y hF rfl rfl (by decide) _ (y_cmp (c := true) rfl rfl rfl rfl rfl) (fun a hF => ?_)
  refine vc_y hF rfl rfl (by decide) _ (y_assign rfl rfl) (fun a hF => ?_)
  refine vc_nil ?_
  refine hK7 _ _ ?_; clear  hK7 K7
  refine vc_true hF rfl ?_
  apply wp_skip
  refine hK6 _ _ ?_; clear  hK6 K6
  refine vc_true hF rfl ?_
  apply wp_seq_k; intro K8 hK8
  refine wp_region_lit ?_
  refine vc_y hF rfl rfl (by decide) _ (y_field rfl Tryd.underlying64 rfl sz24_t5 (by decide) rfl (rfl : (⟨_, 0 + _, none⟩ : Addr) = ⟨_, 68, none⟩)) (fun a hF => ?_)
  refine vc_y hF rfl rfl (by decide) _ (y_loadAt rfl hA2 rfl 1 rfl (pc_P hX hY) ow_no24) (fun a hF => ?_)
  refine vc_y hF rfl rfl (by decide) _ (y_convStr rfl Tryd.underlying24 Tryd.underlying5 Tryd.underlying9 rfl rfl (hB.fresh hA2 hnr)) (fun a hF => ?_)
  refine vc_y hF rfl rfl (by decide) _ (y_field rfl Tryd.underlying64 rfl sz24_t5 (by decide) rfl (rfl : (⟨_, 0 + _, none⟩ : Addr) = ⟨_, 68, none⟩)) (fun a hF => ?_)
  refine vc_y hF rfl rfl (by decide) _ (y_loadAt rfl hA2 rfl 0 rfl (pc_P hX2 hY2) ow_no24) (fun a hF => ?_)
  refine vc_y hF rfl rfl (by decide) _ (y_convStr rfl Tryd.underlying24 Tryd.underlying5 Tryd.underlying9 rfl rfl (hBq.fresh hA2 hnr)) (fun a hF => ?_)
  refine vc_y hF rfl rfl (by decide) _ (y_cmpS (c := !(p == q)) rfl rfl rfl rfl rfl) (fun a hF => ?_)
  refine vc_y hF rfl rfl (by decide) _ (y_assign rfl rfl) (fun a hF => ?_)
  refine vc_nil ?_
  refine hK8 _ _ ?_; clear  hK8 K8
  apply wp_ret
  simp only [Exit.then, Exit.inBlock]
  refine vc_ret1 hF Tryd.results57 rfl ?_
  exact ⟨congrArg (fun b => Ending.returned (Value.bool b)) (by by_cases h : p = q <;> simp [textL, h]), hA2.clear hnr⟩

set_option maxRecDepth 100000 in
set_option maxHeartbeats 1000000 in
theorem unlike_2 (w : World) (pw pd pc ph : Int) (X Y : List UInt8) (PA : Option Addr) (p : List UInt8) (cp : Nat) (pq : Value) (hX : X.length = 32) (hY : Y.length = 32) (hB : Bts w PA p) (qw qd qc qh : Int) (X2 Y2 : List UInt8) (QA : Option Addr) (q : List UInt8) (cq : Nat) (qq : Value) (hX2 : X2.length = 32) (hY2 : Y2.length = 32) (hBq : Bts w QA q) (hC : -9223372036854775808 ≤ pc ∧ pc ≤ 9223372036854775807) (hC2 : -9223372036854775808 ≤ qc ∧ qc ≤ 9223372036854775807) :
    Calls Tryd.prog 57 #[.int .i64 2, .int .i64 2, .agg (PC pw pd pc ph X Y (.slice PA p.length cp) pq).toArray, .agg (PC qw qd qc qh X2 Y2 (.slice QA q.length cq) qq).toArray] w fun e w' => e = .returned (.bool (decide (textL 2 pc X Y p ≠ textL 2 qc X2 Y2 q))) ∧ At w [] w' := by
  have hA0 := At.refl w
  have key := tx_two (Y := Y) (Y' := Y2) hX hX2 1
  by_cases hx : X = X2
  · refine vc_enter Tryd.func57 rfl Tryd.ntmps57 (Nat.le_of_ble_eq_true rfl) (fun a hF => ?_)
    apply wp_seq_k; intro K1 hK1
    refine wp_region_lit ?_
    refine vc_op rfl (fun K hK => ws_box (cs := PC pw pd pc ph X Y (.slice PA p.length cp) pq) hF rfl (by decide) rfl hA0 rfl (fun g w1 a hg hF hA1 => hK _ _ ?_))
    clear hK K
    refine vc_op rfl (fun K hK => ws_box (cs := PC qw qd qc qh X2 Y2 (.slice QA q.length cq) qq) hF rfl (by decide) rfl hA1 rfl (fun g2 w2 a hg2 hF hA2 => hK _ _ ?_))
    clear hK K
    have hnr : ∀ r ∈ [((g2, 64, PC qw qd qc qh X2 Y2 (.slice QA q.length cq) qq) : Row), (g, 64, PC pw pd pc ph X Y (.slice PA p.length cp) pq)], w.heap.size ≤ r.1 := cons_new (by have := hA1.size; omega) (one_new hg)
    refine vc_y hF rfl rfl (by decide) _ (y_assign rfl rfl) (fun a hF => ?_)
    refine vc_nil ?_
    refine hK1 _ _ ?_; clear  hK1 K1
    apply wp_seq_k; intro K2 hK2
    apply wp_seq_k; intro K3 hK3
    refine wp_region_lit ?_
    refine vc_y hF rfl rfl (by decide) _ (y_move rfl rfl) (fun a hF => ?_)
    refine vc_y hF rfl rfl (by decide) _ (y_move rfl rfl) (fun a hF => ?_)
    refine vc_y hF rfl rfl (by decide) _ (y_cmp (c := false) rfl rfl rfl rfl rfl) (fun a hF => ?_)
    refine vc_nil ?_
    refine hK3 _ _ ?_; clear  hK3 K3
    refine vc_false hF rfl ?_
    apply wp_skip
    refine hK2 _ _ ?_; clear  hK2 K2
    apply wp_seq_k; intro K4 hK4
    apply wp_seq_k; intro K5 hK5
    refine wp_region_lit ?_
    refine vc_y hF rfl rfl (by decide) _ (y_move rfl rfl) (fun a hF => ?_)
    refine vc_nil ?_
    refine hK5 _ _ ?_; clear  hK5 K5
    apply wp_block
    apply wp_seq_k; intro K6 hK6
    apply wp_seq_k; intro K7 hK7
    refine wp_region_lit ?_
    refine vc_y hF rfl rfl (by decide) _ (y_cmp (c := false) rfl rfl rfl rfl rfl) (fun a hF => ?_)
    refine vc_y hF rfl rfl (by decide) _ (y_assign rfl rfl) (fun a hF => ?_)
    refine vc_nil ?_
    refine hK7 _ _ ?_; clear  hK7 K7
    refine vc_false hF rfl ?_
    refine wp_region_lit ?_
    refine vc_y hF rfl rfl (by decide) _ (y_cmp (c := false) rfl rfl rfl rfl rfl) (fun a hF => ?_)
    refine vc_y hF rfl rfl (by decide) _ (y_assign rfl rfl) (fun a hF => ?_)
    refine vc_nil ?_
    refine hK6 _ _ ?_; clear  hK6 K6
    refine vc_false hF rfl ?_
    apply wp_seq_k; intro K8 hK8
    apply wp_seq_k; intro K9 hK9
    refine wp_region_lit ?_
    refine vc_y hF rfl rfl (by decide) _ (y_cmp (c := true) rfl rfl rfl rfl rfl) (fun a hF => ?_)
    refine vc_y hF rfl rfl (by decide) _ (y_assign rfl rfl) (fun a hF => ?_)
    refine vc_nil ?_
    refine hK9 _ _ ?_; clear  hK9 K9
    refine vc_true hF rfl ?_
    apply wp_skip
    refine hK8 _ _ ?_; clear  hK8 K8
    refine vc_true hF rfl ?_
    apply wp_seq_k; intro K10 hK10
    refine wp_region_lit ?_
    refine vc_y hF rfl rfl (by decide) _ (y_field rfl Tryd.underlying64 rfl sz36_t5 (by decide) rfl (rfl : (⟨_, 0 + _, none⟩ : Addr) = ⟨_, 4, none⟩)) (fun a hF => ?_)
    refine vc_y hF rfl rfl (by decide) _ (y_loadRow rfl hA2 rfl 1 rfl rw36_t5 (by rw [pc_len hX hY]; decide) (new := dc X) (pc_A hX)) (fun a hF => ?_)
    refine vc_y hF rfl rfl (by decide) _ (y_field rfl Tryd.underlying64 rfl sz36_t5 (by decide) rfl (rfl : (⟨_, 0 + _, none⟩ : Addr) = ⟨_, 4, none⟩)) (fun a hF => ?_)
    refine vc_y hF rfl rfl (by decide) _ (y_loadRow rfl hA2 rfl 0 rfl rw36_t5 (by rw [pc_len hX2 hY2]; decide) (new := dc X2) (pc_A hX2)) (fun a hF => ?_)
    refine vc_y hF rfl rfl (by decide) _ (y_neB (c := false) rfl Tryd.underlying36 Tryd.underlying5 ow_size5 (by kernel_rfl) rfl rfl hX hX2 (ndec_f hx)) (fun a hF => ?_)
    refine vc_y hF rfl rfl (by decide) _ (y_move rfl rfl) (fun a hF => ?_)
    refine vc_yg hF rfl rfl rfl rfl rfl (by decide) _ (y_field rfl Tryd.underlying64 rfl sz36_t5 (by decide) rfl (rfl : (⟨_, 0 + _, none⟩ : Addr) = ⟨_, 36, none⟩)) (fun a hF => ?_)
    refine vc_yg hF rfl rfl rfl rfl rfl (by decide) _ (y_loadRow rfl hA2 rfl 1 rfl rw36_t5 (by rw [pc_len hX hY]; decide) (new := dc Y) (pc_B hX hY)) (fun a hF => ?_)
    refine vc_yg hF rfl rfl rfl rfl rfl (by decide) _ (y_field rfl Tryd.underlying64 rfl sz36_t5 (by decide) rfl (rfl : (⟨_, 0 + _, none⟩ : Addr) = ⟨_, 36, none⟩)) (fun a hF => ?_)
    refine vc_yg hF rfl rfl rfl rfl rfl (by decide) _ (y_loadRow rfl hA2 rfl 0 rfl rw36_t5 (by rw [pc_len hX2 hY2]; decide) (new := dc Y2) (pc_B hX2 hY2)) (fun a hF => ?_)
    refine vc_yg hF rfl rfl rfl rfl rfl (by decide) _ (y_neB (c := !decide (Y = Y2)) rfl Tryd.underlying36 Tryd.underlying5 ow_size5 (by kernel_rfl) rfl rfl hY hY2 rfl) (fun a hF => ?_)
    refine vc_y hF rfl rfl (by decide) _ (y_pick rfl rfl rfl) (fun a hF => ?_)
    refine vc_y hF rfl rfl (by decide) _ (y_assign rfl rfl) (fun a hF => ?_)
    refine vc_nil ?_
    refine hK10 _ _ ?_; clear  hK10 K10
    apply wp_ret
    simp only [Exit.then, Exit.inBlock]
    refine vc_ret1 hF Tryd.results57 rfl ?_
    exact ⟨congrArg (fun b => Ending.returned (Value.bool b)) (ne_dec (key.trans ⟨fun h => h.2, fun h => ⟨hx, h⟩⟩)), hA2.clear hnr⟩
  · refine vc_enter Tryd.func57 rfl Tryd.ntmps57 (Nat.le_of_ble_eq_true rfl) (fun a hF => ?_)
    apply wp_seq_k; intro K11 hK11
    refine wp_region_lit ?_
    refine vc_op rfl (fun K hK => ws_box (cs := PC pw pd pc ph X Y (.slice PA p.length cp) pq) hF rfl (by decide) rfl hA0 rfl (fun g w1 a hg hF hA1 => hK _ _ ?_))
    clear hK K
    refine vc_op rfl (fun K hK => ws_box (cs := PC qw qd qc qh X2 Y2 (.slice QA q.length cq) qq) hF rfl (by decide) rfl hA1 rfl (fun g2 w2 a hg2 hF hA2 => hK _ _ ?_))
    clear hK K
    have hnr : ∀ r ∈ [((g2, 64, PC qw qd qc qh X2 Y2 (.slice QA q.length cq) qq) : Row), (g, 64, PC pw pd pc ph X Y (.slice PA p.length cp) pq)], w.heap.size ≤ r.1 := cons_new (by have := hA1.size; omega) (one_new hg)
    refine vc_y hF rfl rfl (by decide) _ (y_assign rfl rfl) (fun a hF => ?_)
    refine vc_nil ?_
    refine hK11 _ _ ?_; clear  hK11 K11
    apply wp_seq_k; intro K12 hK12
    apply wp_seq_k; intro K13 hK13
    refine wp_region_lit ?_
    refine vc_y hF rfl rfl (by decide) _ (y_move rfl rfl) (fun a hF => ?_)
    refine vc_y hF rfl rfl (by decide) _ (y_move rfl rfl) (fun a hF => ?_)
    refine vc_y hF rfl rfl (by decide) _ (y_cmp (c := false) rfl rfl rfl rfl rfl) (fun a hF => ?_)
    refine vc_nil ?_
    refine hK13 _ _ ?_; clear  hK13 K13
    refine vc_false hF rfl ?_
    apply wp_skip
    refine hK12 _ _ ?_; clear  hK12 K12
    apply wp_seq_k; intro K14 hK14
    apply wp_seq_k; intro K15 hK15
    refine wp_region_lit ?_
    refine vc_y hF rfl rfl (by decide) _ (y_move rfl rfl) (fun a hF => ?_)
    refine vc_nil ?_
    refine hK15 _ _ ?_; clear  hK15 K15
    apply wp_block
    apply wp_seq_k; intro K16 hK16
    apply wp_seq_k; intro K17 hK17
    refine wp_region_lit ?_
    refine vc_y hF rfl rfl (by decide) _ (y_cmp (c := false) rfl rfl rfl rfl rfl) (fun a hF => ?_)
    refine vc_y hF rfl rfl (by decide) _ (y_assign rfl rfl) (fun a hF => ?_)
    refine vc_nil ?_
    refine hK17 _ _ ?_; clear  hK17 K17
    refine vc_false hF rfl ?_
    refine wp_region_lit ?_
    refine vc_y hF rfl rfl (by decide) _ (y_cmp (c := false) rfl rfl rfl rfl rfl) (fun a hF => ?_)
    refine vc_y hF rfl rfl (by decide) _ (y_assign rfl rfl) (fun a hF => ?_)
    refine vc_nil ?_
    refine hK16 _ _ ?_; clear  hK16 K16
    refine vc_false hF rfl ?_
    apply wp_seq_k; intro K18 hK18
    apply wp_seq_k; intro K19 hK19
    refine wp_region_lit ?_
    refine vc_y hF rfl rfl (by decide) _ (y_cmp (c := true) rfl rfl rfl rfl rfl) (fun a hF => ?_)
    refine vc_y hF rfl rfl (by decide) _ (y_assign rfl rfl) (fun a hF => ?_)
    refine vc_nil ?_
    refine hK19 _ _ ?_; clear  hK19 K19
    refine vc_true hF rfl ?_
    apply wp_skip
    refine hK18 _ _ ?_; clear  hK18 K18
    refine vc_true hF rfl ?_
    apply wp_seq_k; intro K20 hK20
    refine wp_region_lit ?_
    refine vc_y hF rfl rfl (by decide) _ (y_field rfl Tryd.underlying64 rfl sz36_t5 (by decide) rfl (rfl : (⟨_, 0 + _, none⟩ : Addr) = ⟨_, 4, none⟩)) (fun a hF => ?_)
    refine vc_y hF rfl rfl (by decide) _ (y_loadRow rfl hA2 rfl 1 rfl rw36_t5 (by rw [pc_len hX hY]; decide) (new := dc X) (pc_A hX)) (fun a hF => ?_)
    refine vc_y hF rfl rfl (by decide) _ (y_field rfl Tryd.underlying64 rfl sz36_t5 (by decide) rfl (rfl : (⟨_, 0 + _, none⟩ : Addr) = ⟨_, 4, none⟩)) (fun a hF => ?_)
    refine vc_y hF rfl rfl (by decide) _ (y_loadRow rfl hA2 rfl 0 rfl rw36_t5 (by rw [pc_len hX2 hY2]; decide) (new := dc X2) (pc_A hX2)) (fun a hF => ?_)
    refine vc_y hF rfl rfl (by decide) _ (y_neB (c := true) rfl Tryd.underlying36 Tryd.underlying5 ow_size5 (by kernel_rfl) rfl rfl hX hX2 (ndec_t hx)) (fun a hF => ?_)
    refine vc_y hF rfl rfl (by decide) _ (y_move rfl rfl) (fun a hF => ?_)
    refine vc_skip hF rfl rfl rfl rfl rfl rfl (by decide) (fun a hF => ?_)
    refine vc_skip hF rfl rfl rfl rfl rfl rfl (by decide) (fun a hF => ?_)
    refine vc_skip hF rfl rfl rfl rfl rfl rfl (by decide) (fun a hF => ?_)
    refine vc_skip hF rfl rfl rfl rfl rfl rfl (by decide) (fun a hF => ?_)
    refine vc_skip hF rfl rfl rfl rfl rfl rfl (by decide) (fun a hF => ?_)
    refine vc_y hF rfl rfl (by decide) _ (y_pick rfl rfl rfl) (fun a hF => ?_)
    refine vc_y hF rfl rfl (by decide) _ (y_assign rfl rfl) (fun a hF => ?_)
    refine vc_nil ?_
    refine hK20 _ _ ?_; clear  hK20 K20
    apply wp_ret
    simp only [Exit.then, Exit.inBlock]
    refine vc_ret1 hF Tryd.results57 rfl ?_
    exact ⟨congrArg (fun b => Ending.returned (Value.bool b)) (ne_tru (fun h => hx (key.1 h).1)), hA2.clear hnr⟩

set_option maxRecDepth 100000 in
set_option maxHeartbeats 1000000 in
theorem unlike_3 (w : World) (pw pd pc ph : Int) (X Y : List UInt8) (PA : Option Addr) (p : List UInt8) (cp : Nat) (pq : Value) (hX : X.length = 32) (hY : Y.length = 32) (hB : Bts w PA p) (qw qd qc qh : Int) (X2 Y2 : List UInt8) (QA : Option Addr) (q : List UInt8) (cq : Nat) (qq : Value) (hX2 : X2.length = 32) (hY2 : Y2.length = 32) (hBq : Bts w QA q) (hC : -9223372036854775808 ≤ pc ∧ pc ≤ 9223372036854775807) (hC2 : -9223372036854775808 ≤ qc ∧ qc ≤ 9223372036854775807) :
    Calls Tryd.prog 57 #[.int .i64 3, .int .i64 3, .agg (PC pw pd pc ph X Y (.slice PA p.length cp) pq).toArray, .agg (PC qw qd qc qh X2 Y2 (.slice QA q.length cq) qq).toArray] w fun e w' => e = .returned (.bool (decide (textL 3 pc X Y p ≠ textL 3 qc X2 Y2 q))) ∧ At w [] w' := by
  have hA0 := At.refl w
  have key := tx_two (Y := Y) (Y' := Y2) hX hX2 2
  by_cases hx : X = X2
  · refine vc_enter Tryd.func57 rfl Tryd.ntmps57 (Nat.le_of_ble_eq_true rfl) (fun a hF => ?_)
    apply wp_seq_k; intro K1 hK1
    refine wp_region_lit ?_
    refine vc_op rfl (fun K hK => ws_box (cs := PC pw pd pc ph X Y (.slice PA p.length cp) pq) hF rfl (by decide) rfl hA0 rfl (fun g w1 a hg hF hA1 => hK _ _ ?_))
    clear hK K
    refine vc_op rfl (fun K hK => ws_box (cs := PC qw qd qc qh X2 Y2 (.slice QA q.length cq) qq) hF rfl (by decide) rfl hA1 rfl (fun g2 w2 a hg2 hF hA2 => hK _ _ ?_))
    clear hK K
    have hnr : ∀ r ∈ [((g2, 64, PC qw qd qc qh X2 Y2 (.slice QA q.length cq) qq) : Row), (g, 64, PC pw pd pc ph X Y (.slice PA p.length cp) pq)], w.heap.size ≤ r.1 := cons_new (by have := hA1.size; omega) (one_new hg)
    refine vc_y hF rfl rfl (by decide) _ (y_assign rfl rfl) (fun a hF => ?_)
    refine vc_nil ?_
    refine hK1 _ _ ?_; clear  hK1 K1
    apply wp_seq_k; intro K2 hK2
    apply wp_seq_k; intro K3 hK3
    refine wp_region_lit ?_
    refine vc_y hF rfl rfl (by decide) _ (y_move rfl rfl) (fun a hF => ?_)
    refine vc_y hF rfl rfl (by decide) _ (y_move rfl rfl) (fun a hF => ?_)
    refine vc_y hF rfl rfl (by decide) _ (y_cmp (c := false) rfl rfl rfl rfl rfl) (fun a hF => ?_)
    refine vc_nil ?_
    refine hK3 _ _ ?_; clear  hK3 K3
    refine vc_false hF rfl ?_
    apply wp_skip
    refine hK2 _ _ ?_; clear  hK2 K2
    apply wp_seq_k; intro K4 hK4
    apply wp_seq_k; intro K5 hK5
    refine wp_region_lit ?_
    refine vc_y hF rfl rfl (by decide) _ (y_move rfl rfl) (fun a hF => ?_)
    refine vc_nil ?_
    refine hK5 _ _ ?_; clear  hK5 K5
    apply wp_block
    apply wp_seq_k; intro K6 hK6
    apply wp_seq_k; intro K7 hK7
    refine wp_region_lit ?_
    refine vc_y hF rfl rfl (by decide) _ (y_cmp (c := false) rfl rfl rfl rfl rfl) (fun a hF => ?_)
    refine vc_y hF rfl rfl (by decide) _ (y_assign rfl rfl) (fun a hF => ?_)
    refine vc_nil ?_
    refine hK7 _ _ ?_; clear  hK7 K7
    refine vc_false hF rfl ?_
    refine wp_region_lit ?_
    refine vc_y hF rfl rfl (by decide) _ (y_cmp (c := false) rfl rfl rfl rfl rfl) (fun a hF => ?_)
    refine vc_y hF rfl rfl (by decide) _ (y_assign rfl rfl) (fun a hF => ?_)
    refine vc_nil ?_
    refine hK6 _ _ ?_; clear  hK6 K6
    refine vc_false hF rfl ?_
    apply wp_seq_k; intro K8 hK8
    apply wp_seq_k; intro K9 hK9
    refine wp_region_lit ?_
    refine vc_y hF rfl rfl (by decide) _ (y_cmp (c := false) rfl rfl rfl rfl rfl) (fun a hF => ?_)
    refine vc_y hF rfl rfl (by decide) _ (y_assign rfl rfl) (fun a hF => ?_)
    refine vc_nil ?_
    refine hK9 _ _ ?_; clear  hK9 K9
    refine vc_false hF rfl ?_
    apply wp_seq_k; intro K10 hK10
    refine wp_region_lit ?_
    refine vc_y hF rfl rfl (by decide) _ (y_cmp (c := true) rfl rfl rfl rfl rfl) (fun a hF => ?_)
    refine vc_y hF rfl rfl (by decide) _ (y_assign rfl rfl) (fun a hF => ?_)
    refine vc_nil ?_
    refine hK10 _ _ ?_; clear  hK10 K10
    refine vc_true hF rfl ?_
    apply wp_skip
    refine hK8 _ _ ?_; clear  hK8 K8
    refine vc_true hF rfl ?_
    apply wp_seq_k; intro K11 hK11
    refine wp_region_lit ?_
    refine vc_y hF rfl rfl (by decide) _ (y_field rfl Tryd.underlying64 rfl sz36_t5 (by decide) rfl (rfl : (⟨_, 0 + _, none⟩ : Addr) = ⟨_, 4, none⟩)) (fun a hF => ?_)
    refine vc_y hF rfl rfl (by decide) _ (y_loadRow rfl hA2 rfl 1 rfl rw36_t5 (by rw [pc_len hX hY]; decide) (new := dc X) (pc_A hX)) (fun a hF => ?_)
    refine vc_y hF rfl rfl (by decide) _ (y_field rfl Tryd.underlying64 rfl sz36_t5 (by decide) rfl (rfl : (⟨_, 0 + _, none⟩ : Addr) = ⟨_, 4, none⟩)) (fun a hF => ?_)
    refine vc_y hF rfl rfl (by decide) _ (y_loadRow rfl hA2 rfl 0 rfl rw36_t5 (by rw [pc_len hX2 hY2]; decide) (new := dc X2) (pc_A hX2)) (fun a hF => ?_)
    refine vc_y hF rfl rfl (by decide) _ (y_neB (c := false) rfl Tryd.underlying36 Tryd.underlying5 ow_size5 (by kernel_rfl) rfl rfl hX hX2 (ndec_f hx)) (fun a hF => ?_)
    refine vc_y hF rfl rfl (by decide) _ (y_move rfl rfl) (fun a hF => ?_)
    refine vc_yg hF rfl rfl rfl rfl rfl (by decide) _ (y_field rfl Tryd.underlying64 rfl sz36_t5 (by decide) rfl (rfl : (⟨_, 0 + _, none⟩ : Addr) = ⟨_, 36, none⟩)) (fun a hF => ?_)
    refine vc_yg hF rfl rfl rfl rfl rfl (by decide) _ (y_loadRow rfl hA2 rfl 1 rfl rw36_t5 (by rw [pc_len hX hY]; decide) (new := dc Y) (pc_B hX hY)) (fun a hF => ?_)
    refine vc_yg hF rfl rfl rfl rfl rfl (by decide) _ (y_field rfl Tryd.underlying64 rfl sz36_t5 (by decide) rfl (rfl : (⟨_, 0 + _, none⟩ : Addr) = ⟨_, 36, none⟩)) (fun a hF => ?_)
    refine vc_yg hF rfl rfl rfl rfl rfl (by decide) _ (y_loadRow rfl hA2 rfl 0 rfl rw36_t5 (by rw [pc_len hX2 hY2]; decide) (new := dc Y2) (pc_B hX2 hY2)) (fun a hF => ?_)
    refine vc_yg hF rfl rfl rfl rfl rfl (by decide) _ (y_neB (c := !decide (Y = Y2)) rfl Tryd.underlying36 Tryd.underlying5 ow_size5 (by kernel_rfl) rfl rfl hY hY2 rfl) (fun a hF => ?_)
    refine vc_y hF rfl rfl (by decide) _ (y_pick rfl rfl rfl) (fun a hF => ?_)
    refine vc_y hF rfl rfl (by decide) _ (y_assign rfl rfl) (fun a hF => ?_)
    refine vc_nil ?_
    refine hK11 _ _ ?_; clear  hK11 K11
    apply wp_ret
    simp only [Exit.then, Exit.inBlock]
    refine vc_ret1 hF Tryd.results57 rfl ?_
    exact ⟨congrArg (fun b => Ending.returned (Value.bool b)) (ne_dec (key.trans ⟨fun h => h.2, fun h => ⟨hx, h⟩⟩)), hA2.clear hnr⟩
  · refine vc_enter Tryd.func57 rfl Tryd.ntmps57 (Nat.le_of_ble_eq_true rfl) (fun a hF => ?_)
    apply wp_seq_k; intro K12 hK12
    refine wp_region_lit ?_
    refine vc_op rfl (fun K hK => ws_box (cs := PC pw pd pc ph X Y (.slice PA p.length cp) pq) hF rfl (by decide) rfl hA0 rfl (fun g w1 a hg hF hA1 => hK _ _ ?_))
    clear hK K
    refine vc_op rfl (fun K hK => ws_box (cs := PC qw qd qc qh X2 Y2 (.slice QA q.length cq) qq) hF rfl (by decide) rfl hA1 rfl (fun g2 w2 a hg2 hF hA2 => hK _ _ ?_))
    clear hK K
    have hnr : ∀ r ∈ [((g2, 64, PC qw qd qc qh X2 Y2 (.slice QA q.length cq) qq) : Row), (g, 64, PC pw pd pc ph X Y (.slice PA p.length cp) pq)], w.heap.size ≤ r.1 := cons_new (by have := hA1.size; omega) (one_new hg)
    refine vc_y hF rfl rfl (by decide) _ (y_assign rfl rfl) (fun a hF => ?_)
    refine vc_nil ?_
    refine hK12 _ _ ?_; clear  hK12 K12
    apply wp_seq_k; intro K13 hK13
    apply wp_seq_k; intro K14 hK14
    refine wp_region_lit ?_
    refine vc_y hF rfl rfl (by decide) _ (y_move rfl rfl) (fun a hF => ?_)
    refine vc_y hF rfl rfl (by decide) _ (y_move rfl rfl) (fun a hF => ?_)
    refine vc_y hF rfl rfl (by decide) _ (y_cmp (c := false) rfl rfl rfl rfl rfl) (fun a hF => ?_)
    refine vc_nil ?_
    refine hK14 _ _ ?_; clear  hK14 K14
    refine vc_false hF rfl ?_
    apply wp_skip
    refine hK13 _ _ ?_; clear  hK13 K13
    apply wp_seq_k; intro K15 hK15
    apply wp_seq_k; intro K16 hK16
    refine wp_region_lit ?_
    refine vc_y hF rfl rfl (by decide) _ (y_move rfl rfl) (fun a hF => ?_)
    refine vc_nil ?_
    refine hK16 _ _ ?_; clear  hK16 K16
    apply wp_block
    apply wp_seq_k; intro K17 hK17
    apply wp_seq_k; intro K18 hK18
    refine wp_region_lit ?_
    refine vc_y hF rfl rfl (by decide) _ (y_cmp (c := false) rfl rfl rfl rfl rfl) (fun a hF => ?_)
    refine vc_y hF rfl rfl (by decide) _ (y_assign rfl rfl) (fun a hF => ?_)
    refine vc_nil ?_
    refine hK18 _ _ ?_; clear  hK18 K18
    refine vc_false hF rfl ?_
    refine wp_region_lit ?_
    refine vc_y hF rfl rfl (by decide) _ (y_cmp (c := false) rfl rfl rfl rfl rfl) (fun a hF => ?_)
    refine vc_y hF rfl rfl (by decide) _ (y_assign rfl rfl) (fun a hF => ?_)
    refine vc_nil ?_
    refine hK17 _ _ ?_; clear  hK17 K17
    refine vc_false hF rfl ?_
    apply wp_seq_k; intro K19 hK19
    apply wp_seq_k; intro K20 hK20
    refine wp_region_lit ?_
    refine vc_y hF rfl rfl (by decide) _ (y_cmp (c := false) rfl rfl rfl rfl rfl) (fun a hF => ?_)
    refine vc_y hF rfl rfl (by decide) _ (y_assign rfl rfl) (fun a hF => ?_)
    refine vc_nil ?_
    refine hK20 _ _ ?_; clear  hK20 K20
    refine vc_false hF rfl ?_
    apply wp_seq_k; intro K21 hK21
    refine wp_region_lit ?_
    refine vc_y hF rfl rfl (by decide) _ (y_cmp (c := true) rfl rfl rfl rfl rfl) (fun a hF => ?_)
    refine vc_y hF rfl rfl (by decide) _ (y_assign rfl rfl) (fun a hF => ?_)
    refine vc_nil ?_
    refine hK21 _ _ ?_; clear  hK21 K21
    refine vc_true hF rfl ?_
    apply wp_skip
    refine hK19 _ _ ?_; clear  hK19 K19
    refine vc_true hF rfl ?_
    apply wp_seq_k; intro K22 hK22
    refine wp_region_lit ?_
    refine vc_y hF rfl rfl (by decide) _ (y_field rfl Tryd.underlying64 rfl sz36_t5 (by decide) rfl (rfl : (⟨_, 0 + _, none⟩ : Addr) = ⟨_, 4, none⟩)) (fun a hF => ?_)
    refine vc_y hF rfl rfl (by decide) _ (y_loadRow rfl hA2 rfl 1 rfl rw36_t5 (by rw [pc_len hX hY]; decide) (new := dc X) (pc_A hX)) (fun a hF => ?_)
    refine vc_y hF rfl rfl (by decide) _ (y_field rfl Tryd.underlying64 rfl sz36_t5 (by decide) rfl (rfl : (⟨_, 0 + _, none⟩ : Addr) = ⟨_, 4, none⟩)) (fun a hF => ?_)
    refine vc_y hF rfl rfl (by decide) _ (y_loadRow rfl hA2 rfl 0 rfl rw36_t5 (by rw [pc_len hX2 hY2]; decide) (new := dc X2) (pc_A hX2)) (fun a hF => ?_)
    refine vc_y hF rfl rfl (by decide) _ (y_neB (c := true) rfl Tryd.underlying36 Tryd.underlying5 ow_size5 (by kernel_rfl) rfl rfl hX hX2 (ndec_t hx)) (fun a hF => ?_)
    refine vc_y hF rfl rfl (by decide) _ (y_move rfl rfl) (fun a hF => ?_)
    refine vc_skip hF rfl rfl rfl rfl rfl rfl (by decide) (fun a hF => ?_)
    refine vc_skip hF rfl rfl rfl rfl rfl rfl (by decide) (fun a hF => ?_)
    refine vc_skip hF rfl rfl rfl rfl rfl rfl (by decide) (fun a hF => ?_)
    refine vc_skip hF rfl rfl rfl rfl rfl rfl (by decide) (fun a hF => ?_)
    refine vc_skip hF rfl rfl rfl rfl rfl rfl (by decide) (fun a hF => ?_)
    refine vc_y hF rfl rfl (by decide) _ (y_pick rfl rfl rfl) (fun a hF => ?_)
    refine vc_y hF rfl rfl (by decide) _ (y_assign rfl rfl) (fun a hF => ?_)
    refine vc_nil ?_
    refine hK22 _ _ ?_; clear  hK22 K22
    apply wp_ret
    simp only [Exit.then, Exit.inBlock]
    refine vc_ret1 hF Tryd.results57 rfl ?_
    exact ⟨congrArg (fun b => Ending.returned (Value.bool b)) (ne_tru (fun h => hx (key.1 h).1)), hA2.clear hnr⟩

set_option maxRecDepth 100000 in
set_option maxHeartbeats 1000000 in
theorem unlike_4 (w : World) (pw pd pc ph : Int) (X Y : List UInt8) (PA : Option Addr) (p : List UInt8) (cp : Nat) (pq : Value) (hX : X.length = 32) (hY : Y.length = 32) (hB : Bts w PA p) (qw qd qc qh : Int) (X2 Y2 : List UInt8) (QA : Option Addr) (q : List UInt8) (cq : Nat) (qq : Value) (hX2 : X2.length = 32) (hY2 : Y2.length = 32) (hBq : Bts w QA q) (hC : -9223372036854775808 ≤ pc ∧ pc ≤ 9223372036854775807) (hC2 : -9223372036854775808 ≤ qc ∧ qc ≤ 9223372036854775807) :
    Calls Tryd.prog 57 #[.int .i64 4, .int .i64 4, .agg (PC pw pd pc ph X Y (.slice PA p.length cp) pq).toArray, .agg (PC qw qd qc qh X2 Y2 (.slice QA q.length cq) qq).toArray] w fun e w' => e = .returned (.bool (decide (textL 4 pc X Y p ≠ textL 4 qc X2 Y2 q))) ∧ At w [] w' := by
  have hA0 := At.refl w
  have key := tx_three (Y := Y) (Y' := Y2) hX hX2 hC hC2 3
  by_cases hx : X = X2
  · by_cases hy : Y = Y2
    · refine vc_enter Tryd.func57 rfl Tryd.ntmps57 (Nat.le_of_ble_eq_true rfl) (fun a hF => ?_)
      apply wp_seq_k; intro K1 hK1
      refine wp_region_lit ?_
      refine vc_op rfl (fun K hK => ws_box (cs := PC pw pd pc ph X Y (.slice PA p.length cp) pq) hF rfl (by decide) rfl hA0 rfl (fun g w1 a hg hF hA1 => hK _ _ ?_))
      clear hK K
      refine vc_op rfl (fun K hK => ws_box (cs := PC qw qd qc qh X2 Y2 (.slice QA q.length cq) qq) hF rfl (by decide) rfl hA1 rfl (fun g2 w2 a hg2 hF hA2 => hK _ _ ?_))
      clear hK K
      have hnr : ∀ r ∈ [((g2, 64, PC qw qd qc qh X2 Y2 (.slice QA q.length cq) qq) : Row), (g, 64, PC pw pd pc ph X Y (.slice PA p.length cp) pq)], w.heap.size ≤ r.1 := cons_new (by have := hA1.size; omega) (one_new hg)
      refine vc_y hF rfl rfl (by decide) _ (y_assign rfl rfl) (fun a hF => ?_)
      refine vc_nil ?_
      refine hK1 _ _ ?_; clear  hK1 K1
      apply wp_seq_k; intro K2 hK2
      apply wp_seq_k; intro K3 hK3
      refine wp_region_lit ?_
      refine vc_y hF rfl rfl (by decide) _ (y_move rfl rfl) (fun a hF => ?_)
      refine vc_y hF rfl rfl (by decide) _ (y_move rfl rfl) (fun a hF => ?_)
      refine vc_y hF rfl rfl (by decide) _ (y_cmp (c := false) rfl rfl rfl rfl rfl) (fun a hF => ?_)
      refine vc_nil ?_
      refine hK3 _ _ ?_; clear  hK3 K3
      refine vc_false hF rfl ?_
      apply wp_skip
      refine hK2 _ _ ?_; clear  hK2 K2
      apply wp_seq_k; intro K4 hK4
      apply wp_seq_k; intro K5 hK5
      refine wp_region_lit ?_
      refine vc_y hF rfl rfl (by decide) _ (y_move rfl rfl) (fun a hF => ?_)
      refine vc_nil ?_
      refine hK5 _ _ ?_; clear  hK5 K5
      apply wp_block
      apply wp_seq_k; intro K6 hK6
      apply wp_seq_k; intro K7 hK7
      refine wp_region_lit ?_
      refine vc_y hF rfl rfl (by decide) _ (y_cmp (c := false) rfl rfl rfl rfl rfl) (fun a hF => ?_)
      refine vc_y hF rfl rfl (by decide) _ (y_assign rfl rfl) (fun a hF => ?_)
      refine vc_nil ?_
      refine hK7 _ _ ?_; clear  hK7 K7
      refine vc_false hF rfl ?_
      refine wp_region_lit ?_
      refine vc_y hF rfl rfl (by decide) _ (y_cmp (c := false) rfl rfl rfl rfl rfl) (fun a hF => ?_)
      refine vc_y hF rfl rfl (by decide) _ (y_assign rfl rfl) (fun a hF => ?_)
      refine vc_nil ?_
      refine hK6 _ _ ?_; clear  hK6 K6
      refine vc_false hF rfl ?_
      apply wp_seq_k; intro K8 hK8
      apply wp_seq_k; intro K9 hK9
      refine wp_region_lit ?_
      refine vc_y hF rfl rfl (by decide) _ (y_cmp (c := false) rfl rfl rfl rfl rfl) (fun a hF => ?_)
      refine vc_y hF rfl rfl (by decide) _ (y_assign rfl rfl) (fun a hF => ?_)
      refine vc_nil ?_
      refine hK9 _ _ ?_; clear  hK9 K9
      refine vc_false hF rfl ?_
      apply wp_seq_k; intro K10 hK10
      refine wp_region_lit ?_
      refine vc_y hF rfl rfl (by decide) _ (y_cmp (c := false) rfl rfl rfl rfl rfl) (fun a hF => ?_)
      refine vc_y hF rfl rfl (by decide) _ (y_assign rfl rfl) (fun a hF => ?_)
      refine vc_nil ?_
      refine hK10 _ _ ?_; clear  hK10 K10
      refine vc_false hF rfl ?_
      refine wp_region_lit ?_
      refine vc_y hF rfl rfl (by decide) _ (y_cmp (c := false) rfl rfl rfl rfl rfl) (fun a hF => ?_)
      refine vc_y hF rfl rfl (by decide) _ (y_assign rfl rfl) (fun a hF => ?_)
      refine vc_nil ?_
      refine hK8 _ _ ?_; clear  hK8 K8
      refine vc_false hF rfl ?_
      apply wp_seq_k; intro K11 hK11
      refine wp_region_lit ?_
      refine vc_y hF rfl rfl (by decide) _ (y_cmp (c := true) rfl rfl rfl rfl rfl) (fun a hF => ?_)
      refine vc_y hF rfl rfl (by decide) _ (y_assign rfl rfl) (fun a hF => ?_)
      refine vc_nil ?_
      refine hK11 _ _ ?_; clear  hK11 K11
      refine vc_true hF rfl ?_
      apply wp_seq_k; intro K12 hK12
      refine wp_region_lit ?_
      refine vc_y hF rfl rfl (by decide) _ (y_field rfl Tryd.underlying64 rfl sz36_t5 (by decide) rfl (rfl : (⟨_, 0 + _, none⟩ : Addr) = ⟨_, 4, none⟩)) (fun a hF => ?_)
      refine vc_y hF rfl rfl (by decide) _ (y_loadRow rfl hA2 rfl 1 rfl rw36_t5 (by rw [pc_len hX hY]; decide) (new := dc X) (pc_A hX)) (fun a hF => ?_)
      refine vc_y hF rfl rfl (by decide) _ (y_field rfl Tryd.underlying64 rfl sz36_t5 (by decide) rfl (rfl : (⟨_, 0 + _, none⟩ : Addr) = ⟨_, 4, none⟩)) (fun a hF => ?_)
      refine vc_y hF rfl rfl (by decide) _ (y_loadRow rfl hA2 rfl 0 rfl rw36_t5 (by rw [pc_len hX2 hY2]; decide) (new := dc X2) (pc_A hX2)) (fun a hF => ?_)
      refine vc_y hF rfl rfl (by decide) _ (y_neB (c := false) rfl Tryd.underlying36 Tryd.underlying5 ow_size5 (by kernel_rfl) rfl rfl hX hX2 (ndec_f hx)) (fun a hF => ?_)
      refine vc_y hF rfl rfl (by decide) _ (y_move rfl rfl) (fun a hF => ?_)
      refine vc_yg hF rfl rfl rfl rfl rfl (by decide) _ (y_field rfl Tryd.underlying64 rfl sz36_t5 (by decide) rfl (rfl : (⟨_, 0 + _, none⟩ : Addr) = ⟨_, 36, none⟩)) (fun a hF => ?_)
      refine vc_yg hF rfl rfl rfl rfl rfl (by decide) _ (y_loadRow rfl hA2 rfl 1 rfl rw36_t5 (by rw [pc_len hX hY]; decide) (new := dc Y) (pc_B hX hY)) (fun a hF => ?_)
      refine vc_yg hF rfl rfl rfl rfl rfl (by decide) _ (y_field rfl Tryd.underlying64 rfl sz36_t5 (by decide) rfl (rfl : (⟨_, 0 + _, none⟩ : Addr) = ⟨_, 36, none⟩)) (fun a hF => ?_)
      refine vc_yg hF rfl rfl rfl rfl rfl (by decide) _ (y_loadRow rfl hA2 rfl 0 rfl rw36_t5 (by rw [pc_len hX2 hY2]; decide) (new := dc Y2) (pc_B hX2 hY2)) (fun a hF => ?_)
      refine vc_yg hF rfl rfl rfl rfl rfl (by decide) _ (y_neB (c := false) rfl Tryd.underlying36 Tryd.underlying5 ow_size5 (by kernel_rfl) rfl rfl hY hY2 (ndec_f hy)) (fun a hF => ?_)
      refine vc_y hF rfl rfl (by decide) _ (y_pick rfl rfl rfl) (fun a hF => ?_)
      refine vc_y hF rfl rfl (by decide) _ (y_move rfl rfl) (fun a hF => ?_)
      refine vc_yg hF rfl rfl rfl rfl rfl (by decide) _ (y_field rfl Tryd.underlying64 rfl sz3_t5 (by decide) rfl (rfl : (⟨_, 0 + _, none⟩ : Addr) = ⟨_, 2, none⟩)) (fun a hF => ?_)
      refine vc_yg hF rfl rfl rfl rfl rfl (by decide) _ (y_loadAt rfl hA2 rfl 1 rfl pc_C tb_noInt) (fun a hF => ?_)
      refine vc_yg hF rfl rfl rfl rfl rfl (by decide) _ (y_field rfl Tryd.underlying64 rfl sz3_t5 (by decide) rfl (rfl : (⟨_, 0 + _, none⟩ : Addr) = ⟨_, 2, none⟩)) (fun a hF => ?_)
      refine vc_yg hF rfl rfl rfl rfl rfl (by decide) _ (y_loadAt rfl hA2 rfl 0 rfl pc_C tb_noInt) (fun a hF => ?_)
      refine vc_yg hF rfl rfl rfl rfl rfl (by decide) _ (y_cmp (c := !decide (pc = qc)) rfl rfl rfl rfl (by by_cases h : pc = qc <;> simp [cmpB, h])) (fun a hF => ?_)
      refine vc_y hF rfl rfl (by decide) _ (y_pick rfl rfl rfl) (fun a hF => ?_)
      refine vc_y hF rfl rfl (by decide) _ (y_assign rfl rfl) (fun a hF => ?_)
      refine vc_nil ?_
      refine hK12 _ _ ?_; clear  hK12 K12
      apply wp_ret
      simp only [Exit.then, Exit.inBlock]
      refine vc_ret1 hF Tryd.results57 rfl ?_
      exact ⟨congrArg (fun b => Ending.returned (Value.bool b)) (ne_dec (key.trans ⟨fun h => h.2.2, fun h => ⟨hx, hy, h⟩⟩)), hA2.clear hnr⟩
    · refine vc_enter Tryd.func57 rfl Tryd.ntmps57 (Nat.le_of_ble_eq_true rfl) (fun a hF => ?_)
      apply wp_seq_k; intro K13 hK13
      refine wp_region_lit ?_
      refine vc_op rfl (fun K hK => ws_box (cs := PC pw pd pc ph X Y (.slice PA p.length cp) pq) hF rfl (by decide) rfl hA0 rfl (fun g w1 a hg hF hA1 => hK _ _ ?_))
      clear hK K
      refine vc_op rfl (fun K hK => ws_box (cs := PC qw qd qc qh X2 Y2 (.slice QA q.length cq) qq) hF rfl (by decide) rfl hA1 rfl (fun g2 w2 a hg2 hF hA2 => hK _ _ ?_))
      clear hK K
      have hnr : ∀ r ∈ [((g2, 64, PC qw qd qc qh X2 Y2 (.slice QA q.length cq) qq) : Row), (g, 64, PC pw pd pc ph X Y (.slice PA p.length cp) pq)], w.heap.size ≤ r.1 := cons_new (by have := hA1.size; omega) (one_new hg)
      refine vc_y hF rfl rfl (by decide) _ (y_assign rfl rfl) (fun a hF => ?_)
      refine vc_nil ?_
      refine hK13 _ _ ?_; clear  hK13 K13
      apply wp_seq_k; intro K14 hK14
      apply wp_seq_k; intro K15 hK15
      refine wp_region_lit ?_
      refine vc_y hF rfl rfl (by decide) _ (y_move rfl rfl) (fun a hF => ?_)
      refine vc_y hF rfl rfl (by decide) _ (y_move rfl rfl) (fun a hF => ?_)
      refine vc_y hF rfl rfl (by decide) _ (y_cmp (c := false) rfl rfl rfl rfl rfl) (fun a hF => ?_)
      refine vc_nil ?_
      refine hK15 _ _ ?_; clear  hK15 K15
      refine vc_false hF rfl ?_
      apply wp_skip
      refine hK14 _ _ ?_; clear  hK14 K14
      apply wp_seq_k; intro K16 hK16
      apply wp_seq_k; intro K17 hK17
      refine wp_region_lit ?_
      refine vc_y hF rfl rfl (by decide) _ (y_move rfl rfl) (fun a hF => ?_)
      refine vc_nil ?_
      refine hK17 _ _ ?_; clear  hK17 K17
      apply wp_block
      apply wp_seq_k; intro K18 hK18
      apply wp_seq_k; intro K19 hK19
      refine wp_region_lit ?_
      refine vc_y hF rfl rfl (by decide) _ (y_cmp (c := false) rfl rfl rfl rfl rfl) (fun a hF => ?_)
      refine vc_y hF rfl rfl (by decide) _ (y_assign rfl rfl) (fun a hF => ?_)
      refine vc_nil ?_
      refine hK19 _ _ ?_; clear  hK19 K19
      refine vc_false hF rfl ?_
      refine wp_region_lit ?_
      refine vc_y hF rfl rfl (by decide) _ (y_cmp (c := false) rfl rfl rfl rfl rfl) (fun a hF => ?_)
      refine vc_y hF rfl rfl (by decide) _ (y_assign rfl rfl) (fun a hF => ?_)
      refine vc_nil ?_
      refine hK18 _ _ ?_; clear  hK18 K18
      refine vc_false hF rfl ?_
      apply wp_seq_k; intro K20 hK20
      apply wp_seq_k; intro K21 hK21
      refine wp_region_lit ?_
      refine vc_y hF rfl rfl (by decide) _ (y_cmp (c := false) rfl rfl rfl rfl rfl) (fun a hF => ?_)
      refine vc_y hF rfl rfl (by decide) _ (y_assign rfl rfl) (fun a hF => ?_)
      refine vc_nil ?_
      refine hK21 _ _ ?_; clear  hK21 K21
      refine vc_false hF rfl ?_
      apply wp_seq_k; intro K22 hK22
      refine wp_region_lit ?_
      refine vc_y hF rfl rfl (by decide) _ (y_cmp (c := false) rfl rfl rfl rfl rfl) (fun a hF => ?_)
      refine vc_y hF rfl rfl (by decide) _ (y_assign rfl rfl) (fun a hF => ?_)
      refine vc_nil ?_
      refine hK22 _ _ ?_; clear  hK22 K22
      refine vc_false hF rfl ?_
      refine wp_region_lit ?_
      refine vc_y hF rfl rfl (by decide) _ (y_cmp (c := false) rfl rfl rfl rfl rfl) (fun a hF => ?_)
      refine vc_y hF rfl rfl (by decide) _ (y_assign rfl rfl) (fun a hF => ?_)
      refine vc_nil ?_
      refine hK20 _ _ ?_; clear  hK20 K20
      refine vc_false hF rfl ?_
      apply wp_seq_k; intro K23 hK23
      refine wp_region_lit ?_
      refine vc_y hF rfl rfl (by decide) _ (y_cmp (c := true) rfl rfl rfl rfl rfl) (fun a hF => ?_)
      refine vc_y hF rfl rfl (by decide) _ (y_assign rfl rfl) (fun a hF => ?_)
      refine vc_nil ?_
      refine hK23 _ _ ?_; clear  hK23 K23
      refine vc_true hF rfl ?_
      apply wp_seq_k; intro K24 hK24
      refine wp_region_lit ?_
      refine vc_y hF rfl rfl (by decide) _ (y_field rfl Tryd.underlying64 rfl sz36_t5 (by decide) rfl (rfl : (⟨_, 0 + _, none⟩ : Addr) = ⟨_, 4, none⟩)) (fun a hF => ?_)
      refine vc_y hF rfl rfl (by decide) _ (y_loadRow rfl hA2 rfl 1 rfl rw36_t5 (by rw [pc_len hX hY]; decide) (new := dc X) (pc_A hX)) (fun a hF => ?_)
      refine vc_y hF rfl rfl (by decide) _ (y_field rfl Tryd.underlying64 rfl sz36_t5 (by decide) rfl (rfl : (⟨_, 0 + _, none⟩ : Addr) = ⟨_, 4, none⟩)) (fun a hF => ?_)
      refine vc_y hF rfl rfl (by decide) _ (y_loadRow rfl hA2 rfl 0 rfl rw36_t5 (by rw [pc_len hX2 hY2]; decide) (new := dc X2) (pc_A hX2)) (fun a hF => ?_)
      refine vc_y hF rfl rfl (by decide) _ (y_neB (c := false) rfl Tryd.underlying36 Tryd.underlying5 ow_size5 (by kernel_rfl) rfl rfl hX hX2 (ndec_f hx)) (fun a hF => ?_)
      refine vc_y hF rfl rfl (by decide) _ (y_move rfl rfl) (fun a hF => ?_)
      refine vc_yg hF rfl rfl rfl rfl rfl (by decide) _ (y_field rfl Tryd.underlying64 rfl sz36_t5 (by decide) rfl (rfl : (⟨_, 0 + _, none⟩ : Addr) = ⟨_, 36, none⟩)) (fun a hF => ?_)
      refine vc_yg hF rfl rfl rfl rfl rfl (by decide) _ (y_loadRow rfl hA2 rfl 1 rfl rw36_t5 (by rw [pc_len hX hY]; decide) (new := dc Y) (pc_B hX hY)) (fun a hF => ?_)
      refine vc_yg hF rfl rfl rfl rfl rfl (by decide) _ (y_field rfl Tryd.underlying64 rfl sz36_t5 (by decide) rfl (rfl : (⟨_, 0 + _, none⟩ : Addr) = ⟨_, 36, none⟩)) (fun a hF => ?_)
      refine vc_yg hF rfl rfl rfl rfl rfl (by decide) _ (y_loadRow rfl hA2 rfl 0 rfl rw36_t5 (by rw [pc_len hX2 hY2]; decide) (new := dc Y2) (pc_B hX2 hY2)) (fun a hF => ?_)
      refine vc_yg hF rfl rfl rfl rfl rfl (by decide) _ (y_neB (c := true) rfl Tryd.underlying36 Tryd.underlying5 ow_size5 (by kernel_rfl) rfl rfl hY hY2 (ndec_t hy)) (fun a hF => ?_)
      refine vc_y hF rfl rfl (by decide) _ (y_pick rfl rfl rfl) (fun a hF => ?_)
      refine vc_y hF rfl rfl (by decide) _ (y_move rfl rfl) (fun a hF => ?_)
      refine vc_skip hF rfl rfl rfl rfl rfl rfl (by decide) (fun a hF => ?_)
      refine vc_skip hF rfl rfl rfl rfl rfl rfl (by decide) (fun a hF => ?_)
      refine vc_skip hF rfl rfl rfl rfl rfl rfl (by decide) (fun a hF => ?_)
      refine vc_skip hF rfl rfl rfl rfl rfl rfl (by decide) (fun a hF => ?_)
      refine vc_skip hF rfl rfl rfl rfl rfl rfl (by decide) (fun a hF => ?_)
      refine vc_y hF rfl rfl (by decide) _ (y_pick rfl rfl rfl) (fun a hF => ?_)
      refine vc_y hF rfl rfl (by decide) _ (y_assign rfl rfl) (fun a hF => ?_)
      refine vc_nil ?_
      refine hK24 _ _ ?_; clear  hK24 K24
      apply wp_ret
      simp only [Exit.then, Exit.inBlock]
      refine vc_ret1 hF Tryd.results57 rfl ?_
      exact ⟨congrArg (fun b => Ending.returned (Value.bool b)) (ne_tru (fun h => hy (key.1 h).2.1)), hA2.clear hnr⟩
  · refine vc_enter Tryd.func57 rfl Tryd.ntmps57 (Nat.le_of_ble_eq_true rfl) (fun a hF => ?_)
    apply wp_seq_k; intro K25 hK25
    refine wp_region_lit ?_
    refine vc_op rfl (fun K hK => ws_box (cs := PC pw pd pc ph X Y (.slice PA p.length cp) pq) hF rfl (by decide) rfl hA0 rfl (fun g w1 a hg hF hA1 => hK _ _ ?_))
    clear hK K
    refine vc_op rfl (fun K hK => ws_box (cs := PC qw qd qc qh X2 Y2 (.slice QA q.length cq) qq) hF rfl (by decide) rfl hA1 rfl (fun g2 w2 a hg2 hF hA2 => hK _ _ ?_))
    clear hK K
    have hnr : ∀ r ∈ [((g2, 64, PC qw qd qc qh X2 Y2 (.slice QA q.length cq) qq) : Row), (g, 64, PC pw pd pc ph X Y (.slice PA p.length cp) pq)], w.heap.size ≤ r.1 := cons_new (by have := hA1.size; omega) (one_new hg)
    refine vc_y hF rfl rfl (by decide) _ (y_assign rfl rfl) (fun a hF => ?_)
    refine vc_nil ?_
    refine hK25 _ _ ?_; clear  hK25 K25
    apply wp_seq_k; intro K26 hK26
    apply wp_seq_k; intro K27 hK27
    refine wp_region_lit ?_
    refine vc_y hF rfl rfl (by decide) _ (y_move rfl rfl) (fun a hF => ?_)
    refine vc_y hF rfl rfl (by decide) _ (y_move rfl rfl) (fun a hF => ?_)
    refine vc_y hF rfl rfl (by decide) _ (y_cmp (c := false) rfl rfl rfl rfl rfl) (fun a hF => ?_)
    refine vc_nil ?_
    refine hK27 _ _ ?_; clear  hK27 K27
    refine vc_false hF rfl ?_
    apply wp_skip
    refine hK26 _ _ ?_; clear  hK26 K26
    apply wp_seq_k; intro K28 hK28
    apply wp_seq_k; intro K29 hK29
    refine wp_region_lit ?_
    refine vc_y hF rfl rfl (by decide) _ (y_move rfl rfl) (fun a hF => ?_)
    refine vc_nil ?_
    refine hK29 _ _ ?_; clear  hK29 K29
    apply wp_block
    apply wp_seq_k; intro K30 hK30
    apply wp_seq_k; intro K31 hK31
    refine wp_region_lit ?_
    refine vc_y hF rfl rfl (by decide) _ (y_cmp (c := false) rfl rfl rfl rfl rfl) (fun a hF => ?_)
    refine vc_y hF rfl rfl (by decide) _ (y_assign rfl rfl) (fun a hF => ?_)
    refine vc_nil ?_
    refine hK31 _ _ ?_; clear  hK31 K31
    refine vc_false hF rfl ?_
    refine wp_region_lit ?_
    refine vc_y hF rfl rfl (by decide) _ (y_cmp (c := false) rfl rfl rfl rfl rfl) (fun a hF => ?_)
    refine vc_y hF rfl rfl (by decide) _ (y_assign rfl rfl) (fun a hF => ?_)
    refine vc_nil ?_
    refine hK30 _ _ ?_; clear  hK30 K30
    refine vc_false hF rfl ?_
    apply wp_seq_k; intro K32 hK32
    apply wp_seq_k; intro K33 hK33
    refine wp_region_lit ?_
    refine vc_y hF rfl rfl (by decide) _ (y_cmp (c := false) rfl rfl rfl rfl rfl) (fun a hF => ?_)
    refine vc_y hF rfl rfl (by decide) _ (y_assign rfl rfl) (fun a hF => ?_)
    refine vc_nil ?_
    refine hK33 _ _ ?_; clear  hK33 K33
    refine vc_false hF rfl ?_
    apply wp_seq_k; intro K34 hK34
    refine wp_region_lit ?_
    refine vc_y hF rfl rfl (by decide) _ (y_cmp (c := false) rfl rfl rfl rfl rfl) (fun a hF => ?_)
    refine vc_y hF rfl rfl (by decide) _ (y_assign rfl rfl) (fun a hF => ?_)
    refine vc_nil ?_
    refine hK34 _ _ ?_; clear  hK34 K34
    refine vc_false hF rfl ?_
    refine wp_region_lit ?_
    refine vc_y hF rfl rfl (by decide) _ (y_cmp (c := false) rfl rfl rfl rfl rfl) (fun a hF => ?_)
    refine vc_y hF rfl rfl (by decide) _ (y_assign rfl rfl) (fun a hF => ?_)
    refine vc_nil ?_
    refine hK32 _ _ ?_; clear  hK32 K32
    refine vc_false hF rfl ?_
    apply wp_seq_k; intro K35 hK35
    refine wp_region_lit ?_
    refine vc_y hF rfl rfl (by decide) _ (y_cmp (c := true) rfl rfl rfl rfl rfl) (fun a hF => ?_)
    refine vc_y hF rfl rfl (by decide) _ (y_assign rfl rfl) (fun a hF => ?_)
    refine vc_nil ?_
    refine hK35 _ _ ?_; clear  hK35 K35
    refine vc_true hF rfl ?_
    apply wp_seq_k; intro K36 hK36
    refine wp_region_lit ?_
    refine vc_y hF rfl rfl (by decide) _ (y_field rfl Tryd.underlying64 rfl sz36_t5 (by decide) rfl (rfl : (⟨_, 0 + _, none⟩ : Addr) = ⟨_, 4, none⟩)) (fun a hF => ?_)
    refine vc_y hF rfl rfl (by decide) _ (y_loadRow rfl hA2 rfl 1 rfl rw36_t5 (by rw [pc_len hX hY]; decide) (new := dc X) (pc_A hX)) (fun a hF => ?_)
    refine vc_y hF rfl rfl (by decide) _ (y_field rfl Tryd.underlying64 rfl sz36_t5 (by decide) rfl (rfl : (⟨_, 0 + _, none⟩ : Addr) = ⟨_, 4, none⟩)) (fun a hF => ?_)
    refine vc_y hF rfl rfl (by decide) _ (y_loadRow rfl hA2 rfl 0 rfl rw36_t5 (by rw [pc_len hX2 hY2]; decide) (new := dc X2) (pc_A hX2)) (fun a hF => ?_)
    refine vc_y hF rfl rfl (by decide) _ (y_neB (c := true) rfl Tryd.underlying36 Tryd.underlying5 ow_size5 (by kernel_rfl) rfl rfl hX hX2 (ndec_t hx)) (fun a hF => ?_)
    refine vc_y hF rfl rfl (by decide) _ (y_move rfl rfl) (fun a hF => ?_)
    refine vc_skip hF rfl rfl rfl rfl rfl rfl (by decide) (fun a hF => ?_)
    refine vc_skip hF rfl rfl rfl rfl rfl rfl (by decide) (fun a hF => ?_)
    refine vc_skip hF rfl rfl rfl rfl rfl rfl (by decide) (fun a hF => ?_)
    refine vc_skip hF rfl rfl rfl rfl rfl rfl (by decide) (fun a hF => ?_)
    refine vc_skip hF rfl rfl rfl rfl rfl rfl (by decide) (fun a hF => ?_)
    refine vc_y hF rfl rfl (by decide) _ (y_pick rfl rfl rfl) (fun a hF => ?_)
    refine vc_y hF rfl rfl (by decide) _ (y_move rfl rfl) (fun a hF => ?_)
    refine vc_skip hF rfl rfl rfl rfl rfl rfl (by decide) (fun a hF => ?_)
    refine vc_skip hF rfl rfl rfl rfl rfl rfl (by decide) (fun a hF => ?_)
    refine vc_skip hF rfl rfl rfl rfl rfl rfl (by decide) (fun a hF => ?_)
    refine vc_skip hF rfl rfl rfl rfl rfl rfl (by decide) (fun a hF => ?_)
    refine vc_skip hF rfl rfl rfl rfl rfl rfl (by decide) (fun a hF => ?_)
    refine vc_y hF rfl rfl (by decide) _ (y_pick rfl rfl rfl) (fun a hF => ?_)
    refine vc_y hF rfl rfl (by decide) _ (y_assign rfl rfl) (fun a hF => ?_)
    refine vc_nil ?_
    refine hK36 _ _ ?_; clear  hK36 K36
    apply wp_ret
    simp only [Exit.then, Exit.inBlock]
    refine vc_ret1 hF Tryd.results57 rfl ?_
    exact ⟨congrArg (fun b => Ending.returned (Value.bool b)) (ne_tru (fun h => hx (key.1 h).1)), hA2.clear hnr⟩

set_option maxRecDepth 100000 in
set_option maxHeartbeats 1000000 in
theorem unlike_5 (w : World) (pw pd pc ph : Int) (X Y : List UInt8) (PA : Option Addr) (p : List UInt8) (cp : Nat) (pq : Value) (hX : X.length = 32) (hY : Y.length = 32) (hB : Bts w PA p) (qw qd qc qh : Int) (X2 Y2 : List UInt8) (QA : Option Addr) (q : List UInt8) (cq : Nat) (qq : Value) (hX2 : X2.length = 32) (hY2 : Y2.length = 32) (hBq : Bts w QA q) (hC : -9223372036854775808 ≤ pc ∧ pc ≤ 9223372036854775807) (hC2 : -9223372036854775808 ≤ qc ∧ qc ≤ 9223372036854775807) :
    Calls Tryd.prog 57 #[.int .i64 5, .int .i64 5, .agg (PC pw pd pc ph X Y (.slice PA p.length cp) pq).toArray, .agg (PC qw qd qc qh X2 Y2 (.slice QA q.length cq) qq).toArray] w fun e w' => e = .returned (.bool (decide (textL 5 pc X Y p ≠ textL 5 qc X2 Y2 q))) ∧ At w [] w' := by
  have hA0 := At.refl w
  have key := tx_two (Y := Y) (Y' := Y2) hX hX2 4
  by_cases hx : X = X2
  · refine vc_enter Tryd.func57 rfl Tryd.ntmps57 (Nat.le_of_ble_eq_true rfl) (fun a hF => ?_)
    apply wp_seq_k; intro K1 hK1
    refine wp_region_lit ?_
    refine vc_op rfl (fun K hK => ws_box (cs := PC pw pd pc ph X Y (.slice PA p.length cp) pq) hF rfl (by decide) rfl hA0 rfl (fun g w1 a hg hF hA1 => hK _ _ ?_))
    clear hK K
    refine vc_op rfl (fun K hK => ws_box (cs := PC qw qd qc qh X2 Y2 (.slice QA q.length cq) qq) hF rfl (by decide) rfl hA1 rfl (fun g2 w2 a hg2 hF hA2 => hK _ _ ?_))
    clear hK K
    have hnr : ∀ r ∈ [((g2, 64, PC qw qd qc qh X2 Y2 (.slice QA q.length cq) qq) : Row), (g, 64, PC pw pd pc ph X Y (.slice PA p.length cp) pq)], w.heap.size ≤ r.1 := cons_new (by have := hA1.size; omega) (one_new hg)
    refine vc_y hF rfl rfl (by decide) _ (y_assign rfl rfl) (fun a hF => ?_)
    refine vc_nil ?_
    refine hK1 _ _ ?_; clear  hK1 K1
    apply wp_seq_k; intro K2 hK2
    apply wp_seq_k; intro K3 hK3
    refine wp_region_lit ?_
    refine vc_y hF rfl rfl (by decide) _ (y_move rfl rfl) (fun a hF => ?_)
    refine vc_y hF rfl rfl (by decide) _ (y_move rfl rfl) (fun a hF => ?_)
    refine vc_y hF rfl rfl (by decide) _ (y_cmp (c := false) rfl rfl rfl rfl rfl) (fun a hF => ?_)
    refine vc_nil ?_
    refine hK3 _ _ ?_; clear  hK3 K3
    refine vc_false hF rfl ?_
    apply wp_skip
    refine hK2 _ _ ?_; clear  hK2 K2
    apply wp_seq_k; intro K4 hK4
    apply wp_seq_k; intro K5 hK5
    refine wp_region_lit ?_
    refine vc_y hF rfl rfl (by decide) _ (y_move rfl rfl) (fun a hF => ?_)
    refine vc_nil ?_
    refine hK5 _ _ ?_; clear  hK5 K5
    apply wp_block
    apply wp_seq_k; intro K6 hK6
    apply wp_seq_k; intro K7 hK7
    refine wp_region_lit ?_
    refine vc_y hF rfl rfl (by decide) _ (y_cmp (c := false) rfl rfl rfl rfl rfl) (fun a hF => ?_)
    refine vc_y hF rfl rfl (by decide) _ (y_assign rfl rfl) (fun a hF => ?_)
    refine vc_nil ?_
    refine hK7 _ _ ?_; clear  hK7 K7
    refine vc_false hF rfl ?_
    refine wp_region_lit ?_
    refine vc_y hF rfl rfl (by decide) _ (y_cmp (c := false) rfl rfl rfl rfl rfl) (fun a hF => ?_)
    refine vc_y hF rfl rfl (by decide) _ (y_assign rfl rfl) (fun a hF => ?_)
    refine vc_nil ?_
    refine hK6 _ _ ?_; clear  hK6 K6
    refine vc_false hF rfl ?_
    apply wp_seq_k; intro K8 hK8
    apply wp_seq_k; intro K9 hK9
    refine wp_region_lit ?_
    refine vc_y hF rfl rfl (by decide) _ (y_cmp (c := false) rfl rfl rfl rfl rfl) (fun a hF => ?_)
    refine vc_y hF rfl rfl (by decide) _ (y_assign rfl rfl) (fun a hF => ?_)
    refine vc_nil ?_
    refine hK9 _ _ ?_; clear  hK9 K9
    refine vc_false hF rfl ?_
    apply wp_seq_k; intro K10 hK10
    refine wp_region_lit ?_
    refine vc_y hF rfl rfl (by decide) _ (y_cmp (c := false) rfl rfl rfl rfl rfl) (fun a hF => ?_)
    refine vc_y hF rfl rfl (by decide) _ (y_assign rfl rfl) (fun a hF => ?_)
    refine vc_nil ?_
    refine hK10 _ _ ?_; clear  hK10 K10
    refine vc_false hF rfl ?_
    refine wp_region_lit ?_
    refine vc_y hF rfl rfl (by decide) _ (y_cmp (c := true) rfl rfl rfl rfl rfl) (fun a hF => ?_)
    refine vc_y hF rfl rfl (by decide) _ (y_assign rfl rfl) (fun a hF => ?_)
    refine vc_nil ?_
    refine hK8 _ _ ?_; clear  hK8 K8
    refine vc_true hF rfl ?_
    apply wp_seq_k; intro K11 hK11
    refine wp_region_lit ?_
    refine vc_y hF rfl rfl (by decide) _ (y_field rfl Tryd.underlying64 rfl sz36_t5 (by decide) rfl (rfl : (⟨_, 0 + _, none⟩ : Addr) = ⟨_, 4, none⟩)) (fun a hF => ?_)
    refine vc_y hF rfl rfl (by decide) _ (y_loadRow rfl hA2 rfl 1 rfl rw36_t5 (by rw [pc_len hX hY]; decide) (new := dc X) (pc_A hX)) (fun a hF => ?_)
    refine vc_y hF rfl rfl (by decide) _ (y_field rfl Tryd.underlying64 rfl sz36_t5 (by decide) rfl (rfl : (⟨_, 0 + _, none⟩ : Addr) = ⟨_, 4, none⟩)) (fun a hF => ?_)
    refine vc_y hF rfl rfl (by decide) _ (y_loadRow rfl hA2 rfl 0 rfl rw36_t5 (by rw [pc_len hX2 hY2]; decide) (new := dc X2) (pc_A hX2)) (fun a hF => ?_)
    refine vc_y hF rfl rfl (by decide) _ (y_neB (c := false) rfl Tryd.underlying36 Tryd.underlying5 ow_size5 (by kernel_rfl) rfl rfl hX hX2 (ndec_f hx)) (fun a hF => ?_)
    refine vc_y hF rfl rfl (by decide) _ (y_move rfl rfl) (fun a hF => ?_)
    refine vc_yg hF rfl rfl rfl rfl rfl (by decide) _ (y_field rfl Tryd.underlying64 rfl sz36_t5 (by decide) rfl (rfl : (⟨_, 0 + _, none⟩ : Addr) = ⟨_, 36, none⟩)) (fun a hF => ?_)
    refine vc_yg hF rfl rfl rfl rfl rfl (by decide) _ (y_loadRow rfl hA2 rfl 1 rfl rw36_t5 (by rw [pc_len hX hY]; decide) (new := dc Y) (pc_B hX hY)) (fun a hF => ?_)
    refine vc_yg hF rfl rfl rfl rfl rfl (by decide) _ (y_field rfl Tryd.underlying64 rfl sz36_t5 (by decide) rfl (rfl : (⟨_, 0 + _, none⟩ : Addr) = ⟨_, 36, none⟩)) (fun a hF => ?_)
    refine vc_yg hF rfl rfl rfl rfl rfl (by decide) _ (y_loadRow rfl hA2 rfl 0 rfl rw36_t5 (by rw [pc_len hX2 hY2]; decide) (new := dc Y2) (pc_B hX2 hY2)) (fun a hF => ?_)
    refine vc_yg hF rfl rfl rfl rfl rfl (by decide) _ (y_neB (c := !decide (Y = Y2)) rfl Tryd.underlying36 Tryd.underlying5 ow_size5 (by kernel_rfl) rfl rfl hY hY2 rfl) (fun a hF => ?_)
    refine vc_y hF rfl rfl (by decide) _ (y_pick rfl rfl rfl) (fun a hF => ?_)
    refine vc_y hF rfl rfl (by decide) _ (y_assign rfl rfl) (fun a hF => ?_)
    refine vc_nil ?_
    refine hK11 _ _ ?_; clear  hK11 K11
    apply wp_ret
    simp only [Exit.then, Exit.inBlock]
    refine vc_ret1 hF Tryd.results57 rfl ?_
    exact ⟨congrArg (fun b => Ending.returned (Value.bool b)) (ne_dec (key.trans ⟨fun h => h.2, fun h => ⟨hx, h⟩⟩)), hA2.clear hnr⟩
  · refine vc_enter Tryd.func57 rfl Tryd.ntmps57 (Nat.le_of_ble_eq_true rfl) (fun a hF => ?_)
    apply wp_seq_k; intro K12 hK12
    refine wp_region_lit ?_
    refine vc_op rfl (fun K hK => ws_box (cs := PC pw pd pc ph X Y (.slice PA p.length cp) pq) hF rfl (by decide) rfl hA0 rfl (fun g w1 a hg hF hA1 => hK _ _ ?_))
    clear hK K
    refine vc_op rfl (fun K hK => ws_box (cs := PC qw qd qc qh X2 Y2 (.slice QA q.length cq) qq) hF rfl (by decide) rfl hA1 rfl (fun g2 w2 a hg2 hF hA2 => hK _ _ ?_))
    clear hK K
    have hnr : ∀ r ∈ [((g2, 64, PC qw qd qc qh X2 Y2 (.slice QA q.length cq) qq) : Row), (g, 64, PC pw pd pc ph X Y (.slice PA p.length cp) pq)], w.heap.size ≤ r.1 := cons_new (by have := hA1.size; omega) (one_new hg)
    refine vc_y hF rfl rfl (by decide) _ (y_assign rfl rfl) (fun a hF => ?_)
    refine vc_nil ?_
    refine hK12 _ _ ?_; clear  hK12 K12
    apply wp_seq_k; intro K13 hK13
    apply wp_seq_k; intro K14 hK14
    refine wp_region_lit ?_
    refine vc_y hF rfl rfl (by decide) _ (y_move rfl rfl) (fun a hF => ?_)
    refine vc_y hF rfl rfl (by decide) _ (y_move rfl rfl) (fun a hF => ?_)
    refine vc_y hF rfl rfl (by decide) _ (y_cmp (c := false) rfl rfl rfl rfl rfl) (fun a hF => ?_)
    refine vc_nil ?_
    refine hK14 _ _ ?_; clear  hK14 K14
    refine vc_false hF rfl ?_
    apply wp_skip
    refine hK13 _ _ ?_; clear  hK13 K13
    apply wp_seq_k; intro K15 hK15
    apply wp_seq_k; intro K16 hK16
    refine wp_region_lit ?_
    refine vc_y hF rfl rfl (by decide) _ (y_move rfl rfl) (fun a hF => ?_)
    refine vc_nil ?_
    refine hK16 _ _ ?_; clear  hK16 K16
    apply wp_block
    apply wp_seq_k; intro K17 hK17
    apply wp_seq_k; intro K18 hK18
    refine wp_region_lit ?_
    refine vc_y hF rfl rfl (by decide) _ (y_cmp (c := false) rfl rfl rfl rfl rfl) (fun a hF => ?_)
    refine vc_y hF rfl rfl (by decide) _ (y_assign rfl rfl) (fun a hF => ?_)
    refine vc_nil ?_
    refine hK18 _ _ ?_; clear  hK18 K18
    refine vc_false hF rfl ?_
    refine wp_region_lit ?_
    refine vc_y hF rfl rfl (by decide) _ (y_cmp (c := false) rfl rfl rfl rfl rfl) (fun a hF => ?_)
    refine vc_y hF rfl rfl (by decide) _ (y_assign rfl rfl) (fun a hF => ?_)
    refine vc_nil ?_
    refine hK17 _ _ ?_; clear  hK17 K17
    refine vc_false hF rfl ?_
    apply wp_seq_k; intro K19 hK19
    apply wp_seq_k; intro K20 hK20
    refine wp_region_lit ?_
    refine vc_y hF rfl rfl (by decide) _ (y_cmp (c := false) rfl rfl rfl rfl rfl) (fun a hF => ?_)
    refine vc_y hF rfl rfl (by decide) _ (y_assign rfl rfl) (fun a hF => ?_)
    refine vc_nil ?_
    refine hK20 _ _ ?_; clear  hK20 K20
    refine vc_false hF rfl ?_
    apply wp_seq_k; intro K21 hK21
    refine wp_region_lit ?_
    refine vc_y hF rfl rfl (by decide) _ (y_cmp (c := false) rfl rfl rfl rfl rfl) (fun a hF => ?_)
    refine vc_y hF rfl rfl (by decide) _ (y_assign rfl rfl) (fun a hF => ?_)
    refine vc_nil ?_
    refine hK21 _ _ ?_; clear  hK21 K21
    refine vc_false hF rfl ?_
    refine wp_region_lit ?_
    refine vc_y hF rfl rfl (by decide) _ (y_cmp (c := true) rfl rfl rfl rfl rfl) (fun a hF => ?_)
    refine vc_y hF rfl rfl (by decide) _ (y_assign rfl rfl) (fun a hF => ?_)
    refine vc_nil ?_
    refine hK19 _ _ ?_; clear  hK19 K19
    refine vc_true hF rfl ?_
    apply wp_seq_k; intro K22 hK22
    refine wp_region_lit ?_
    refine vc_y hF rfl rfl (by decide) _ (y_field rfl Tryd.underlying64 rfl sz36_t5 (by decide) rfl (rfl : (⟨_, 0 + _, none⟩ : Addr) = ⟨_, 4, none⟩)) (fun a hF => ?_)
    refine vc_y hF rfl rfl (by decide) _ (y_loadRow rfl hA2 rfl 1 rfl rw36_t5 (by rw [pc_len hX hY]; decide) (new := dc X) (pc_A hX)) (fun a hF => ?_)
    refine vc_y hF rfl rfl (by decide) _ (y_field rfl Tryd.underlying64 rfl sz36_t5 (by decide) rfl (rfl : (⟨_, 0 + _, none⟩ : Addr) = ⟨_, 4, none⟩)) (fun a hF => ?_)
    refine vc_y hF rfl rfl (by decide) _ (y_loadRow rfl hA2 rfl 0 rfl rw36_t5 (by rw [pc_len hX2 hY2]; decide) (new := dc X2) (pc_A hX2)) (fun a hF => ?_)
    refine vc_y hF rfl rfl (by decide) _ (y_neB (c := true) rfl Tryd.underlying36 Tryd.underlying5 ow_size5 (by kernel_rfl) rfl rfl hX hX2 (ndec_t hx)) (fun a hF => ?_)
    refine vc_y hF rfl rfl (by decide) _ (y_move rfl rfl) (fun a hF => ?_)
    refine vc_skip hF rfl rfl rfl rfl rfl rfl (by decide) (fun a hF => ?_)
    refine vc_skip hF rfl rfl rfl rfl rfl rfl (by decide) (fun a hF => ?_)
    refine vc_skip hF rfl rfl rfl rfl rfl rfl (by decide) (fun a hF => ?_)
    refine vc_skip hF rfl rfl rfl rfl rfl rfl (by decide) (fun a hF => ?_)
    refine vc_skip hF rfl rfl rfl rfl rfl rfl (by decide) (fun a hF => ?_)
    refine vc_y hF rfl rfl (by decide) _ (y_pick rfl rfl rfl) (fun a hF => ?_)
    refine vc_y hF rfl rfl (by decide) _ (y_assign rfl rfl) (fun a hF => ?_)
    refine vc_nil ?_
    refine hK22 _ _ ?_; clear  hK22 K22
    apply wp_ret
    simp only [Exit.then, Exit.inBlock]
    refine vc_ret1 hF Tryd.results57 rfl ?_
    exact ⟨congrArg (fun b => Ending.returned (Value.bool b)) (ne_tru (fun h => hx (key.1 h).1)), hA2.clear hnr⟩

set_option maxRecDepth 100000 in
set_option maxHeartbeats 1000000 in
theorem unlike_6 (w : World) (pw pd pc ph : Int) (X Y : List UInt8) (PA : Option Addr) (p : List UInt8) (cp : Nat) (pq : Value) (hX : X.length = 32) (hY : Y.length = 32) (hB : Bts w PA p) (qw qd qc qh : Int) (X2 Y2 : List UInt8) (QA : Option Addr) (q : List UInt8) (cq : Nat) (qq : Value) (hX2 : X2.length = 32) (hY2 : Y2.length = 32) (hBq : Bts w QA q) (hC : -9223372036854775808 ≤ pc ∧ pc ≤ 9223372036854775807) (hC2 : -9223372036854775808 ≤ qc ∧ qc ≤ 9223372036854775807) :
    Calls Tryd.prog 57 #[.int .i64 6, .int .i64 6, .agg (PC pw pd pc ph X Y (.slice PA p.length cp) pq).toArray, .agg (PC qw qd qc qh X2 Y2 (.slice QA q.length cq) qq).toArray] w fun e w' => e = .returned (.bool (decide (textL 6 pc X Y p ≠ textL 6 qc X2 Y2 q))) ∧ At w [] w' := by
  have hA0 := At.refl w
  refine vc_enter Tryd.func57 rfl Tryd.ntmps57 (Nat.le_of_ble_eq_true rfl) (fun a hF => ?_)
  apply wp_seq_k; intro K1 hK1
  refine wp_region_lit ?_
  refine vc_op rfl (fun K hK => ws_box (cs := PC pw pd pc ph X Y (.slice PA p.length cp) pq) hF rfl (by decide) rfl hA0 rfl (fun g w1 a hg hF hA1 => hK _ _ ?_))
  clear hK K
  refine vc_op rfl (fun K hK => ws_box (cs := PC qw qd qc qh X2 Y2 (.slice QA q.length cq) qq) hF rfl (by decide) rfl hA1 rfl (fun g2 w2 a hg2 hF hA2 => hK _ _ ?_))
  clear hK K
  have hnr : ∀ r ∈ [((g2, 64, PC qw qd qc qh X2 Y2 (.slice QA q.length cq) qq) : Row), (g, 64, PC pw pd pc ph X Y (.slice PA p.length cp) pq)], w.heap.size ≤ r.1 := cons_new (by have := hA1.size; omega) (one_new hg)
  refine vc_y hF rfl rfl (by decide) _ (y_assign rfl rfl) (fun a hF => ?_)
  refine vc_nil ?_
  refine hK1 _ _ ?_; clear  hK1 K1
  apply wp_seq_k; intro K2 hK2
  apply wp_seq_k; intro K3 hK3
  refine wp_region_lit ?_
  refine vc_y hF rfl rfl (by decide) _ (y_move rfl rfl) (fun a hF => ?_)
  refine vc_y hF rfl rfl (by decide) _ (y_move rfl rfl) (fun a hF => ?_)
  refine vc_y hF rfl rfl (by decide) _ (y_cmp (c := false) rfl rfl rfl rfl rfl) (fun a hF => ?_)
  refine vc_nil ?_
  refine hK3 _ _ ?_; clear  hK3 K3
  refine vc_false hF rfl ?_
  apply wp_skip
  refine hK2 _ _ ?_; clear  hK2 K2
  apply wp_seq_k; intro K4 hK4
  apply wp_seq_k; intro K5 hK5
  refine wp_region_lit ?_
  refine vc_y hF rfl rfl (by decide) _ (y_move rfl rfl) (fun a hF => ?_)
  refine vc_nil ?_
  refine hK5 _ _ ?_; clear  hK5 K5
  apply wp_block
  apply wp_seq_k; intro K6 hK6
  apply wp_seq_k; intro K7 hK7
  refine wp_region_lit ?_
  refine vc_y hF rfl rfl (by decide) _ (y_cmp (c := false) rfl rfl rfl rfl rfl) (fun a hF => ?_)
  refine vc_y hF rfl rfl (by decide) _ (y_assign rfl rfl) (fun a hF => ?_)
  refine vc_nil ?_
  refine hK7 _ _ ?_; clear  hK7 K7
  refine vc_false hF rfl ?_
  refine wp_region_lit ?_
  refine vc_y hF rfl rfl (by decide) _ (y_cmp (c := false) rfl rfl rfl rfl rfl) (fun a hF => ?_)
  refine vc_y hF rfl rfl (by decide) _ (y_assign rfl rfl) (fun a hF => ?_)
  refine vc_nil ?_
  refine hK6 _ _ ?_; clear  hK6 K6
  refine vc_false hF rfl ?_
  apply wp_seq_k; intro K8 hK8
  apply wp_seq_k; intro K9 hK9
  refine wp_region_lit ?_
  refine vc_y hF rfl rfl (by decide) _ (y_cmp (c := false) rfl rfl rfl rfl rfl) (fun a hF => ?_)
  refine vc_y hF rfl rfl (by decide) _ (y_assign rfl rfl) (fun a hF => ?_)
  refine vc_nil ?_
  refine hK9 _ _ ?_; clear  hK9 K9
  refine vc_false hF rfl ?_
  apply wp_seq_k; intro K10 hK10
  refine wp_region_lit ?_
  refine vc_y hF rfl rfl (by decide) _ (y_cmp (c := false) rfl rfl rfl rfl rfl) (fun a hF => ?_)
  refine vc_y hF rfl rfl (by decide) _ (y_assign rfl rfl) (fun a hF => ?_)
  refine vc_nil ?_
  refine hK10 _ _ ?_; clear  hK10 K10
  refine vc_false hF rfl ?_
  refine wp_region_lit ?_
  refine vc_y hF rfl rfl (by decide) _ (y_cmp (c := false) rfl rfl rfl rfl rfl) (fun a hF => ?_)
  refine vc_y hF rfl rfl (by decide) _ (y_assign rfl rfl) (fun a hF => ?_)
  refine vc_nil ?_
  refine hK8 _ _ ?_; clear  hK8 K8
  refine vc_false hF rfl ?_
  apply wp_seq_k; intro K11 hK11
  refine wp_region_lit ?_
  refine vc_y hF rfl rfl (by decide) _ (y_cmp (c := false) rfl rfl rfl rfl rfl) (fun a hF => ?_)
  refine vc_y hF rfl rfl (by decide) _ (y_assign rfl rfl) (fun a hF => ?_)
  refine vc_nil ?_
  refine hK11 _ _ ?_; clear  hK11 K11
  refine vc_false hF rfl ?_
  apply wp_skip
  refine hK4 _ _ ?_; clear  hK4 K4
  apply wp_seq_k; intro K12 hK12
  refine wp_region_lit ?_
  refine vc_y hF rfl rfl (by decide) _ (y_assign rfl rfl) (fun a hF => ?_)
  refine vc_nil ?_
  refine hK12 _ _ ?_; clear  hK12 K12
  apply wp_ret
  refine vc_ret1 hF Tryd.results57 rfl ?_
  exact ⟨congrArg (fun b => Ending.returned (Value.bool b)) (by simp [textL]), hA2.clear hnr⟩

set_option maxRecDepth 100000 in
set_option maxHeartbeats 1000000 in
theorem unlike_7 (w : World) (pw pd pc ph : Int) (X Y : List UInt8) (PA : Option Addr) (p : List UInt8) (cp : Nat) (pq : Value) (hX : X.length = 32) (hY : Y.length = 32) (hB : Bts w PA p) (qw qd qc qh : Int) (X2 Y2 : List UInt8) (QA : Option Addr) (q : List UInt8) (cq : Nat) (qq : Value) (hX2 : X2.length = 32) (hY2 : Y2.length = 32) (hBq : Bts w QA q) (hC : -9223372036854775808 ≤ pc ∧ pc ≤ 9223372036854775807) (hC2 : -9223372036854775808 ≤ qc ∧ qc ≤ 9223372036854775807) :
    Calls Tryd.prog 57 #[.int .i64 7, .int .i64 7, .agg (PC pw pd pc ph X Y (.slice PA p.length cp) pq).toArray, .agg (PC qw qd qc qh X2 Y2 (.slice QA q.length cq) qq).toArray] w fun e w' => e = .returned (.bool (decide (textL 7 pc X Y p ≠ textL 7 qc X2 Y2 q))) ∧ At w [] w' := by
  have hA0 := At.refl w
  refine vc_enter Tryd.func57 rfl Tryd.ntmps57 (Nat.le_of_ble_eq_true rfl) (fun a hF => ?_)
  apply wp_seq_k; intro K1 hK1
  refine wp_region_lit ?_
  refine vc_op rfl (fun K hK => ws_box (cs := PC pw pd pc ph X Y (.slice PA p.length cp) pq) hF rfl (by decide) rfl hA0 rfl (fun g w1 a hg hF hA1 => hK _ _ ?_))
  clear hK K
  refine vc_op rfl (fun K hK => ws_box (cs := PC qw qd qc qh X2 Y2 (.slice QA q.length cq) qq) hF rfl (by decide) rfl hA1 rfl (fun g2 w2 a hg2 hF hA2 => hK _ _ ?_))
  clear hK K
  have hnr : ∀ r ∈ [((g2, 64, PC qw qd qc qh X2 Y2 (.slice QA q.length cq) qq) : Row), (g, 64, PC pw pd pc ph X Y (.slice PA p.length cp) pq)], w.heap.size ≤ r.1 := cons_new (by have := hA1.size; omega) (one_new hg)
  refine vc_y hF rfl rfl (by decide) _ (y_assign rfl rfl) (fun a hF => ?_)
  refine vc_nil ?_
  refine hK1 _ _ ?_; clear  hK1 K1
  apply wp_seq_k; intro K2 hK2
  apply wp_seq_k; intro K3 hK3
  refine wp_region_lit ?_
  refine vc_y hF rfl rfl (by decide) _ (y_move rfl rfl) (fun a hF => ?_)
  refine vc_y hF rfl rfl (by decide) _ (y_move rfl rfl) (fun a hF => ?_)
  refine vc_y hF rfl rfl (by decide) _ (y_cmp (c := false) rfl rfl rfl rfl rfl) (fun a hF => ?_)
  refine vc_nil ?_
  refine hK3 _ _ ?_; clear  hK3 K3
  refine vc_false hF rfl ?_
  apply wp_skip
  refine hK2 _ _ ?_; clear  hK2 K2
  apply wp_seq_k; intro K4 hK4
  apply wp_seq_k; intro K5 hK5
  refine wp_region_lit ?_
  refine vc_y hF rfl rfl (by decide) _ (y_move rfl rfl) (fun a hF => ?_)
  refine vc_nil ?_
  refine hK5 _ _ ?_; clear  hK5 K5
  apply wp_block
  apply wp_seq_k; intro K6 hK6
  apply wp_seq_k; intro K7 hK7
  refine wp_region_lit ?_
  refine vc_y hF rfl rfl (by decide) _ (y_cmp (c := false) rfl rfl rfl rfl rfl) (fun a hF => ?_)
  refine vc_y hF rfl rfl (by decide) _ (y_assign rfl rfl) (fun a hF => ?_)
  refine vc_nil ?_
  refine hK7 _ _ ?_; clear  hK7 K7
  refine vc_false hF rfl ?_
  refine wp_region_lit ?_
  refine vc_y hF rfl rfl (by decide) _ (y_cmp (c := true) rfl rfl rfl rfl rfl) (fun a hF => ?_)
  refine vc_y hF rfl rfl (by decide) _ (y_assign rfl rfl) (fun a hF => ?_)
  refine vc_nil ?_
  refine hK6 _ _ ?_; clear  hK6 K6
  refine vc_true hF rfl ?_
  apply wp_seq_k; intro K8 hK8
  refine wp_region_lit ?_
  refine vc_y hF rfl rfl (by decide) _ (y_field rfl Tryd.underlying64 rfl sz24_t5 (by decide) rfl (rfl : (⟨_, 0 + _, none⟩ : Addr) = ⟨_, 68, none⟩)) (fun a hF => ?_)
  refine vc_y hF rfl rfl (by decide) _ (y_loadAt rfl hA2 rfl 1 rfl (pc_P hX hY) ow_no24) (fun a hF => ?_)
  refine vc_y hF rfl rfl (by decide) _ (y_convStr rfl Tryd.underlying24 Tryd.underlying5 Tryd.underlying9 rfl rfl (hB.fresh hA2 hnr)) (fun a hF => ?_)
  refine vc_y hF rfl rfl (by decide) _ (y_field rfl Tryd.underlying64 rfl sz24_t5 (by decide) rfl (rfl : (⟨_, 0 + _, none⟩ : Addr) = ⟨_, 68, none⟩)) (fun a hF => ?_)
  refine vc_y hF rfl rfl (by decide) _ (y_loadAt rfl hA2 rfl 0 rfl (pc_P hX2 hY2) ow_no24) (fun a hF => ?_)
  refine vc_y hF rfl rfl (by decide) _ (y_convStr rfl Tryd.underlying24 Tryd.underlying5 Tryd.underlying9 rfl rfl (hBq.fresh hA2 hnr)) (fun a hF => ?_)
  refine vc_y hF rfl rfl (by decide) _ (y_cmpS (c := !(p == q)) rfl rfl rfl rfl rfl) (fun a hF => ?_)
  refine vc_y hF rfl rfl (by decide) _ (y_assign rfl rfl) (fun a hF => ?_)
  refine vc_nil ?_
  refine hK8 _ _ ?_; clear  hK8 K8
  apply wp_ret
  simp only [Exit.then, Exit.inBlock]
  refine vc_ret1 hF Tryd.results57 rfl ?_
  exact ⟨congrArg (fun b => Ending.returned (Value.bool b)) (by by_cases h : p = q <;> simp [textL, h]), hA2.clear hnr⟩

set_option maxRecDepth 100000 in
set_option maxHeartbeats 1000000 in
theorem unlike_8 (w : World) (pw pd pc ph : Int) (X Y : List UInt8) (PA : Option Addr) (p : List UInt8) (cp : Nat) (pq : Value) (hX : X.length = 32) (hY : Y.length = 32) (hB : Bts w PA p) (qw qd qc qh : Int) (X2 Y2 : List UInt8) (QA : Option Addr) (q : List UInt8) (cq : Nat) (qq : Value) (hX2 : X2.length = 32) (hY2 : Y2.length = 32) (hBq : Bts w QA q) (hC : -9223372036854775808 ≤ pc ∧ pc ≤ 9223372036854775807) (hC2 : -9223372036854775808 ≤ qc ∧ qc ≤ 9223372036854775807) :
    Calls Tryd.prog 57 #[.int .i64 8, .int .i64 8, .agg (PC pw pd pc ph X Y (.slice PA p.length cp) pq).toArray, .agg (PC qw qd qc qh X2 Y2 (.slice QA q.length cq) qq).toArray] w fun e w' => e = .returned (.bool (decide (textL 8 pc X Y p ≠ textL 8 qc X2 Y2 q))) ∧ At w [] w' := by
  have hA0 := At.refl w
  refine vc_enter Tryd.func57 rfl Tryd.ntmps57 (Nat.le_of_ble_eq_true rfl) (fun a hF => ?_)
  apply wp_seq_k; intro K1 hK1
  refine wp_region_lit ?_
  refine vc_op rfl (fun K hK => ws_box (cs := PC pw pd pc ph X Y (.slice PA p.length cp) pq) hF rfl (by decide) rfl hA0 rfl (fun g w1 a hg hF hA1 => hK _ _ ?_))
  clear hK K
  refine vc_op rfl (fun K hK => ws_box (cs := PC qw qd qc qh X2 Y2 (.slice QA q.length cq) qq) hF rfl (by decide) rfl hA1 rfl (fun g2 w2 a hg2 hF hA2 => hK _ _ ?_))
  clear hK K
  have hnr : ∀ r ∈ [((g2, 64, PC qw qd qc qh X2 Y2 (.slice QA q.length cq) qq) : Row), (g, 64, PC pw pd pc ph X Y (.slice PA p.length cp) pq)], w.heap.size ≤ r.1 := cons_new (by have := hA1.size; omega) (one_new hg)
  refine vc_y hF rfl rfl (by decide) _ (y_assign rfl rfl) (fun a hF => ?_)
  refine vc_nil ?_
  refine hK1 _ _ ?_; clear  hK1 K1
  apply wp_seq_k; intro K2 hK2
  apply wp_seq_k; intro K3 hK3
  refine wp_region_lit ?_
  refine vc_y hF rfl rfl (by decide) _ (y_move rfl rfl) (fun a hF => ?_)
  refine vc_y hF rfl rfl (by decide) _ (y_move rfl rfl) (fun a hF => ?_)
  refine vc_y hF rfl rfl (by decide) _ (y_cmp (c := false) rfl rfl rfl rfl rfl) (fun a hF => ?_)
  refine vc_nil ?_
  refine hK3 _ _ ?_; clear  hK3 K3
  refine vc_false hF rfl ?_
  apply wp_skip
  refine hK2 _ _ ?_; clear  hK2 K2
  apply wp_seq_k; intro K4 hK4
  apply wp_seq_k; intro K5 hK5
  refine wp_region_lit ?_
  refine vc_y hF rfl rfl (by decide) _ (y_move rfl rfl) (fun a hF => ?_)
  refine vc_nil ?_
  refine hK5 _ _ ?_; clear  hK5 K5
  apply wp_block
  apply wp_seq_k; intro K6 hK6
  apply wp_seq_k; intro K7 hK7
  refine wp_region_lit ?_
  refine vc_y hF rfl rfl (by decide) _ (y_cmp (c := false) rfl rfl rfl rfl rfl) (fun a hF => ?_)
  refine vc_y hF rfl rfl (by decide) _ (y_assign rfl rfl) (fun a hF => ?_)
  refine vc_nil ?_
  refine hK7 _ _ ?_; clear  hK7 K7
  refine vc_false hF rfl ?_
  refine wp_region_lit ?_
  refine vc_y hF rfl rfl (by decide) _ (y_cmp (c := false) rfl rfl rfl rfl rfl) (fun a hF => ?_)
  refine vc_y hF rfl rfl (by decide) _ (y_assign rfl rfl) (fun a hF => ?_)
  refine vc_nil ?_
  refine hK6 _ _ ?_; clear  hK6 K6
  refine vc_false hF rfl ?_
  apply wp_seq_k; intro K8 hK8
  apply wp_seq_k; intro K9 hK9
  refine wp_region_lit ?_
  refine vc_y hF rfl rfl (by decide) _ (y_cmp (c := false) rfl rfl rfl rfl rfl) (fun a hF => ?_)
  refine vc_y hF rfl rfl (by decide) _ (y_assign rfl rfl) (fun a hF => ?_)
  refine vc_nil ?_
  refine hK9 _ _ ?_; clear  hK9 K9
  refine vc_false hF rfl ?_
  apply wp_seq_k; intro K10 hK10
  refine wp_region_lit ?_
  refine vc_y hF rfl rfl (by decide) _ (y_cmp (c := false) rfl rfl rfl rfl rfl) (fun a hF => ?_)
  refine vc_y hF rfl rfl (by decide) _ (y_assign rfl rfl) (fun a hF => ?_)
  refine vc_nil ?_
  refine hK10 _ _ ?_; clear  hK10 K10
  refine vc_false hF rfl ?_
  refine wp_region_lit ?_
  refine vc_y hF rfl rfl (by decide) _ (y_cmp (c := false) rfl rfl rfl rfl rfl) (fun a hF => ?_)
  refine vc_y hF rfl rfl (by decide) _ (y_assign rfl rfl) (fun a hF => ?_)
  refine vc_nil ?_
  refine hK8 _ _ ?_; clear  hK8 K8
  refine vc_false hF rfl ?_
  apply wp_seq_k; intro K11 hK11
  refine wp_region_lit ?_
  refine vc_y hF rfl rfl (by decide) _ (y_cmp (c := false) rfl rfl rfl rfl rfl) (fun a hF => ?_)
  refine vc_y hF rfl rfl (by decide) _ (y_assign rfl rfl) (fun a hF => ?_)
  refine vc_nil ?_
  refine hK11 _ _ ?_; clear  hK11 K11
  refine vc_false hF rfl ?_
  apply wp_skip
  refine hK4 _ _ ?_; clear  hK4 K4
  apply wp_seq_k; intro K12 hK12
  refine wp_region_lit ?_
  refine vc_y hF rfl rfl (by decide) _ (y_assign rfl rfl) (fun a hF => ?_)
  refine vc_nil ?_
  refine hK12 _ _ ?_; clear  hK12 K12
  apply wp_ret
  refine vc_ret1 hF Tryd.results57 rfl ?_
  exact ⟨congrArg (fun b => Ending.returned (Value.bool b)) (by simp [textL]), hA2.clear hnr⟩

set_option maxRecDepth 100000 in
set_option maxHeartbeats 1000000 in
theorem unlike_two (w : World) (a b : Int) (hab : a ≠ b) (pw pd pc ph : Int) (X Y : List UInt8) (PA : Option Addr) (p : List UInt8) (cp : Nat) (pq : Value) (qw qd qc qh : Int) (X2 Y2 : List UInt8) (QA : Option Addr) (q : List UInt8) (cq : Nat) (qq : Value) :
    Calls Tryd.prog 57 #[.int .i64 a, .int .i64 b, .agg (PC pw pd pc ph X Y (.slice PA p.length cp) pq).toArray, .agg (PC qw qd qc qh X2 Y2 (.slice QA q.length cq) qq).toArray] w fun e w' => e = .returned (.bool true) ∧ At w [] w' := by
  have hA0 := At.refl w
  refine vc_enter Tryd.func57 rfl Tryd.ntmps57 (Nat.le_of_ble_eq_true rfl) (fun a hF => ?_)
  apply wp_seq_k; intro K1 hK1
  refine wp_region_lit ?_
  refine vc_op rfl (fun K hK => ws_box (cs := PC pw pd pc ph X Y (.slice PA p.length cp) pq) hF rfl (by decide) rfl hA0 rfl (fun g w1 a hg hF hA1 => hK _ _ ?_))
  clear hK K
  refine vc_op rfl (fun K hK => ws_box (cs := PC qw qd qc qh X2 Y2 (.slice QA q.length cq) qq) hF rfl (by decide) rfl hA1 rfl (fun g2 w2 a hg2 hF hA2 => hK _ _ ?_))
  clear hK K
  have hnr : ∀ r ∈ [((g2, 64, PC qw qd qc qh X2 Y2 (.slice QA q.length cq) qq) : Row), (g, 64, PC pw pd pc ph X Y (.slice PA p.length cp) pq)], w.heap.size ≤ r.1 := cons_new (by have := hA1.size; omega) (one_new hg)
  refine vc_y hF rfl rfl (by decide) _ (y_assign rfl rfl) (fun a hF => ?_)
  refine vc_nil ?_
  refine hK1 _ _ ?_; clear  hK1 K1
  apply wp_seq_k; intro K2 hK2
  apply wp_seq_k; intro K3 hK3
  refine wp_region_lit ?_
  refine vc_y hF rfl rfl (by decide) _ (y_move rfl rfl) (fun a hF => ?_)
  refine vc_y hF rfl rfl (by decide) _ (y_move rfl rfl) (fun a hF => ?_)
  refine vc_y hF rfl rfl (by decide) _ (y_cmp (c := true) rfl rfl rfl rfl (neq_t hab)) (fun a hF => ?_)
  refine vc_nil ?_
  refine hK3 _ _ ?_; clear  hK3 K3
  refine vc_true hF rfl ?_
  apply wp_seq_k; intro K4 hK4
  refine wp_region_lit ?_
  refine vc_y hF rfl rfl (by decide) _ (y_assign rfl rfl) (fun a hF => ?_)
  refine vc_nil ?_
  refine hK4 _ _ ?_; clear  hK4 K4
  apply wp_ret
  simp only [Exit.then]
  refine vc_ret1 hF Tryd.results57 rfl ?_
  exact ⟨rfl, hA2.clear hnr⟩
end Go.Proofs.YtppmhlkonemebaaDoor
