/- What is known of some closed events, and of nothing. -/
import Derived.Test.YtepbmdlgdaedpaaGreatDoorEv8
namespace Go.Proofs.YtepbmdlgdaedpaaGreatDoor
open Go.RowKit Go.Dk

theorem nr3_v9 : notRow Tryz.prog 3 = true := by kernel_rfl
theorem nr5_v9 : notRow Tryz.prog 5 = true := by kernel_rfl
theorem nr9_v9 : notRow Tryz.prog 9 = true := by kernel_rfl
theorem nr22_v9 : notRow Tryz.prog 22 = true := by kernel_rfl
theorem nr23_v9 : notRow Tryz.prog 23 = true := by kernel_rfl
theorem rw25_v9 : isRow Tryz.prog 25 4 = true := by kernel_rfl
theorem sz3_v9 : (Tryz.prog.info? 3).map (·.size) = some 1 := by kernel_rfl
theorem sz5_v9 : (Tryz.prog.info? 5).map (·.size) = some 1 := by kernel_rfl
theorem sz9_v9 : (Tryz.prog.info? 9).map (·.size) = some 1 := by kernel_rfl
theorem sz22_v9 : (Tryz.prog.info? 22).map (·.size) = some 1 := by kernel_rfl
theorem sz25_v9 : (Tryz.prog.info? 25).map (·.size) = some 4 := by kernel_rfl
theorem cl20_v9 : CallsTo Tryz.prog 20 := ⟨_, Tryz.func20, by kernel_rfl, by kernel_rfl⟩
theorem cl21_v9 : CallsTo Tryz.prog 21 := ⟨_, Tryz.func21, by kernel_rfl, by kernel_rfl⟩
theorem cl24_v9 : CallsTo Tryz.prog 24 := ⟨_, Tryz.func24, by kernel_rfl, by kernel_rfl⟩
theorem cl29_v9 : CallsTo Tryz.prog 29 := ⟨_, Tryz.func29, by kernel_rfl, by kernel_rfl⟩
theorem cl35_v9 : CallsTo Tryz.prog 35 := ⟨_, Tryz.func35, by kernel_rfl, by kernel_rfl⟩
theorem cl48_v9 : CallsTo Tryz.prog 48 := ⟨_, Tryz.func48, by kernel_rfl, by kernel_rfl⟩
theorem cl87_v9 : CallsTo Tryz.prog 87 := ⟨_, Tryz.func87, by kernel_rfl, by kernel_rfl⟩

theorem zr25_v9 : zeroIs Tryz.prog 25 (.agg ([.int .i64 0, .int .i64 0, .string (⟨#[]⟩), .slice none 0 0] : List Value).toArray) := by unfold zeroIs; kernel_rfl

set_option maxRecDepth 100000 in
set_option maxHeartbeats 8000000 in
theorem ev_put_nil {w0 : World} {R : List Seg} (zk zn : Int) (zt : List UInt8) (sv : Value) (w : World) (hA : Hp w0 R w) : Calls Tryz.prog 48 #[.pointer none, .agg ([.int .i64 zk, .int .i64 zn, strV zt, sv] : List Value).toArray] w fun e w' => e = .returned (.int .i64 1) ∧ Hp w0 R w' := by
  refine vc_enter Tryz.func48 rfl Tryz.ntmps48 (Nat.le_of_ble_eq_true rfl) (fun a hF => ?_)
  apply wp_seq_k; intro K1 hK1
  refine wp_region_lit ?_
  refine vc_op rfl (fun K hK => hs_box (cs := [.int .i64 zk, .int .i64 zn, strV zt, sv]) hF rfl (by decide) rfl hA rfl (fun b1 w2 a hb1 hF hA3 => hK _ _ ?_))
  clear hK K
  replace hA3 : Hp w0 ([row b1 25 [.int .i64 zk, .int .i64 zn, strV zt, sv]] :: R) w2 := hA3
  refine vc_y hF rfl rfl (by decide) _ (y_assign rfl rfl) (fun a hF => ?_)
  refine vc_nil ?_
  refine hK1 _ _ ?_; clear  hK1 K1
  apply wp_seq_k; intro K2 hK2
  apply wp_seq_k; intro K3 hK3
  refine wp_region_lit ?_
  refine vc_y hF rfl rfl (by decide) _ (y_move rfl rfl) (fun a hF => ?_)
  refine vc_y hF rfl rfl (by decide) _ (y_eqNilT rfl (by kernel_rfl) rfl rfl) (fun a hF => ?_)
  refine vc_nil ?_
  refine hK3 _ _ ?_; clear  hK3 K3
  refine vc_true hF rfl ?_
  apply wp_seq_k; intro K4 hK4
  refine wp_region_lit ?_
  refine vc_y hF rfl rfl (by decide) _ (y_assign rfl rfl) (fun a hF => ?_)
  refine vc_nil ?_
  refine hK4 _ _ ?_; clear  hK4 K4
  apply wp_ret
  simp only [Exit.then]
  refine vc_ret1 hF Tryz.results48 rfl ?_
  have hA4 : Hp w0 (R) w2 := Hp.sel [[row b1 25 [.int .i64 zk, .int .i64 zn, strV zt, sv]]] R [] [0] hA3 rfl
  exact ⟨rfl, hA4⟩

set_option maxRecDepth 100000 in
set_option maxHeartbeats 8000000 in
theorem ev_take_nil {w0 : World} {R : List Seg} (w : World) (hA : Hp w0 R w) : Calls Tryz.prog 35 #[.pointer none] w fun e w' => e = .returned (.tuple #[.agg ([.int .i64 0, .int .i64 0, strV [], .slice none 0 0] : List Value).toArray, .int .i64 1]) ∧ Hp w0 R w' := by
  refine vc_enter Tryz.func35 rfl Tryz.ntmps35 (Nat.le_of_ble_eq_true rfl) (fun a hF => ?_)
  apply wp_seq_k; intro K1 hK1
  refine wp_region_lit ?_
  refine vc_op rfl (fun K hK => hs_alloc hF rfl (by decide) rfl hA (zr25_v9) (fun b1 w2 a hb1 hF hA3 => hK _ _ ?_))
  clear hK K
  replace hA3 : Hp w0 ([row b1 25 [.int .i64 0, .int .i64 0, .string (⟨#[]⟩), .slice none 0 0]] :: R) w2 := hA3
  refine vc_y hF rfl rfl (by decide) _ (y_assign rfl rfl) (fun a hF => ?_)
  refine vc_nil ?_
  refine hK1 _ _ ?_; clear  hK1 K1
  apply wp_seq_k; intro K2 hK2
  apply wp_seq_k; intro K3 hK3
  refine wp_region_lit ?_
  refine vc_y hF rfl rfl (by decide) _ (y_move rfl rfl) (fun a hF => ?_)
  refine vc_y hF rfl rfl (by decide) _ (y_eqNilT rfl (by kernel_rfl) rfl rfl) (fun a hF => ?_)
  refine vc_nil ?_
  refine hK3 _ _ ?_; clear  hK3 K3
  refine vc_true hF rfl ?_
  apply wp_seq_k; intro K4 hK4
  refine wp_region_lit ?_
  refine vc_y hF rfl rfl (by decide) _ (y_build0 rfl ev_bV0) (fun a hF => ?_)
  refine vc_op rfl (fun K hK => hs_storeAll (new := [.int .i64 0, .int .i64 0, strV [], .slice none 0 0]) hF rfl rfl hA3 rfl rfl 0 rfl rfl (by simp [Value.oneCell']) sz25_v9 (fun w4 hA5 => hK _ _ ?_))
  clear hK K
  replace hA5 : Hp w0 ([row b1 25 [.int .i64 0, .int .i64 0, strV [], .slice none 0 0]] :: R) w4 := hA5
  refine vc_y hF rfl rfl (by decide) _ (y_assign rfl rfl) (fun a hF => ?_)
  refine vc_nil ?_
  refine hK4 _ _ ?_; clear  hK4 K4
  apply wp_ret
  simp only [Exit.then]
  refine vc_retCT hF Tryz.results35 hA5.q rfl rfl 0 rfl rw25_v9 ?_
  have hA6 : Hp w0 (R) w4 := Hp.sel [[row b1 25 [.int .i64 0, .int .i64 0, strV [], .slice none 0 0]]] R [] [0] hA5 rfl
  exact ⟨rfl, hA6⟩

set_option maxRecDepth 100000 in
set_option maxHeartbeats 8000000 in
theorem ev_state_no {w0 : World} {R : List Seg} (n : Int) (ch cn ct : List UInt8) (cc : List Value) (s1 s2 s3 : Value) (w : World) (hT : TabS w0) (hct : legalN ct = false) (hA : Hp w0 R w) : Calls Tryz.prog 24 #[.agg (.int .i64 n :: dc ch).toArray, .agg (strV cn :: strV ct :: cc).toArray, s1, s2, s3] w fun e w' => e = .returned (.tuple #[.slice none 0 0, .int .i64 34]) ∧ Hp w0 R w' := by
  refine vc_enter Tryz.func24 rfl Tryz.ntmps24 (Nat.le_of_ble_eq_true rfl) (fun a hF => ?_)
  apply wp_seq_k; intro K1 hK1
  refine wp_region_lit ?_
  refine vc_op rfl (fun K hK => hs_box (cs := (.int .i64 n :: dc ch)) hF rfl (by decide) rfl hA rfl (fun b1 w2 a hb1 hF hA3 => hK _ _ ?_))
  clear hK K
  replace hA3 : Hp w0 ([row b1 49 (.int .i64 n :: dc ch)] :: R) w2 := hA3
  refine vc_op rfl (fun K hK => hs_box (cs := strV cn :: strV ct :: cc) hF rfl (by decide) rfl hA3 rfl (fun b4 w5 a hb4 hF hA6 => hK _ _ ?_))
  clear hK K
  replace hA6 : Hp w0 ([row b4 52 (strV cn :: strV ct :: cc)] :: [row b1 49 (.int .i64 n :: dc ch)] :: R) w5 := hA6
  refine vc_y hF rfl rfl (by decide) _ (y_assign rfl rfl) (fun a hF => ?_)
  refine vc_y hF rfl rfl (by decide) _ (y_assign rfl rfl) (fun a hF => ?_)
  refine vc_nil ?_
  refine hK1 _ _ ?_; clear  hK1 K1
  apply wp_seq_k; intro K2 hK2
  apply wp_seq_k; intro K3 hK3
  refine wp_region_lit ?_
  refine vc_y hF rfl rfl (by decide) _ (y_field rfl Tryz.underlying52 rfl sz9_v9 (by decide) rfl (rfl : (⟨_, 0 + _, none⟩ : Addr) = ⟨_, 1, none⟩)) (fun a hF => ?_)
  refine vc_y hF rfl rfl (by decide) _ (y_ld rfl hA6.q rfl 0 rfl rfl nr9_v9) (fun a hF => ?_)
  refine vc_op rfl (fun K hK => ws_call hF rfl (by decide) cl87_v9 rfl rfl ?_)
  with_reducible refine (ev_legal ct _ hT hA6 ).mono ?_
  rintro e' w9 ⟨rfl, rfl⟩
  refine ⟨_, rfl, fun a hF => hK _ _ ?_⟩
  clear hK K
  refine vc_y hF rfl rfl (by decide) _ (y_not rfl rfl rfl) (fun a hF => ?_)
  refine vc_nil ?_
  refine hK3 _ _ ?_; clear  hK3 K3
  refine vc_trueB hF rfl (by rw [hct]; rfl) ?_
  apply wp_seq_k; intro K4 hK4
  refine wp_region_lit ?_
  refine vc_y hF rfl rfl (by decide) _ (y_assign rfl rfl) (fun a hF => ?_)
  refine vc_y hF rfl rfl (by decide) _ (y_assign rfl rfl) (fun a hF => ?_)
  refine vc_nil ?_
  refine hK4 _ _ ?_; clear  hK4 K4
  apply wp_ret
  simp only [Exit.then]
  refine vc_ret2 hF Tryz.results24 rfl rfl ?_
  have hA10 : Hp w0 (R) w5 := Hp.sel [[row b4 52 (strV cn :: strV ct :: cc)], [row b1 49 (.int .i64 n :: dc ch)]] R [] [0, 1] hA6 rfl
  exact ⟨rfl, hA10⟩

set_option maxRecDepth 100000 in
set_option maxHeartbeats 8000000 in
theorem ev_table_no {w0 : World} {R : List Seg} (n z : Int) (ch : List UInt8) (A1 : Option Addr) (c1 : Nat) (w : World) (hA : Hp w0 R w) : Calls Tryz.prog 29 #[.agg (.int .i64 n :: dc ch).toArray, .int .i64 z, .slice A1 1 c1, .slice none 0 0] w fun e w' => e = .returned (.tuple #[.slice none 0 0, .int .i64 1]) ∧ Hp w0 R w' := by
  refine vc_enter Tryz.func29 rfl Tryz.ntmps29 (Nat.le_of_ble_eq_true rfl) (fun a hF => ?_)
  apply wp_seq_k; intro K1 hK1
  refine wp_region_lit ?_
  refine vc_op rfl (fun K hK => hs_box (cs := (.int .i64 n :: dc ch)) hF rfl (by decide) rfl hA rfl (fun b1 w2 a hb1 hF hA3 => hK _ _ ?_))
  clear hK K
  replace hA3 : Hp w0 ([row b1 49 (.int .i64 n :: dc ch)] :: R) w2 := hA3
  refine vc_op rfl (fun K hK => hs_box1 hF rfl (by decide) rfl hA3 rfl rfl (fun b4 w5 a hb4 hF hA6 => hK _ _ ?_))
  clear hK K
  replace hA6 : Hp w0 ([row b4 23 [.slice A1 1 c1]] :: [row b1 49 (.int .i64 n :: dc ch)] :: R) w5 := hA6
  refine vc_y hF rfl rfl (by decide) _ (y_assign rfl rfl) (fun a hF => ?_)
  refine vc_y hF rfl rfl (by decide) _ (y_assign rfl rfl) (fun a hF => ?_)
  refine vc_nil ?_
  refine hK1 _ _ ?_; clear  hK1 K1
  apply wp_seq_k; intro K2 hK2
  apply wp_seq_k; intro K3 hK3
  refine wp_region_lit ?_
  refine vc_y hF rfl rfl (by decide) _ (y_ld rfl hA6.q rfl 0 rfl rfl nr23_v9) (fun a hF => ?_)
  refine vc_y hF rfl rfl (by decide) _ (y_lenSl rfl Tryz.underlying23 rfl rfl) (fun a hF => ?_)
  refine vc_y hF rfl rfl (by decide) _ (y_move rfl rfl) (fun a hF => ?_)
  refine vc_y hF rfl rfl (by decide) _ (y_lenSl rfl Tryz.underlying59 rfl rfl) (fun a hF => ?_)
  refine vc_y hF rfl rfl (by decide) _ (y_cmp (c := true) rfl rfl rfl rfl rfl) (fun a hF => ?_)
  refine vc_nil ?_
  refine hK3 _ _ ?_; clear  hK3 K3
  refine vc_true hF rfl ?_
  apply wp_seq_k; intro K4 hK4
  refine wp_region_lit ?_
  refine vc_y hF rfl rfl (by decide) _ (y_assign rfl rfl) (fun a hF => ?_)
  refine vc_y hF rfl rfl (by decide) _ (y_assign rfl rfl) (fun a hF => ?_)
  refine vc_nil ?_
  refine hK4 _ _ ?_; clear  hK4 K4
  apply wp_ret
  simp only [Exit.then]
  refine vc_ret2 hF Tryz.results29 rfl rfl ?_
  have hA7 : Hp w0 (R) w5 := Hp.sel [[row b4 23 [.slice A1 1 c1]], [row b1 49 (.int .i64 n :: dc ch)]] R [] [0, 1] hA6 rfl
  exact ⟨rfl, hA7⟩
def kE1 : EA := ⟨5, 258, 9, [], [], [], ⟨noVal, none, 0⟩, [], none, 0, [], none, 0, List.replicate 32 0⟩
theorem kO1 {w0 : World} {G : List Seg} : kE1.Ok w0 G := ⟨⟨Rc.nil, Nat.zero_le _, ⟨by decide, by decide⟩⟩, fun _ h => absurd h (List.not_mem_nil), Rc.nil, Nat.zero_le _, Rc.nil, Nat.zero_le _, ⟨by decide, by decide, by decide, ⟨by decide, by decide⟩, fun _ h => absurd h (List.not_mem_nil), rfl⟩⟩
theorem kn1 : encE kE1.ev = 0 := by decide +kernel
theorem ke1 : ((encE kE1.ev : Nat) : Int) = 0 := by rw [kn1]; rfl
theorem kl1 : (encB kE1.ev).length = 49 := by decide +kernel
theorem kb1 : encB kE1.ev = [5, 0, 0, 0, 0, 0, 0, 1, 2, 0, 0, 0, 0, 0, 0, 0, 9, 0, 0, 0, 0, 0, 0, 0, 0, 0, 0, 0, 0, 0, 0, 0, 0, 0, 0, 0, 0, 0, 0, 0, 0, 0, 0, 0, 0, 0, 0, 0, 0] := by decide +kernel
def kE2 : EA := ⟨3, 0, 0, [], [99, 45, 49], [102, 101, 101], ⟨⟨1, 4, [], []⟩, none, 0⟩, [], none, 0, [], none, 0, List.replicate 32 0⟩
theorem kO2 {w0 : World} {G : List Seg} : kE2.Ok w0 G := ⟨⟨Rc.nil, Nat.zero_le _, ⟨by decide, by decide⟩⟩, fun _ h => absurd h (List.not_mem_nil), Rc.nil, Nat.zero_le _, Rc.nil, Nat.zero_le _, ⟨by decide, by decide, by decide, ⟨by decide, by decide⟩, fun _ h => absurd h (List.not_mem_nil), rfl⟩⟩
theorem kn2 : encE kE2.ev = 0 := by decide +kernel
theorem ke2 : ((encE kE2.ev : Nat) : Int) = 0 := by rw [kn2]; rfl
theorem kl2 : (encB kE2.ev).length = 68 := by decide +kernel
theorem kb2 : encB kE2.ev = [3, 0, 0, 0, 0, 0, 0, 0, 0, 0, 0, 0, 0, 0, 0, 0, 0, 0, 3, 99, 45, 49, 0, 3, 102, 101, 101, 1, 0, 0, 0, 0, 0, 0, 0, 4, 0, 0, 0, 0, 0, 0, 0, 0, 0, 0, 0, 0, 0, 0, 0, 0, 0, 0, 0, 0, 0, 0, 0, 0, 0, 0, 0, 0, 0, 0, 0, 0] := by decide +kernel
def kE3 : EA := ⟨5, -1, 0, [], [99, 45, 49], [], ⟨noVal, none, 0⟩, [], none, 0, [], none, 0, List.replicate 32 0⟩
theorem kO3 {w0 : World} {G : List Seg} : kE3.Ok w0 G := ⟨⟨Rc.nil, Nat.zero_le _, ⟨by decide, by decide⟩⟩, fun _ h => absurd h (List.not_mem_nil), Rc.nil, Nat.zero_le _, Rc.nil, Nat.zero_le _, ⟨by decide, by decide, by decide, ⟨by decide, by decide⟩, fun _ h => absurd h (List.not_mem_nil), rfl⟩⟩
theorem kn3 : encE kE3.ev = 8 := by decide +kernel
theorem ke3 : ((encE kE3.ev : Nat) : Int) = 8 := by rw [kn3]; rfl
theorem kl3 : (encB kE3.ev).length = 0 := by decide +kernel
def kE4 : EA := ⟨2, -1, 0, [116], [67], [], ⟨noVal, none, 0⟩, [], none, 0, [], none, 0, List.replicate 32 0⟩
theorem kO4 {w0 : World} {G : List Seg} : kE4.Ok w0 G := ⟨⟨Rc.nil, Nat.zero_le _, ⟨by decide, by decide⟩⟩, fun _ h => absurd h (List.not_mem_nil), Rc.nil, Nat.zero_le _, Rc.nil, Nat.zero_le _, ⟨by decide, by decide, by decide, ⟨by decide, by decide⟩, fun _ h => absurd h (List.not_mem_nil), rfl⟩⟩
theorem kn4 : encE kE4.ev = 34 := by decide +kernel
theorem ke4 : ((encE kE4.ev : Nat) : Int) = 34 := by rw [kn4]; rfl
theorem kl4 : (encB kE4.ev).length = 0 := by decide +kernel
theorem kB_1 (w : World) : (Instr.build 31 #[(0, .int .i64 5), (1, .int .i64 258), (2, .int .i64 9)]).run Tryz.prog w = .ok (.agg kE1.cells.toArray) w := by kernel_rfl
theorem kB_v (w : World) : (Instr.build 25 #[(0, .int .i64 1), (1, .int .i64 4)]).run Tryz.prog w = .ok (.agg ([.int .i64 1, .int .i64 4, strV [], .slice none 0 0] : List Value).toArray) w := by kernel_rfl
theorem kB_2 (w : World) : (Instr.build 31 #[(0, .int .i64 3), (4, strV [99, 45, 49]), (5, strV [102, 101, 101]), (6, .agg ([.int .i64 1, .int .i64 4, strV [], .slice none 0 0] : List Value).toArray)]).run Tryz.prog w = .ok (.agg kE2.cells.toArray) w := by kernel_rfl
theorem kB_3 (w : World) : (Instr.build 31 #[(0, .int .i64 5), (4, strV [99, 45, 49]), (1, .int .i64 (-1))]).run Tryz.prog w = .ok (.agg kE3.cells.toArray) w := by kernel_rfl
theorem kB_4 (w : World) : (Instr.build 31 #[(0, .int .i64 2), (4, strV [67]), (3, strV [116]), (1, .int .i64 (-1))]).run Tryz.prog w = .ok (.agg kE4.cells.toArray) w := by kernel_rfl
theorem kB_e (w : World) : (Instr.build 49 #[]).run Tryz.prog w = .ok (.agg (.int .i64 0 :: dc (List.replicate 32 0)).toArray) w := by kernel_rfl
def kCC : List Value := .int .i64 0 :: (dc (List.replicate 32 0) ++ [.slice none 0 0, .slice none 0 0, .slice none 0 0, .slice none 0 0])
theorem kB_c (w : World) : (Instr.build 52 #[(1, strV [105, 110])]).run Tryz.prog w = .ok (.agg (strV [] :: strV [105, 110] :: kCC).toArray) w := by kernel_rfl
theorem k_mk : (Tryz.prog.info? 9).map (fun i => (i.zero.map (fun z => z.cells.toList), i.size, i.bytes)) = some (some (List.replicate 1 (strV [])), 1, 16) := by kernel_rfl
theorem k_bs (w : World) : (Instr.buildSlice 23 1 #[(0, strV [105, 110])]).run Tryz.prog w = .ok (.slice (some ⟨w.heap.size, 0, none⟩) 1 1) (w.alloc (.cells #[strV [105, 110]] 9)) := by kernel_rfl
theorem ev_decodeN {w0 : World} {R : List Seg} {G : List Seg} (A : Option Addr) (raw : List UInt8) (n c : Nat) (w : World) (hn : raw.length = n) (hT : TabS w0) (hR : Rd w0 G A raw) (hG : G ⊆ R) (hl : raw.length ≤ 9223372036854775807) (hA : Hp w0 R w) : Calls Tryz.prog 21 #[.slice A n c] w fun e w' => ∃ (ea : EA) (Z : Seg), e = .returned (.tuple #[.agg ea.cells.toArray, .int .i64 (decE raw : Nat)]) ∧ ea.ev = decV raw ∧ ea.Ok w0 [Z] ∧ Hp w0 (Z :: R) w' := by
  subst hn
  exact ev_decode A raw c w hT hR hG hl hA

set_option maxRecDepth 100000 in
set_option maxHeartbeats 8000000 in
theorem ev_known {w0 : World} {R : List Seg} (w : World) (hT : TabS w0) (hA : Hp w0 R w) : Calls Tryz.prog 15 #[] w fun e w' => e = .returned (.bool true) ∧ Hp w0 R w' := by
  refine vc_enter Tryz.func15 rfl Tryz.ntmps15 (Nat.le_of_ble_eq_true rfl) (fun a hF => ?_)
  apply wp_seq_k; intro K1 hK1
  refine wp_region_lit ?_
  refine vc_y hF rfl rfl (by decide) _ (y_assign rfl rfl) (fun a hF => ?_)
  refine vc_nil ?_
  refine hK1 _ _ ?_; clear  hK1 K1
  apply wp_seq_k; intro K2 hK2
  refine wp_region_lit ?_
  refine vc_y hF rfl rfl (by decide) _ (y_build (v := .agg kE1.cells.toArray) (qs := #[(0, .int .i64 5), (1, .int .i64 258), (2, .int .i64 9)]) rfl rfl (kB_1)) (fun a hF => ?_)
  refine vc_op rfl (fun K hK => ws_call hF rfl (by decide) cl20_v9 rfl rfl ?_)
  with_reducible refine (ev_encode kE1 _ hT (kO1 (G := [])) (List.nil_subset _) hA ).mono ?_
  rintro e' w1 ⟨vE1, ZE1, rfl, hZE1, hA2⟩
  refine ⟨_, rfl, fun a hF => hK _ _ ?_⟩
  clear hK K
  replace hA2 : Hp w0 (ZE1 :: R) w1 := hA2
  obtain ⟨_, AE1, cE1, rfl, _, hRE1⟩ := hZE1.rd (w0 := w0) (R := [ZE1]) (List.mem_cons_self ..)
  rw [ke1, kl1] at hF
  obtain ⟨bq1, oq1, rfl, hq1⟩ := hRE1.ne (i := 0) (by rw [dc_length, kl1]; decide)
  rw [kb1] at hq1
  refine vc_y hF rfl rfl (by decide) _ (y_move rfl rfl) (fun a hF => ?_)
  refine vc_y hF rfl rfl (by decide) _ (y_extract (v := .slice (some ⟨bq1, oq1, none⟩) 49 cE1) rfl rfl rfl) (fun a hF => ?_)
  refine vc_y hF rfl rfl (by decide) _ (y_extract (v := .int .i64 0) rfl rfl rfl) (fun a hF => ?_)
  refine vc_y hF rfl rfl (by decide) _ (y_assign rfl rfl) (fun a hF => ?_)
  refine vc_y hF rfl rfl (by decide) _ (y_assign rfl rfl) (fun a hF => ?_)
  refine vc_nil ?_
  refine hK2 _ _ ?_; clear  hK2 K2
  apply wp_seq_k; intro K3 hK3
  apply wp_seq_k; intro K4 hK4
  refine wp_region_lit ?_
  refine vc_y hF rfl rfl (by decide) _ (y_move rfl rfl) (fun a hF => ?_)
  refine vc_y hF rfl rfl (by decide) _ (y_cmp (c := false) rfl rfl rfl rfl rfl) (fun a hF => ?_)
  refine vc_y hF rfl rfl (by decide) _ (y_move rfl rfl) (fun a hF => ?_)
  refine vc_yg hF rfl rfl rfl rfl (some_bool rfl) (by decide) _ (y_move rfl rfl) (fun a hF => ?_)
  refine vc_yg hF rfl rfl rfl rfl (some_bool rfl) (by decide) _ (y_lenSl rfl Tryz.underlying27 rfl rfl) (fun a hF => ?_)
  refine vc_yg hF rfl rfl rfl rfl (some_bool rfl) (by decide) _ (y_cmp (c := false) rfl rfl rfl rfl rfl) (fun a hF => ?_)
  refine vc_y hF rfl rfl (by decide) _ (y_pickF rfl rfl rfl rfl) (fun a hF => ?_)
  refine vc_y hF rfl rfl (by decide) _ (y_move rfl rfl) (fun a hF => ?_)
  refine vc_yg hF rfl rfl rfl rfl (some_bool rfl) (by decide) _ (y_move rfl rfl) (fun a hF => ?_)
  refine vc_yg hF rfl rfl rfl rfl (some_bool rfl) (by decide) _ (y_ixSl rfl Tryz.underlying27 sz5_v9 rfl rfl 0 rfl (by decide) (ad2 _ _ _)) (fun a hF => ?_)
  refine vc_yg hF rfl rfl rfl rfl (some_bool rfl) (by decide) _ (y_ldC (u := .int .u8 5) rfl (Hq.sub hA2.q (List.cons_subset.2 ⟨((List.mem_cons_self ..)), List.nil_subset _⟩)) rfl hq1 0 (by decide) rfl rfl nr5_v9) (fun a hF => ?_)
  refine vc_yg hF rfl rfl rfl rfl (some_bool rfl) (by decide) _ (y_cmp (c := false) rfl rfl rfl rfl rfl) (fun a hF => ?_)
  refine vc_y hF rfl rfl (by decide) _ (y_pickF rfl rfl rfl rfl) (fun a hF => ?_)
  refine vc_y hF rfl rfl (by decide) _ (y_move rfl rfl) (fun a hF => ?_)
  refine vc_yg hF rfl rfl rfl rfl (some_bool rfl) (by decide) _ (y_move rfl rfl) (fun a hF => ?_)
  refine vc_yg hF rfl rfl rfl rfl (some_bool rfl) (by decide) _ (y_ixSl rfl Tryz.underlying27 sz5_v9 rfl rfl 7 rfl (by decide) (ad2 _ _ _)) (fun a hF => ?_)
  refine vc_yg hF rfl rfl rfl rfl (some_bool rfl) (by decide) _ (y_ldC (u := .int .u8 1) rfl (Hq.sub hA2.q (List.cons_subset.2 ⟨((List.mem_cons_self ..)), List.nil_subset _⟩)) rfl hq1 7 (by decide) rfl rfl nr5_v9) (fun a hF => ?_)
  refine vc_yg hF rfl rfl rfl rfl (some_bool rfl) (by decide) _ (y_cmp (c := false) rfl rfl rfl rfl rfl) (fun a hF => ?_)
  refine vc_y hF rfl rfl (by decide) _ (y_pickF rfl rfl rfl rfl) (fun a hF => ?_)
  refine vc_y hF rfl rfl (by decide) _ (y_move rfl rfl) (fun a hF => ?_)
  refine vc_yg hF rfl rfl rfl rfl (some_bool rfl) (by decide) _ (y_move rfl rfl) (fun a hF => ?_)
  refine vc_yg hF rfl rfl rfl rfl (some_bool rfl) (by decide) _ (y_ixSl rfl Tryz.underlying27 sz5_v9 rfl rfl 8 rfl (by decide) (ad2 _ _ _)) (fun a hF => ?_)
  refine vc_yg hF rfl rfl rfl rfl (some_bool rfl) (by decide) _ (y_ldC (u := .int .u8 2) rfl (Hq.sub hA2.q (List.cons_subset.2 ⟨((List.mem_cons_self ..)), List.nil_subset _⟩)) rfl hq1 8 (by decide) rfl rfl nr5_v9) (fun a hF => ?_)
  refine vc_yg hF rfl rfl rfl rfl (some_bool rfl) (by decide) _ (y_cmp (c := false) rfl rfl rfl rfl rfl) (fun a hF => ?_)
  refine vc_y hF rfl rfl (by decide) _ (y_pickF rfl rfl rfl rfl) (fun a hF => ?_)
  refine vc_y hF rfl rfl (by decide) _ (y_move rfl rfl) (fun a hF => ?_)
  refine vc_yg hF rfl rfl rfl rfl (some_bool rfl) (by decide) _ (y_move rfl rfl) (fun a hF => ?_)
  refine vc_yg hF rfl rfl rfl rfl (some_bool rfl) (by decide) _ (y_ixSl rfl Tryz.underlying27 sz5_v9 rfl rfl 16 rfl (by decide) (ad2 _ _ _)) (fun a hF => ?_)
  refine vc_yg hF rfl rfl rfl rfl (some_bool rfl) (by decide) _ (y_ldC (u := .int .u8 9) rfl (Hq.sub hA2.q (List.cons_subset.2 ⟨((List.mem_cons_self ..)), List.nil_subset _⟩)) rfl hq1 16 (by decide) rfl rfl nr5_v9) (fun a hF => ?_)
  refine vc_yg hF rfl rfl rfl rfl (some_bool rfl) (by decide) _ (y_cmp (c := false) rfl rfl rfl rfl rfl) (fun a hF => ?_)
  refine vc_y hF rfl rfl (by decide) _ (y_pickF rfl rfl rfl rfl) (fun a hF => ?_)
  refine vc_nil ?_
  refine hK4 _ _ ?_; clear  hK4 K4
  refine vc_falseB hF rfl rfl ?_
  apply wp_skip
  refine hK3 _ _ ?_; clear  hK3 K3
  apply wp_seq_k; intro K5 hK5
  refine wp_region_lit ?_
  refine vc_y hF rfl rfl (by decide) _ (y_build (v := .agg ([.int .i64 1, .int .i64 4, strV [], .slice none 0 0] : List Value).toArray) (qs := #[(0, .int .i64 1), (1, .int .i64 4)]) rfl rfl kB_v) (fun a hF => ?_)
  refine vc_y hF rfl rfl (by decide) _ (y_build (v := .agg kE2.cells.toArray) (qs := #[(0, .int .i64 3), (4, strV [99, 45, 49]), (5, strV [102, 101, 101]), (6, .agg ([.int .i64 1, .int .i64 4, strV [], .slice none 0 0] : List Value).toArray)]) rfl rfl (kB_2)) (fun a hF => ?_)
  refine vc_op rfl (fun K hK => ws_call hF rfl (by decide) cl20_v9 rfl rfl ?_)
  with_reducible refine (ev_encode kE2 _ hT (kO2 (G := [])) (List.nil_subset _) hA2 ).mono ?_
  rintro e' w3 ⟨vE2, ZE2, rfl, hZE2, hA4⟩
  refine ⟨_, rfl, fun a hF => hK _ _ ?_⟩
  clear hK K
  replace hA4 : Hp w0 (ZE2 :: ZE1 :: R) w3 := hA4
  obtain ⟨_, AE2, cE2, rfl, _, hRE2⟩ := hZE2.rd (w0 := w0) (R := [ZE2]) (List.mem_cons_self ..)
  rw [ke2, kl2] at hF
  obtain ⟨bq2, oq2, rfl, hq2⟩ := hRE2.ne (i := 0) (by rw [dc_length, kl2]; decide)
  rw [kb2] at hq2
  refine vc_y hF rfl rfl (by decide) _ (y_move rfl rfl) (fun a hF => ?_)
  refine vc_y hF rfl rfl (by decide) _ (y_extract (v := .slice (some ⟨bq2, oq2, none⟩) 68 cE2) rfl rfl rfl) (fun a hF => ?_)
  refine vc_y hF rfl rfl (by decide) _ (y_extract (v := .int .i64 0) rfl rfl rfl) (fun a hF => ?_)
  refine vc_y hF rfl rfl (by decide) _ (y_assign rfl rfl) (fun a hF => ?_)
  refine vc_y hF rfl rfl (by decide) _ (y_assign rfl rfl) (fun a hF => ?_)
  refine vc_nil ?_
  refine hK5 _ _ ?_; clear  hK5 K5
  apply wp_seq_k; intro K6 hK6
  apply wp_seq_k; intro K7 hK7
  refine wp_region_lit ?_
  refine vc_y hF rfl rfl (by decide) _ (y_move rfl rfl) (fun a hF => ?_)
  refine vc_y hF rfl rfl (by decide) _ (y_cmp (c := false) rfl rfl rfl rfl rfl) (fun a hF => ?_)
  refine vc_y hF rfl rfl (by decide) _ (y_move rfl rfl) (fun a hF => ?_)
  refine vc_yg hF rfl rfl rfl rfl (some_bool rfl) (by decide) _ (y_move rfl rfl) (fun a hF => ?_)
  refine vc_yg hF rfl rfl rfl rfl (some_bool rfl) (by decide) _ (y_lenSl rfl Tryz.underlying27 rfl rfl) (fun a hF => ?_)
  refine vc_yg hF rfl rfl rfl rfl (some_bool rfl) (by decide) _ (y_cmp (c := false) rfl rfl rfl rfl rfl) (fun a hF => ?_)
  refine vc_y hF rfl rfl (by decide) _ (y_pickF rfl rfl rfl rfl) (fun a hF => ?_)
  refine vc_y hF rfl rfl (by decide) _ (y_move rfl rfl) (fun a hF => ?_)
  refine vc_yg hF rfl rfl rfl rfl (some_bool rfl) (by decide) _ (y_move rfl rfl) (fun a hF => ?_)
  refine vc_yg hF rfl rfl rfl rfl (some_bool rfl) (by decide) _ (y_ixSl rfl Tryz.underlying27 sz5_v9 rfl rfl 17 rfl (by decide) (ad2 _ _ _)) (fun a hF => ?_)
  refine vc_yg hF rfl rfl rfl rfl (some_bool rfl) (by decide) _ (y_ldC (u := .int .u8 0) rfl (Hq.sub hA4.q (List.cons_subset.2 ⟨((List.mem_cons_self ..)), List.nil_subset _⟩)) rfl hq2 17 (by decide) rfl rfl nr5_v9) (fun a hF => ?_)
  refine vc_yg hF rfl rfl rfl rfl (some_bool rfl) (by decide) _ (y_cmp (c := false) rfl rfl rfl rfl rfl) (fun a hF => ?_)
  refine vc_y hF rfl rfl (by decide) _ (y_pickF rfl rfl rfl rfl) (fun a hF => ?_)
  refine vc_y hF rfl rfl (by decide) _ (y_move rfl rfl) (fun a hF => ?_)
  refine vc_yg hF rfl rfl rfl rfl (some_bool rfl) (by decide) _ (y_move rfl rfl) (fun a hF => ?_)
  refine vc_yg hF rfl rfl rfl rfl (some_bool rfl) (by decide) _ (y_ixSl rfl Tryz.underlying27 sz5_v9 rfl rfl 18 rfl (by decide) (ad2 _ _ _)) (fun a hF => ?_)
  refine vc_yg hF rfl rfl rfl rfl (some_bool rfl) (by decide) _ (y_ldC (u := .int .u8 3) rfl (Hq.sub hA4.q (List.cons_subset.2 ⟨((List.mem_cons_self ..)), List.nil_subset _⟩)) rfl hq2 18 (by decide) rfl rfl nr5_v9) (fun a hF => ?_)
  refine vc_yg hF rfl rfl rfl rfl (some_bool rfl) (by decide) _ (y_cmp (c := false) rfl rfl rfl rfl rfl) (fun a hF => ?_)
  refine vc_y hF rfl rfl (by decide) _ (y_pickF rfl rfl rfl rfl) (fun a hF => ?_)
  refine vc_y hF rfl rfl (by decide) _ (y_move rfl rfl) (fun a hF => ?_)
  refine vc_yg hF rfl rfl rfl rfl (some_bool rfl) (by decide) _ (y_move rfl rfl) (fun a hF => ?_)
  refine vc_yg hF rfl rfl rfl rfl (some_bool rfl) (by decide) _ (y_ixSl rfl Tryz.underlying27 sz5_v9 rfl rfl 19 rfl (by decide) (ad2 _ _ _)) (fun a hF => ?_)
  refine vc_yg hF rfl rfl rfl rfl (some_bool rfl) (by decide) _ (y_ldC (u := .int .u8 99) rfl (Hq.sub hA4.q (List.cons_subset.2 ⟨((List.mem_cons_self ..)), List.nil_subset _⟩)) rfl hq2 19 (by decide) rfl rfl nr5_v9) (fun a hF => ?_)
  refine vc_yg hF rfl rfl rfl rfl (some_bool rfl) (by decide) _ (y_cmp (c := false) rfl rfl rfl rfl rfl) (fun a hF => ?_)
  refine vc_y hF rfl rfl (by decide) _ (y_pickF rfl rfl rfl rfl) (fun a hF => ?_)
  refine vc_y hF rfl rfl (by decide) _ (y_move rfl rfl) (fun a hF => ?_)
  refine vc_yg hF rfl rfl rfl rfl (some_bool rfl) (by decide) _ (y_move rfl rfl) (fun a hF => ?_)
  refine vc_yg hF rfl rfl rfl rfl (some_bool rfl) (by decide) _ (y_ixSl rfl Tryz.underlying27 sz5_v9 rfl rfl 27 rfl (by decide) (ad2 _ _ _)) (fun a hF => ?_)
  refine vc_yg hF rfl rfl rfl rfl (some_bool rfl) (by decide) _ (y_ldC (u := .int .u8 1) rfl (Hq.sub hA4.q (List.cons_subset.2 ⟨((List.mem_cons_self ..)), List.nil_subset _⟩)) rfl hq2 27 (by decide) rfl rfl nr5_v9) (fun a hF => ?_)
  refine vc_yg hF rfl rfl rfl rfl (some_bool rfl) (by decide) _ (y_cmp (c := false) rfl rfl rfl rfl rfl) (fun a hF => ?_)
  refine vc_y hF rfl rfl (by decide) _ (y_pickF rfl rfl rfl rfl) (fun a hF => ?_)
  refine vc_nil ?_
  refine hK7 _ _ ?_; clear  hK7 K7
  refine vc_falseB hF rfl rfl ?_
  apply wp_skip
  refine hK6 _ _ ?_; clear  hK6 K6
  apply wp_seq_k; intro K8 hK8
  refine wp_region_lit ?_
  refine vc_y hF rfl rfl (by decide) _ (y_move rfl rfl) (fun a hF => ?_)
  refine vc_op rfl (fun K hK => ws_call hF rfl (by decide) cl21_v9 rfl rfl ?_)
  with_reducible refine (ev_decodeN (G := [ZE2]) (some ⟨bq2, oq2, none⟩) (encB kE2.ev) 68 cE2 _ kl2 hT hRE2 (List.cons_subset.2 ⟨((List.mem_cons_self ..)), List.nil_subset _⟩) (by rw [kl2]; decide) hA4 ).mono ?_
  rintro e' w5 ⟨ea, ZD, rfl, hev, hEo, hA6⟩
  refine ⟨_, rfl, fun a hF => hK _ _ ?_⟩
  clear hK K
  replace hA6 : Hp w0 (ZD :: ZE2 :: ZE1 :: R) w5 := hA6
  obtain ⟨hd1, hd2⟩ := dec_enc (kO2 (w0 := w0) (G := [])).i kn2
  rw [hd1] at hF
  rw [hd2] at hev
  have hop : ea.op = 3 := congrArg Go.Proofs.YtepbmdlgdaedpaaGreatDoor.Ev.op hev
  have hnam : ea.nam = [102, 101, 101] := congrArg Go.Proofs.YtepbmdlgdaedpaaGreatDoor.Ev.nam hev
  have hvn : ea.v.v.n = 4 := congrArg (fun e => (Go.Proofs.YtepbmdlgdaedpaaGreatDoor.Ev.v e).n) hev
  have he32 : ea.eff.length = 32 := hEo.i.2.2.2.2.2
  refine vc_y hF rfl rfl (by decide) _ (y_move rfl rfl) (fun a hF => ?_)
  refine vc_y hF rfl rfl (by decide) _ (y_extract (v := .agg (ea.cells).toArray) rfl rfl rfl) (fun a hF => ?_)
  refine vc_y hF rfl rfl (by decide) _ (y_extract (v := .int .i64 ((0 : Nat) : Int)) rfl rfl rfl) (fun a hF => ?_)
  refine vc_op rfl (fun K hK => hs_alloc hF rfl (by decide) rfl hA6 ev_zE (fun b7 w8 a hb7 hF hA9 => hK _ _ ?_))
  clear hK K
  replace hA9 : Hp w0 ([row b7 31 noEA.cells] :: ZD :: ZE2 :: ZE1 :: R) w8 := hA9
  refine vc_op rfl (fun K hK => hs_storeAll (new := ea.cells) hF rfl rfl hA9 rfl rfl 0 rfl (by rw [List.length_append, dc_length, he32]; rfl) (fun v hv => evc_one (e := ea) hv) ev_szE (fun w10 hA11 => hK _ _ ?_))
  clear hK K
  replace hA11 : Hp w0 ([row b7 31 ea.cells] :: ZD :: ZE2 :: ZE1 :: R) w10 := hA11
  refine vc_y hF rfl rfl (by decide) _ (y_assign rfl rfl) (fun a hF => ?_)
  refine vc_nil ?_
  refine hK8 _ _ ?_; clear  hK8 K8
  apply wp_seq_k; intro K9 hK9
  apply wp_seq_k; intro K10 hK10
  refine wp_region_lit ?_
  refine vc_y hF rfl rfl (by decide) _ (y_move rfl rfl) (fun a hF => ?_)
  refine vc_y hF rfl rfl (by decide) _ (y_cmp (c := false) rfl rfl rfl rfl rfl) (fun a hF => ?_)
  refine vc_y hF rfl rfl (by decide) _ (y_move rfl rfl) (fun a hF => ?_)
  refine vc_yg hF rfl rfl rfl rfl (some_bool rfl) (by decide) _ (y_field rfl Tryz.underlying31 rfl sz3_v9 (by decide) rfl (rfl : (⟨_, 0 + _, none⟩ : Addr) = ⟨_, 0, none⟩)) (fun a hF => ?_)
  refine vc_yg hF rfl rfl rfl rfl (some_bool rfl) (by decide) _ (y_ld rfl hA11.q rfl 0 rfl rfl nr3_v9) (fun a hF => ?_)
  refine vc_yg hF rfl rfl rfl rfl (some_bool rfl) (by decide) _ (y_cmp rfl rfl rfl rfl (neq_f (by omega))) (fun a hF => ?_)
  refine vc_y hF rfl rfl (by decide) _ (y_pickF rfl rfl rfl rfl) (fun a hF => ?_)
  refine vc_y hF rfl rfl (by decide) _ (y_move rfl rfl) (fun a hF => ?_)
  refine vc_yg hF rfl rfl rfl rfl (some_bool rfl) (by decide) _ (y_field rfl Tryz.underlying31 rfl sz9_v9 (by decide) rfl (rfl : (⟨_, 0 + _, none⟩ : Addr) = ⟨_, 5, none⟩)) (fun a hF => ?_)
  refine vc_yg hF rfl rfl rfl rfl (some_bool rfl) (by decide) _ (y_ld rfl hA11.q rfl 0 rfl rfl nr9_v9) (fun a hF => ?_)
  refine vc_yg hF rfl rfl rfl rfl (some_bool rfl) (by decide) _ (y_cmpS rfl rfl rfl rfl (by rw [hnam] <;> rfl)) (fun a hF => ?_)
  refine vc_y hF rfl rfl (by decide) _ (y_pickF rfl rfl rfl rfl) (fun a hF => ?_)
  refine vc_y hF rfl rfl (by decide) _ (y_move rfl rfl) (fun a hF => ?_)
  refine vc_yg hF rfl rfl rfl rfl (some_bool rfl) (by decide) _ (y_field rfl Tryz.underlying31 rfl sz25_v9 (by decide) rfl (rfl : (⟨_, 0 + _, none⟩ : Addr) = ⟨_, 6, none⟩)) (fun a hF => ?_)
  refine vc_yg hF rfl rfl rfl rfl (some_bool rfl) (by decide) _ (y_field rfl Tryz.underlying25 rfl sz3_v9 (by decide) rfl (rfl : (⟨_, 6 + _, none⟩ : Addr) = ⟨_, 7, none⟩)) (fun a hF => ?_)
  refine vc_yg hF rfl rfl rfl rfl (some_bool rfl) (by decide) _ (y_ld rfl hA11.q rfl 0 rfl rfl nr3_v9) (fun a hF => ?_)
  refine vc_yg hF rfl rfl rfl rfl (some_bool rfl) (by decide) _ (y_cmp rfl rfl rfl rfl (neq_f (by omega))) (fun a hF => ?_)
  refine vc_y hF rfl rfl (by decide) _ (y_pickF rfl rfl rfl rfl) (fun a hF => ?_)
  refine vc_nil ?_
  refine hK10 _ _ ?_; clear  hK10 K10
  refine vc_falseB hF rfl rfl ?_
  apply wp_skip
  refine hK9 _ _ ?_; clear  hK9 K9
  apply wp_seq_k; intro K11 hK11
  refine wp_region_lit ?_
  refine vc_y hF rfl rfl (by decide) _ (y_build (v := .agg kE3.cells.toArray) (qs := #[(0, .int .i64 5), (4, strV [99, 45, 49]), (1, .int .i64 (-1))]) rfl rfl (kB_3)) (fun a hF => ?_)
  refine vc_op rfl (fun K hK => ws_call hF rfl (by decide) cl20_v9 rfl rfl ?_)
  with_reducible refine (ev_encode kE3 _ hT (kO3 (G := [])) (List.nil_subset _) hA11 ).mono ?_
  rintro e' w12 ⟨vE3, ZE3, rfl, hZE3, hA13⟩
  refine ⟨_, rfl, fun a hF => hK _ _ ?_⟩
  clear hK K
  replace hA13 : Hp w0 (ZE3 :: [row b7 31 ([.int .i64 ea.op, .int .i64 ea.num, .int .i64 ea.clk, strV ea.typ, strV ea.cas, strV ea.nam, .int .i64 ea.v.v.k, .int .i64 ea.v.v.n, strV ea.v.v.t, .slice ea.v.sA ea.v.v.s.length ea.v.sC, .slice ea.aA ea.args.length ea.aC, .slice ea.bA ea.src.length ea.bC] ++ dc ea.eff)] :: ZD :: ZE2 :: ZE1 :: R) w12 := hA13
  obtain ⟨_, AE3, cE3, rfl, _, hRE3⟩ := hZE3.rd (w0 := w0) (R := [ZE3]) (List.mem_cons_self ..)
  rw [ke3, kl3] at hF
  refine vc_y hF rfl rfl (by decide) _ (y_move rfl rfl) (fun a hF => ?_)
  refine vc_y hF rfl rfl (by decide) _ (y_extract (v := .slice AE3 0 cE3) rfl rfl rfl) (fun a hF => ?_)
  refine vc_y hF rfl rfl (by decide) _ (y_extract (v := .int .i64 8) rfl rfl rfl) (fun a hF => ?_)
  refine vc_y hF rfl rfl (by decide) _ (y_assign rfl rfl) (fun a hF => ?_)
  refine vc_y hF rfl rfl (by decide) _ (y_assign rfl rfl) (fun a hF => ?_)
  refine vc_nil ?_
  refine hK11 _ _ ?_; clear  hK11 K11
  apply wp_seq_k; intro K12 hK12
  apply wp_seq_k; intro K13 hK13
  refine wp_region_lit ?_
  refine vc_y hF rfl rfl (by decide) _ (y_move rfl rfl) (fun a hF => ?_)
  refine vc_y hF rfl rfl (by decide) _ (y_cmp (c := false) rfl rfl rfl rfl rfl) (fun a hF => ?_)
  refine vc_y hF rfl rfl (by decide) _ (y_move rfl rfl) (fun a hF => ?_)
  refine vc_yg hF rfl rfl rfl rfl (some_bool rfl) (by decide) _ (y_move rfl rfl) (fun a hF => ?_)
  refine vc_yg hF rfl rfl rfl rfl (some_bool rfl) (by decide) _ (y_lenSl rfl Tryz.underlying27 rfl rfl) (fun a hF => ?_)
  refine vc_yg hF rfl rfl rfl rfl (some_bool rfl) (by decide) _ (y_cmp (c := false) rfl rfl rfl rfl rfl) (fun a hF => ?_)
  refine vc_y hF rfl rfl (by decide) _ (y_pickF rfl rfl rfl rfl) (fun a hF => ?_)
  refine vc_nil ?_
  refine hK13 _ _ ?_; clear  hK13 K13
  refine vc_falseB hF rfl rfl ?_
  apply wp_skip
  refine hK12 _ _ ?_; clear  hK12 K12
  apply wp_seq_k; intro K14 hK14
  refine wp_region_lit ?_
  refine vc_y hF rfl rfl (by decide) _ (y_build (v := .agg kE4.cells.toArray) (qs := #[(0, .int .i64 2), (4, strV [67]), (3, strV [116]), (1, .int .i64 (-1))]) rfl rfl (kB_4)) (fun a hF => ?_)
  refine vc_op rfl (fun K hK => ws_call hF rfl (by decide) cl20_v9 rfl rfl ?_)
  with_reducible refine (ev_encode kE4 _ hT (kO4 (G := [])) (List.nil_subset _) hA13 ).mono ?_
  rintro e' w14 ⟨vE4, ZE4, rfl, hZE4, hA15⟩
  refine ⟨_, rfl, fun a hF => hK _ _ ?_⟩
  clear hK K
  replace hA15 : Hp w0 (ZE4 :: ZE3 :: [row b7 31 ([.int .i64 ea.op, .int .i64 ea.num, .int .i64 ea.clk, strV ea.typ, strV ea.cas, strV ea.nam, .int .i64 ea.v.v.k, .int .i64 ea.v.v.n, strV ea.v.v.t, .slice ea.v.sA ea.v.v.s.length ea.v.sC, .slice ea.aA ea.args.length ea.aC, .slice ea.bA ea.src.length ea.bC] ++ dc ea.eff)] :: ZD :: ZE2 :: ZE1 :: R) w14 := hA15
  obtain ⟨_, AE4, cE4, rfl, _, hRE4⟩ := hZE4.rd (w0 := w0) (R := [ZE4]) (List.mem_cons_self ..)
  rw [ke4, kl4] at hF
  refine vc_y hF rfl rfl (by decide) _ (y_move rfl rfl) (fun a hF => ?_)
  refine vc_y hF rfl rfl (by decide) _ (y_extract (v := .slice AE4 0 cE4) rfl rfl rfl) (fun a hF => ?_)
  refine vc_y hF rfl rfl (by decide) _ (y_extract (v := .int .i64 34) rfl rfl rfl) (fun a hF => ?_)
  refine vc_y hF rfl rfl (by decide) _ (y_assign rfl rfl) (fun a hF => ?_)
  refine vc_y hF rfl rfl (by decide) _ (y_assign rfl rfl) (fun a hF => ?_)
  refine vc_nil ?_
  refine hK14 _ _ ?_; clear  hK14 K14
  apply wp_seq_k; intro K15 hK15
  apply wp_seq_k; intro K16 hK16
  refine wp_region_lit ?_
  refine vc_y hF rfl rfl (by decide) _ (y_move rfl rfl) (fun a hF => ?_)
  refine vc_y hF rfl rfl (by decide) _ (y_cmp (c := false) rfl rfl rfl rfl rfl) (fun a hF => ?_)
  refine vc_y hF rfl rfl (by decide) _ (y_move rfl rfl) (fun a hF => ?_)
  refine vc_yg hF rfl rfl rfl rfl (some_bool rfl) (by decide) _ (y_move rfl rfl) (fun a hF => ?_)
  refine vc_yg hF rfl rfl rfl rfl (some_bool rfl) (by decide) _ (y_lenSl rfl Tryz.underlying27 rfl rfl) (fun a hF => ?_)
  refine vc_yg hF rfl rfl rfl rfl (some_bool rfl) (by decide) _ (y_cmp (c := false) rfl rfl rfl rfl rfl) (fun a hF => ?_)
  refine vc_y hF rfl rfl (by decide) _ (y_pickF rfl rfl rfl rfl) (fun a hF => ?_)
  refine vc_y hF rfl rfl (by decide) _ (y_move rfl rfl) (fun a hF => ?_)
  refine vc_yg hF rfl rfl rfl rfl (some_bool rfl) (by decide) _ (y_build (v := .agg ([.int .i64 9, .int .i64 0, strV [], .slice none 0 0] : List Value).toArray) (qs := #[(0, .int .i64 9)]) rfl rfl (ev_bV 9)) (fun a hF => ?_)
  refine vc_opg hF rfl rfl rfl (some_bool rfl) (fun K hK => ws_call hF rfl (by decide) cl48_v9 rfl rfl ?_)
  with_reducible refine (ev_put_nil 9 0 [] (.slice none 0 0) _ hA15 ).mono ?_
  rintro e' w16 ⟨rfl, hA17⟩
  refine ⟨_, rfl, fun a hF => hK _ _ ?_⟩
  clear hK K
  replace hA17 : Hp w0 (ZE4 :: ZE3 :: [row b7 31 ([.int .i64 ea.op, .int .i64 ea.num, .int .i64 ea.clk, strV ea.typ, strV ea.cas, strV ea.nam, .int .i64 ea.v.v.k, .int .i64 ea.v.v.n, strV ea.v.v.t, .slice ea.v.sA ea.v.v.s.length ea.v.sC, .slice ea.aA ea.args.length ea.aC, .slice ea.bA ea.src.length ea.bC] ++ dc ea.eff)] :: ZD :: ZE2 :: ZE1 :: R) w16 := hA17
  refine vc_yg hF rfl rfl rfl rfl (some_bool rfl) (by decide) _ (y_cmp (c := false) rfl rfl rfl rfl rfl) (fun a hF => ?_)
  refine vc_y hF rfl rfl (by decide) _ (y_pickF rfl rfl rfl rfl) (fun a hF => ?_)
  refine vc_nil ?_
  refine hK16 _ _ ?_; clear  hK16 K16
  refine vc_falseB hF rfl rfl ?_
  apply wp_skip
  refine hK15 _ _ ?_; clear  hK15 K15
  apply wp_seq_k; intro K17 hK17
  refine wp_region_lit ?_
  refine vc_op rfl (fun K hK => ws_call hF rfl (by decide) cl35_v9 rfl rfl ?_)
  with_reducible refine (ev_take_nil _ hA17 ).mono ?_
  rintro e' w18 ⟨rfl, hA19⟩
  refine ⟨_, rfl, fun a hF => hK _ _ ?_⟩
  clear hK K
  replace hA19 : Hp w0 (ZE4 :: ZE3 :: [row b7 31 ([.int .i64 ea.op, .int .i64 ea.num, .int .i64 ea.clk, strV ea.typ, strV ea.cas, strV ea.nam, .int .i64 ea.v.v.k, .int .i64 ea.v.v.n, strV ea.v.v.t, .slice ea.v.sA ea.v.v.s.length ea.v.sC, .slice ea.aA ea.args.length ea.aC, .slice ea.bA ea.src.length ea.bC] ++ dc ea.eff)] :: ZD :: ZE2 :: ZE1 :: R) w18 := hA19
  refine vc_y hF rfl rfl (by decide) _ (y_move rfl rfl) (fun a hF => ?_)
  refine vc_y hF rfl rfl (by decide) _ (y_extract (v := .agg ([.int .i64 0, .int .i64 0, strV [], .slice none 0 0]).toArray) rfl rfl rfl) (fun a hF => ?_)
  refine vc_y hF rfl rfl (by decide) _ (y_extract (v := .int .i64 1) rfl rfl rfl) (fun a hF => ?_)
  refine vc_op rfl (fun K hK => hs_alloc hF rfl (by decide) rfl hA19 (zr25_v9) (fun b20 w21 a hb20 hF hA22 => hK _ _ ?_))
  clear hK K
  replace hA22 : Hp w0 ([row b20 25 [.int .i64 0, .int .i64 0, .string (⟨#[]⟩), .slice none 0 0]] :: ZE4 :: ZE3 :: [row b7 31 ([.int .i64 ea.op, .int .i64 ea.num, .int .i64 ea.clk, strV ea.typ, strV ea.cas, strV ea.nam, .int .i64 ea.v.v.k, .int .i64 ea.v.v.n, strV ea.v.v.t, .slice ea.v.sA ea.v.v.s.length ea.v.sC, .slice ea.aA ea.args.length ea.aC, .slice ea.bA ea.src.length ea.bC] ++ dc ea.eff)] :: ZD :: ZE2 :: ZE1 :: R) w21 := hA22
  refine vc_op rfl (fun K hK => hs_storeAll (new := [.int .i64 0, .int .i64 0, strV [], .slice none 0 0]) hF rfl rfl hA22 rfl rfl 0 rfl rfl (by simp [Value.oneCell']) sz25_v9 (fun w23 hA24 => hK _ _ ?_))
  clear hK K
  replace hA24 : Hp w0 ([row b20 25 [.int .i64 0, .int .i64 0, strV [], .slice none 0 0]] :: ZE4 :: ZE3 :: [row b7 31 ([.int .i64 ea.op, .int .i64 ea.num, .int .i64 ea.clk, strV ea.typ, strV ea.cas, strV ea.nam, .int .i64 ea.v.v.k, .int .i64 ea.v.v.n, strV ea.v.v.t, .slice ea.v.sA ea.v.v.s.length ea.v.sC, .slice ea.aA ea.args.length ea.aC, .slice ea.bA ea.src.length ea.bC] ++ dc ea.eff)] :: ZD :: ZE2 :: ZE1 :: R) w23 := hA24
  refine vc_y hF rfl rfl (by decide) _ (y_assign rfl rfl) (fun a hF => ?_)
  refine vc_nil ?_
  refine hK17 _ _ ?_; clear  hK17 K17
  apply wp_seq_k; intro K18 hK18
  refine wp_region_lit ?_
  refine vc_y hF rfl rfl (by decide) _ (y_build0 rfl kB_e) (fun a hF => ?_)
  refine vc_y hF rfl rfl (by decide) _ (y_build (qs := #[(1, strV [105, 110])]) rfl rfl kB_c) (fun a hF => ?_)
  refine vc_op rfl (fun K hK => hs_makeU hF rfl (by decide) rfl hA24 Tryz.underlying23 k_mk (by decide) 65 rfl rfl rfl rfl (by decide) (by decide) (fun b25 w26 a hb25 hF hA27 => hK _ _ ?_))
  clear hK K
  replace hA27 : Hp w0 ([row b25 9 (List.replicate (65 * 1) (strV []))] :: [row b20 25 [.int .i64 0, .int .i64 0, strV [], .slice none 0 0]] :: ZE4 :: ZE3 :: [row b7 31 ([.int .i64 ea.op, .int .i64 ea.num, .int .i64 ea.clk, strV ea.typ, strV ea.cas, strV ea.nam, .int .i64 ea.v.v.k, .int .i64 ea.v.v.n, strV ea.v.v.t, .slice ea.v.sA ea.v.v.s.length ea.v.sC, .slice ea.aA ea.args.length ea.aC, .slice ea.bA ea.src.length ea.bC] ++ dc ea.eff)] :: ZD :: ZE2 :: ZE1 :: R) w26 := hA27
  refine vc_op rfl (fun K hK => ws_call hF rfl (by decide) cl24_v9 rfl rfl ?_)
  with_reducible refine (ev_state_no 0 (List.replicate 32 0) [] [105, 110] kCC _ _ _ _ hT (by decide) hA27 ).mono ?_
  rintro e' w28 ⟨rfl, hA29⟩
  refine ⟨_, rfl, fun a hF => hK _ _ ?_⟩
  clear hK K
  replace hA29 : Hp w0 ([row b25 9 (List.replicate (65 * 1) (strV []))] :: [row b20 25 [.int .i64 0, .int .i64 0, strV [], .slice none 0 0]] :: ZE4 :: ZE3 :: [row b7 31 ([.int .i64 ea.op, .int .i64 ea.num, .int .i64 ea.clk, strV ea.typ, strV ea.cas, strV ea.nam, .int .i64 ea.v.v.k, .int .i64 ea.v.v.n, strV ea.v.v.t, .slice ea.v.sA ea.v.v.s.length ea.v.sC, .slice ea.aA ea.args.length ea.aC, .slice ea.bA ea.src.length ea.bC] ++ dc ea.eff)] :: ZD :: ZE2 :: ZE1 :: R) w28 := hA29
  refine vc_y hF rfl rfl (by decide) _ (y_move rfl rfl) (fun a hF => ?_)
  refine vc_y hF rfl rfl (by decide) _ (y_extract (v := .slice none 0 0) rfl rfl rfl) (fun a hF => ?_)
  refine vc_y hF rfl rfl (by decide) _ (y_extract (v := .int .i64 34) rfl rfl rfl) (fun a hF => ?_)
  refine vc_y hF rfl rfl (by decide) _ (y_assign rfl rfl) (fun a hF => ?_)
  refine vc_y hF rfl rfl (by decide) _ (y_assign rfl rfl) (fun a hF => ?_)
  refine vc_nil ?_
  refine hK18 _ _ ?_; clear  hK18 K18
  apply wp_seq_k; intro K19 hK19
  refine wp_region_lit ?_
  refine vc_y hF rfl rfl (by decide) _ (y_build0 rfl kB_e) (fun a hF => ?_)
  refine vc_op rfl (fun K hK => hs_bs (qs := #[(0, strV [105, 110])]) (cells := #[strV [105, 110]]) hF rfl (by decide) rfl hA29 rfl k_bs (fun b30 w31 a hb30 hF hA32 => hK _ _ ?_))
  clear hK K
  replace hA32 : Hp w0 ([row b30 9 [strV [105, 110]]] :: [row b25 9 (List.replicate (65 * 1) (strV []))] :: [row b20 25 [.int .i64 0, .int .i64 0, strV [], .slice none 0 0]] :: ZE4 :: ZE3 :: [row b7 31 ([.int .i64 ea.op, .int .i64 ea.num, .int .i64 ea.clk, strV ea.typ, strV ea.cas, strV ea.nam, .int .i64 ea.v.v.k, .int .i64 ea.v.v.n, strV ea.v.v.t, .slice ea.v.sA ea.v.v.s.length ea.v.sC, .slice ea.aA ea.args.length ea.aC, .slice ea.bA ea.src.length ea.bC] ++ dc ea.eff)] :: ZD :: ZE2 :: ZE1 :: R) w31 := hA32
  refine vc_op rfl (fun K hK => ws_call hF rfl (by decide) cl29_v9 rfl rfl ?_)
  with_reducible refine (ev_table_no 0 0 (List.replicate 32 0) (some ⟨b30, 0, none⟩) 1 _ hA32 ).mono ?_
  rintro e' w33 ⟨rfl, hA34⟩
  refine ⟨_, rfl, fun a hF => hK _ _ ?_⟩
  clear hK K
  replace hA34 : Hp w0 ([row b30 9 [strV [105, 110]]] :: [row b25 9 (List.replicate (65 * 1) (strV []))] :: [row b20 25 [.int .i64 0, .int .i64 0, strV [], .slice none 0 0]] :: ZE4 :: ZE3 :: [row b7 31 ([.int .i64 ea.op, .int .i64 ea.num, .int .i64 ea.clk, strV ea.typ, strV ea.cas, strV ea.nam, .int .i64 ea.v.v.k, .int .i64 ea.v.v.n, strV ea.v.v.t, .slice ea.v.sA ea.v.v.s.length ea.v.sC, .slice ea.aA ea.args.length ea.aC, .slice ea.bA ea.src.length ea.bC] ++ dc ea.eff)] :: ZD :: ZE2 :: ZE1 :: R) w33 := hA34
  refine vc_y hF rfl rfl (by decide) _ (y_move rfl rfl) (fun a hF => ?_)
  refine vc_y hF rfl rfl (by decide) _ (y_extract (v := .slice none 0 0) rfl rfl rfl) (fun a hF => ?_)
  refine vc_y hF rfl rfl (by decide) _ (y_extract (v := .int .i64 1) rfl rfl rfl) (fun a hF => ?_)
  refine vc_y hF rfl rfl (by decide) _ (y_assign rfl rfl) (fun a hF => ?_)
  refine vc_y hF rfl rfl (by decide) _ (y_assign rfl rfl) (fun a hF => ?_)
  refine vc_nil ?_
  refine hK19 _ _ ?_; clear  hK19 K19
  apply wp_seq_k; intro K20 hK20
  refine wp_region_lit ?_
  refine vc_y hF rfl rfl (by decide) _ (y_move rfl rfl) (fun a hF => ?_)
  refine vc_y hF rfl rfl (by decide) _ (y_cmp (c := true) rfl rfl rfl rfl rfl) (fun a hF => ?_)
  refine vc_y hF rfl rfl (by decide) _ (y_move rfl rfl) (fun a hF => ?_)
  refine vc_yg hF rfl rfl rfl rfl (some_bool rfl) (by decide) _ (y_field rfl Tryz.underlying25 rfl sz22_v9 (by decide) rfl (rfl : (⟨_, 0 + _, none⟩ : Addr) = ⟨_, 0, none⟩)) (fun a hF => ?_)
  refine vc_yg hF rfl rfl rfl rfl (some_bool rfl) (by decide) _ (y_ld rfl hA34.q rfl 2 rfl rfl nr22_v9) (fun a hF => ?_)
  refine vc_yg hF rfl rfl rfl rfl (some_bool rfl) (by decide) _ (y_cmp (c := true) rfl rfl rfl rfl rfl) (fun a hF => ?_)
  refine vc_y hF rfl rfl (by decide) _ (y_pickT rfl rfl rfl rfl) (fun a hF => ?_)
  refine vc_y hF rfl rfl (by decide) _ (y_move rfl rfl) (fun a hF => ?_)
  refine vc_yg hF rfl rfl rfl rfl (some_bool rfl) (by decide) _ (y_move rfl rfl) (fun a hF => ?_)
  refine vc_yg hF rfl rfl rfl rfl (some_bool rfl) (by decide) _ (y_cmp (c := true) rfl rfl rfl rfl rfl) (fun a hF => ?_)
  refine vc_y hF rfl rfl (by decide) _ (y_pickT rfl rfl rfl rfl) (fun a hF => ?_)
  refine vc_y hF rfl rfl (by decide) _ (y_move rfl rfl) (fun a hF => ?_)
  refine vc_yg hF rfl rfl rfl rfl (some_bool rfl) (by decide) _ (y_move rfl rfl) (fun a hF => ?_)
  refine vc_yg hF rfl rfl rfl rfl (some_bool rfl) (by decide) _ (y_lenSl rfl Tryz.underlying27 rfl rfl) (fun a hF => ?_)
  refine vc_yg hF rfl rfl rfl rfl (some_bool rfl) (by decide) _ (y_cmp (c := true) rfl rfl rfl rfl rfl) (fun a hF => ?_)
  refine vc_y hF rfl rfl (by decide) _ (y_pickT rfl rfl rfl rfl) (fun a hF => ?_)
  refine vc_y hF rfl rfl (by decide) _ (y_move rfl rfl) (fun a hF => ?_)
  refine vc_yg hF rfl rfl rfl rfl (some_bool rfl) (by decide) _ (y_move rfl rfl) (fun a hF => ?_)
  refine vc_yg hF rfl rfl rfl rfl (some_bool rfl) (by decide) _ (y_cmp (c := true) rfl rfl rfl rfl rfl) (fun a hF => ?_)
  refine vc_y hF rfl rfl (by decide) _ (y_pickT rfl rfl rfl rfl) (fun a hF => ?_)
  refine vc_y hF rfl rfl (by decide) _ (y_move rfl rfl) (fun a hF => ?_)
  refine vc_yg hF rfl rfl rfl rfl (some_bool rfl) (by decide) _ (y_move rfl rfl) (fun a hF => ?_)
  refine vc_yg hF rfl rfl rfl rfl (some_bool rfl) (by decide) _ (y_lenSl rfl Tryz.underlying27 rfl rfl) (fun a hF => ?_)
  refine vc_yg hF rfl rfl rfl rfl (some_bool rfl) (by decide) _ (y_cmp (c := true) rfl rfl rfl rfl rfl) (fun a hF => ?_)
  refine vc_y hF rfl rfl (by decide) _ (y_pickT rfl rfl rfl rfl) (fun a hF => ?_)
  refine vc_y hF rfl rfl (by decide) _ (y_assign rfl rfl) (fun a hF => ?_)
  refine vc_nil ?_
  refine hK20 _ _ ?_; clear  hK20 K20
  apply wp_ret
  refine vc_ret1 hF Tryz.results15 rfl ?_
  have hA35 : Hp w0 (R) w33 := Hp.sel [[row b30 9 [strV [105, 110]]], [row b25 9 (List.replicate (65 * 1) (strV []))], [row b20 25 [.int .i64 0, .int .i64 0, strV [], .slice none 0 0]], ZE4, ZE3, [row b7 31 ([.int .i64 ea.op, .int .i64 ea.num, .int .i64 ea.clk, strV ea.typ, strV ea.cas, strV ea.nam, .int .i64 ea.v.v.k, .int .i64 ea.v.v.n, strV ea.v.v.t, .slice ea.v.sA ea.v.v.s.length ea.v.sC, .slice ea.aA ea.args.length ea.aC, .slice ea.bA ea.src.length ea.bC] ++ dc ea.eff)], ZD, ZE2, ZE1] R [] [0, 1, 2, 3, 4, 5, 6, 7, 8] hA34 rfl
  exact ⟨rfl, hA35⟩
end Go.Proofs.YtepbmdlgdaedpaaGreatDoor
