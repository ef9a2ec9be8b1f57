/- The reference: Climb and Check. -/
import Derived.Test.YtpomngkcfbnjoaaDoorSp4
namespace Go.Proofs.YtpomngkcfbnjoaaDoor
open Go.RowKit Go.Dk

def Prf.to (p : Prf) (width : Int) (k : List UInt8) : List UInt8 := if p.err width = 0 then p.lead width k 256 else List.replicate 32 0
theorem Prf.to_length (p : Prf) (width : Int) (k : List UInt8) : (p.to width k).length = 32 := by unfold Prf.to; split; exact p.lead_length ..; rfl
theorem sp_dig0 (w : World) : (Instr.build 23 #[]).run Tryd.prog w = .ok (.agg (dc (List.replicate 32 0)).toArray) w := by kernel_rfl
theorem sp_rempties (w0 w : World) (R : List Seg) (width : Int) (hA : Hp w0 R w) : Calls Tryd.prog 47 #[.int .i64 width] w fun e w' => ∃ A c Z, e = .returned (.slice A 257 c) ∧ Rc w0 [Z] A (digs (emptyL width) 257) ∧ Hp w0 (Z :: R) w' := by
  refine (empties_any w width).mono ?_
  rintro e w' ⟨v, X, rfl, hO, hw⟩
  obtain ⟨g, c, Z, rfl, _, hg, rfl⟩ := own_row hO (by decide)
  exact ⟨some ⟨g, 0, none⟩, c, _, rfl, Rc.ofRow (i := 0) (off := 0) rfl (by rw [List.drop_zero]; exact List.take_left' rfl), hA.thenNew hw (new1 hg)⟩
theorem sp_eight (w0 w : World) (R : List Seg) (n : Int) (hA : Hp w0 R w) : Calls Tryd.prog 49 #[.int .i64 n] w fun e w' => ∃ g, e = .returned (.slice (some ⟨g, 0, none⟩) 8 8) ∧ Hp w0 ([row g 5 (dc (be 8 (c64 n)))] :: R) w' := by
  refine (eight_any w n).mono ?_
  rintro e w' ⟨g, rfl, hg, hw⟩
  exact ⟨g, rfl, hA.thenNew hw (new1 hg)⟩
theorem sp_rtext0 (w0 w : World) (R : List Seg) (hA : Hp w0 R w) : Calls Tryd.prog 48 #[.int .i64 5, .slice none 0 0] w fun e w' => ∃ A c Z, e = .returned (.slice A ([5] : List UInt8).length c) ∧ Rd w0 [Z] A [5] ∧ Hp w0 (Z :: R) w' :=
  tt_rtext w0 w R [] (List.nil_subset _) 5 5 (by decide) none [] [] 0 0 rfl rfl (pcs_nil w0 []) (by decide) (by decide) hA
theorem sp_rtext2 (w0 w : World) (R : List Seg) (pa A B : Option Addr) (ca cb : Nat) (l m : List UInt8) (h : PcS w0 R pa [(A, ca, l), (B, cb, m)]) (hl : l.length = 32) (hm : m.length = 32) (hA : Hp w0 R w) : Calls Tryd.prog 48 #[.int .i64 4, .slice pa 2 2] w fun e w' => ∃ A2 c2 Z, e = .returned (.slice A2 (4 :: (l ++ m) : List UInt8).length c2) ∧ Rd w0 [Z] A2 (4 :: (l ++ m)) ∧ Hp w0 (Z :: R) w' := by
  have h1 := tt_rtext w0 w R R sub0 4 4 (by decide) pa [(A, ca, l), (B, cb, m)] [l, m] 2 2 rfl rfl h (by rw [flat2, List.length_append]; omega) (by decide) hA
  rw [flat2] at h1
  exact h1
theorem sp_rtext3 (w0 w : World) (R : List Seg) (pa A B C : Option Addr) (ca cb cc : Nat) (l m k : List UInt8) (h : PcS w0 R pa [(A, ca, l), (B, cb, m), (C, cc, k)]) (hl : l.length = 32) (hm : m.length = 8) (hk : k.length = 32) (hA : Hp w0 R w) : Calls Tryd.prog 48 #[.int .i64 3, .slice pa 3 3] w fun e w' => ∃ A2 c2 Z, e = .returned (.slice A2 (3 :: (l ++ m ++ k) : List UInt8).length c2) ∧ Rd w0 [Z] A2 (3 :: (l ++ m ++ k)) ∧ Hp w0 (Z :: R) w' := by
  have h1 := tt_rtext w0 w R R sub0 3 3 (by decide) pa [(A, ca, l), (B, cb, m), (C, cc, k)] [l, m, k] 3 3 rfl rfl h (by rw [flat3, List.length_append, List.length_append]; omega) (by decide) hA
  rw [flat3] at h1
  exact h1
structure RTxsS (w0 : World) (ts : List TxX) (L : List (List UInt8)) (tv : Value) (XL : Seg) : Prop where
  oks : ∀ t ∈ ts, t.Ok w0
  txt : ts.map (·.l) = L
  lst : Buf 59 1 XL tv ts.length (ts.map (·.v))
theorem RTxsS.snoc {w0 : World} {ts : List TxX} {L : List (List UInt8)} {tv v2 : Value} {XL X2 Z : Seg} {l : List UInt8} {A : Option Addr} {c : Nat} (h : RTxsS w0 ts L tv XL) (hZ : Rd w0 [Z] A l) (h2 : Buf 59 1 X2 v2 (ts.length + 1) (ts.map (·.v) ++ [.slice A l.length c])) : RTxsS w0 (ts ++ [⟨.slice A l.length c, l, Z⟩]) (L ++ [l]) v2 X2 := by
  refine ⟨fun t ht => ?_, by rw [List.map_append, h.txt]; rfl, by rw [List.length_append, List.map_append]; exact h2⟩
  rcases List.mem_append.1 ht with ht | ht
  · exact h.oks t ht
  · rw [List.mem_singleton.1 ht]; exact ⟨A, c, rfl, hZ⟩
theorem RTxsS.len {w0 : World} {ts : List TxX} {L : List (List UInt8)} {tv : Value} {XL : Seg} (h : RTxsS w0 ts L tv XL) : ts.length = L.length := by rw [← h.txt, List.length_map]
theorem RTxsS.none (w0 : World) : RTxsS w0 [] [] (.slice Option.none 0 0) [] := ⟨(fun _ h => by cases h), rfl, Buf.nil _ _⟩
theorem byte0_ne {D : List UInt8} {b : Nat} (h : cmpB .neq ((bAt D b).toNat : Int) 0 = false) : bAt D b = 0 := by
  apply UInt8.toNat_inj.1
  have h1 : ((bAt D b).toNat : Int) = 0 := by simpa [cmpB] using h
  show (bAt D b).toNat = 0
  omega
theorem kept_int (width : Int) : ((kept width : Nat) : Int) = min (max width 1) 32 := by unfold kept; omega
theorem Prf.side_of {p : Prf} {width : Int} {h : Nat} (b : bitOf p.bs h = true) : p.dig h = p.side width h := by unfold Prf.side; rw [if_pos b]
theorem Prf.side_no {p : Prf} {width : Int} {h : Nat} (b : bitOf p.bs h = false) : emptyL width h = p.side width h := by unfold Prf.side; rw [b]; rfl
theorem nr3_s5 : notRow Tryd.prog 3 = true := by kernel_rfl
theorem nr4_s5 : notRow Tryd.prog 4 = true := by kernel_rfl
theorem nr5_s5 : notRow Tryd.prog 5 = true := by kernel_rfl
theorem nr26_s5 : notRow Tryd.prog 26 = true := by kernel_rfl
theorem rw23_s5 : isRow Tryd.prog 23 32 = true := by kernel_rfl
theorem rw25_s5 : isRow Tryd.prog 25 33 = true := by kernel_rfl
theorem rw28_s5 : isRow Tryd.prog 28 67 = true := by kernel_rfl
theorem sz3_s5 : (Tryd.prog.info? 3).map (·.size) = some 1 := by kernel_rfl
theorem sz4_s5 : (Tryd.prog.info? 4).map (·.size) = some 1 := by kernel_rfl
theorem sz5_s5 : (Tryd.prog.info? 5).map (·.size) = some 1 := by kernel_rfl
theorem sz23_s5 : (Tryd.prog.info? 23).map (·.size) = some 32 := by kernel_rfl
theorem sz25_s5 : (Tryd.prog.info? 25).map (·.size) = some 33 := by kernel_rfl
theorem sz26_s5 : (Tryd.prog.info? 26).map (·.size) = some 1 := by kernel_rfl
theorem cl15_s5 : CallsTo Tryd.prog 15 := ⟨_, Tryd.func15, by kernel_rfl, by kernel_rfl⟩
theorem cl45_s5 : CallsTo Tryd.prog 45 := ⟨_, Tryd.func45, by kernel_rfl, by kernel_rfl⟩
theorem cl46_s5 : CallsTo Tryd.prog 46 := ⟨_, Tryd.func46, by kernel_rfl, by kernel_rfl⟩
theorem cl47_s5 : CallsTo Tryd.prog 47 := ⟨_, Tryd.func47, by kernel_rfl, by kernel_rfl⟩
theorem cl48_s5 : CallsTo Tryd.prog 48 := ⟨_, Tryd.func48, by kernel_rfl, by kernel_rfl⟩
theorem cl49_s5 : CallsTo Tryd.prog 49 := ⟨_, Tryd.func49, by kernel_rfl, by kernel_rfl⟩
theorem cl50_s5 : CallsTo Tryd.prog 50 := ⟨_, Tryd.func50, by kernel_rfl, by kernel_rfl⟩
theorem cl51_s5 : CallsTo Tryd.prog 51 := ⟨_, Tryd.func51, by kernel_rfl, by kernel_rfl⟩
theorem cl52_s5 : CallsTo Tryd.prog 52 := ⟨_, Tryd.func52, by kernel_rfl, by kernel_rfl⟩

theorem zr23_s5 : zeroIs Tryd.prog 23 (.agg (dc (List.replicate 32 0)).toArray) := by unfold zeroIs; kernel_rfl

set_option maxRecDepth 100000 in
set_option maxHeartbeats 2000000 in
theorem sp_rclimb (w0 w : World) (R G : List Seg) (hG : G ⊆ R) (p : Prf) (sA : Option Addr) (sC : Nat) (width : Int) (k : List UInt8) (hp : p.OK) (hk : k.length = 32) (hS : Rc w0 G sA (digV p.ss)) (hA : Hp w0 R w) : Calls Tryd.prog 15 #[.int .i64 width, .agg (dc k).toArray, .agg (p.cells (.slice sA p.ss.length sC)).toArray] w fun e w' => ∃ ts tv XL, e = .returned (.tuple #[tv, .agg (dc (p.to width k)).toArray, .int .i64 ((p.err width : Nat) : Int)]) ∧ RTxsS w0 ts (if p.err width = 0 then p.texts width k 257 else []) tv XL ∧ Hp w0 (XL :: txS ts :: R) w' := by
  have hdk : (dc k).length = 32 := by rw [dc_length, hk]
  refine vc_enter Tryd.func15 rfl Tryd.ntmps15 (Nat.le_of_ble_eq_true rfl) (fun a hF => ?_)
  apply wp_seq_k; intro K1 hK1
  refine wp_region_lit ?_
  refine vc_op rfl (fun K hK => hs_box (cs := dc k) hF rfl (by decide) rfl hA rfl (fun b1 w2 a hb1 hF hA3 => hK _ _ ?_))
  clear hK K
  replace hA3 : Hp w0 ([row b1 23 (dc k)] :: R) w2 := hA3
  refine vc_op rfl (fun K hK => hs_box (cs := p.cells (.slice sA p.ss.length sC)) hF rfl (by decide) rfl hA3 rfl (fun b4 w5 a hb4 hF hA6 => hK _ _ ?_))
  clear hK K
  replace hA6 : Hp w0 ([row b4 28 (p.cells (.slice sA p.ss.length sC))] :: [row b1 23 (dc k)] :: R) w5 := hA6
  refine vc_y hF rfl rfl (by decide) _ (y_assign rfl rfl) (fun a hF => ?_)
  refine vc_op rfl (fun K hK => hs_alloc hF rfl (by decide) rfl hA6 (zr23_s5) (fun b7 w8 a hb7 hF hA9 => hK _ _ ?_))
  clear hK K
  replace hA9 : Hp w0 ([row b7 23 (dc (List.replicate 32 0))] :: [row b4 28 (p.cells (.slice sA p.ss.length sC))] :: [row b1 23 (dc k)] :: R) w8 := hA9
  refine vc_y hF rfl rfl (by decide) _ (y_assign rfl rfl) (fun a hF => ?_)
  refine vc_nil ?_
  refine hK1 _ _ ?_; clear  hK1 K1
  apply wp_seq_k; intro K2 hK2
  refine wp_region_lit ?_
  refine vc_y hF rfl rfl (by decide) _ (y_build0 rfl sp_dig0) (fun a hF => ?_)
  refine vc_op rfl (fun K hK => hs_alloc hF rfl (by decide) rfl hA9 (zr23_s5) (fun b10 w11 a hb10 hF hA12 => hK _ _ ?_))
  clear hK K
  replace hA12 : Hp w0 ([row b10 23 (dc (List.replicate 32 0))] :: [row b7 23 (dc (List.replicate 32 0))] :: [row b4 28 (p.cells (.slice sA p.ss.length sC))] :: [row b1 23 (dc k)] :: R) w11 := hA12
  refine vc_op rfl (fun K hK => hs_storeAll (new := dc (List.replicate 32 0)) hF rfl rfl hA12 rfl rfl 0 rfl rfl (dc_one _) sz23_s5 (fun w13 hA14 => hK _ _ ?_))
  clear hK K
  replace hA14 : Hp w0 ([row b10 23 (dc (List.replicate 32 0))] :: [row b7 23 (dc (List.replicate 32 0))] :: [row b4 28 (p.cells (.slice sA p.ss.length sC))] :: [row b1 23 (dc k)] :: R) w13 := hA14
  refine vc_nil ?_
  refine hK2 _ _ ?_; clear  hK2 K2
  apply wp_seq_k; intro K3 hK3
  refine wp_region_lit ?_
  refine vc_y hF rfl rfl (by decide) _ (y_assign rfl rfl) (fun a hF => ?_)
  refine vc_nil ?_
  refine hK3 _ _ ?_; clear  hK3 K3
  apply wp_seq_k; intro K4 hK4
  apply wp_seq_k; intro K5 hK5
  refine wp_region_lit ?_
  refine vc_y hF rfl rfl (by decide) _ (y_assign rfl rfl) (fun a hF => ?_)
  refine vc_nil ?_
  refine hK5 _ _ ?_; clear  hK5 K5
  apply wp_block
  have hz32 : (dc (List.replicate 32 0)).length = 32 := rfl
  have hA15 : Hp w0 ([row b1 23 (dc k)] :: [row b4 28 (p.cells (.slice sA p.ss.length sC))] :: [row b7 23 (dc (List.replicate 32 0))] :: [row b10 23 (dc (List.replicate 32 0))] :: R) w13 := Hp.ord [[row b10 23 (dc (List.replicate 32 0))], [row b7 23 (dc (List.replicate 32 0))], [row b4 28 (p.cells (.slice sA p.ss.length sC))], [row b1 23 (dc k)]] R [3, 2, 1, 0] hA14 rfl
  refine vc_loop (G := Nat) (fun h a x => h ≤ 256 ∧ Fr 159 [(11, .int .i64 (h : Int)), (10, .int .i64 ((onesN p.bs h : Nat) : Int)), (0, .int .i64 width), (4, .pointer (some ⟨b1, 0, none⟩)), (5, .pointer (some ⟨b4, 0, none⟩)), (7, .pointer (some ⟨b7, 0, none⟩)), (9, .pointer (some ⟨b10, 0, none⟩))] a ∧ Hp w0 ([row b1 23 (dc k)] :: [row b4 28 (p.cells (.slice sA p.ss.length sC))] :: [row b7 23 (dc (List.replicate 32 0))] :: [row b10 23 (dc (List.replicate 32 0))] :: R) x) (fun h => 256 - h) 0 (⟨Nat.zero_le _, hF.keep [11, 10, 0, 4, 5, 7, 9] rfl, hA15⟩) ?_
  clear hF
  rintro h a w17 ⟨hh, hF, hA16⟩
  apply wp_seq_k; intro K6 hK6
  apply wp_seq_k; intro K7 hK7
  refine wp_region_lit ?_
  refine vc_y hF rfl rfl (by decide) _ (y_move rfl rfl) (fun a hF => ?_)
  refine vc_y hF rfl rfl (by decide) _ (y_cmp rfl rfl rfl rfl rfl) (fun a hF => ?_)
  refine vc_nil ?_
  refine hK7 _ _ ?_; clear  hK7 K7
  by_cases hlt : h < 256
  · refine vc_trueB hF rfl (lss_t (by omega)) ?_
    have hol := onesN_le p.bs h
    apply wp_skip
    refine hK6 _ _ ?_; clear  hK6 K6
    apply wp_seq_k; intro K8 hK8
    apply wp_block
    apply wp_seq_k; intro K9 hK9
    refine wp_region_lit ?_
    refine vc_y hF rfl rfl (by decide) _ (y_ldRow rfl hA16.q rfl 1 rfl rw28_s5 (by rw [Prf.c_len hp]; decide) (Prf.c_all hp)) (fun a hF => ?_)
    refine vc_y hF rfl rfl (by decide) _ (y_move rfl rfl) (fun a hF => ?_)
    refine vc_op rfl (fun K hK => ws_call hF rfl (by decide) cl45_s5 rfl rfl ?_)
    with_reducible refine (sp_set w0 _ ([row b1 23 (dc k)] :: [row b4 28 (p.cells (.slice sA p.ss.length sC))] :: [row b7 23 (dc (List.replicate 32 0))] :: [row b10 23 (dc (List.replicate 32 0))] :: R) p (.slice sA p.ss.length sC) hp h hlt hA16 ).mono ?_
    rintro e' w18 ⟨rfl, hA19⟩
    refine ⟨_, rfl, fun a hF => hK _ _ ?_⟩
    clear hK K
    replace hA19 : Hp w0 ([row b1 23 (dc k)] :: [row b4 28 (p.cells (.slice sA p.ss.length sC))] :: [row b7 23 (dc (List.replicate 32 0))] :: [row b10 23 (dc (List.replicate 32 0))] :: R) w18 := hA19
    refine vc_nil ?_
    refine hK9 _ _ ?_; clear  hK9 K9
    by_cases hb : bitOf p.bs h = true
    · have ho : onesN p.bs (h + 1) = onesN p.bs h + 1 := by show onesN p.bs h + bitN p.bs h = _; rw [bitN_of hb]
      refine vc_trueB hF rfl hb ?_
      refine wp_region_lit ?_
      refine vc_y hF rfl rfl (by decide) _ (y_move rfl rfl) (fun a hF => ?_)
      refine vc_y hF rfl rfl (by decide) _ (y_add rfl rfl rfl (show IntKind.i64.wrap (((onesN p.bs h : Nat) : Int) + 1) = ((onesN p.bs (h + 1) : Nat) : Int) by rw [IntWalk.i64_in _ (by omega), ho]; omega)) (fun a hF => ?_)
      refine vc_y hF rfl rfl (by decide) _ (y_assign rfl rfl) (fun a hF => ?_)
      refine vc_nil ?_
      refine hK8 _ _ ?_; clear  hK8 K8
      refine wp_region_lit ?_
      refine vc_y hF rfl rfl (by decide) _ (y_move rfl rfl) (fun a hF => ?_)
      refine vc_y hF rfl rfl (by decide) _ (y_add rfl rfl rfl (IntWalk.i64_in _ (by omega))) (fun a hF => ?_)
      refine vc_y hF rfl rfl (by decide) _ (y_assign rfl rfl) (fun a hF => ?_)
      refine vc_nil ?_
      exact ⟨h + 1, by omega, by omega, hF.keep [11, 10, 0, 4, 5, 7, 9] rfl, hA19⟩
    · have hb0 : bitOf p.bs h = false := by simpa using hb
      have ho : onesN p.bs (h + 1) = onesN p.bs h := by show onesN p.bs h + bitN p.bs h = _; rw [bitN_no hb0]; rfl
      refine vc_falseB hF rfl hb0 ?_
      apply wp_skip
      refine hK8 _ _ ?_; clear  hK8 K8
      refine wp_region_lit ?_
      refine vc_y hF rfl rfl (by decide) _ (y_move rfl rfl) (fun a hF => ?_)
      refine vc_y hF rfl rfl (by decide) _ (y_add rfl rfl rfl (IntWalk.i64_in _ (by omega))) (fun a hF => ?_)
      refine vc_y hF rfl rfl (by decide) _ (y_assign rfl rfl) (fun a hF => ?_)
      refine vc_nil ?_
      rw [← ho] at hF
      exact ⟨h + 1, by omega, by omega, hF.keep [11, 10, 0, 4, 5, 7, 9] rfl, hA19⟩
  · refine vc_falseB hF rfl (lss_f (by omega)) ?_
    obtain rfl : h = 256 := by omega
    have hol := onesN_le p.bs 256
    apply wp_exit
    refine hK4 _ _ ?_; clear hK6 K6 hK4 K4
    apply wp_seq_k; intro K10 hK10
    apply wp_seq_k; intro K11 hK11
    have hGood : ∀ (a : Act) (x : World), p.formed = true → Fr 159 [(58, .bool false), (0, .int .i64 width), (4, .pointer (some ⟨b1, 0, none⟩)), (5, .pointer (some ⟨b4, 0, none⟩)), (7, .pointer (some ⟨b7, 0, none⟩)), (9, .pointer (some ⟨b10, 0, none⟩))] a → Hp w0 ([row b1 23 (dc k)] :: [row b4 28 (p.cells (.slice sA p.ss.length sC))] :: [row b7 23 (dc (List.replicate 32 0))] :: [row b10 23 (dc (List.replicate 32 0))] :: R) x → K11 a x := by
      clear hF
      intro a x hf hF hAj
      refine hK11 _ _ ?_; clear  hK11 K11
      refine vc_false hF rfl ?_
      apply wp_skip
      refine hK10 _ _ ?_; clear  hK10 K10
      apply wp_seq_k; intro K12 hK12
      refine wp_region_lit ?_
      refine vc_y hF rfl rfl (by decide) _ (y_move rfl rfl) (fun a hF => ?_)
      refine vc_op rfl (fun K hK => ws_call hF rfl (by decide) cl47_s5 rfl rfl ?_)
      with_reducible refine (sp_rempties w0 _ ([row b1 23 (dc k)] :: [row b4 28 (p.cells (.slice sA p.ss.length sC))] :: [row b7 23 (dc (List.replicate 32 0))] :: [row b10 23 (dc (List.replicate 32 0))] :: R) width hAj ).mono ?_
      rintro e' w20 ⟨AE, cE, ZE, rfl, hRE, hA21⟩
      refine ⟨_, rfl, fun a hF => hK _ _ ?_⟩
      clear hK K
      replace hA21 : Hp w0 (ZE :: [row b1 23 (dc k)] :: [row b4 28 (p.cells (.slice sA p.ss.length sC))] :: [row b7 23 (dc (List.replicate 32 0))] :: [row b10 23 (dc (List.replicate 32 0))] :: R) w20 := hA21
      refine vc_y hF rfl rfl (by decide) _ (y_assign rfl rfl) (fun a hF => ?_)
      refine vc_nil ?_
      refine hK12 _ _ ?_; clear  hK12 K12
      apply wp_seq_k; intro K13 hK13
      refine wp_region_lit ?_
      refine vc_y hF rfl rfl (by decide) _ (y_move rfl rfl) (fun a hF => ?_)
      refine vc_y hF rfl rfl (by decide) _ (y_assign rfl rfl) (fun a hF => ?_)
      refine vc_nil ?_
      refine hK13 _ _ ?_; clear  hK13 K13
      apply wp_seq_k; intro K14 hK14
      apply wp_seq_k; intro K15 hK15
      refine wp_region_lit ?_
      refine vc_y hF rfl rfl (by decide) _ (y_move rfl rfl) (fun a hF => ?_)
      refine vc_y hF rfl rfl (by decide) _ (y_cmp rfl rfl rfl rfl rfl) (fun a hF => ?_)
      refine vc_nil ?_
      refine hK15 _ _ ?_; clear  hK15 K15
      have hJ1 : ∀ (a : Act) (x : World) (z : Int), z = max width 1 → Fr 159 [(13, .int .i64 z), (0, .int .i64 width), (4, .pointer (some ⟨b1, 0, none⟩)), (5, .pointer (some ⟨b4, 0, none⟩)), (7, .pointer (some ⟨b7, 0, none⟩)), (9, .pointer (some ⟨b10, 0, none⟩)), (12, .slice AE 257 cE)] a → Hp w0 (ZE :: [row b1 23 (dc k)] :: [row b4 28 (p.cells (.slice sA p.ss.length sC))] :: [row b7 23 (dc (List.replicate 32 0))] :: [row b10 23 (dc (List.replicate 32 0))] :: R) x → K14 a x := by
        clear hF
        intro a x z hz hF hAj
        refine hK14 _ _ ?_; clear  hK14 K14
        apply wp_seq_k; intro K16 hK16
        apply wp_seq_k; intro K17 hK17
        refine wp_region_lit ?_
        refine vc_y hF rfl rfl (by decide) _ (y_move rfl rfl) (fun a hF => ?_)
        refine vc_y hF rfl rfl (by decide) _ (y_cmp rfl rfl rfl rfl rfl) (fun a hF => ?_)
        refine vc_nil ?_
        refine hK17 _ _ ?_; clear  hK17 K17
        have hJ2 : ∀ (a : Act) (x : World) (z : Int), z = ((kept width : Nat) : Int) → Fr 159 [(13, .int .i64 z), (0, .int .i64 width), (4, .pointer (some ⟨b1, 0, none⟩)), (5, .pointer (some ⟨b4, 0, none⟩)), (7, .pointer (some ⟨b7, 0, none⟩)), (9, .pointer (some ⟨b10, 0, none⟩)), (12, .slice AE 257 cE)] a → Hp w0 (ZE :: [row b1 23 (dc k)] :: [row b4 28 (p.cells (.slice sA p.ss.length sC))] :: [row b7 23 (dc (List.replicate 32 0))] :: [row b10 23 (dc (List.replicate 32 0))] :: R) x → K16 a x := by
          clear hF
          intro a x z hz2 hF hAj
          subst hz2
          refine hK16 _ _ ?_; clear  hK16 K16
          apply wp_seq_k; intro K18 hK18
          refine wp_region_lit ?_
          refine vc_y hF rfl rfl (by decide) _ (y_assign rfl rfl) (fun a hF => ?_)
          refine vc_nil ?_
          refine hK18 _ _ ?_; clear  hK18 K18
          apply wp_seq_k; intro K19 hK19
          apply wp_seq_k; intro K20 hK20
          refine wp_region_lit ?_
          refine vc_y hF rfl rfl (by decide) _ (y_assign rfl rfl) (fun a hF => ?_)
          refine vc_nil ?_
          refine hK20 _ _ ?_; clear  hK20 K20
          apply wp_block
          refine vc_loop (G := Nat) (fun h a x => h ≤ 256 ∧ p.bad width h = false ∧ Fr 159 [(15, .int .i64 (h : Int)), (14, .int .i64 ((onesN p.bs h : Nat) : Int)), (0, .int .i64 width), (4, .pointer (some ⟨b1, 0, none⟩)), (5, .pointer (some ⟨b4, 0, none⟩)), (7, .pointer (some ⟨b7, 0, none⟩)), (9, .pointer (some ⟨b10, 0, none⟩)), (12, .slice AE 257 cE), (13, .int .i64 ((kept width : Nat) : Int))] a ∧ Hp w0 (ZE :: [row b1 23 (dc k)] :: [row b4 28 (p.cells (.slice sA p.ss.length sC))] :: [row b7 23 (dc (List.replicate 32 0))] :: [row b10 23 (dc (List.replicate 32 0))] :: R) x) (fun h => 256 - h) 0 (⟨Nat.zero_le _, rfl, hF.keep [15, 14, 0, 4, 5, 7, 9, 12, 13] rfl, hAj⟩) ?_
          clear hF
          rintro h a w23 ⟨hh, hbad, hF, hA22⟩
          apply wp_seq_k; intro K21 hK21
          apply wp_seq_k; intro K22 hK22
          refine wp_region_lit ?_
          refine vc_y hF rfl rfl (by decide) _ (y_move rfl rfl) (fun a hF => ?_)
          refine vc_y hF rfl rfl (by decide) _ (y_cmp rfl rfl rfl rfl rfl) (fun a hF => ?_)
          refine vc_nil ?_
          refine hK22 _ _ ?_; clear  hK22 K22
          by_cases hlt : h < 256
          · refine vc_trueB hF rfl (lss_t (by omega)) ?_
            apply wp_skip
            refine hK21 _ _ ?_; clear  hK21 K21
            apply wp_seq_k; intro K23 hK23
            apply wp_block
            apply wp_seq_k; intro K24 hK24
            apply wp_seq_k; intro K25 hK25
            refine wp_region_lit ?_
            refine vc_y hF rfl rfl (by decide) _ (y_ldRow rfl hA22.q rfl 2 rfl rw28_s5 (by rw [Prf.c_len hp]; decide) (Prf.c_all hp)) (fun a hF => ?_)
            refine vc_y hF rfl rfl (by decide) _ (y_move rfl rfl) (fun a hF => ?_)
            refine vc_op rfl (fun K hK => ws_call hF rfl (by decide) cl45_s5 rfl rfl ?_)
            with_reducible refine (sp_set w0 _ (ZE :: [row b1 23 (dc k)] :: [row b4 28 (p.cells (.slice sA p.ss.length sC))] :: [row b7 23 (dc (List.replicate 32 0))] :: [row b10 23 (dc (List.replicate 32 0))] :: R) p (.slice sA p.ss.length sC) hp h hlt hA22 ).mono ?_
            rintro e' w24 ⟨rfl, hA25⟩
            refine ⟨_, rfl, fun a hF => hK _ _ ?_⟩
            clear hK K
            replace hA25 : Hp w0 (ZE :: [row b1 23 (dc k)] :: [row b4 28 (p.cells (.slice sA p.ss.length sC))] :: [row b7 23 (dc (List.replicate 32 0))] :: [row b10 23 (dc (List.replicate 32 0))] :: R) w24 := hA25
            refine vc_y hF rfl rfl (by decide) _ (y_not rfl rfl rfl) (fun a hF => ?_)
            refine vc_nil ?_
            refine hK25 _ _ ?_; clear  hK25 K25
            by_cases hb : bitOf p.bs h = true
            · refine vc_falseB hF rfl (by rw [hb]; rfl) ?_
              obtain ⟨hsl, hsat⟩ := Prf.dig_at hf hb hlt
              have hdl : (p.dig h).length = 32 := Prf.dig_length hp hf hb hlt
              have hddl : (dc (p.dig h)).length = 32 := by rw [dc_length, hdl]
              obtain ⟨hsr, hsr2⟩ := ss_rd hp hsat
              obtain ⟨b, q, hsA, hc⟩ := hS.ne (i := onesN p.bs h * 32) (by omega)
              have ho : onesN p.bs (h + 1) = onesN p.bs h + 1 := by show onesN p.bs h + bitN p.bs h = _; rw [bitN_of hb]
              have hol := onesN_le p.bs h
              have hdle := emptyL_length width
              obtain ⟨herd, hele⟩ := digs_rd (emptyL width) 257 h (fun i _ => hdle i) (by omega)
              obtain ⟨be_, qe, hAE, hce⟩ := hRE.ne (i := h * 32) (by omega)
              apply wp_skip
              refine hK24 _ _ ?_; clear  hK24 K24
              apply wp_seq_k; intro K26 hK26
              refine wp_region_lit ?_
              refine vc_y hF rfl rfl (by decide) _ (y_field rfl Tryd.underlying28 rfl sz26_s5 (by decide) rfl (rfl : (⟨_, 0 + _, none⟩ : Addr) = ⟨_, 66, none⟩)) (fun a hF => ?_)
              refine vc_y hF rfl rfl (by decide) _ (y_ld rfl hA25.q rfl 2 rfl (Prf.c_sums hp) nr26_s5) (fun a hF => ?_)
              refine vc_y hF rfl rfl (by decide) _ (y_move rfl rfl) (fun a hF => ?_)
              refine vc_y hF rfl rfl (by decide) _ (y_ixSl rfl Tryd.underlying26 sz23_s5 (by exact congrArg (fun A => some (Value.slice A p.ss.length sC)) hsA) rfl (onesN p.bs h) rfl hsl rfl) (fun a hF => ?_)
              refine vc_y hF rfl rfl (by decide) _ (y_ldRowC rfl (Hq.sub hA25.q (List.Subset.trans hG (subC (subC (subC (subC (subC (sub0)))))))) rfl hc (onesN p.bs h * 32) hsr2 rfl hsr rw23_s5) (fun a hF => ?_)
              refine vc_op rfl (fun K hK => hs_alloc hF rfl (by decide) rfl hA25 (zr23_s5) (fun b26 w27 a hb26 hF hA28 => hK _ _ ?_))
              clear hK K
              replace hA28 : Hp w0 ([row b26 23 (dc (List.replicate 32 0))] :: ZE :: [row b1 23 (dc k)] :: [row b4 28 (p.cells (.slice sA p.ss.length sC))] :: [row b7 23 (dc (List.replicate 32 0))] :: [row b10 23 (dc (List.replicate 32 0))] :: R) w27 := hA28
              refine vc_op rfl (fun K hK => hs_storeAll (new := dc (p.dig h)) hF rfl rfl hA28 rfl rfl 0 rfl (by rw [hddl]; rfl) (dc_one _) sz23_s5 (fun w29 hA30 => hK _ _ ?_))
              clear hK K
              replace hA30 : Hp w0 ([row b26 23 (dc (p.dig h))] :: ZE :: [row b1 23 (dc k)] :: [row b4 28 (p.cells (.slice sA p.ss.length sC))] :: [row b7 23 (dc (List.replicate 32 0))] :: [row b10 23 (dc (List.replicate 32 0))] :: R) w29 := hA30
              refine vc_nil ?_
              refine hK26 _ _ ?_; clear  hK26 K26
              apply wp_seq_k; intro K27 hK27
              refine wp_region_lit ?_
              refine vc_y hF rfl rfl (by decide) _ (y_move rfl rfl) (fun a hF => ?_)
              refine vc_y hF rfl rfl (by decide) _ (y_add rfl rfl rfl (show IntKind.i64.wrap (((onesN p.bs h : Nat) : Int) + 1) = ((onesN p.bs (h + 1) : Nat) : Int) by rw [IntWalk.i64_in _ (by omega), ho]; omega)) (fun a hF => ?_)
              refine vc_y hF rfl rfl (by decide) _ (y_assign rfl rfl) (fun a hF => ?_)
              refine vc_nil ?_
              refine hK27 _ _ ?_; clear  hK27 K27
              apply wp_seq_k; intro K28 hK28
              apply wp_seq_k; intro K29 hK29
              by_cases heq : p.dig h = emptyL width h
              · refine wp_region_plan 5 [5] [0,1,2,3,4,5] (fun x => Hq w0 ([row b26 23 (dc (p.dig h))] :: ZE :: [row b1 23 (dc k)] :: [row b4 28 (p.cells (.slice sA p.ss.length sC))] :: [row b7 23 (dc (List.replicate 32 0))] :: [row b10 23 (dc (List.replicate 32 0))] :: R) x) (by kernel_rfl) (by kernel_rfl) (Hq.drew (Hp.qp [[row b26 23 (dc (p.dig h))], ZE, [row b1 23 (dc k)], [row b4 28 (p.cells (.slice sA p.ss.length sC))], [row b7 23 (dc (List.replicate 32 0))], [row b10 23 (dc (List.replicate 32 0))]] R [0, 1, 2, 3, 4, 5] hA30)) ?_
                have hA31 := Hl.drew hA30
                refine vp_y hF rfl rfl rfl rfl (by decide) _ (fun x hx => y_ldRow (new := dc (p.dig h)) rfl hx rfl 0 rfl rw23_s5 (by rw [hddl]; exact Nat.le_refl _) (by rw [List.drop_zero]; exact List.take_of_length_le (by rw [hddl]; exact Nat.le_refl _))) (fun a hF => ?_)
                refine vp_y hF rfl rfl rfl rfl (by decide) _ (fun x hx => y_move rfl rfl) (fun a hF => ?_)
                refine vp_y hF rfl rfl rfl rfl (by decide) _ (fun x hx => y_move rfl rfl) (fun a hF => ?_)
                refine vp_y hF rfl rfl rfl rfl (by decide) _ (fun x hx => y_ixSl rfl Tryd.underlying26 sz23_s5 (by exact congrArg (fun A => some (Value.slice A 257 cE)) hAE) rfl h rfl (by omega) rfl) (fun a hF => ?_)
                refine vp_y hF rfl rfl rfl rfl (by decide) _ (fun x hx => y_ldRowC rfl (Hq.sub hx (sub1 (List.mem_cons_of_mem _ ((List.mem_cons_self ..))))) rfl hce (h * 32) hele rfl herd rw23_s5) (fun a hF => ?_)
                refine vp_ly hF rfl rfl rfl rfl (by decide) _ (y_eqB rfl Tryd.underlying23 Tryd.underlying5 sz5_s5 (by kernel_rfl) rfl rfl hdl (hdle h) (decide_eq_true heq)) (fun h => absurd h (by decide)) (fun a hF => ?_)
                refine plan_end ?_
                refine hK29 _ _ ?_; clear  hK29 K29
                refine vc_true hF rfl ?_
                have hbt : p.badAt width h = true := by unfold Prf.badAt; rw [hb]; simp [heq]
                apply wp_seq_k; intro K30 hK30
                refine wp_region_plan 2 [2,3] [0,1,2,3] (fun x => Hq w0 ([row b26 23 (dc (p.dig h))] :: ZE :: [row b1 23 (dc k)] :: [row b4 28 (p.cells (.slice sA p.ss.length sC))] :: [row b7 23 (dc (List.replicate 32 0))] :: [row b10 23 (dc (List.replicate 32 0))] :: R) x) (by kernel_rfl) (by kernel_rfl) (Hq.drew (Hp.qp [[row b26 23 (dc (p.dig h))], ZE, [row b1 23 (dc k)], [row b4 28 (p.cells (.slice sA p.ss.length sC))], [row b7 23 (dc (List.replicate 32 0))], [row b10 23 (dc (List.replicate 32 0))]] R [0, 1, 2, 3, 4, 5] hA31)) ?_
                have hA32 := Hl.drew hA31
                refine vp_y hF rfl rfl rfl rfl (by decide) _ (fun x hx => y_ldRow (new := dc (List.replicate 32 0)) rfl hx rfl 5 rfl rw23_s5 (by rw [hz32]; exact Nat.le_refl _) (by rw [List.drop_zero]; exact List.take_of_length_le (by rw [hz32]; exact Nat.le_refl _))) (fun a hF => ?_)
                refine vp_y hF rfl rfl rfl rfl (by decide) _ (fun x hx => y_assign rfl rfl) (fun a hF => ?_)
                refine vp_l rfl rfl rfl (fun K hK => hs_storeAll (new := dc (List.replicate 32 0)) hF rfl rfl hA32 rfl rfl 4 rfl rfl (dc_one _) sz23_s5 (fun w33 hA34 => hK _ _ (fun h => absurd h (by decide)) ?_))
                clear hK K
                replace hA34 : Hp w0 ([row b26 23 (dc (p.dig h))] :: ZE :: [row b1 23 (dc k)] :: [row b4 28 (p.cells (.slice sA p.ss.length sC))] :: [row b7 23 (dc (List.replicate 32 0))] :: [row b10 23 (dc (List.replicate 32 0))] :: R) w33 := hA34
                refine vp_ly hF rfl rfl rfl rfl (by decide) _ (y_assign rfl rfl) (fun h => absurd h (by decide)) (fun a hF => ?_)
                refine plan_end ?_
                refine hK30 _ _ ?_; clear  hK30 K30
                apply wp_ret
                simp only [Exit.then, Exit.inBlock]
                refine vc_retTCT hF Tryd.results15 hA34.q rfl rfl rfl 4 rfl rw23_s5 ?_
                have hA35 : Hp w0 (R) w33 := Hp.sel [[row b26 23 (dc (p.dig h))], ZE, [row b1 23 (dc k)], [row b4 28 (p.cells (.slice sA p.ss.length sC))], [row b7 23 (dc (List.replicate 32 0))], [row b10 23 (dc (List.replicate 32 0))]] R [] [0, 1, 2, 3, 4, 5] hA34 rfl
                have hee : p.err width = 170 := Prf.err_bad hf hbt hlt
                exact ⟨[], _, [], by unfold Prf.to; rw [hee]; rfl, by rw [hee]; exact RTxsS.none w0, Hp.nil (Hp.nil hA35)⟩
              · refine wp_region_plan 5 [5] [0,1,2,3,4,5] (fun x => Hq w0 ([row b26 23 (dc (p.dig h))] :: ZE :: [row b1 23 (dc k)] :: [row b4 28 (p.cells (.slice sA p.ss.length sC))] :: [row b7 23 (dc (List.replicate 32 0))] :: [row b10 23 (dc (List.replicate 32 0))] :: R) x) (by kernel_rfl) (by kernel_rfl) (Hq.drew (Hp.qp [[row b26 23 (dc (p.dig h))], ZE, [row b1 23 (dc k)], [row b4 28 (p.cells (.slice sA p.ss.length sC))], [row b7 23 (dc (List.replicate 32 0))], [row b10 23 (dc (List.replicate 32 0))]] R [0, 1, 2, 3, 4, 5] hA30)) ?_
                have hA36 := Hl.drew hA30
                refine vp_y hF rfl rfl rfl rfl (by decide) _ (fun x hx => y_ldRow (new := dc (p.dig h)) rfl hx rfl 0 rfl rw23_s5 (by rw [hddl]; exact Nat.le_refl _) (by rw [List.drop_zero]; exact List.take_of_length_le (by rw [hddl]; exact Nat.le_refl _))) (fun a hF => ?_)
                refine vp_y hF rfl rfl rfl rfl (by decide) _ (fun x hx => y_move rfl rfl) (fun a hF => ?_)
                refine vp_y hF rfl rfl rfl rfl (by decide) _ (fun x hx => y_move rfl rfl) (fun a hF => ?_)
                refine vp_y hF rfl rfl rfl rfl (by decide) _ (fun x hx => y_ixSl rfl Tryd.underlying26 sz23_s5 (by exact congrArg (fun A => some (Value.slice A 257 cE)) hAE) rfl h rfl (by omega) rfl) (fun a hF => ?_)
                refine vp_y hF rfl rfl rfl rfl (by decide) _ (fun x hx => y_ldRowC rfl (Hq.sub hx (sub1 (List.mem_cons_of_mem _ ((List.mem_cons_self ..))))) rfl hce (h * 32) hele rfl herd rw23_s5) (fun a hF => ?_)
                refine vp_ly hF rfl rfl rfl rfl (by decide) _ (y_eqB rfl Tryd.underlying23 Tryd.underlying5 sz5_s5 (by kernel_rfl) rfl rfl hdl (hdle h) (decide_eq_false heq)) (fun h => absurd h (by decide)) (fun a hF => ?_)
                refine plan_end ?_
                refine hK29 _ _ ?_; clear  hK29 K29
                refine vc_false hF rfl ?_
                apply wp_skip
                refine hK28 _ _ ?_; clear  hK28 K28
                apply wp_seq_k; intro K31 hK31
                refine wp_region_lit ?_
                refine vc_y hF rfl rfl (by decide) _ (y_move rfl rfl) (fun a hF => ?_)
                refine vc_y hF rfl rfl (by decide) _ (y_assign rfl rfl) (fun a hF => ?_)
                refine vc_nil ?_
                refine hK31 _ _ ?_; clear  hK31 K31
                apply wp_block
                have hkl := kept_le width
                refine vc_loop (G := Nat) (fun b2 a x => kept width ≤ b2 ∧ b2 ≤ 32 ∧ (∀ j, kept width ≤ j → j < b2 → bAt (p.dig h) j = 0) ∧ Fr 159 [(17, .int .i64 (b2 : Int)), (0, .int .i64 width), (4, .pointer (some ⟨b1, 0, none⟩)), (5, .pointer (some ⟨b4, 0, none⟩)), (7, .pointer (some ⟨b7, 0, none⟩)), (9, .pointer (some ⟨b10, 0, none⟩)), (12, .slice AE 257 cE), (13, .int .i64 ((kept width : Nat) : Int)), (15, .int .i64 (h : Int)), (14, .int .i64 ((onesN p.bs (h + 1) : Nat) : Int)), (16, .pointer (some ⟨b26, 0, none⟩))] a ∧ Hp w0 ([row b26 23 (dc (p.dig h))] :: ZE :: [row b1 23 (dc k)] :: [row b4 28 (p.cells (.slice sA p.ss.length sC))] :: [row b7 23 (dc (List.replicate 32 0))] :: [row b10 23 (dc (List.replicate 32 0))] :: R) x) (fun b2 => 32 - b2) (kept width) (⟨Nat.le_refl _, hkl, (fun j h1 h2 => by omega), hF.keep [17, 0, 4, 5, 7, 9, 12, 13, 15, 14, 16] rfl, hA36⟩) ?_
                clear hF
                rintro b2 a w38 ⟨hba, hbb, hzz, hF, hA37⟩
                apply wp_seq_k; intro K32 hK32
                apply wp_seq_k; intro K33 hK33
                refine wp_region_lit ?_
                refine vc_y hF rfl rfl (by decide) _ (y_move rfl rfl) (fun a hF => ?_)
                refine vc_y hF rfl rfl (by decide) _ (y_cmp rfl rfl rfl rfl rfl) (fun a hF => ?_)
                refine vc_nil ?_
                refine hK33 _ _ ?_; clear  hK33 K33
                by_cases hl2 : b2 < 32
                · refine vc_trueB hF rfl (lss_t (by omega)) ?_
                  by_cases hnz : cmpB .neq ((bAt (p.dig h) b2).toNat : Int) 0 = true
                  · apply wp_skip
                    refine hK32 _ _ ?_; clear  hK32 K32
                    apply wp_seq_k; intro K34 hK34
                    apply wp_block
                    apply wp_seq_k; intro K35 hK35
                    refine wp_region_lit ?_
                    refine vc_y hF rfl rfl (by decide) _ (y_move rfl rfl) (fun a hF => ?_)
                    refine vc_y hF rfl rfl (by decide) _ (y_ixArr rfl Tryd.underlying23 sz5_s5 rfl rfl b2 rfl hl2 (ad1 _ _) (rfl : (none : Option Nat) = none)) (fun a hF => ?_)
                    refine vc_y hF rfl rfl (by decide) _ (y_ld rfl hA37.q rfl 0 rfl (dc_at (by rw [hdl]; exact hl2)) nr5_s5) (fun a hF => ?_)
                    refine vc_y hF rfl rfl (by decide) _ (y_cmp rfl rfl rfl rfl hnz) (fun a hF => ?_)
                    refine vc_nil ?_
                    refine hK35 _ _ ?_; clear  hK35 K35
                    refine vc_true hF rfl ?_
                    have hbt : p.badAt width h = true := by
                      have hcut : ¬ cutL (p.dig h) width = p.dig h := fun e => by
                        have h0 := (cut_fix hdl width).1 e b2 hba hl2
                        rw [h0] at hnz
                        cases hnz
                      unfold Prf.badAt; rw [hb]; simp [hcut]
                    apply wp_seq_k; intro K36 hK36
                    refine wp_region_plan 2 [2,3] [0,1,2,3] (fun x => Hq w0 ([row b26 23 (dc (p.dig h))] :: ZE :: [row b1 23 (dc k)] :: [row b4 28 (p.cells (.slice sA p.ss.length sC))] :: [row b7 23 (dc (List.replicate 32 0))] :: [row b10 23 (dc (List.replicate 32 0))] :: R) x) (by kernel_rfl) (by kernel_rfl) (Hq.drew (Hp.qp [[row b26 23 (dc (p.dig h))], ZE, [row b1 23 (dc k)], [row b4 28 (p.cells (.slice sA p.ss.length sC))], [row b7 23 (dc (List.replicate 32 0))], [row b10 23 (dc (List.replicate 32 0))]] R [0, 1, 2, 3, 4, 5] hA37)) ?_
                    have hA39 := Hl.drew hA37
                    refine vp_y hF rfl rfl rfl rfl (by decide) _ (fun x hx => y_ldRow (new := dc (List.replicate 32 0)) rfl hx rfl 5 rfl rw23_s5 (by rw [hz32]; exact Nat.le_refl _) (by rw [List.drop_zero]; exact List.take_of_length_le (by rw [hz32]; exact Nat.le_refl _))) (fun a hF => ?_)
                    refine vp_y hF rfl rfl rfl rfl (by decide) _ (fun x hx => y_assign rfl rfl) (fun a hF => ?_)
                    refine vp_l rfl rfl rfl (fun K hK => hs_storeAll (new := dc (List.replicate 32 0)) hF rfl rfl hA39 rfl rfl 4 rfl rfl (dc_one _) sz23_s5 (fun w40 hA41 => hK _ _ (fun h => absurd h (by decide)) ?_))
                    clear hK K
                    replace hA41 : Hp w0 ([row b26 23 (dc (p.dig h))] :: ZE :: [row b1 23 (dc k)] :: [row b4 28 (p.cells (.slice sA p.ss.length sC))] :: [row b7 23 (dc (List.replicate 32 0))] :: [row b10 23 (dc (List.replicate 32 0))] :: R) w40 := hA41
                    refine vp_ly hF rfl rfl rfl rfl (by decide) _ (y_assign rfl rfl) (fun h => absurd h (by decide)) (fun a hF => ?_)
                    refine plan_end ?_
                    refine hK36 _ _ ?_; clear  hK36 K36
                    apply wp_ret
                    simp only [Exit.then, Exit.inBlock]
                    refine vc_retTCT hF Tryd.results15 hA41.q rfl rfl rfl 4 rfl rw23_s5 ?_
                    have hA42 : Hp w0 (R) w40 := Hp.sel [[row b26 23 (dc (p.dig h))], ZE, [row b1 23 (dc k)], [row b4 28 (p.cells (.slice sA p.ss.length sC))], [row b7 23 (dc (List.replicate 32 0))], [row b10 23 (dc (List.replicate 32 0))]] R [] [0, 1, 2, 3, 4, 5] hA41 rfl
                    have hee : p.err width = 170 := Prf.err_bad hf hbt hlt
                    exact ⟨[], _, [], by unfold Prf.to; rw [hee]; rfl, by rw [hee]; exact RTxsS.none w0, Hp.nil (Hp.nil hA42)⟩
                  · have hnz0 : cmpB .neq ((bAt (p.dig h) b2).toNat : Int) 0 = false := by simpa using hnz
                    have hz0 := byte0_ne hnz0
                    apply wp_skip
                    refine hK32 _ _ ?_; clear  hK32 K32
                    apply wp_seq_k; intro K37 hK37
                    apply wp_block
                    apply wp_seq_k; intro K38 hK38
                    refine wp_region_lit ?_
                    refine vc_y hF rfl rfl (by decide) _ (y_move rfl rfl) (fun a hF => ?_)
                    refine vc_y hF rfl rfl (by decide) _ (y_ixArr rfl Tryd.underlying23 sz5_s5 rfl rfl b2 rfl hl2 (ad1 _ _) (rfl : (none : Option Nat) = none)) (fun a hF => ?_)
                    refine vc_y hF rfl rfl (by decide) _ (y_ld rfl hA37.q rfl 0 rfl (dc_at (by rw [hdl]; exact hl2)) nr5_s5) (fun a hF => ?_)
                    refine vc_y hF rfl rfl (by decide) _ (y_cmp rfl rfl rfl rfl hnz0) (fun a hF => ?_)
                    refine vc_nil ?_
                    refine hK38 _ _ ?_; clear  hK38 K38
                    refine vc_false hF rfl ?_
                    apply wp_skip
                    refine hK37 _ _ ?_; clear  hK37 K37
                    refine wp_region_lit ?_
                    refine vc_y hF rfl rfl (by decide) _ (y_move rfl rfl) (fun a hF => ?_)
                    refine vc_y hF rfl rfl (by decide) _ (y_add rfl rfl rfl (IntWalk.i64_in _ (by omega))) (fun a hF => ?_)
                    refine vc_y hF rfl rfl (by decide) _ (y_assign rfl rfl) (fun a hF => ?_)
                    refine vc_nil ?_
                    exact ⟨b2 + 1, by omega, by omega, by omega, (fun j h1 h2 => by rcases Nat.lt_or_ge j b2 with h3 | h3; exact hzz j h1 h3; obtain rfl : j = b2 := (by omega); exact hz0), hF.keep [17, 0, 4, 5, 7, 9, 12, 13, 15, 14, 16] rfl, hA37⟩
                · refine vc_falseB hF rfl (lss_f (by omega)) ?_
                  obtain rfl : b2 = 32 := by omega
                  have hcut : cutL (p.dig h) width = p.dig h := (cut_fix hdl width).2 hzz
                  have hb1 : p.bad width (h + 1) = false := by show (p.bad width h || p.badAt width h) = false; rw [hbad]; unfold Prf.badAt; rw [hb, decide_eq_false heq, decide_eq_false (fun x => x hcut)]; rfl
                  apply wp_exit
                  refine hK23 _ _ ?_; clear hK32 K32 hK23 K23
                  refine wp_region_lit ?_
                  refine vc_y hF rfl rfl (by decide) _ (y_move rfl rfl) (fun a hF => ?_)
                  refine vc_y hF rfl rfl (by decide) _ (y_add rfl rfl rfl (IntWalk.i64_in _ (by omega))) (fun a hF => ?_)
                  refine vc_y hF rfl rfl (by decide) _ (y_assign rfl rfl) (fun a hF => ?_)
                  refine vc_nil ?_
                  have hA43 : Hp w0 (ZE :: [row b1 23 (dc k)] :: [row b4 28 (p.cells (.slice sA p.ss.length sC))] :: [row b7 23 (dc (List.replicate 32 0))] :: [row b10 23 (dc (List.replicate 32 0))] :: R) w38 := Hp.sel [[row b26 23 (dc (p.dig h))], ZE, [row b1 23 (dc k)], [row b4 28 (p.cells (.slice sA p.ss.length sC))], [row b7 23 (dc (List.replicate 32 0))], [row b10 23 (dc (List.replicate 32 0))]] R [1, 2, 3, 4, 5] [0] hA37 rfl
                  exact ⟨h + 1, by omega, by omega, hb1, hF.keep [15, 14, 0, 4, 5, 7, 9, 12, 13] rfl, hA43⟩
            · have hb0 : bitOf p.bs h = false := by simpa using hb
              have ho : onesN p.bs (h + 1) = onesN p.bs h := by show onesN p.bs h + bitN p.bs h = _; rw [bitN_no hb0]; rfl
              have hb1 : p.bad width (h + 1) = false := by show (p.bad width h || p.badAt width h) = false; rw [hbad]; unfold Prf.badAt; rw [hb0]; rfl
              refine vc_trueB hF rfl (by rw [hb0]; rfl) ?_
              apply wp_exit
              refine hK23 _ _ ?_; clear hK24 K24 hK23 K23
              refine wp_region_lit ?_
              refine vc_y hF rfl rfl (by decide) _ (y_move rfl rfl) (fun a hF => ?_)
              refine vc_y hF rfl rfl (by decide) _ (y_add rfl rfl rfl (IntWalk.i64_in _ (by omega))) (fun a hF => ?_)
              refine vc_y hF rfl rfl (by decide) _ (y_assign rfl rfl) (fun a hF => ?_)
              refine vc_nil ?_
              rw [← ho] at hF
              exact ⟨h + 1, by omega, by omega, hb1, hF.keep [15, 14, 0, 4, 5, 7, 9, 12, 13] rfl, hA25⟩
          · refine vc_falseB hF rfl (lss_f (by omega)) ?_
            obtain rfl : h = 256 := by omega
            have hee : p.err width = 0 := Prf.err_ok hf hbad
            apply wp_exit
            refine hK19 _ _ ?_; clear hK21 K21 hK19 K19
            apply wp_seq_k; intro K39 hK39
            refine wp_region_lit ?_
            refine vc_op rfl (fun K hK => ws_call hF rfl (by decide) cl48_s5 rfl rfl ?_)
            with_reducible refine (sp_rtext0 w0 _ (ZE :: [row b1 23 (dc k)] :: [row b4 28 (p.cells (.slice sA p.ss.length sC))] :: [row b7 23 (dc (List.replicate 32 0))] :: [row b10 23 (dc (List.replicate 32 0))] :: R) hA22 ).mono ?_
            rintro e' w44 ⟨A0, c0, Z, rfl, hZ0, hA45⟩
            refine ⟨_, rfl, fun a hF => hK _ _ ?_⟩
            clear hK K
            replace hA45 : Hp w0 (Z :: ZE :: [row b1 23 (dc k)] :: [row b4 28 (p.cells (.slice sA p.ss.length sC))] :: [row b7 23 (dc (List.replicate 32 0))] :: [row b10 23 (dc (List.replicate 32 0))] :: R) w44 := hA45
            refine vc_y hF rfl rfl (by decide) _ (y_assign rfl rfl) (fun a hF => ?_)
            refine vc_nil ?_
            refine hK39 _ _ ?_; clear  hK39 K39
            apply wp_seq_k; intro K40 hK40
            apply wp_seq_k; intro K41 hK41
            refine wp_region_lit ?_
            refine vc_y hF rfl rfl (by decide) _ (y_field rfl Tryd.underlying28 rfl sz4_s5 (by decide) rfl (rfl : (⟨_, 0 + _, none⟩ : Addr) = ⟨_, 0, none⟩)) (fun a hF => ?_)
            refine vc_y hF rfl rfl (by decide) _ (y_ld rfl hA45.q rfl 3 rfl rfl nr4_s5) (fun a hF => ?_)
            refine vc_nil ?_
            refine hK41 _ _ ?_; clear  hK41 K41
            have hJ : ∀ (a : Act) (x : World) (A0 : Option Addr) (c0 : Nat) (Z : Seg), Fr 159 [(18, .slice A0 ((p.text0 k).length) c0), (0, .int .i64 width), (4, .pointer (some ⟨b1, 0, none⟩)), (5, .pointer (some ⟨b4, 0, none⟩)), (7, .pointer (some ⟨b7, 0, none⟩)), (9, .pointer (some ⟨b10, 0, none⟩)), (12, .slice AE 257 cE)] a → Rd w0 [Z] A0 (p.text0 k) → Hp w0 (Z :: ZE :: [row b1 23 (dc k)] :: [row b4 28 (p.cells (.slice sA p.ss.length sC))] :: [row b7 23 (dc (List.replicate 32 0))] :: [row b10 23 (dc (List.replicate 32 0))] :: R) x → K40 a x := by
              clear hF
              intro a x A0 c0 Z hF hR0 hAj
              have htl0 : (p.text0 k).length ≤ 73 := Prf.text_len hp hf width hk (h := 0) (Nat.zero_le _)
              refine hK40 _ _ ?_; clear  hK40 K40
              apply wp_seq_k; intro K42 hK42
              refine wp_region_lit ?_
              refine vc_y hF rfl rfl (by decide) _ (y_move rfl rfl) (fun a hF => ?_)
              refine vc_op rfl (fun K hK => hs_bs1 (u1 := .slice A0 (p.text0 k).length c0) hF rfl (by decide) rfl hAj rfl (sp_bs1 _ _ _) (fun b46 w47 a hb46 hF hA48 => hK _ _ ?_))
              clear hK K
              replace hA48 : Hp w0 ([row b46 59 [.slice A0 ((p.text0 k).length) c0]] :: Z :: ZE :: [row b1 23 (dc k)] :: [row b4 28 (p.cells (.slice sA p.ss.length sC))] :: [row b7 23 (dc (List.replicate 32 0))] :: [row b10 23 (dc (List.replicate 32 0))] :: R) w47 := hA48
              refine vc_y hF rfl rfl (by decide) _ (y_assign rfl rfl) (fun a hF => ?_)
              refine vc_nil ?_
              refine hK42 _ _ ?_; clear  hK42 K42
              apply wp_seq_k; intro K43 hK43
              refine wp_region_lit ?_
              refine vc_y hF rfl rfl (by decide) _ (y_move rfl rfl) (fun a hF => ?_)
              refine vc_op rfl (fun K hK => ws_call hF rfl (by decide) cl51_s5 rfl rfl ?_)
              with_reducible refine (sp_rsum w0 _ ([row b46 59 [.slice A0 ((p.text0 k).length) c0]] :: Z :: ZE :: [row b1 23 (dc k)] :: [row b4 28 (p.cells (.slice sA p.ss.length sC))] :: [row b7 23 (dc (List.replicate 32 0))] :: [row b10 23 (dc (List.replicate 32 0))] :: R) [Z] (sub1 (List.mem_cons_of_mem _ ((List.mem_cons_self ..)))) A0 (p.text0 k) c0 _ rfl hR0 (by omega) hA48 ).mono ?_
              rintro e' w49 ⟨rfl, hA50⟩
              refine ⟨_, rfl, fun a hF => hK _ _ ?_⟩
              clear hK K
              replace hA50 : Hp w0 ([row b46 59 [.slice A0 ((p.text0 k).length) c0]] :: Z :: ZE :: [row b1 23 (dc k)] :: [row b4 28 (p.cells (.slice sA p.ss.length sC))] :: [row b7 23 (dc (List.replicate 32 0))] :: [row b10 23 (dc (List.replicate 32 0))] :: R) w49 := hA50
              refine vc_y hF rfl rfl (by decide) _ (y_move rfl rfl) (fun a hF => ?_)
              refine vc_op rfl (fun K hK => ws_call hF rfl (by decide) cl50_s5 rfl rfl ?_)
              with_reducible refine (sp_rcut w0 _ ([row b46 59 [.slice A0 ((p.text0 k).length) c0]] :: Z :: ZE :: [row b1 23 (dc k)] :: [row b4 28 (p.cells (.slice sA p.ss.length sC))] :: [row b7 23 (dc (List.replicate 32 0))] :: [row b10 23 (dc (List.replicate 32 0))] :: R) (sha (p.text0 k)) width (sha_length _) hA50 ).mono ?_
              rintro e' w51 ⟨rfl, hA52⟩
              refine ⟨_, rfl, fun a hF => hK _ _ ?_⟩
              clear hK K
              replace hA52 : Hp w0 ([row b46 59 [.slice A0 ((p.text0 k).length) c0]] :: Z :: ZE :: [row b1 23 (dc k)] :: [row b4 28 (p.cells (.slice sA p.ss.length sC))] :: [row b7 23 (dc (List.replicate 32 0))] :: [row b10 23 (dc (List.replicate 32 0))] :: R) w51 := hA52
              rw [show cutL (sha (p.text0 k)) width = p.lead width k 0 from rfl] at hF
              refine vc_op rfl (fun K hK => hs_alloc hF rfl (by decide) rfl hA52 (zr23_s5) (fun b53 w54 a hb53 hF hA55 => hK _ _ ?_))
              clear hK K
              replace hA55 : Hp w0 ([row b53 23 (dc (List.replicate 32 0))] :: [row b46 59 [.slice A0 ((p.text0 k).length) c0]] :: Z :: ZE :: [row b1 23 (dc k)] :: [row b4 28 (p.cells (.slice sA p.ss.length sC))] :: [row b7 23 (dc (List.replicate 32 0))] :: [row b10 23 (dc (List.replicate 32 0))] :: R) w54 := hA55
              refine vc_op rfl (fun K hK => hs_storeAll (new := dc (p.lead width k 0)) hF rfl rfl hA55 rfl rfl 0 rfl (by rw [dc_length, p.lead_length]; rfl) (dc_one _) sz23_s5 (fun w56 hA57 => hK _ _ ?_))
              clear hK K
              replace hA57 : Hp w0 ([row b53 23 (dc (p.lead width k 0))] :: [row b46 59 [.slice A0 ((p.text0 k).length) c0]] :: Z :: ZE :: [row b1 23 (dc k)] :: [row b4 28 (p.cells (.slice sA p.ss.length sC))] :: [row b7 23 (dc (List.replicate 32 0))] :: [row b10 23 (dc (List.replicate 32 0))] :: R) w56 := hA57
              refine vc_nil ?_
              refine hK43 _ _ ?_; clear  hK43 K43
              apply wp_seq_k; intro K44 hK44
              refine wp_region_lit ?_
              refine vc_y hF rfl rfl (by decide) _ (y_assign rfl rfl) (fun a hF => ?_)
              refine vc_nil ?_
              refine hK44 _ _ ?_; clear  hK44 K44
              apply wp_seq_k; intro K45 hK45
              apply wp_seq_k; intro K46 hK46
              refine wp_region_lit ?_
              refine vc_y hF rfl rfl (by decide) _ (y_assign rfl rfl) (fun a hF => ?_)
              refine vc_nil ?_
              refine hK46 _ _ ?_; clear  hK46 K46
              apply wp_block
              have hTS0 : RTxsS w0 [⟨.slice A0 (p.text0 k).length c0, p.text0 k, Z⟩] (p.texts width k 1) (.slice (some ⟨b46, 0, none⟩) 1 1) [row b46 59 [.slice A0 (p.text0 k).length c0]] := ⟨fun t ht => by rw [List.mem_singleton.1 ht]; exact ⟨A0, c0, rfl, hR0⟩, rfl, Buf.full rfl (by decide)⟩
              have hA58 : Hp w0 ([row b46 59 [.slice A0 ((p.text0 k).length) c0]] :: Z :: [row b53 23 (dc (p.lead width k 0))] :: ZE :: [row b1 23 (dc k)] :: [row b4 28 (p.cells (.slice sA p.ss.length sC))] :: [row b7 23 (dc (List.replicate 32 0))] :: [row b10 23 (dc (List.replicate 32 0))] :: R) w56 := Hp.ord [[row b53 23 (dc (p.lead width k 0))], [row b46 59 [.slice A0 ((p.text0 k).length) c0]], Z, ZE, [row b1 23 (dc k)], [row b4 28 (p.cells (.slice sA p.ss.length sC))], [row b7 23 (dc (List.replicate 32 0))], [row b10 23 (dc (List.replicate 32 0))]] R [1, 2, 0, 3, 4, 5, 6, 7] hA57 rfl
              have hA59 : Hp w0 ([row b46 59 [.slice A0 (p.text0 k).length c0]] :: (txS [⟨.slice A0 (p.text0 k).length c0, p.text0 k, Z⟩]) :: [row b53 23 (dc (p.lead width k 0))] :: ZE :: [row b1 23 (dc k)] :: [row b4 28 (p.cells (.slice sA p.ss.length sC))] :: [row b7 23 (dc (List.replicate 32 0))] :: [row b10 23 (dc (List.replicate 32 0))] :: R) w56 := hA58.cast (by simp [txS])
              refine vc_loop (G := Nat) (fun h a x => ∃ (ts : List TxX) (tv : Value) (XL : Seg), h ≤ 256 ∧ RTxsS w0 ts (p.texts width k (h + 1)) tv XL ∧ Fr 159 [(21, .int .i64 (h : Int)), (14, .int .i64 ((onesN p.bs h : Nat) : Int)), (19, tv), (0, .int .i64 width), (4, .pointer (some ⟨b1, 0, none⟩)), (5, .pointer (some ⟨b4, 0, none⟩)), (7, .pointer (some ⟨b7, 0, none⟩)), (9, .pointer (some ⟨b10, 0, none⟩)), (12, .slice AE 257 cE), (20, .pointer (some ⟨b53, 0, none⟩))] a ∧ Hp w0 (XL :: (txS ts) :: [row b53 23 (dc (p.lead width k h))] :: ZE :: [row b1 23 (dc k)] :: [row b4 28 (p.cells (.slice sA p.ss.length sC))] :: [row b7 23 (dc (List.replicate 32 0))] :: [row b10 23 (dc (List.replicate 32 0))] :: R) x) (fun h => 256 - h) 0 (⟨_, _, _, Nat.zero_le _, hTS0, hF.keep [21, 14, 19, 0, 4, 5, 7, 9, 12, 20] rfl, hA59⟩) ?_
              clear hF
              rintro h a w61 ⟨ts, tv, XL, hh, hTS, hF, hA60⟩
              apply wp_seq_k; intro K47 hK47
              apply wp_seq_k; intro K48 hK48
              refine wp_region_lit ?_
              refine vc_y hF rfl rfl (by decide) _ (y_move rfl rfl) (fun a hF => ?_)
              refine vc_y hF rfl rfl (by decide) _ (y_cmp rfl rfl rfl rfl rfl) (fun a hF => ?_)
              refine vc_nil ?_
              refine hK48 _ _ ?_; clear  hK48 K48
              by_cases hlt : h < 256
              · refine vc_trueB hF rfl (lss_t (by omega)) ?_
                have hdle := emptyL_length width
                obtain ⟨herd, hele⟩ := digs_rd (emptyL width) 257 h (fun i _ => hdle i) (by omega)
                obtain ⟨be_, qe, hAE, hce⟩ := hRE.ne (i := h * 32) (by omega)
                have hll : (p.lead width k h).length = 32 := p.lead_length ..
                have hdll : (dc (p.lead width k h)).length = 32 := by rw [dc_length, hll]
                have hnl : (p.side width h).length = 32 := Prf.side_length hp hf width hlt
                have hdnl : (dc (p.side width h)).length = 32 := by rw [dc_length, hnl]
                have hdel : (dc (emptyL width h)).length = 32 := by rw [dc_length, hdle]
                have hts : ts.length = h + 1 := by rw [hTS.len, p.texts_len]
                have htl : (p.text width k (h + 1)).length ≤ 73 := Prf.text_len hp hf width hk (by omega)
                apply wp_skip
                refine hK47 _ _ ?_; clear  hK47 K47
                apply wp_seq_k; intro K49 hK49
                apply wp_block
                apply wp_seq_k; intro K50 hK50
                refine wp_region_lit ?_
                refine vc_y hF rfl rfl (by decide) _ (y_move rfl rfl) (fun a hF => ?_)
                refine vc_y hF rfl rfl (by decide) _ (y_move rfl rfl) (fun a hF => ?_)
                refine vc_y hF rfl rfl (by decide) _ (y_ixSl rfl Tryd.underlying26 sz23_s5 (by exact congrArg (fun A => some (Value.slice A 257 cE)) hAE) rfl h rfl (by omega) rfl) (fun a hF => ?_)
                refine vc_y hF rfl rfl (by decide) _ (y_ldRowC rfl (Hq.sub hA60.q (sub1 (List.mem_cons_of_mem _ (List.mem_cons_of_mem _ (List.mem_cons_of_mem _ ((List.mem_cons_self ..))))))) rfl hce (h * 32) hele rfl herd rw23_s5) (fun a hF => ?_)
                refine vc_op rfl (fun K hK => hs_alloc hF rfl (by decide) rfl hA60 (zr23_s5) (fun b62 w63 a hb62 hF hA64 => hK _ _ ?_))
                clear hK K
                replace hA64 : Hp w0 ([row b62 23 (dc (List.replicate 32 0))] :: XL :: (txS ts) :: [row b53 23 (dc (p.lead width k h))] :: ZE :: [row b1 23 (dc k)] :: [row b4 28 (p.cells (.slice sA p.ss.length sC))] :: [row b7 23 (dc (List.replicate 32 0))] :: [row b10 23 (dc (List.replicate 32 0))] :: R) w63 := hA64
                refine vc_op rfl (fun K hK => hs_storeAll (new := dc (emptyL width h)) hF rfl rfl hA64 rfl rfl 0 rfl (by rw [hdel]; rfl) (dc_one _) sz23_s5 (fun w65 hA66 => hK _ _ ?_))
                clear hK K
                replace hA66 : Hp w0 ([row b62 23 (dc (emptyL width h))] :: XL :: (txS ts) :: [row b53 23 (dc (p.lead width k h))] :: ZE :: [row b1 23 (dc k)] :: [row b4 28 (p.cells (.slice sA p.ss.length sC))] :: [row b7 23 (dc (List.replicate 32 0))] :: [row b10 23 (dc (List.replicate 32 0))] :: R) w65 := hA66
                refine vc_nil ?_
                refine hK50 _ _ ?_; clear  hK50 K50
                apply wp_seq_k; intro K51 hK51
                apply wp_seq_k; intro K52 hK52
                refine wp_region_lit ?_
                refine vc_y hF rfl rfl (by decide) _ (y_ldRow rfl hA66.q rfl 6 rfl rw28_s5 (by rw [Prf.c_len hp]; decide) (Prf.c_all hp)) (fun a hF => ?_)
                refine vc_y hF rfl rfl (by decide) _ (y_move rfl rfl) (fun a hF => ?_)
                refine vc_op rfl (fun K hK => ws_call hF rfl (by decide) cl45_s5 rfl rfl ?_)
                with_reducible refine (sp_set w0 _ ([row b62 23 (dc (emptyL width h))] :: XL :: (txS ts) :: [row b53 23 (dc (p.lead width k h))] :: ZE :: [row b1 23 (dc k)] :: [row b4 28 (p.cells (.slice sA p.ss.length sC))] :: [row b7 23 (dc (List.replicate 32 0))] :: [row b10 23 (dc (List.replicate 32 0))] :: R) p (.slice sA p.ss.length sC) hp h hlt hA66 ).mono ?_
                rintro e' w67 ⟨rfl, hA68⟩
                refine ⟨_, rfl, fun a hF => hK _ _ ?_⟩
                clear hK K
                replace hA68 : Hp w0 ([row b62 23 (dc (emptyL width h))] :: XL :: (txS ts) :: [row b53 23 (dc (p.lead width k h))] :: ZE :: [row b1 23 (dc k)] :: [row b4 28 (p.cells (.slice sA p.ss.length sC))] :: [row b7 23 (dc (List.replicate 32 0))] :: [row b10 23 (dc (List.replicate 32 0))] :: R) w67 := hA68
                refine vc_nil ?_
                refine hK52 _ _ ?_; clear  hK52 K52
                have hJn : ∀ (a : Act) (x : World), Fr 159 [(14, .int .i64 ((onesN p.bs (h + 1) : Nat) : Int)), (0, .int .i64 width), (4, .pointer (some ⟨b1, 0, none⟩)), (5, .pointer (some ⟨b4, 0, none⟩)), (7, .pointer (some ⟨b7, 0, none⟩)), (9, .pointer (some ⟨b10, 0, none⟩)), (12, .slice AE 257 cE), (20, .pointer (some ⟨b53, 0, none⟩)), (21, .int .i64 (h : Int)), (19, tv), (22, .pointer (some ⟨b62, 0, none⟩))] a → Hp w0 ([row b62 23 (dc (p.side width h))] :: XL :: (txS ts) :: [row b53 23 (dc (p.lead width k h))] :: ZE :: [row b1 23 (dc k)] :: [row b4 28 (p.cells (.slice sA p.ss.length sC))] :: [row b7 23 (dc (List.replicate 32 0))] :: [row b10 23 (dc (List.replicate 32 0))] :: R) x → K51 a x := by
                  clear hF
                  intro a x hF hAj
                  refine hK51 _ _ ?_; clear  hK51 K51
                  apply wp_seq_k; intro K53 hK53
                  apply wp_seq_k; intro K54 hK54
                  by_cases hkb : keyBit k (255 - h) = 0
                  · refine wp_region_lit ?_
                    refine vc_y hF rfl rfl (by decide) _ (y_ldRow (new := dc k) rfl hAj.q rfl 5 rfl rw23_s5 (by rw [hdk]; exact Nat.le_refl _) (by rw [List.drop_zero]; exact List.take_of_length_le (by rw [hdk]; exact Nat.le_refl _))) (fun a hF => ?_)
                    refine vc_y hF rfl rfl (by decide) _ (y_move rfl rfl) (fun a hF => ?_)
                    refine vc_y hF rfl rfl (by decide) _ (y_sub rfl rfl rfl (show IntKind.i64.wrap (255 - (h : Int)) = ((255 - h : Nat) : Int) by rw [IntWalk.i64_in _ (by omega)]; omega)) (fun a hF => ?_)
                    refine vc_op rfl (fun K hK => ws_call hF rfl (by decide) cl52_s5 rfl rfl ?_)
                    with_reducible refine (sp_rbit w0 _ ([row b62 23 (dc (p.side width h))] :: XL :: (txS ts) :: [row b53 23 (dc (p.lead width k h))] :: ZE :: [row b1 23 (dc k)] :: [row b4 28 (p.cells (.slice sA p.ss.length sC))] :: [row b7 23 (dc (List.replicate 32 0))] :: [row b10 23 (dc (List.replicate 32 0))] :: R) k (255 - h) hk (by omega) hAj ).mono ?_
                    rintro e' w69 ⟨rfl, hA70⟩
                    refine ⟨_, rfl, fun a hF => hK _ _ ?_⟩
                    clear hK K
                    replace hA70 : Hp w0 ([row b62 23 (dc (p.side width h))] :: XL :: (txS ts) :: [row b53 23 (dc (p.lead width k h))] :: ZE :: [row b1 23 (dc k)] :: [row b4 28 (p.cells (.slice sA p.ss.length sC))] :: [row b7 23 (dc (List.replicate 32 0))] :: [row b10 23 (dc (List.replicate 32 0))] :: R) w69 := hA70
                    refine vc_y hF rfl rfl (by decide) _ (y_cmp rfl rfl rfl rfl (eql_t (by omega))) (fun a hF => ?_)
                    refine vc_nil ?_
                    refine hK54 _ _ ?_; clear  hK54 K54
                    refine vc_true hF rfl ?_
                    refine wp_region_plan 3 [2,3,4] [0,1,2,3,4] (fun x => Hq w0 ([row b62 23 (dc (p.side width h))] :: XL :: (txS ts) :: [row b53 23 (dc (p.lead width k h))] :: ZE :: [row b1 23 (dc k)] :: [row b4 28 (p.cells (.slice sA p.ss.length sC))] :: [row b7 23 (dc (List.replicate 32 0))] :: [row b10 23 (dc (List.replicate 32 0))] :: R) x) (by kernel_rfl) (by kernel_rfl) (Hq.drew (Hp.qp [[row b62 23 (dc (p.side width h))], XL, (txS ts), [row b53 23 (dc (p.lead width k h))], ZE, [row b1 23 (dc k)], [row b4 28 (p.cells (.slice sA p.ss.length sC))], [row b7 23 (dc (List.replicate 32 0))], [row b10 23 (dc (List.replicate 32 0))]] R [0, 1, 2, 3, 4, 5, 6, 7, 8] hA70)) ?_
                    have hA71 := Hl.drew hA70
                    refine vp_y hF rfl rfl rfl rfl (by decide) _ (fun x hx => y_sliceArr rfl Tryd.underlying23 sz5_s5 rfl (.none 0) (.none 32) (Nat.zero_le _) (Nat.le_refl _) (sl_arr _ _ _)) (fun a hF => ?_)
                    refine vp_y hF rfl rfl rfl rfl (by decide) _ (fun x hx => y_sliceArr rfl Tryd.underlying23 sz5_s5 rfl (.none 0) (.none 32) (Nat.zero_le _) (Nat.le_refl _) (sl_arr _ _ _)) (fun a hF => ?_)
                    refine vp_l rfl rfl rfl (fun K hK => hs_bs (qs := #[(0, .slice (some ⟨b53, 0, none⟩) 32 32), (1, .slice (some ⟨b62, 0, none⟩) 32 32)]) (cells := #[.slice (some ⟨b53, 0, none⟩) 32 32, .slice (some ⟨b62, 0, none⟩) 32 32]) hF rfl (by decide) rfl hA71 rfl (sp_bs2 _ _ _ _ _ _) (fun b72 w73 a hb72 hF hA74 => hK _ _ (fun _ => ?_) ?_))
                    · exact Hp.qp [[row b72 59 [.slice (some ⟨b53, 0, none⟩) 32 32, .slice (some ⟨b62, 0, none⟩) 32 32]], [row b62 23 (dc (p.side width h))], XL, (txS ts), [row b53 23 (dc (p.lead width k h))], ZE, [row b1 23 (dc k)], [row b4 28 (p.cells (.slice sA p.ss.length sC))], [row b7 23 (dc (List.replicate 32 0))], [row b10 23 (dc (List.replicate 32 0))]] R [1, 2, 3, 4, 5, 6, 7, 8, 9] hA74
                    clear hK K
                    replace hA74 : Hp w0 ([row b72 59 [.slice (some ⟨b53, 0, none⟩) 32 32, .slice (some ⟨b62, 0, none⟩) 32 32]] :: [row b62 23 (dc (p.side width h))] :: XL :: (txS ts) :: [row b53 23 (dc (p.lead width k h))] :: ZE :: [row b1 23 (dc k)] :: [row b4 28 (p.cells (.slice sA p.ss.length sC))] :: [row b7 23 (dc (List.replicate 32 0))] :: [row b10 23 (dc (List.replicate 32 0))] :: R) w73 := hA74
                    have hps : PcS w0 ([row b72 59 [.slice (some ⟨b53, 0, none⟩) 32 32, .slice (some ⟨b62, 0, none⟩) 32 32]] :: [row b62 23 (dc (p.side width h))] :: XL :: (txS ts) :: [row b53 23 (dc (p.lead width k h))] :: ZE :: [row b1 23 (dc k)] :: [row b4 28 (p.cells (.slice sA p.ss.length sC))] :: [row b7 23 (dc (List.replicate 32 0))] :: [row b10 23 (dc (List.replicate 32 0))] :: R) (some ⟨b72, 0, none⟩) [(some ⟨b53, 0, none⟩, 32, (p.lead width k h)), (some ⟨b62, 0, none⟩, 32, (p.side width h))] := pcs_two (by rw [hll, hnl]; exact Rc.ofRow (i := 0) (off := 0) rfl rfl) (by rw [hll]; decide) (by rw [hnl]; decide) (Rc.ofRow (i := 4) (off := 0) rfl (by rw [List.drop_zero]; exact List.take_length ..)) (Rc.ofRow (i := 1) (off := 0) rfl (by rw [List.drop_zero]; exact List.take_length ..))
                    refine vp_l rfl rfl rfl (fun K hK => ws_call hF rfl (by decide) cl48_s5 rfl rfl ?_)
                    with_reducible refine (sp_rtext2 w0 _ ([row b72 59 [.slice (some ⟨b53, 0, none⟩) 32 32, .slice (some ⟨b62, 0, none⟩) 32 32]] :: [row b62 23 (dc (p.side width h))] :: XL :: (txS ts) :: [row b53 23 (dc (p.lead width k h))] :: ZE :: [row b1 23 (dc k)] :: [row b4 28 (p.cells (.slice sA p.ss.length sC))] :: [row b7 23 (dc (List.replicate 32 0))] :: [row b10 23 (dc (List.replicate 32 0))] :: R) _ _ _ _ _ _ _ hps hll hnl hA74 ).mono ?_
                    rintro e' w75 ⟨A1, c1, Z, rfl, hZ, hA76⟩
                    refine ⟨_, rfl, fun a hF => hK _ _ (fun h => absurd h (by decide)) ?_⟩
                    clear hK K
                    replace hA76 : Hp w0 (Z :: [row b72 59 [.slice (some ⟨b53, 0, none⟩) 32 32, .slice (some ⟨b62, 0, none⟩) 32 32]] :: [row b62 23 (dc (p.side width h))] :: XL :: (txS ts) :: [row b53 23 (dc (p.lead width k h))] :: ZE :: [row b1 23 (dc k)] :: [row b4 28 (p.cells (.slice sA p.ss.length sC))] :: [row b7 23 (dc (List.replicate 32 0))] :: [row b10 23 (dc (List.replicate 32 0))] :: R) w75 := hA76
                    rw [show (4 :: ((p.lead width k h) ++ (p.side width h)) : List UInt8) = p.text width k (h + 1) from (Prf.text_0 (p := p) (width := width) hkb).symm] at hZ hF
                    refine vp_ly hF rfl rfl rfl rfl (by decide) _ (y_assign rfl rfl) (fun h => absurd h (by decide)) (fun a hF => ?_)
                    refine plan_end ?_
                    refine hK53 _ _ ?_; clear  hK53 K53
                    apply wp_seq_k; intro K55 hK55
                    refine wp_region_lit ?_
                    refine vc_y hF rfl rfl (by decide) _ (y_move rfl rfl) (fun a hF => ?_)
                    refine vc_y hF rfl rfl (by decide) _ (y_move rfl rfl) (fun a hF => ?_)
                    refine vc_op rfl (fun K hK => hs_bs1 (u1 := .slice A1 (p.text width k (h + 1)).length c1) hF rfl (by decide) rfl hA76 rfl (sp_bs1 _ _ _) (fun b77 w78 a hb77 hF hA79 => hK _ _ ?_))
                    clear hK K
                    replace hA79 : Hp w0 ([row b77 59 [.slice A1 ((p.text width k (h + 1)).length) c1]] :: Z :: [row b72 59 [.slice (some ⟨b53, 0, none⟩) 32 32, .slice (some ⟨b62, 0, none⟩) 32 32]] :: [row b62 23 (dc (p.side width h))] :: XL :: (txS ts) :: [row b53 23 (dc (p.lead width k h))] :: ZE :: [row b1 23 (dc k)] :: [row b4 28 (p.cells (.slice sA p.ss.length sC))] :: [row b7 23 (dc (List.replicate 32 0))] :: [row b10 23 (dc (List.replicate 32 0))] :: R) w78 := hA79
                    refine vc_op rfl (fun K hK => hs_append hF rfl (by decide) rfl hA79 4 rfl hTS.lst Tryd.underlying35 sp_elemT rfl rfl (Rc.srcC (W := [.slice A1 (p.text width k (h + 1)).length c1]) (m := 1) (size := 1) (R := [row b77 59 [.slice A1 ((p.text width k (h + 1)).length) c1]] :: Z :: [row b72 59 [.slice (some ⟨b53, 0, none⟩) 32 32, .slice (some ⟨b62, 0, none⟩) 32 32]] :: [row b62 23 (dc (p.side width h))] :: XL :: (txS ts) :: [row b53 23 (dc (p.lead width k h))] :: ZE :: [row b1 23 (dc k)] :: [row b4 28 (p.cells (.slice sA p.ss.length sC))] :: [row b7 23 (dc (List.replicate 32 0))] :: [row b10 23 (dc (List.replicate 32 0))] :: R) (Rc.ofRow (i := 0) (off := 0) rfl rfl) hA79.q Tryd.underlying35 (by decide) rfl (by simp [Value.oneCell'])) (by omega) (by decide) (fun tv2 XL2 w80 a hL2 hF hA81 => hK _ _ ?_))
                    clear hK K
                    replace hA81 : Hp w0 ([row b77 59 [.slice A1 ((p.text width k (h + 1)).length) c1]] :: Z :: [row b72 59 [.slice (some ⟨b53, 0, none⟩) 32 32, .slice (some ⟨b62, 0, none⟩) 32 32]] :: [row b62 23 (dc (p.side width h))] :: XL2 :: (txS ts) :: [row b53 23 (dc (p.lead width k h))] :: ZE :: [row b1 23 (dc k)] :: [row b4 28 (p.cells (.slice sA p.ss.length sC))] :: [row b7 23 (dc (List.replicate 32 0))] :: [row b10 23 (dc (List.replicate 32 0))] :: R) w80 := hA81
                    refine vc_y hF rfl rfl (by decide) _ (y_assign rfl rfl) (fun a hF => ?_)
                    refine vc_nil ?_
                    refine hK55 _ _ ?_; clear  hK55 K55
                    refine wp_region_lit ?_
                    refine vc_y hF rfl rfl (by decide) _ (y_move rfl rfl) (fun a hF => ?_)
                    refine vc_op rfl (fun K hK => ws_call hF rfl (by decide) cl51_s5 rfl rfl ?_)
                    with_reducible refine (sp_rsum w0 _ ([row b77 59 [.slice A1 ((p.text width k (h + 1)).length) c1]] :: Z :: [row b72 59 [.slice (some ⟨b53, 0, none⟩) 32 32, .slice (some ⟨b62, 0, none⟩) 32 32]] :: [row b62 23 (dc (p.side width h))] :: XL2 :: (txS ts) :: [row b53 23 (dc (p.lead width k h))] :: ZE :: [row b1 23 (dc k)] :: [row b4 28 (p.cells (.slice sA p.ss.length sC))] :: [row b7 23 (dc (List.replicate 32 0))] :: [row b10 23 (dc (List.replicate 32 0))] :: R) [Z] (sub1 (List.mem_cons_of_mem _ ((List.mem_cons_self ..)))) A1 (p.text width k (h + 1)) c1 _ rfl hZ (by omega) hA81 ).mono ?_
                    rintro e' w82 ⟨rfl, hA83⟩
                    refine ⟨_, rfl, fun a hF => hK _ _ ?_⟩
                    clear hK K
                    replace hA83 : Hp w0 ([row b77 59 [.slice A1 ((p.text width k (h + 1)).length) c1]] :: Z :: [row b72 59 [.slice (some ⟨b53, 0, none⟩) 32 32, .slice (some ⟨b62, 0, none⟩) 32 32]] :: [row b62 23 (dc (p.side width h))] :: XL2 :: (txS ts) :: [row b53 23 (dc (p.lead width k h))] :: ZE :: [row b1 23 (dc k)] :: [row b4 28 (p.cells (.slice sA p.ss.length sC))] :: [row b7 23 (dc (List.replicate 32 0))] :: [row b10 23 (dc (List.replicate 32 0))] :: R) w82 := hA83
                    refine vc_y hF rfl rfl (by decide) _ (y_move rfl rfl) (fun a hF => ?_)
                    refine vc_op rfl (fun K hK => ws_call hF rfl (by decide) cl50_s5 rfl rfl ?_)
                    with_reducible refine (sp_rcut w0 _ ([row b77 59 [.slice A1 ((p.text width k (h + 1)).length) c1]] :: Z :: [row b72 59 [.slice (some ⟨b53, 0, none⟩) 32 32, .slice (some ⟨b62, 0, none⟩) 32 32]] :: [row b62 23 (dc (p.side width h))] :: XL2 :: (txS ts) :: [row b53 23 (dc (p.lead width k h))] :: ZE :: [row b1 23 (dc k)] :: [row b4 28 (p.cells (.slice sA p.ss.length sC))] :: [row b7 23 (dc (List.replicate 32 0))] :: [row b10 23 (dc (List.replicate 32 0))] :: R) (sha (p.text width k (h + 1))) width (sha_length _) hA83 ).mono ?_
                    rintro e' w84 ⟨rfl, hA85⟩
                    refine ⟨_, rfl, fun a hF => hK _ _ ?_⟩
                    clear hK K
                    replace hA85 : Hp w0 ([row b77 59 [.slice A1 ((p.text width k (h + 1)).length) c1]] :: Z :: [row b72 59 [.slice (some ⟨b53, 0, none⟩) 32 32, .slice (some ⟨b62, 0, none⟩) 32 32]] :: [row b62 23 (dc (p.side width h))] :: XL2 :: (txS ts) :: [row b53 23 (dc (p.lead width k h))] :: ZE :: [row b1 23 (dc k)] :: [row b4 28 (p.cells (.slice sA p.ss.length sC))] :: [row b7 23 (dc (List.replicate 32 0))] :: [row b10 23 (dc (List.replicate 32 0))] :: R) w84 := hA85
                    rw [← p.lead_eq width k (h + 1)] at hF
                    refine vc_op rfl (fun K hK => hs_storeAll (new := dc (p.lead width k (h + 1))) hF rfl rfl hA85 rfl rfl 6 rfl (by rw [dc_length, dc_length, p.lead_length, p.lead_length]) (dc_one _) (by rw [hdll]; exact sz23_s5) (fun w86 hA87 => hK _ _ ?_))
                    clear hK K
                    replace hA87 : Hp w0 ([row b77 59 [.slice A1 ((p.text width k (h + 1)).length) c1]] :: Z :: [row b72 59 [.slice (some ⟨b53, 0, none⟩) 32 32, .slice (some ⟨b62, 0, none⟩) 32 32]] :: [row b62 23 (dc (p.side width h))] :: XL2 :: (txS ts) :: [row b53 23 (dc (p.lead width k (h + 1)))] :: ZE :: [row b1 23 (dc k)] :: [row b4 28 (p.cells (.slice sA p.ss.length sC))] :: [row b7 23 (dc (List.replicate 32 0))] :: [row b10 23 (dc (List.replicate 32 0))] :: R) w86 := hA87
                    refine vc_nil ?_
                    refine hK49 _ _ ?_; clear  hK49 K49
                    refine wp_region_lit ?_
                    refine vc_y hF rfl rfl (by decide) _ (y_move rfl rfl) (fun a hF => ?_)
                    refine vc_y hF rfl rfl (by decide) _ (y_add rfl rfl rfl (IntWalk.i64_in _ (by omega))) (fun a hF => ?_)
                    refine vc_y hF rfl rfl (by decide) _ (y_assign rfl rfl) (fun a hF => ?_)
                    refine vc_nil ?_
                    have hTS2 := hTS.snoc hZ hL2
                    rw [← p.texts_succ] at hTS2
                    have hA88 : Hp w0 (XL2 :: (txS ts) :: Z :: [row b53 23 (dc (p.lead width k (h + 1)))] :: ZE :: [row b1 23 (dc k)] :: [row b4 28 (p.cells (.slice sA p.ss.length sC))] :: [row b7 23 (dc (List.replicate 32 0))] :: [row b10 23 (dc (List.replicate 32 0))] :: R) w86 := Hp.sel [[row b77 59 [.slice A1 ((p.text width k (h + 1)).length) c1]], Z, [row b72 59 [.slice (some ⟨b53, 0, none⟩) 32 32, .slice (some ⟨b62, 0, none⟩) 32 32]], [row b62 23 (dc (p.side width h))], XL2, (txS ts), [row b53 23 (dc (p.lead width k (h + 1)))], ZE, [row b1 23 (dc k)], [row b4 28 (p.cells (.slice sA p.ss.length sC))], [row b7 23 (dc (List.replicate 32 0))], [row b10 23 (dc (List.replicate 32 0))]] R [4, 5, 1, 6, 7, 8, 9, 10, 11] [0, 2, 3] hA87 rfl
                    have hA89 : Hp w0 (XL2 :: (txS (ts ++ [⟨.slice A1 (p.text width k (h + 1)).length c1, p.text width k (h + 1), Z⟩])) :: [row b53 23 (dc (p.lead width k (h + 1)))] :: ZE :: [row b1 23 (dc k)] :: [row b4 28 (p.cells (.slice sA p.ss.length sC))] :: [row b7 23 (dc (List.replicate 32 0))] :: [row b10 23 (dc (List.replicate 32 0))] :: R) w86 := hA88.cast (by simp [txS])
                    exact ⟨h + 1, by omega, _, tv2, XL2, by omega, hTS2, hF.keep [21, 14, 19, 0, 4, 5, 7, 9, 12, 20] rfl, hA89⟩
                  · refine wp_region_lit ?_
                    refine vc_y hF rfl rfl (by decide) _ (y_ldRow (new := dc k) rfl hAj.q rfl 5 rfl rw23_s5 (by rw [hdk]; exact Nat.le_refl _) (by rw [List.drop_zero]; exact List.take_of_length_le (by rw [hdk]; exact Nat.le_refl _))) (fun a hF => ?_)
                    refine vc_y hF rfl rfl (by decide) _ (y_move rfl rfl) (fun a hF => ?_)
                    refine vc_y hF rfl rfl (by decide) _ (y_sub rfl rfl rfl (show IntKind.i64.wrap (255 - (h : Int)) = ((255 - h : Nat) : Int) by rw [IntWalk.i64_in _ (by omega)]; omega)) (fun a hF => ?_)
                    refine vc_op rfl (fun K hK => ws_call hF rfl (by decide) cl52_s5 rfl rfl ?_)
                    with_reducible refine (sp_rbit w0 _ ([row b62 23 (dc (p.side width h))] :: XL :: (txS ts) :: [row b53 23 (dc (p.lead width k h))] :: ZE :: [row b1 23 (dc k)] :: [row b4 28 (p.cells (.slice sA p.ss.length sC))] :: [row b7 23 (dc (List.replicate 32 0))] :: [row b10 23 (dc (List.replicate 32 0))] :: R) k (255 - h) hk (by omega) hAj ).mono ?_
                    rintro e' w90 ⟨rfl, hA91⟩
                    refine ⟨_, rfl, fun a hF => hK _ _ ?_⟩
                    clear hK K
                    replace hA91 : Hp w0 ([row b62 23 (dc (p.side width h))] :: XL :: (txS ts) :: [row b53 23 (dc (p.lead width k h))] :: ZE :: [row b1 23 (dc k)] :: [row b4 28 (p.cells (.slice sA p.ss.length sC))] :: [row b7 23 (dc (List.replicate 32 0))] :: [row b10 23 (dc (List.replicate 32 0))] :: R) w90 := hA91
                    refine vc_y hF rfl rfl (by decide) _ (y_cmp rfl rfl rfl rfl (eql_f (by omega))) (fun a hF => ?_)
                    refine vc_nil ?_
                    refine hK54 _ _ ?_; clear  hK54 K54
                    refine vc_false hF rfl ?_
                    refine wp_region_plan 3 [2,3,4] [0,1,2,3,4] (fun x => Hq w0 ([row b62 23 (dc (p.side width h))] :: XL :: (txS ts) :: [row b53 23 (dc (p.lead width k h))] :: ZE :: [row b1 23 (dc k)] :: [row b4 28 (p.cells (.slice sA p.ss.length sC))] :: [row b7 23 (dc (List.replicate 32 0))] :: [row b10 23 (dc (List.replicate 32 0))] :: R) x) (by kernel_rfl) (by kernel_rfl) (Hq.drew (Hp.qp [[row b62 23 (dc (p.side width h))], XL, (txS ts), [row b53 23 (dc (p.lead width k h))], ZE, [row b1 23 (dc k)], [row b4 28 (p.cells (.slice sA p.ss.length sC))], [row b7 23 (dc (List.replicate 32 0))], [row b10 23 (dc (List.replicate 32 0))]] R [0, 1, 2, 3, 4, 5, 6, 7, 8] hA91)) ?_
                    have hA92 := Hl.drew hA91
                    refine vp_y hF rfl rfl rfl rfl (by decide) _ (fun x hx => y_sliceArr rfl Tryd.underlying23 sz5_s5 rfl (.none 0) (.none 32) (Nat.zero_le _) (Nat.le_refl _) (sl_arr _ _ _)) (fun a hF => ?_)
                    refine vp_y hF rfl rfl rfl rfl (by decide) _ (fun x hx => y_sliceArr rfl Tryd.underlying23 sz5_s5 rfl (.none 0) (.none 32) (Nat.zero_le _) (Nat.le_refl _) (sl_arr _ _ _)) (fun a hF => ?_)
                    refine vp_l rfl rfl rfl (fun K hK => hs_bs (qs := #[(0, .slice (some ⟨b62, 0, none⟩) 32 32), (1, .slice (some ⟨b53, 0, none⟩) 32 32)]) (cells := #[.slice (some ⟨b62, 0, none⟩) 32 32, .slice (some ⟨b53, 0, none⟩) 32 32]) hF rfl (by decide) rfl hA92 rfl (sp_bs2 _ _ _ _ _ _) (fun b93 w94 a hb93 hF hA95 => hK _ _ (fun _ => ?_) ?_))
                    · exact Hp.qp [[row b93 59 [.slice (some ⟨b62, 0, none⟩) 32 32, .slice (some ⟨b53, 0, none⟩) 32 32]], [row b62 23 (dc (p.side width h))], XL, (txS ts), [row b53 23 (dc (p.lead width k h))], ZE, [row b1 23 (dc k)], [row b4 28 (p.cells (.slice sA p.ss.length sC))], [row b7 23 (dc (List.replicate 32 0))], [row b10 23 (dc (List.replicate 32 0))]] R [1, 2, 3, 4, 5, 6, 7, 8, 9] hA95
                    clear hK K
                    replace hA95 : Hp w0 ([row b93 59 [.slice (some ⟨b62, 0, none⟩) 32 32, .slice (some ⟨b53, 0, none⟩) 32 32]] :: [row b62 23 (dc (p.side width h))] :: XL :: (txS ts) :: [row b53 23 (dc (p.lead width k h))] :: ZE :: [row b1 23 (dc k)] :: [row b4 28 (p.cells (.slice sA p.ss.length sC))] :: [row b7 23 (dc (List.replicate 32 0))] :: [row b10 23 (dc (List.replicate 32 0))] :: R) w94 := hA95
                    have hps : PcS w0 ([row b93 59 [.slice (some ⟨b62, 0, none⟩) 32 32, .slice (some ⟨b53, 0, none⟩) 32 32]] :: [row b62 23 (dc (p.side width h))] :: XL :: (txS ts) :: [row b53 23 (dc (p.lead width k h))] :: ZE :: [row b1 23 (dc k)] :: [row b4 28 (p.cells (.slice sA p.ss.length sC))] :: [row b7 23 (dc (List.replicate 32 0))] :: [row b10 23 (dc (List.replicate 32 0))] :: R) (some ⟨b93, 0, none⟩) [(some ⟨b62, 0, none⟩, 32, (p.side width h)), (some ⟨b53, 0, none⟩, 32, (p.lead width k h))] := pcs_two (by rw [hnl, hll]; exact Rc.ofRow (i := 0) (off := 0) rfl rfl) (by rw [hnl]; decide) (by rw [hll]; decide) (Rc.ofRow (i := 1) (off := 0) rfl (by rw [List.drop_zero]; exact List.take_length ..)) (Rc.ofRow (i := 4) (off := 0) rfl (by rw [List.drop_zero]; exact List.take_length ..))
                    refine vp_l rfl rfl rfl (fun K hK => ws_call hF rfl (by decide) cl48_s5 rfl rfl ?_)
                    with_reducible refine (sp_rtext2 w0 _ ([row b93 59 [.slice (some ⟨b62, 0, none⟩) 32 32, .slice (some ⟨b53, 0, none⟩) 32 32]] :: [row b62 23 (dc (p.side width h))] :: XL :: (txS ts) :: [row b53 23 (dc (p.lead width k h))] :: ZE :: [row b1 23 (dc k)] :: [row b4 28 (p.cells (.slice sA p.ss.length sC))] :: [row b7 23 (dc (List.replicate 32 0))] :: [row b10 23 (dc (List.replicate 32 0))] :: R) _ _ _ _ _ _ _ hps hnl hll hA95 ).mono ?_
                    rintro e' w96 ⟨A1, c1, Z, rfl, hZ, hA97⟩
                    refine ⟨_, rfl, fun a hF => hK _ _ (fun h => absurd h (by decide)) ?_⟩
                    clear hK K
                    replace hA97 : Hp w0 (Z :: [row b93 59 [.slice (some ⟨b62, 0, none⟩) 32 32, .slice (some ⟨b53, 0, none⟩) 32 32]] :: [row b62 23 (dc (p.side width h))] :: XL :: (txS ts) :: [row b53 23 (dc (p.lead width k h))] :: ZE :: [row b1 23 (dc k)] :: [row b4 28 (p.cells (.slice sA p.ss.length sC))] :: [row b7 23 (dc (List.replicate 32 0))] :: [row b10 23 (dc (List.replicate 32 0))] :: R) w96 := hA97
                    rw [show (4 :: ((p.side width h) ++ (p.lead width k h)) : List UInt8) = p.text width k (h + 1) from (Prf.text_1 (p := p) (width := width) hkb).symm] at hZ hF
                    refine vp_ly hF rfl rfl rfl rfl (by decide) _ (y_assign rfl rfl) (fun h => absurd h (by decide)) (fun a hF => ?_)
                    refine plan_end ?_
                    refine hK53 _ _ ?_; clear  hK53 K53
                    apply wp_seq_k; intro K56 hK56
                    refine wp_region_lit ?_
                    refine vc_y hF rfl rfl (by decide) _ (y_move rfl rfl) (fun a hF => ?_)
                    refine vc_y hF rfl rfl (by decide) _ (y_move rfl rfl) (fun a hF => ?_)
                    refine vc_op rfl (fun K hK => hs_bs1 (u1 := .slice A1 (p.text width k (h + 1)).length c1) hF rfl (by decide) rfl hA97 rfl (sp_bs1 _ _ _) (fun b98 w99 a hb98 hF hA100 => hK _ _ ?_))
                    clear hK K
                    replace hA100 : Hp w0 ([row b98 59 [.slice A1 ((p.text width k (h + 1)).length) c1]] :: Z :: [row b93 59 [.slice (some ⟨b62, 0, none⟩) 32 32, .slice (some ⟨b53, 0, none⟩) 32 32]] :: [row b62 23 (dc (p.side width h))] :: XL :: (txS ts) :: [row b53 23 (dc (p.lead width k h))] :: ZE :: [row b1 23 (dc k)] :: [row b4 28 (p.cells (.slice sA p.ss.length sC))] :: [row b7 23 (dc (List.replicate 32 0))] :: [row b10 23 (dc (List.replicate 32 0))] :: R) w99 := hA100
                    refine vc_op rfl (fun K hK => hs_append hF rfl (by decide) rfl hA100 4 rfl hTS.lst Tryd.underlying35 sp_elemT rfl rfl (Rc.srcC (W := [.slice A1 (p.text width k (h + 1)).length c1]) (m := 1) (size := 1) (R := [row b98 59 [.slice A1 ((p.text width k (h + 1)).length) c1]] :: Z :: [row b93 59 [.slice (some ⟨b62, 0, none⟩) 32 32, .slice (some ⟨b53, 0, none⟩) 32 32]] :: [row b62 23 (dc (p.side width h))] :: XL :: (txS ts) :: [row b53 23 (dc (p.lead width k h))] :: ZE :: [row b1 23 (dc k)] :: [row b4 28 (p.cells (.slice sA p.ss.length sC))] :: [row b7 23 (dc (List.replicate 32 0))] :: [row b10 23 (dc (List.replicate 32 0))] :: R) (Rc.ofRow (i := 0) (off := 0) rfl rfl) hA100.q Tryd.underlying35 (by decide) rfl (by simp [Value.oneCell'])) (by omega) (by decide) (fun tv2 XL2 w101 a hL2 hF hA102 => hK _ _ ?_))
                    clear hK K
                    replace hA102 : Hp w0 ([row b98 59 [.slice A1 ((p.text width k (h + 1)).length) c1]] :: Z :: [row b93 59 [.slice (some ⟨b62, 0, none⟩) 32 32, .slice (some ⟨b53, 0, none⟩) 32 32]] :: [row b62 23 (dc (p.side width h))] :: XL2 :: (txS ts) :: [row b53 23 (dc (p.lead width k h))] :: ZE :: [row b1 23 (dc k)] :: [row b4 28 (p.cells (.slice sA p.ss.length sC))] :: [row b7 23 (dc (List.replicate 32 0))] :: [row b10 23 (dc (List.replicate 32 0))] :: R) w101 := hA102
                    refine vc_y hF rfl rfl (by decide) _ (y_assign rfl rfl) (fun a hF => ?_)
                    refine vc_nil ?_
                    refine hK56 _ _ ?_; clear  hK56 K56
                    refine wp_region_lit ?_
                    refine vc_y hF rfl rfl (by decide) _ (y_move rfl rfl) (fun a hF => ?_)
                    refine vc_op rfl (fun K hK => ws_call hF rfl (by decide) cl51_s5 rfl rfl ?_)
                    with_reducible refine (sp_rsum w0 _ ([row b98 59 [.slice A1 ((p.text width k (h + 1)).length) c1]] :: Z :: [row b93 59 [.slice (some ⟨b62, 0, none⟩) 32 32, .slice (some ⟨b53, 0, none⟩) 32 32]] :: [row b62 23 (dc (p.side width h))] :: XL2 :: (txS ts) :: [row b53 23 (dc (p.lead width k h))] :: ZE :: [row b1 23 (dc k)] :: [row b4 28 (p.cells (.slice sA p.ss.length sC))] :: [row b7 23 (dc (List.replicate 32 0))] :: [row b10 23 (dc (List.replicate 32 0))] :: R) [Z] (sub1 (List.mem_cons_of_mem _ ((List.mem_cons_self ..)))) A1 (p.text width k (h + 1)) c1 _ rfl hZ (by omega) hA102 ).mono ?_
                    rintro e' w103 ⟨rfl, hA104⟩
                    refine ⟨_, rfl, fun a hF => hK _ _ ?_⟩
                    clear hK K
                    replace hA104 : Hp w0 ([row b98 59 [.slice A1 ((p.text width k (h + 1)).length) c1]] :: Z :: [row b93 59 [.slice (some ⟨b62, 0, none⟩) 32 32, .slice (some ⟨b53, 0, none⟩) 32 32]] :: [row b62 23 (dc (p.side width h))] :: XL2 :: (txS ts) :: [row b53 23 (dc (p.lead width k h))] :: ZE :: [row b1 23 (dc k)] :: [row b4 28 (p.cells (.slice sA p.ss.length sC))] :: [row b7 23 (dc (List.replicate 32 0))] :: [row b10 23 (dc (List.replicate 32 0))] :: R) w103 := hA104
                    refine vc_y hF rfl rfl (by decide) _ (y_move rfl rfl) (fun a hF => ?_)
                    refine vc_op rfl (fun K hK => ws_call hF rfl (by decide) cl50_s5 rfl rfl ?_)
                    with_reducible refine (sp_rcut w0 _ ([row b98 59 [.slice A1 ((p.text width k (h + 1)).length) c1]] :: Z :: [row b93 59 [.slice (some ⟨b62, 0, none⟩) 32 32, .slice (some ⟨b53, 0, none⟩) 32 32]] :: [row b62 23 (dc (p.side width h))] :: XL2 :: (txS ts) :: [row b53 23 (dc (p.lead width k h))] :: ZE :: [row b1 23 (dc k)] :: [row b4 28 (p.cells (.slice sA p.ss.length sC))] :: [row b7 23 (dc (List.replicate 32 0))] :: [row b10 23 (dc (List.replicate 32 0))] :: R) (sha (p.text width k (h + 1))) width (sha_length _) hA104 ).mono ?_
                    rintro e' w105 ⟨rfl, hA106⟩
                    refine ⟨_, rfl, fun a hF => hK _ _ ?_⟩
                    clear hK K
                    replace hA106 : Hp w0 ([row b98 59 [.slice A1 ((p.text width k (h + 1)).length) c1]] :: Z :: [row b93 59 [.slice (some ⟨b62, 0, none⟩) 32 32, .slice (some ⟨b53, 0, none⟩) 32 32]] :: [row b62 23 (dc (p.side width h))] :: XL2 :: (txS ts) :: [row b53 23 (dc (p.lead width k h))] :: ZE :: [row b1 23 (dc k)] :: [row b4 28 (p.cells (.slice sA p.ss.length sC))] :: [row b7 23 (dc (List.replicate 32 0))] :: [row b10 23 (dc (List.replicate 32 0))] :: R) w105 := hA106
                    rw [← p.lead_eq width k (h + 1)] at hF
                    refine vc_op rfl (fun K hK => hs_storeAll (new := dc (p.lead width k (h + 1))) hF rfl rfl hA106 rfl rfl 6 rfl (by rw [dc_length, dc_length, p.lead_length, p.lead_length]) (dc_one _) (by rw [hdll]; exact sz23_s5) (fun w107 hA108 => hK _ _ ?_))
                    clear hK K
                    replace hA108 : Hp w0 ([row b98 59 [.slice A1 ((p.text width k (h + 1)).length) c1]] :: Z :: [row b93 59 [.slice (some ⟨b62, 0, none⟩) 32 32, .slice (some ⟨b53, 0, none⟩) 32 32]] :: [row b62 23 (dc (p.side width h))] :: XL2 :: (txS ts) :: [row b53 23 (dc (p.lead width k (h + 1)))] :: ZE :: [row b1 23 (dc k)] :: [row b4 28 (p.cells (.slice sA p.ss.length sC))] :: [row b7 23 (dc (List.replicate 32 0))] :: [row b10 23 (dc (List.replicate 32 0))] :: R) w107 := hA108
                    refine vc_nil ?_
                    refine hK49 _ _ ?_; clear  hK49 K49
                    refine wp_region_lit ?_
                    refine vc_y hF rfl rfl (by decide) _ (y_move rfl rfl) (fun a hF => ?_)
                    refine vc_y hF rfl rfl (by decide) _ (y_add rfl rfl rfl (IntWalk.i64_in _ (by omega))) (fun a hF => ?_)
                    refine vc_y hF rfl rfl (by decide) _ (y_assign rfl rfl) (fun a hF => ?_)
                    refine vc_nil ?_
                    have hTS2 := hTS.snoc hZ hL2
                    rw [← p.texts_succ] at hTS2
                    have hA109 : Hp w0 (XL2 :: (txS ts) :: Z :: [row b53 23 (dc (p.lead width k (h + 1)))] :: ZE :: [row b1 23 (dc k)] :: [row b4 28 (p.cells (.slice sA p.ss.length sC))] :: [row b7 23 (dc (List.replicate 32 0))] :: [row b10 23 (dc (List.replicate 32 0))] :: R) w107 := Hp.sel [[row b98 59 [.slice A1 ((p.text width k (h + 1)).length) c1]], Z, [row b93 59 [.slice (some ⟨b62, 0, none⟩) 32 32, .slice (some ⟨b53, 0, none⟩) 32 32]], [row b62 23 (dc (p.side width h))], XL2, (txS ts), [row b53 23 (dc (p.lead width k (h + 1)))], ZE, [row b1 23 (dc k)], [row b4 28 (p.cells (.slice sA p.ss.length sC))], [row b7 23 (dc (List.replicate 32 0))], [row b10 23 (dc (List.replicate 32 0))]] R [4, 5, 1, 6, 7, 8, 9, 10, 11] [0, 2, 3] hA108 rfl
                    have hA110 : Hp w0 (XL2 :: (txS (ts ++ [⟨.slice A1 (p.text width k (h + 1)).length c1, p.text width k (h + 1), Z⟩])) :: [row b53 23 (dc (p.lead width k (h + 1)))] :: ZE :: [row b1 23 (dc k)] :: [row b4 28 (p.cells (.slice sA p.ss.length sC))] :: [row b7 23 (dc (List.replicate 32 0))] :: [row b10 23 (dc (List.replicate 32 0))] :: R) w107 := hA109.cast (by simp [txS])
                    exact ⟨h + 1, by omega, _, tv2, XL2, by omega, hTS2, hF.keep [21, 14, 19, 0, 4, 5, 7, 9, 12, 20] rfl, hA110⟩
                by_cases hb : bitOf p.bs h = true
                · refine vc_trueB hF rfl hb ?_
                  obtain ⟨hsl, hsat⟩ := Prf.dig_at hf hb hlt
                  have hdl : (p.dig h).length = 32 := Prf.dig_length hp hf hb hlt
                  have hddl : (dc (p.dig h)).length = 32 := by rw [dc_length, hdl]
                  obtain ⟨hsr, hsr2⟩ := ss_rd hp hsat
                  obtain ⟨b, q, hsA, hc⟩ := hS.ne (i := onesN p.bs h * 32) (by omega)
                  have ho : onesN p.bs (h + 1) = onesN p.bs h + 1 := by show onesN p.bs h + bitN p.bs h = _; rw [bitN_of hb]
                  have hol := onesN_le p.bs h
                  apply wp_seq_k; intro K57 hK57
                  refine wp_region_lit ?_
                  refine vc_y hF rfl rfl (by decide) _ (y_field rfl Tryd.underlying28 rfl sz26_s5 (by decide) rfl (rfl : (⟨_, 0 + _, none⟩ : Addr) = ⟨_, 66, none⟩)) (fun a hF => ?_)
                  refine vc_y hF rfl rfl (by decide) _ (y_ld rfl hA68.q rfl 6 rfl (Prf.c_sums hp) nr26_s5) (fun a hF => ?_)
                  refine vc_y hF rfl rfl (by decide) _ (y_move rfl rfl) (fun a hF => ?_)
                  refine vc_y hF rfl rfl (by decide) _ (y_ixSl rfl Tryd.underlying26 sz23_s5 (by exact congrArg (fun A => some (Value.slice A p.ss.length sC)) hsA) rfl (onesN p.bs h) rfl hsl rfl) (fun a hF => ?_)
                  refine vc_y hF rfl rfl (by decide) _ (y_ldRowC rfl (Hq.sub hA68.q (List.Subset.trans hG (subC (subC (subC (subC (subC (subC (subC (subC (subC (sub0)))))))))))) rfl hc (onesN p.bs h * 32) hsr2 rfl hsr rw23_s5) (fun a hF => ?_)
                  refine vc_op rfl (fun K hK => hs_storeAll (new := dc (p.dig h)) hF rfl rfl hA68 rfl rfl 0 rfl (by rw [hddl, hdel]) (dc_one _) (by rw [hdel]; exact sz23_s5) (fun w111 hA112 => hK _ _ ?_))
                  clear hK K
                  replace hA112 : Hp w0 ([row b62 23 (dc (p.dig h))] :: XL :: (txS ts) :: [row b53 23 (dc (p.lead width k h))] :: ZE :: [row b1 23 (dc k)] :: [row b4 28 (p.cells (.slice sA p.ss.length sC))] :: [row b7 23 (dc (List.replicate 32 0))] :: [row b10 23 (dc (List.replicate 32 0))] :: R) w111 := hA112
                  refine vc_nil ?_
                  refine hK57 _ _ ?_; clear  hK57 K57
                  refine wp_region_lit ?_
                  refine vc_y hF rfl rfl (by decide) _ (y_move rfl rfl) (fun a hF => ?_)
                  refine vc_y hF rfl rfl (by decide) _ (y_add rfl rfl rfl (show IntKind.i64.wrap (((onesN p.bs h : Nat) : Int) + 1) = ((onesN p.bs (h + 1) : Nat) : Int) by rw [IntWalk.i64_in _ (by omega), ho]; omega)) (fun a hF => ?_)
                  refine vc_y hF rfl rfl (by decide) _ (y_assign rfl rfl) (fun a hF => ?_)
                  refine vc_nil ?_
                  rw [Prf.side_of (width := width) hb] at hA112
                  exact hJn _ _ (hF.keep [14, 0, 4, 5, 7, 9, 12, 20, 21, 19, 22] rfl) hA112
                · have hb0 : bitOf p.bs h = false := by simpa using hb
                  have ho : onesN p.bs (h + 1) = onesN p.bs h := by show onesN p.bs h + bitN p.bs h = _; rw [bitN_no hb0]; rfl
                  refine vc_falseB hF rfl hb0 ?_
                  apply wp_skip
                  rw [← ho] at hF
                  have hA113 : Hp w0 ([row b62 23 (dc (p.side width h))] :: XL :: (txS ts) :: [row b53 23 (dc (p.lead width k h))] :: ZE :: [row b1 23 (dc k)] :: [row b4 28 (p.cells (.slice sA p.ss.length sC))] :: [row b7 23 (dc (List.replicate 32 0))] :: [row b10 23 (dc (List.replicate 32 0))] :: R) w67 := by rw [← Prf.side_no hb0]; exact hA68
                  exact hJn _ _ (hF.keep [14, 0, 4, 5, 7, 9, 12, 20, 21, 19, 22] rfl) hA113
              · refine vc_falseB hF rfl (lss_f (by omega)) ?_
                obtain rfl : h = 256 := by omega
                have hrl : (dc (p.lead width k 256)).length = 32 := by rw [dc_length, p.lead_length]
                apply wp_exit
                refine hK45 _ _ ?_; clear hK47 K47 hK45 K45
                apply wp_seq_k; intro K58 hK58
                refine wp_region_plan 3 [3,4] [0,1,2,3,4] (fun x => Hq w0 (XL :: (txS ts) :: [row b53 23 (dc (p.lead width k 256))] :: ZE :: [row b1 23 (dc k)] :: [row b4 28 (p.cells (.slice sA p.ss.length sC))] :: [row b7 23 (dc (List.replicate 32 0))] :: [row b10 23 (dc (List.replicate 32 0))] :: R) x) (by kernel_rfl) (by kernel_rfl) (Hq.drew (Hp.qp [XL, (txS ts), [row b53 23 (dc (p.lead width k 256))], ZE, [row b1 23 (dc k)], [row b4 28 (p.cells (.slice sA p.ss.length sC))], [row b7 23 (dc (List.replicate 32 0))], [row b10 23 (dc (List.replicate 32 0))]] R [0, 1, 2, 3, 4, 5, 6, 7] hA60)) ?_
                have hA114 := Hl.drew hA60
                refine vp_y hF rfl rfl rfl rfl (by decide) _ (fun x hx => y_move rfl rfl) (fun a hF => ?_)
                refine vp_y hF rfl rfl rfl rfl (by decide) _ (fun x hx => y_ldRow (new := dc (p.lead width k 256)) rfl hx rfl 2 rfl rw23_s5 (by rw [hrl]; exact Nat.le_refl _) (by rw [List.drop_zero]; exact List.take_of_length_le (by rw [hrl]; exact Nat.le_refl _))) (fun a hF => ?_)
                refine vp_y hF rfl rfl rfl rfl (by decide) _ (fun x hx => y_assign rfl rfl) (fun a hF => ?_)
                refine vp_l rfl rfl rfl (fun K hK => hs_storeAll (new := dc (p.lead width k 256)) hF rfl rfl hA114 rfl rfl 6 rfl (by rw [hrl]; rfl) (dc_one _) (by exact sz23_s5) (fun w115 hA116 => hK _ _ (fun h => absurd h (by decide)) ?_))
                clear hK K
                replace hA116 : Hp w0 (XL :: (txS ts) :: [row b53 23 (dc (p.lead width k 256))] :: ZE :: [row b1 23 (dc k)] :: [row b4 28 (p.cells (.slice sA p.ss.length sC))] :: [row b7 23 (dc (p.lead width k 256))] :: [row b10 23 (dc (List.replicate 32 0))] :: R) w115 := hA116
                refine vp_ly hF rfl rfl rfl rfl (by decide) _ (y_assign rfl rfl) (fun h => absurd h (by decide)) (fun a hF => ?_)
                refine plan_end ?_
                refine hK58 _ _ ?_; clear  hK58 K58
                apply wp_ret
                refine vc_retTCT hF Tryd.results15 hA116.q rfl rfl rfl 6 rfl (by rw [hrl]; exact rw23_s5) ?_
                have hA117 : Hp w0 (XL :: (txS ts) :: R) w115 := Hp.sel [XL, (txS ts), [row b53 23 (dc (p.lead width k 256))], ZE, [row b1 23 (dc k)], [row b4 28 (p.cells (.slice sA p.ss.length sC))], [row b7 23 (dc (p.lead width k 256))], [row b10 23 (dc (List.replicate 32 0))]] R [0, 1] [2, 3, 4, 5, 6, 7] hA116 rfl
                exact ⟨ts, tv, XL, by unfold Prf.to; rw [hee]; rfl, by rw [if_pos hee]; exact hTS, hA117⟩
            by_cases hpr : p.pr = true
            · refine vc_trueB hF rfl hpr ?_
              refine wp_region_plan 9 [4,8,9,10] [0,1,2,3,5,6,7,4,8,9,10] (fun x => Hq w0 (Z :: ZE :: [row b1 23 (dc k)] :: [row b4 28 (p.cells (.slice sA p.ss.length sC))] :: [row b7 23 (dc (List.replicate 32 0))] :: [row b10 23 (dc (List.replicate 32 0))] :: R) x) (by kernel_rfl) (by kernel_rfl) (Hq.drew (Hp.qp [Z, ZE, [row b1 23 (dc k)], [row b4 28 (p.cells (.slice sA p.ss.length sC))], [row b7 23 (dc (List.replicate 32 0))], [row b10 23 (dc (List.replicate 32 0))]] R [0, 1, 2, 3, 4, 5] hA45)) ?_
              have hA118 := Hl.drew hA45
              refine vp_y hF rfl rfl rfl rfl (by decide) _ (fun x hx => y_sliceArr rfl Tryd.underlying23 sz5_s5 rfl (.none 0) (.none 32) (Nat.zero_le _) (Nat.le_refl _) (sl_arr _ _ _)) (fun a hF => ?_)
              refine vp_y hF rfl rfl rfl rfl (by decide) _ (fun x hx => y_field rfl Tryd.underlying28 rfl sz25_s5 (by decide) rfl (rfl : (⟨_, 0 + _, none⟩ : Addr) = ⟨_, 1, none⟩)) (fun a hF => ?_)
              refine vp_y hF rfl rfl rfl rfl (by decide) _ (fun x hx => y_field rfl Tryd.underlying25 rfl sz3_s5 (by decide) rfl (rfl : (⟨_, 1 + _, none⟩ : Addr) = ⟨_, 1, none⟩)) (fun a hF => ?_)
              refine vp_y hF rfl rfl rfl rfl (by decide) _ (fun x hx => y_ld rfl hx rfl 3 rfl rfl nr3_s5) (fun a hF => ?_)
              refine vp_y hF rfl rfl rfl rfl (by decide) _ (fun x hx => y_field rfl Tryd.underlying28 rfl sz25_s5 (by decide) rfl (rfl : (⟨_, 0 + _, none⟩ : Addr) = ⟨_, 1, none⟩)) (fun a hF => ?_)
              refine vp_y hF rfl rfl rfl rfl (by decide) _ (fun x hx => y_field rfl Tryd.underlying25 rfl sz23_s5 (by decide) rfl (rfl : (⟨_, 1 + _, none⟩ : Addr) = ⟨_, 2, none⟩)) (fun a hF => ?_)
              refine vp_y hF rfl rfl rfl rfl (by decide) _ (fun x hx => y_sliceArr rfl Tryd.underlying23 sz5_s5 rfl (.none 0) (.none 32) (Nat.zero_le _) (Nat.le_refl _) (sl_arr _ _ _)) (fun a hF => ?_)
              refine vp_l rfl rfl rfl (fun K hK => ws_call hF rfl (by decide) cl49_s5 rfl rfl ?_)
              with_reducible refine (sp_eight w0 _ (Z :: ZE :: [row b1 23 (dc k)] :: [row b4 28 (p.cells (.slice sA p.ss.length sC))] :: [row b7 23 (dc (List.replicate 32 0))] :: [row b10 23 (dc (List.replicate 32 0))] :: R) p.ct hA118 ).mono ?_
              rintro e' w119 ⟨gc, rfl, hA120⟩
              refine ⟨_, rfl, fun a hF => hK _ _ (fun _ => ?_) ?_⟩
              · exact Hp.qp [[row gc 5 (dc (be 8 (c64 p.ct)))], Z, ZE, [row b1 23 (dc k)], [row b4 28 (p.cells (.slice sA p.ss.length sC))], [row b7 23 (dc (List.replicate 32 0))], [row b10 23 (dc (List.replicate 32 0))]] R [1, 2, 3, 4, 5, 6] hA120
              clear hK K
              replace hA120 : Hp w0 ([row gc 5 (dc (be 8 (c64 p.ct)))] :: Z :: ZE :: [row b1 23 (dc k)] :: [row b4 28 (p.cells (.slice sA p.ss.length sC))] :: [row b7 23 (dc (List.replicate 32 0))] :: [row b10 23 (dc (List.replicate 32 0))] :: R) w119 := hA120
              refine vp_l rfl rfl rfl (fun K hK => hs_bs (qs := #[(0, .slice (some ⟨b1, 0, none⟩) 32 32), (1, .slice (some ⟨gc, 0, none⟩) 8 8), (2, .slice (some ⟨b4, 2, none⟩) 32 32)]) (cells := #[.slice (some ⟨b1, 0, none⟩) 32 32, .slice (some ⟨gc, 0, none⟩) 8 8, .slice (some ⟨b4, 2, none⟩) 32 32]) hF rfl (by decide) rfl hA120 rfl (sp_bs3 _ _ _ _ _ _ _ _ _) (fun b121 w122 a hb121 hF hA123 => hK _ _ (fun _ => ?_) ?_))
              · exact Hp.qp [[row b121 59 [.slice (some ⟨b1, 0, none⟩) 32 32, .slice (some ⟨gc, 0, none⟩) 8 8, .slice (some ⟨b4, 2, none⟩) 32 32]], [row gc 5 (dc (be 8 (c64 p.ct)))], Z, ZE, [row b1 23 (dc k)], [row b4 28 (p.cells (.slice sA p.ss.length sC))], [row b7 23 (dc (List.replicate 32 0))], [row b10 23 (dc (List.replicate 32 0))]] R [2, 3, 4, 5, 6, 7] hA123
              clear hK K
              replace hA123 : Hp w0 ([row b121 59 [.slice (some ⟨b1, 0, none⟩) 32 32, .slice (some ⟨gc, 0, none⟩) 8 8, .slice (some ⟨b4, 2, none⟩) 32 32]] :: [row gc 5 (dc (be 8 (c64 p.ct)))] :: Z :: ZE :: [row b1 23 (dc k)] :: [row b4 28 (p.cells (.slice sA p.ss.length sC))] :: [row b7 23 (dc (List.replicate 32 0))] :: [row b10 23 (dc (List.replicate 32 0))] :: R) w122 := hA123
              have hps : PcS w0 ([row b121 59 [.slice (some ⟨b1, 0, none⟩) 32 32, .slice (some ⟨gc, 0, none⟩) 8 8, .slice (some ⟨b4, 2, none⟩) 32 32]] :: [row gc 5 (dc (be 8 (c64 p.ct)))] :: Z :: ZE :: [row b1 23 (dc k)] :: [row b4 28 (p.cells (.slice sA p.ss.length sC))] :: [row b7 23 (dc (List.replicate 32 0))] :: [row b10 23 (dc (List.replicate 32 0))] :: R) (some ⟨b121, 0, none⟩) [(some ⟨b1, 0, none⟩, 32, k), (some ⟨gc, 0, none⟩, 8, be 8 (c64 p.ct)), (some ⟨b4, 2, none⟩, 32, p.ch)] := pcs_three (by rw [hk, be_length, hp.ch]; exact Rc.ofRow (i := 0) (off := 0) rfl rfl) (by rw [hk]; decide) (by rw [be_length]; decide) (by rw [hp.ch]; decide) (Rc.ofRow (i := 4) (off := 0) rfl (by rw [List.drop_zero]; exact List.take_length ..)) (Rc.ofRow (i := 1) (off := 0) rfl (by rw [List.drop_zero]; exact List.take_length ..)) (Rc.ofRow (i := 5) (off := 2) rfl (by rw [dc_length, hp.ch]; exact Prf.c_chain hp))
              refine vp_l rfl rfl rfl (fun K hK => ws_call hF rfl (by decide) cl48_s5 rfl rfl ?_)
              with_reducible refine (sp_rtext3 w0 _ ([row b121 59 [.slice (some ⟨b1, 0, none⟩) 32 32, .slice (some ⟨gc, 0, none⟩) 8 8, .slice (some ⟨b4, 2, none⟩) 32 32]] :: [row gc 5 (dc (be 8 (c64 p.ct)))] :: Z :: ZE :: [row b1 23 (dc k)] :: [row b4 28 (p.cells (.slice sA p.ss.length sC))] :: [row b7 23 (dc (List.replicate 32 0))] :: [row b10 23 (dc (List.replicate 32 0))] :: R) _ _ _ _ _ _ _ _ _ _ hps hk (be_length _ _) hp.ch hA123 ).mono ?_
              rintro e' w124 ⟨A1, c1, Z1, rfl, hZ1, hA125⟩
              refine ⟨_, rfl, fun a hF => hK _ _ (fun h => absurd h (by decide)) ?_⟩
              clear hK K
              replace hA125 : Hp w0 (Z1 :: [row b121 59 [.slice (some ⟨b1, 0, none⟩) 32 32, .slice (some ⟨gc, 0, none⟩) 8 8, .slice (some ⟨b4, 2, none⟩) 32 32]] :: [row gc 5 (dc (be 8 (c64 p.ct)))] :: Z :: ZE :: [row b1 23 (dc k)] :: [row b4 28 (p.cells (.slice sA p.ss.length sC))] :: [row b7 23 (dc (List.replicate 32 0))] :: [row b10 23 (dc (List.replicate 32 0))] :: R) w124 := hA125
              have ht0 : p.text0 k = 3 :: (k ++ be 8 (c64 p.ct) ++ p.ch) := by unfold Prf.text0; rw [hpr]; rfl
              rw [← ht0] at hZ1 hF
              refine vp_ly hF rfl rfl rfl rfl (by decide) _ (y_assign rfl rfl) (fun h => absurd h (by decide)) (fun a hF => ?_)
              refine plan_end ?_
              have hA126 : Hp w0 (Z1 :: ZE :: [row b1 23 (dc k)] :: [row b4 28 (p.cells (.slice sA p.ss.length sC))] :: [row b7 23 (dc (List.replicate 32 0))] :: [row b10 23 (dc (List.replicate 32 0))] :: R) w124 := Hp.sel [Z1, [row b121 59 [.slice (some ⟨b1, 0, none⟩) 32 32, .slice (some ⟨gc, 0, none⟩) 8 8, .slice (some ⟨b4, 2, none⟩) 32 32]], [row gc 5 (dc (be 8 (c64 p.ct)))], Z, ZE, [row b1 23 (dc k)], [row b4 28 (p.cells (.slice sA p.ss.length sC))], [row b7 23 (dc (List.replicate 32 0))], [row b10 23 (dc (List.replicate 32 0))]] R [0, 4, 5, 6, 7, 8] [1, 2, 3] hA125 rfl
              exact hJ _ _ A1 c1 Z1 (hF.keep [18, 0, 4, 5, 7, 9, 12] rfl) hZ1 hA126
            · have hp0 : p.pr = false := by simpa using hpr
              have ht0 : p.text0 k = [5] := by unfold Prf.text0; rw [hp0]; rfl
              rw [← ht0] at hZ0 hF
              refine vc_falseB hF rfl hp0 ?_
              apply wp_skip
              exact hJ _ _ A0 c0 Z (hF.keep [18, 0, 4, 5, 7, 9, 12] rfl) hZ0 hA45
        by_cases hgt : 32 < z
        · refine vc_trueB hF rfl (gtr_t (by omega)) ?_
          refine wp_region_lit ?_
          refine vc_y hF rfl rfl (by decide) _ (y_assign rfl rfl) (fun a hF => ?_)
          refine vc_nil ?_
          exact hJ2 _ _ 32 (by rw [kept_int]; omega) (hF.keep [13, 0, 4, 5, 7, 9, 12] rfl) hAj
        · refine vc_falseB hF rfl (gtr_f (by omega)) ?_
          apply wp_skip
          exact hJ2 _ _ z (by rw [kept_int]; omega) (hF.keep [13, 0, 4, 5, 7, 9, 12] rfl) hAj
      by_cases hlo : width < 1
      · refine vc_trueB hF rfl (lss_t (by omega)) ?_
        refine wp_region_lit ?_
        refine vc_y hF rfl rfl (by decide) _ (y_assign rfl rfl) (fun a hF => ?_)
        refine vc_nil ?_
        exact hJ1 _ _ 1 (by omega) (hF.keep [13, 0, 4, 5, 7, 9, 12] rfl) hA21
      · refine vc_falseB hF rfl (lss_f (by omega)) ?_
        apply wp_skip
        exact hJ1 _ _ width (by omega) (hF.keep [13, 0, 4, 5, 7, 9, 12] rfl) hA21
    have hErr : ∀ (a : Act) (x : World), p.formed = false → Fr 159 [(58, .bool true), (0, .int .i64 width), (4, .pointer (some ⟨b1, 0, none⟩)), (5, .pointer (some ⟨b4, 0, none⟩)), (7, .pointer (some ⟨b7, 0, none⟩)), (9, .pointer (some ⟨b10, 0, none⟩))] a → Hp w0 ([row b1 23 (dc k)] :: [row b4 28 (p.cells (.slice sA p.ss.length sC))] :: [row b7 23 (dc (List.replicate 32 0))] :: [row b10 23 (dc (List.replicate 32 0))] :: R) x → K11 a x := by
      clear hF
      intro a x hf hF hAj
      clear hGood
      refine hK11 _ _ ?_; clear  hK11 K11
      refine vc_true hF rfl ?_
      apply wp_seq_k; intro K59 hK59
      refine wp_region_plan 2 [2,3] [0,1,2,3] (fun x => Hq w0 ([row b1 23 (dc k)] :: [row b4 28 (p.cells (.slice sA p.ss.length sC))] :: [row b7 23 (dc (List.replicate 32 0))] :: [row b10 23 (dc (List.replicate 32 0))] :: R) x) (by kernel_rfl) (by kernel_rfl) (Hq.drew (Hp.qp [[row b1 23 (dc k)], [row b4 28 (p.cells (.slice sA p.ss.length sC))], [row b7 23 (dc (List.replicate 32 0))], [row b10 23 (dc (List.replicate 32 0))]] R [0, 1, 2, 3] hAj)) ?_
      have hA127 := Hl.drew hAj
      refine vp_y hF rfl rfl rfl rfl (by decide) _ (fun x hx => y_ldRow (new := dc (List.replicate 32 0)) rfl hx rfl 3 rfl rw23_s5 (by rw [hz32]; exact Nat.le_refl _) (by rw [List.drop_zero]; exact List.take_of_length_le (by rw [hz32]; exact Nat.le_refl _))) (fun a hF => ?_)
      refine vp_y hF rfl rfl rfl rfl (by decide) _ (fun x hx => y_assign rfl rfl) (fun a hF => ?_)
      refine vp_l rfl rfl rfl (fun K hK => hs_storeAll (new := dc (List.replicate 32 0)) hF rfl rfl hA127 rfl rfl 2 rfl rfl (dc_one _) sz23_s5 (fun w128 hA129 => hK _ _ (fun h => absurd h (by decide)) ?_))
      clear hK K
      replace hA129 : Hp w0 ([row b1 23 (dc k)] :: [row b4 28 (p.cells (.slice sA p.ss.length sC))] :: [row b7 23 (dc (List.replicate 32 0))] :: [row b10 23 (dc (List.replicate 32 0))] :: R) w128 := hA129
      refine vp_ly hF rfl rfl rfl rfl (by decide) _ (y_assign rfl rfl) (fun h => absurd h (by decide)) (fun a hF => ?_)
      refine plan_end ?_
      refine hK59 _ _ ?_; clear  hK59 K59
      apply wp_ret
      simp only [Exit.then]
      refine vc_retTCT hF Tryd.results15 hA129.q rfl rfl rfl 2 rfl rw23_s5 ?_
      have hA130 : Hp w0 (R) w128 := Hp.sel [[row b1 23 (dc k)], [row b4 28 (p.cells (.slice sA p.ss.length sC))], [row b7 23 (dc (List.replicate 32 0))], [row b10 23 (dc (List.replicate 32 0))]] R [] [0, 1, 2, 3] hA129 rfl
      have hee : p.err width = 8 := Prf.err_form hf
      exact ⟨[], _, [], by unfold Prf.to; rw [hee]; rfl, by rw [hee]; exact RTxsS.none w0, Hp.nil (Hp.nil hA130)⟩
    by_cases heq : onesN p.bs 256 = p.ss.length
    · by_cases hpr : p.pr = true
      · by_cases hrt : 1 ≤ p.ct ∧ p.ct ≤ 1099511627776
        · refine wp_region_lit ?_
          refine vc_y hF rfl rfl (by decide) _ (y_move rfl rfl) (fun a hF => ?_)
          refine vc_y hF rfl rfl (by decide) _ (y_field rfl Tryd.underlying28 rfl sz26_s5 (by decide) rfl (rfl : (⟨_, 0 + _, none⟩ : Addr) = ⟨_, 66, none⟩)) (fun a hF => ?_)
          refine vc_y hF rfl rfl (by decide) _ (y_ld rfl hA16.q rfl 1 rfl (Prf.c_sums hp) nr26_s5) (fun a hF => ?_)
          refine vc_y hF rfl rfl (by decide) _ (y_lenSl rfl Tryd.underlying26 rfl rfl) (fun a hF => ?_)
          refine vc_y hF rfl rfl (by decide) _ (y_cmp rfl rfl rfl rfl (neq_f (by omega))) (fun a hF => ?_)
          refine vc_y hF rfl rfl (by decide) _ (y_move rfl rfl) (fun a hF => ?_)
          refine vc_yg hF rfl rfl rfl rfl rfl (by decide) _ (y_field rfl Tryd.underlying28 rfl sz4_s5 (by decide) rfl (rfl : (⟨_, 0 + _, none⟩ : Addr) = ⟨_, 0, none⟩)) (fun a hF => ?_)
          refine vc_yg hF rfl rfl rfl rfl rfl (by decide) _ (y_ld rfl hA16.q rfl 1 rfl (show (p.cells (.slice sA p.ss.length sC))[0]? = some (.bool true) by rw [← hpr]; rfl) nr4_s5) (fun a hF => ?_)
          refine vc_yg hF rfl rfl rfl rfl rfl (by decide) _ (y_move rfl rfl) (fun a hF => ?_)
          refine vc_yg hF rfl rfl rfl rfl rfl (by decide) _ (y_field rfl Tryd.underlying28 rfl sz25_s5 (by decide) rfl (rfl : (⟨_, 0 + _, none⟩ : Addr) = ⟨_, 1, none⟩)) (fun a hF => ?_)
          refine vc_yg hF rfl rfl rfl rfl rfl (by decide) _ (y_ldRow rfl hA16.q rfl 1 rfl rw25_s5 (by rw [Prf.c_len hp]; decide) (Prf.c_ent hp)) (fun a hF => ?_)
          refine vc_opg hF rfl rfl rfl rfl (fun K hK => ws_call hF rfl (by decide) cl46_s5 rfl rfl ?_)
          with_reducible refine (sp_right w0 _ ([row b1 23 (dc k)] :: [row b4 28 (p.cells (.slice sA p.ss.length sC))] :: [row b7 23 (dc (List.replicate 32 0))] :: [row b10 23 (dc (List.replicate 32 0))] :: R) p.ct p.ch hA16 ).mono ?_
          rintro e' w131 ⟨rfl, hA132⟩
          refine ⟨_, rfl, fun a hF => hK _ _ ?_⟩
          clear hK K
          replace hA132 : Hp w0 ([row b1 23 (dc k)] :: [row b4 28 (p.cells (.slice sA p.ss.length sC))] :: [row b7 23 (dc (List.replicate 32 0))] :: [row b10 23 (dc (List.replicate 32 0))] :: R) w131 := hA132
          rw [decide_eq_true hrt] at hF
          refine vc_yg hF rfl rfl rfl rfl rfl (by decide) _ (y_not rfl rfl rfl) (fun a hF => ?_)
          refine vc_yg hF rfl rfl rfl rfl rfl (by decide) _ (y_pick rfl rfl rfl) (fun a hF => ?_)
          refine vc_y hF rfl rfl (by decide) _ (y_pick rfl rfl rfl) (fun a hF => ?_)
          refine vc_y hF rfl rfl (by decide) _ (y_move rfl rfl) (fun a hF => ?_)
          refine vc_yg hF rfl rfl rfl rfl rfl (by decide) _ (y_field rfl Tryd.underlying28 rfl sz4_s5 (by decide) rfl (rfl : (⟨_, 0 + _, none⟩ : Addr) = ⟨_, 0, none⟩)) (fun a hF => ?_)
          refine vc_yg hF rfl rfl rfl rfl rfl (by decide) _ (y_ld rfl hA132.q rfl 1 rfl (show (p.cells (.slice sA p.ss.length sC))[0]? = some (.bool true) by rw [← hpr]; rfl) nr4_s5) (fun a hF => ?_)
          refine vc_yg hF rfl rfl rfl rfl rfl (by decide) _ (y_not rfl rfl rfl) (fun a hF => ?_)
          refine vc_yg hF rfl rfl rfl rfl rfl (by decide) _ (y_move rfl rfl) (fun a hF => ?_)
          refine vc_skip hF rfl rfl rfl rfl rfl rfl (by decide) (fun a hF => ?_)
          refine vc_skip hF rfl rfl rfl rfl rfl rfl (by decide) (fun a hF => ?_)
          refine vc_skip hF rfl rfl rfl rfl rfl rfl (by decide) (fun a hF => ?_)
          refine vc_skip hF rfl rfl rfl rfl rfl rfl (by decide) (fun a hF => ?_)
          refine vc_yg hF rfl rfl rfl rfl rfl (by decide) _ (y_pick rfl rfl rfl) (fun a hF => ?_)
          refine vc_y hF rfl rfl (by decide) _ (y_pick rfl rfl rfl) (fun a hF => ?_)
          refine vc_nil ?_
          exact hGood _ _ (by unfold Prf.formed Prf.counted; rw [decide_eq_true heq, hpr]; simp only [if_true, Bool.true_and]; exact decide_eq_true hrt) (hF.keep [58, 0, 4, 5, 7, 9] rfl) hA132
        · refine wp_region_lit ?_
          refine vc_y hF rfl rfl (by decide) _ (y_move rfl rfl) (fun a hF => ?_)
          refine vc_y hF rfl rfl (by decide) _ (y_field rfl Tryd.underlying28 rfl sz26_s5 (by decide) rfl (rfl : (⟨_, 0 + _, none⟩ : Addr) = ⟨_, 66, none⟩)) (fun a hF => ?_)
          refine vc_y hF rfl rfl (by decide) _ (y_ld rfl hA16.q rfl 1 rfl (Prf.c_sums hp) nr26_s5) (fun a hF => ?_)
          refine vc_y hF rfl rfl (by decide) _ (y_lenSl rfl Tryd.underlying26 rfl rfl) (fun a hF => ?_)
          refine vc_y hF rfl rfl (by decide) _ (y_cmp rfl rfl rfl rfl (neq_f (by omega))) (fun a hF => ?_)
          refine vc_y hF rfl rfl (by decide) _ (y_move rfl rfl) (fun a hF => ?_)
          refine vc_yg hF rfl rfl rfl rfl rfl (by decide) _ (y_field rfl Tryd.underlying28 rfl sz4_s5 (by decide) rfl (rfl : (⟨_, 0 + _, none⟩ : Addr) = ⟨_, 0, none⟩)) (fun a hF => ?_)
          refine vc_yg hF rfl rfl rfl rfl rfl (by decide) _ (y_ld rfl hA16.q rfl 1 rfl (show (p.cells (.slice sA p.ss.length sC))[0]? = some (.bool true) by rw [← hpr]; rfl) nr4_s5) (fun a hF => ?_)
          refine vc_yg hF rfl rfl rfl rfl rfl (by decide) _ (y_move rfl rfl) (fun a hF => ?_)
          refine vc_yg hF rfl rfl rfl rfl rfl (by decide) _ (y_field rfl Tryd.underlying28 rfl sz25_s5 (by decide) rfl (rfl : (⟨_, 0 + _, none⟩ : Addr) = ⟨_, 1, none⟩)) (fun a hF => ?_)
          refine vc_yg hF rfl rfl rfl rfl rfl (by decide) _ (y_ldRow rfl hA16.q rfl 1 rfl rw25_s5 (by rw [Prf.c_len hp]; decide) (Prf.c_ent hp)) (fun a hF => ?_)
          refine vc_opg hF rfl rfl rfl rfl (fun K hK => ws_call hF rfl (by decide) cl46_s5 rfl rfl ?_)
          with_reducible refine (sp_right w0 _ ([row b1 23 (dc k)] :: [row b4 28 (p.cells (.slice sA p.ss.length sC))] :: [row b7 23 (dc (List.replicate 32 0))] :: [row b10 23 (dc (List.replicate 32 0))] :: R) p.ct p.ch hA16 ).mono ?_
          rintro e' w133 ⟨rfl, hA134⟩
          refine ⟨_, rfl, fun a hF => hK _ _ ?_⟩
          clear hK K
          replace hA134 : Hp w0 ([row b1 23 (dc k)] :: [row b4 28 (p.cells (.slice sA p.ss.length sC))] :: [row b7 23 (dc (List.replicate 32 0))] :: [row b10 23 (dc (List.replicate 32 0))] :: R) w133 := hA134
          rw [decide_eq_false hrt] at hF
          refine vc_yg hF rfl rfl rfl rfl rfl (by decide) _ (y_not rfl rfl rfl) (fun a hF => ?_)
          refine vc_yg hF rfl rfl rfl rfl rfl (by decide) _ (y_pick rfl rfl rfl) (fun a hF => ?_)
          refine vc_y hF rfl rfl (by decide) _ (y_pick rfl rfl rfl) (fun a hF => ?_)
          refine vc_y hF rfl rfl (by decide) _ (y_move rfl rfl) (fun a hF => ?_)
          refine vc_skip hF rfl rfl rfl rfl rfl rfl (by decide) (fun a hF => ?_)
          refine vc_skip hF rfl rfl rfl rfl rfl rfl (by decide) (fun a hF => ?_)
          refine vc_skip hF rfl rfl rfl rfl rfl rfl (by decide) (fun a hF => ?_)
          refine vc_skip hF rfl rfl rfl rfl rfl rfl (by decide) (fun a hF => ?_)
          refine vc_skipU hF rfl rfl rfl rfl rfl (by decide) (fun a hF => ?_)
          refine vc_skipU hF rfl rfl rfl rfl rfl (by decide) (fun a hF => ?_)
          refine vc_skipU hF rfl rfl rfl rfl rfl (by decide) (fun a hF => ?_)
          refine vc_skipU hF rfl rfl rfl rfl rfl (by decide) (fun a hF => ?_)
          refine vc_skip hF rfl rfl rfl rfl rfl rfl (by decide) (fun a hF => ?_)
          refine vc_y hF rfl rfl (by decide) _ (y_pick rfl rfl rfl) (fun a hF => ?_)
          refine vc_nil ?_
          exact hErr _ _ (by unfold Prf.formed Prf.counted; rw [decide_eq_true heq, hpr]; simp only [if_true, Bool.true_and]; exact decide_eq_false hrt) (hF.keep [58, 0, 4, 5, 7, 9] rfl) hA134
      · have hpr0 : p.pr = false := by simpa using hpr
        by_cases hbl : p.ct = 0 ∧ p.ch = List.replicate 32 0
        · refine wp_region_lit ?_
          refine vc_y hF rfl rfl (by decide) _ (y_move rfl rfl) (fun a hF => ?_)
          refine vc_y hF rfl rfl (by decide) _ (y_field rfl Tryd.underlying28 rfl sz26_s5 (by decide) rfl (rfl : (⟨_, 0 + _, none⟩ : Addr) = ⟨_, 66, none⟩)) (fun a hF => ?_)
          refine vc_y hF rfl rfl (by decide) _ (y_ld rfl hA16.q rfl 1 rfl (Prf.c_sums hp) nr26_s5) (fun a hF => ?_)
          refine vc_y hF rfl rfl (by decide) _ (y_lenSl rfl Tryd.underlying26 rfl rfl) (fun a hF => ?_)
          refine vc_y hF rfl rfl (by decide) _ (y_cmp rfl rfl rfl rfl (neq_f (by omega))) (fun a hF => ?_)
          refine vc_y hF rfl rfl (by decide) _ (y_move rfl rfl) (fun a hF => ?_)
          refine vc_yg hF rfl rfl rfl rfl rfl (by decide) _ (y_field rfl Tryd.underlying28 rfl sz4_s5 (by decide) rfl (rfl : (⟨_, 0 + _, none⟩ : Addr) = ⟨_, 0, none⟩)) (fun a hF => ?_)
          refine vc_yg hF rfl rfl rfl rfl rfl (by decide) _ (y_ld rfl hA16.q rfl 1 rfl (show (p.cells (.slice sA p.ss.length sC))[0]? = some (.bool false) by rw [← hpr0]; rfl) nr4_s5) (fun a hF => ?_)
          refine vc_yg hF rfl rfl rfl rfl rfl (by decide) _ (y_move rfl rfl) (fun a hF => ?_)
          refine vc_skip hF rfl rfl rfl rfl rfl rfl (by decide) (fun a hF => ?_)
          refine vc_skip hF rfl rfl rfl rfl rfl rfl (by decide) (fun a hF => ?_)
          refine vc_skip hF rfl rfl rfl rfl rfl rfl (by decide) (fun a hF => ?_)
          refine vc_skip hF rfl rfl rfl rfl rfl rfl (by decide) (fun a hF => ?_)
          refine vc_yg hF rfl rfl rfl rfl rfl (by decide) _ (y_pick rfl rfl rfl) (fun a hF => ?_)
          refine vc_y hF rfl rfl (by decide) _ (y_pick rfl rfl rfl) (fun a hF => ?_)
          refine vc_y hF rfl rfl (by decide) _ (y_move rfl rfl) (fun a hF => ?_)
          refine vc_yg hF rfl rfl rfl rfl rfl (by decide) _ (y_field rfl Tryd.underlying28 rfl sz4_s5 (by decide) rfl (rfl : (⟨_, 0 + _, none⟩ : Addr) = ⟨_, 0, none⟩)) (fun a hF => ?_)
          refine vc_yg hF rfl rfl rfl rfl rfl (by decide) _ (y_ld rfl hA16.q rfl 1 rfl (show (p.cells (.slice sA p.ss.length sC))[0]? = some (.bool false) by rw [← hpr0]; rfl) nr4_s5) (fun a hF => ?_)
          refine vc_yg hF rfl rfl rfl rfl rfl (by decide) _ (y_not rfl rfl rfl) (fun a hF => ?_)
          refine vc_yg hF rfl rfl rfl rfl rfl (by decide) _ (y_move rfl rfl) (fun a hF => ?_)
          refine vc_yg hF rfl rfl rfl rfl rfl (by decide) _ (y_field rfl Tryd.underlying28 rfl sz25_s5 (by decide) rfl (rfl : (⟨_, 0 + _, none⟩ : Addr) = ⟨_, 1, none⟩)) (fun a hF => ?_)
          refine vc_yg hF rfl rfl rfl rfl rfl (by decide) _ (y_ldRow rfl hA16.q rfl 1 rfl rw25_s5 (by rw [Prf.c_len hp]; decide) (Prf.c_ent hp)) (fun a hF => ?_)
          refine vc_yg hF rfl rfl rfl rfl rfl (by decide) _ (y_build0 rfl sp_ent0) (fun a hF => ?_)
          refine vc_yg hF rfl rfl rfl rfl rfl (by decide) _ (y_neEnt rfl (by kernel_rfl) (by kernel_rfl) (by kernel_rfl) sp_entF (by decide) (by decide) rfl rfl Tryd.underlying3 Tryd.underlying23 Tryd.underlying5 sz5_s5 sz23_s5 hp.ch rfl rfl rfl (show (!decide (p.ct = 0 ∧ p.ch = List.replicate 32 0)) = false by rw [decide_eq_true hbl]; rfl)) (fun a hF => ?_)
          refine vc_yg hF rfl rfl rfl rfl rfl (by decide) _ (y_pick rfl rfl rfl) (fun a hF => ?_)
          refine vc_y hF rfl rfl (by decide) _ (y_pick rfl rfl rfl) (fun a hF => ?_)
          refine vc_nil ?_
          exact hGood _ _ (by unfold Prf.formed Prf.blank; rw [decide_eq_true heq, hpr0]; simp only [Bool.false_eq_true, if_false, Bool.true_and]; exact decide_eq_true hbl) (hF.keep [58, 0, 4, 5, 7, 9] rfl) hA16
        · refine wp_region_lit ?_
          refine vc_y hF rfl rfl (by decide) _ (y_move rfl rfl) (fun a hF => ?_)
          refine vc_y hF rfl rfl (by decide) _ (y_field rfl Tryd.underlying28 rfl sz26_s5 (by decide) rfl (rfl : (⟨_, 0 + _, none⟩ : Addr) = ⟨_, 66, none⟩)) (fun a hF => ?_)
          refine vc_y hF rfl rfl (by decide) _ (y_ld rfl hA16.q rfl 1 rfl (Prf.c_sums hp) nr26_s5) (fun a hF => ?_)
          refine vc_y hF rfl rfl (by decide) _ (y_lenSl rfl Tryd.underlying26 rfl rfl) (fun a hF => ?_)
          refine vc_y hF rfl rfl (by decide) _ (y_cmp rfl rfl rfl rfl (neq_f (by omega))) (fun a hF => ?_)
          refine vc_y hF rfl rfl (by decide) _ (y_move rfl rfl) (fun a hF => ?_)
          refine vc_yg hF rfl rfl rfl rfl rfl (by decide) _ (y_field rfl Tryd.underlying28 rfl sz4_s5 (by decide) rfl (rfl : (⟨_, 0 + _, none⟩ : Addr) = ⟨_, 0, none⟩)) (fun a hF => ?_)
          refine vc_yg hF rfl rfl rfl rfl rfl (by decide) _ (y_ld rfl hA16.q rfl 1 rfl (show (p.cells (.slice sA p.ss.length sC))[0]? = some (.bool false) by rw [← hpr0]; rfl) nr4_s5) (fun a hF => ?_)
          refine vc_yg hF rfl rfl rfl rfl rfl (by decide) _ (y_move rfl rfl) (fun a hF => ?_)
          refine vc_skip hF rfl rfl rfl rfl rfl rfl (by decide) (fun a hF => ?_)
          refine vc_skip hF rfl rfl rfl rfl rfl rfl (by decide) (fun a hF => ?_)
          refine vc_skip hF rfl rfl rfl rfl rfl rfl (by decide) (fun a hF => ?_)
          refine vc_skip hF rfl rfl rfl rfl rfl rfl (by decide) (fun a hF => ?_)
          refine vc_yg hF rfl rfl rfl rfl rfl (by decide) _ (y_pick rfl rfl rfl) (fun a hF => ?_)
          refine vc_y hF rfl rfl (by decide) _ (y_pick rfl rfl rfl) (fun a hF => ?_)
          refine vc_y hF rfl rfl (by decide) _ (y_move rfl rfl) (fun a hF => ?_)
          refine vc_yg hF rfl rfl rfl rfl rfl (by decide) _ (y_field rfl Tryd.underlying28 rfl sz4_s5 (by decide) rfl (rfl : (⟨_, 0 + _, none⟩ : Addr) = ⟨_, 0, none⟩)) (fun a hF => ?_)
          refine vc_yg hF rfl rfl rfl rfl rfl (by decide) _ (y_ld rfl hA16.q rfl 1 rfl (show (p.cells (.slice sA p.ss.length sC))[0]? = some (.bool false) by rw [← hpr0]; rfl) nr4_s5) (fun a hF => ?_)
          refine vc_yg hF rfl rfl rfl rfl rfl (by decide) _ (y_not rfl rfl rfl) (fun a hF => ?_)
          refine vc_yg hF rfl rfl rfl rfl rfl (by decide) _ (y_move rfl rfl) (fun a hF => ?_)
          refine vc_yg hF rfl rfl rfl rfl rfl (by decide) _ (y_field rfl Tryd.underlying28 rfl sz25_s5 (by decide) rfl (rfl : (⟨_, 0 + _, none⟩ : Addr) = ⟨_, 1, none⟩)) (fun a hF => ?_)
          refine vc_yg hF rfl rfl rfl rfl rfl (by decide) _ (y_ldRow rfl hA16.q rfl 1 rfl rw25_s5 (by rw [Prf.c_len hp]; decide) (Prf.c_ent hp)) (fun a hF => ?_)
          refine vc_yg hF rfl rfl rfl rfl rfl (by decide) _ (y_build0 rfl sp_ent0) (fun a hF => ?_)
          refine vc_yg hF rfl rfl rfl rfl rfl (by decide) _ (y_neEnt rfl (by kernel_rfl) (by kernel_rfl) (by kernel_rfl) sp_entF (by decide) (by decide) rfl rfl Tryd.underlying3 Tryd.underlying23 Tryd.underlying5 sz5_s5 sz23_s5 hp.ch rfl rfl rfl (show (!decide (p.ct = 0 ∧ p.ch = List.replicate 32 0)) = true by rw [decide_eq_false hbl]; rfl)) (fun a hF => ?_)
          refine vc_yg hF rfl rfl rfl rfl rfl (by decide) _ (y_pick rfl rfl rfl) (fun a hF => ?_)
          refine vc_y hF rfl rfl (by decide) _ (y_pick rfl rfl rfl) (fun a hF => ?_)
          refine vc_nil ?_
          exact hErr _ _ (by unfold Prf.formed Prf.blank; rw [decide_eq_true heq, hpr0]; simp only [Bool.false_eq_true, if_false, Bool.true_and]; exact decide_eq_false hbl) (hF.keep [58, 0, 4, 5, 7, 9] rfl) hA16
    · refine wp_region_lit ?_
      refine vc_y hF rfl rfl (by decide) _ (y_move rfl rfl) (fun a hF => ?_)
      refine vc_y hF rfl rfl (by decide) _ (y_field rfl Tryd.underlying28 rfl sz26_s5 (by decide) rfl (rfl : (⟨_, 0 + _, none⟩ : Addr) = ⟨_, 66, none⟩)) (fun a hF => ?_)
      refine vc_y hF rfl rfl (by decide) _ (y_ld rfl hA16.q rfl 1 rfl (Prf.c_sums hp) nr26_s5) (fun a hF => ?_)
      refine vc_y hF rfl rfl (by decide) _ (y_lenSl rfl Tryd.underlying26 rfl rfl) (fun a hF => ?_)
      refine vc_y hF rfl rfl (by decide) _ (y_cmp rfl rfl rfl rfl (neq_t (by omega))) (fun a hF => ?_)
      refine vc_y hF rfl rfl (by decide) _ (y_move rfl rfl) (fun a hF => ?_)
      refine vc_skip hF rfl rfl rfl rfl rfl rfl (by decide) (fun a hF => ?_)
      refine vc_skip hF rfl rfl rfl rfl rfl rfl (by decide) (fun a hF => ?_)
      refine vc_skip hF rfl rfl rfl rfl rfl rfl (by decide) (fun a hF => ?_)
      refine vc_skipU hF rfl rfl rfl rfl rfl (by decide) (fun a hF => ?_)
      refine vc_skipU hF rfl rfl rfl rfl rfl (by decide) (fun a hF => ?_)
      refine vc_skipU hF rfl rfl rfl rfl rfl (by decide) (fun a hF => ?_)
      refine vc_skipU hF rfl rfl rfl rfl rfl (by decide) (fun a hF => ?_)
      refine vc_skip hF rfl rfl rfl rfl rfl rfl (by decide) (fun a hF => ?_)
      refine vc_y hF rfl rfl (by decide) _ (y_pick rfl rfl rfl) (fun a hF => ?_)
      refine vc_y hF rfl rfl (by decide) _ (y_move rfl rfl) (fun a hF => ?_)
      refine vc_skip hF rfl rfl rfl rfl rfl rfl (by decide) (fun a hF => ?_)
      refine vc_skip hF rfl rfl rfl rfl rfl rfl (by decide) (fun a hF => ?_)
      refine vc_skip hF rfl rfl rfl rfl rfl rfl (by decide) (fun a hF => ?_)
      refine vc_skip hF rfl rfl rfl rfl rfl rfl (by decide) (fun a hF => ?_)
      refine vc_skipU hF rfl rfl rfl rfl rfl (by decide) (fun a hF => ?_)
      refine vc_skipU hF rfl rfl rfl rfl rfl (by decide) (fun a hF => ?_)
      refine vc_skipU hF rfl rfl rfl rfl rfl (by decide) (fun a hF => ?_)
      refine vc_skipU hF rfl rfl rfl rfl rfl (by decide) (fun a hF => ?_)
      refine vc_skip hF rfl rfl rfl rfl rfl rfl (by decide) (fun a hF => ?_)
      refine vc_y hF rfl rfl (by decide) _ (y_pick rfl rfl rfl) (fun a hF => ?_)
      refine vc_nil ?_
      exact hErr _ _ (by unfold Prf.formed; rw [decide_eq_false heq]; rfl) (hF.keep [58, 0, 4, 5, 7, 9] rfl) hA16

set_option maxRecDepth 100000 in
set_option maxHeartbeats 2000000 in
theorem sp_rcheck (w0 w : World) (R G : List Seg) (hG : G ⊆ R) (p : Prf) (sA : Option Addr) (sC : Nat) (width : Int) (root k : List UInt8) (hp : p.OK) (hr : root.length = 32) (hk : k.length = 32) (hS : Rc w0 G sA (digV p.ss)) (hA : Hp w0 R w) : Calls Tryd.prog 13 #[.int .i64 width, .agg (dc root).toArray, .agg (dc k).toArray, .agg (p.cells (.slice sA p.ss.length sC)).toArray] w fun e w' => e = .returned (.int .i64 ((p.check width root k : Nat) : Int)) ∧ Hp w0 R w' := by
  have hdk : (dc k).length = 32 := by rw [dc_length, hk]
  have hdr : (dc root).length = 32 := by rw [dc_length, hr]
  have htl : (dc (p.to width k)).length = 32 := by rw [dc_length, p.to_length]
  refine vc_enter Tryd.func13 rfl Tryd.ntmps13 (Nat.le_of_ble_eq_true rfl) (fun a hF => ?_)
  apply wp_seq_k; intro K1 hK1
  refine wp_region_lit ?_
  refine vc_op rfl (fun K hK => hs_box (cs := dc root) hF rfl (by decide) rfl hA rfl (fun b1 w2 a hb1 hF hA3 => hK _ _ ?_))
  clear hK K
  replace hA3 : Hp w0 ([row b1 23 (dc root)] :: R) w2 := hA3
  refine vc_op rfl (fun K hK => hs_box (cs := dc k) hF rfl (by decide) rfl hA3 rfl (fun b4 w5 a hb4 hF hA6 => hK _ _ ?_))
  clear hK K
  replace hA6 : Hp w0 ([row b4 23 (dc k)] :: [row b1 23 (dc root)] :: R) w5 := hA6
  refine vc_op rfl (fun K hK => hs_box (cs := p.cells (.slice sA p.ss.length sC)) hF rfl (by decide) rfl hA6 rfl (fun b7 w8 a hb7 hF hA9 => hK _ _ ?_))
  clear hK K
  replace hA9 : Hp w0 ([row b7 28 (p.cells (.slice sA p.ss.length sC))] :: [row b4 23 (dc k)] :: [row b1 23 (dc root)] :: R) w8 := hA9
  refine vc_y hF rfl rfl (by decide) _ (y_assign rfl rfl) (fun a hF => ?_)
  refine vc_nil ?_
  refine hK1 _ _ ?_; clear  hK1 K1
  apply wp_seq_k; intro K2 hK2
  refine wp_region_lit ?_
  refine vc_y hF rfl rfl (by decide) _ (y_move rfl rfl) (fun a hF => ?_)
  refine vc_y hF rfl rfl (by decide) _ (y_ldRow (new := dc k) rfl hA9.q rfl 1 rfl rw23_s5 (by rw [hdk]; exact Nat.le_refl _) (by rw [List.drop_zero]; exact List.take_of_length_le (by rw [hdk]; exact Nat.le_refl _))) (fun a hF => ?_)
  refine vc_y hF rfl rfl (by decide) _ (y_ldRow rfl hA9.q rfl 0 rfl rw28_s5 (by rw [Prf.c_len hp]; decide) (Prf.c_all hp)) (fun a hF => ?_)
  refine vc_op rfl (fun K hK => ws_call hF rfl (by decide) cl15_s5 rfl rfl ?_)
  with_reducible refine (sp_rclimb w0 _ ([row b7 28 (p.cells (.slice sA p.ss.length sC))] :: [row b4 23 (dc k)] :: [row b1 23 (dc root)] :: R) G (List.Subset.trans hG (subC (subC (subC (sub0))))) p sA sC width k hp hk hS hA9 ).mono ?_
  rintro e' w10 ⟨ts, tv, XL, rfl, _, hA11⟩
  refine ⟨_, rfl, fun a hF => hK _ _ ?_⟩
  clear hK K
  replace hA11 : Hp w0 (XL :: (txS ts) :: [row b7 28 (p.cells (.slice sA p.ss.length sC))] :: [row b4 23 (dc k)] :: [row b1 23 (dc root)] :: R) w10 := hA11
  refine vc_y hF rfl rfl (by decide) _ (y_move rfl rfl) (fun a hF => ?_)
  refine vc_y hF rfl rfl (by decide) _ (y_extract (v := tv) rfl rfl rfl) (fun a hF => ?_)
  refine vc_y hF rfl rfl (by decide) _ (y_extract (v := .agg (dc (p.to width k)).toArray) rfl rfl rfl) (fun a hF => ?_)
  refine vc_y hF rfl rfl (by decide) _ (y_extract (v := .int .i64 ((p.err width : Nat) : Int)) rfl rfl rfl) (fun a hF => ?_)
  refine vc_op rfl (fun K hK => hs_alloc hF rfl (by decide) rfl hA11 (zr23_s5) (fun b12 w13 a hb12 hF hA14 => hK _ _ ?_))
  clear hK K
  replace hA14 : Hp w0 ([row b12 23 (dc (List.replicate 32 0))] :: XL :: (txS ts) :: [row b7 28 (p.cells (.slice sA p.ss.length sC))] :: [row b4 23 (dc k)] :: [row b1 23 (dc root)] :: R) w13 := hA14
  refine vc_y hF rfl rfl (by decide) _ (y_assign rfl rfl) (fun a hF => ?_)
  refine vc_op rfl (fun K hK => hs_storeAll (new := dc (p.to width k)) hF rfl rfl hA14 rfl rfl 0 rfl (by rw [htl]; rfl) (dc_one _) sz23_s5 (fun w15 hA16 => hK _ _ ?_))
  clear hK K
  replace hA16 : Hp w0 ([row b12 23 (dc (p.to width k))] :: XL :: (txS ts) :: [row b7 28 (p.cells (.slice sA p.ss.length sC))] :: [row b4 23 (dc k)] :: [row b1 23 (dc root)] :: R) w15 := hA16
  refine vc_y hF rfl rfl (by decide) _ (y_assign rfl rfl) (fun a hF => ?_)
  refine vc_nil ?_
  refine hK2 _ _ ?_; clear  hK2 K2
  apply wp_seq_k; intro K3 hK3
  apply wp_seq_k; intro K4 hK4
  by_cases he : p.err width = 0
  · have hto : p.to width k = p.lead width k 256 := by unfold Prf.to; rw [if_pos he]
    refine wp_region_lit ?_
    refine vc_y hF rfl rfl (by decide) _ (y_move rfl rfl) (fun a hF => ?_)
    refine vc_y hF rfl rfl (by decide) _ (y_cmp rfl rfl rfl rfl (neq_f (by omega))) (fun a hF => ?_)
    refine vc_nil ?_
    refine hK4 _ _ ?_; clear  hK4 K4
    refine vc_false hF rfl ?_
    by_cases heq : p.lead width k 256 = root
    · apply wp_skip
      refine hK3 _ _ ?_; clear  hK3 K3
      apply wp_seq_k; intro K5 hK5
      apply wp_seq_k; intro K6 hK6
      refine wp_region_lit ?_
      refine vc_y hF rfl rfl (by decide) _ (y_ldRow (new := dc (p.to width k)) rfl hA16.q rfl 0 rfl rw23_s5 (by rw [htl]; exact Nat.le_refl _) (by rw [List.drop_zero]; exact List.take_of_length_le (by rw [htl]; exact Nat.le_refl _))) (fun a hF => ?_)
      refine vc_y hF rfl rfl (by decide) _ (y_ldRow (new := dc root) rfl hA16.q rfl 5 rfl rw23_s5 (by rw [hdr]; exact Nat.le_refl _) (by rw [List.drop_zero]; exact List.take_of_length_le (by rw [hdr]; exact Nat.le_refl _))) (fun a hF => ?_)
      refine vc_y hF rfl rfl (by decide) _ (y_neB rfl Tryd.underlying23 Tryd.underlying5 sz5_s5 (by kernel_rfl) rfl rfl (p.to_length ..) hr (show (!decide (p.to width k = root)) = false by rw [hto]; simp [heq])) (fun a hF => ?_)
      refine vc_nil ?_
      refine hK6 _ _ ?_; clear  hK6 K6
      refine vc_false hF rfl ?_
      apply wp_skip
      refine hK5 _ _ ?_; clear  hK5 K5
      apply wp_seq_k; intro K7 hK7
      refine wp_region_lit ?_
      refine vc_y hF rfl rfl (by decide) _ (y_assign rfl rfl) (fun a hF => ?_)
      refine vc_nil ?_
      refine hK7 _ _ ?_; clear  hK7 K7
      apply wp_ret
      refine vc_ret1 hF Tryd.results13 rfl ?_
      have hA17 : Hp w0 (R) w15 := Hp.sel [[row b12 23 (dc (p.to width k))], XL, (txS ts), [row b7 28 (p.cells (.slice sA p.ss.length sC))], [row b4 23 (dc k)], [row b1 23 (dc root)]] R [] [0, 1, 2, 3, 4, 5] hA16 rfl
      exact ⟨by rw [Prf.check_ok he heq]; rfl, hA17⟩
    · apply wp_skip
      refine hK3 _ _ ?_; clear  hK3 K3
      apply wp_seq_k; intro K8 hK8
      apply wp_seq_k; intro K9 hK9
      refine wp_region_lit ?_
      refine vc_y hF rfl rfl (by decide) _ (y_ldRow (new := dc (p.to width k)) rfl hA16.q rfl 0 rfl rw23_s5 (by rw [htl]; exact Nat.le_refl _) (by rw [List.drop_zero]; exact List.take_of_length_le (by rw [htl]; exact Nat.le_refl _))) (fun a hF => ?_)
      refine vc_y hF rfl rfl (by decide) _ (y_ldRow (new := dc root) rfl hA16.q rfl 5 rfl rw23_s5 (by rw [hdr]; exact Nat.le_refl _) (by rw [List.drop_zero]; exact List.take_of_length_le (by rw [hdr]; exact Nat.le_refl _))) (fun a hF => ?_)
      refine vc_y hF rfl rfl (by decide) _ (y_neB rfl Tryd.underlying23 Tryd.underlying5 sz5_s5 (by kernel_rfl) rfl rfl (p.to_length ..) hr (show (!decide (p.to width k = root)) = true by rw [hto]; simp [heq])) (fun a hF => ?_)
      refine vc_nil ?_
      refine hK9 _ _ ?_; clear  hK9 K9
      refine vc_true hF rfl ?_
      apply wp_seq_k; intro K10 hK10
      refine wp_region_lit ?_
      refine vc_y hF rfl rfl (by decide) _ (y_assign rfl rfl) (fun a hF => ?_)
      refine vc_nil ?_
      refine hK10 _ _ ?_; clear  hK10 K10
      apply wp_ret
      simp only [Exit.then]
      refine vc_ret1 hF Tryd.results13 rfl ?_
      have hA18 : Hp w0 (R) w15 := Hp.sel [[row b12 23 (dc (p.to width k))], XL, (txS ts), [row b7 28 (p.cells (.slice sA p.ss.length sC))], [row b4 23 (dc k)], [row b1 23 (dc root)]] R [] [0, 1, 2, 3, 4, 5] hA16 rfl
      exact ⟨by rw [Prf.check_root he heq]; rfl, hA18⟩
  · refine wp_region_lit ?_
    refine vc_y hF rfl rfl (by decide) _ (y_move rfl rfl) (fun a hF => ?_)
    refine vc_y hF rfl rfl (by decide) _ (y_cmp rfl rfl rfl rfl (neq_t (by omega))) (fun a hF => ?_)
    refine vc_nil ?_
    refine hK4 _ _ ?_; clear  hK4 K4
    refine vc_true hF rfl ?_
    apply wp_seq_k; intro K11 hK11
    refine wp_region_lit ?_
    refine vc_y hF rfl rfl (by decide) _ (y_move rfl rfl) (fun a hF => ?_)
    refine vc_y hF rfl rfl (by decide) _ (y_assign rfl rfl) (fun a hF => ?_)
    refine vc_nil ?_
    refine hK11 _ _ ?_; clear  hK11 K11
    apply wp_ret
    simp only [Exit.then]
    refine vc_ret1 hF Tryd.results13 rfl ?_
    have hA19 : Hp w0 (R) w15 := Hp.sel [[row b12 23 (dc (p.to width k))], XL, (txS ts), [row b7 28 (p.cells (.slice sA p.ss.length sC))], [row b4 23 (dc k)], [row b1 23 (dc root)]] R [] [0, 1, 2, 3, 4, 5] hA16 rfl
    exact ⟨by rw [Prf.check_err he], hA19⟩
end Go.Proofs.YtpomngkcfbnjoaaDoor
