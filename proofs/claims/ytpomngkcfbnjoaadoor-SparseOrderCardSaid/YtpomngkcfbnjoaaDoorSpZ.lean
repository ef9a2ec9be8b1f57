/- A sparse tree: what it proves; how it is built. -/
import Derived.Test.YtpomngkcfbnjoaaDoorSpY
namespace Go.Proofs.YtpomngkcfbnjoaaDoor
open Go.RowKit Go.Dk

def prf0 : Prf := ⟨false, 0, List.replicate 32 0, List.replicate 32 0, []⟩
theorem zrPrf : zeroIs Tryd.prog 28 (.agg (prf0.cells (.slice none 0 0)).toArray) := by unfold zeroIs; kernel_rfl
theorem prf0_ok : prf0.OK := ⟨List.length_replicate .., List.length_replicate .., (fun d hd => by cases hd), Nat.zero_le _⟩
theorem Prf.c_putE {p : Prf} {sv : Value} (hp : p.OK) (ct : Int) {ch : List UInt8} (hch : ch.length = 32) : splice (p.cells sv) 1 (.int .i64 ct :: dc ch) = Prf.cells ⟨p.pr, ct, ch, p.bs, p.ss⟩ sv := by
  unfold splice Prf.cells
  rw [List.length_cons, dc_length, hch]
  show [Value.bool p.pr] ++ (.int .i64 ct :: dc ch) ++ (dc p.ch ++ (dc p.bs ++ [sv])).drop 32 = _
  rw [List.drop_left' (by rw [dc_length, hp.ch])]
  rfl
theorem dc_set (l : List UInt8) (i : Nat) (x : UInt8) : (dc l).set i (.int .u8 (x.toNat : Int)) = dc (l.set i x) := by
  show (l.map _).set i _ = (l.set i x).map _
  rw [List.map_set]
theorem Prf.c_putB {p : Prf} {sv : Value} (hp : p.OK) {i : Nat} (hi : i < 32) (x : UInt8) : (p.cells sv).set (34 + i) (.int .u8 (x.toNat : Int)) = Prf.cells ⟨p.pr, p.ct, p.ch, p.bs.set i x, p.ss⟩ sv := by
  unfold Prf.cells
  rw [show 34 + i = (32 + i) + 1 + 1 by omega, List.set_cons_succ, List.set_cons_succ, List.set_append, if_neg (by rw [dc_length, hp.ch]; omega), List.set_append, if_pos (by rw [dc_length, dc_length, hp.ch, hp.bs]; omega), dc_length, hp.ch, show 32 + i - 32 = i by omega, dc_set]
theorem prv_same {width : Int} {L : List Itm} {k : List UInt8} {h : Nat} (he : nbr width k L h = emptyL width h) : prvP width L k (h + 1) = prvP width L k h := by
  unfold prvP
  rw [show pBits (nbr width k L) (emptyL width) (h + 1) = pBits (nbr width k L) (emptyL width) h from if_pos he, show pSums (nbr width k L) (emptyL width) (h + 1) = pSums (nbr width k L) (emptyL width) h from if_pos he]
theorem prv_bits {width : Int} {L : List Itm} {k : List UInt8} {h : Nat} (he : ¬ nbr width k L h = emptyL width h) : (prvP width L k (h + 1)).bs = (prvP width L k h).bs.set (h / 8) (UInt8.ofNat ((bAt (prvP width L k h).bs (h / 8)).toNat + 2 ^ (h % 8))) := by
  exact if_neg he
theorem prv_sums {width : Int} {L : List Itm} {k : List UInt8} {h : Nat} (he : ¬ nbr width k L h = emptyL width h) : (prvP width L k (h + 1)).ss = (prvP width L k h).ss ++ [nbr width k L h] := by
  exact if_neg he
/-- one row more: its bit set, its digest behind the others -/
theorem prv_next {width : Int} {L : List Itm} {k : List UInt8} {h : Nat} (he : ¬ nbr width k L h = emptyL width h) : prvP width L k (h + 1) = ⟨(prvP width L k h).pr, (prvP width L k h).ct, (prvP width L k h).ch, (prvP width L k h).bs.set (h / 8) (UInt8.ofNat ((bAt (prvP width L k h).bs (h / 8)).toNat + 2 ^ (h % 8))), (prvP width L k h).ss ++ [nbr width k L h]⟩ := by
  rw [← prv_bits he, ← prv_sums he]; rfl
theorem digV_snoc (ss : List (List UInt8)) (d : List UInt8) : digV (ss ++ [d]) = digV ss ++ dc d := by simp [digV]
theorem shl8_all : ∀ j : Fin 8, IntKind.u8.wrap (1 * 2 ^ min ((j.val : Int)).toNat IntKind.u8.bits) = ((2 ^ j.val : Nat) : Int) := by decide +kernel
theorem shl8_bit (i : Nat) : IntKind.u8.wrap (1 * 2 ^ min (((i % 8 : Nat) : Int)).toNat IntKind.u8.bits) = ((2 ^ (i % 8) : Nat) : Int) := shl8_all ⟨i % 8, by omega⟩
theorem nr5_s14 : notRow Tryd.prog 5 = true := by kernel_rfl
theorem nr26_s14 : notRow Tryd.prog 26 = true := by kernel_rfl
theorem nr43_s14 : notRow Tryd.prog 43 = true := by kernel_rfl
theorem rw23_s14 : isRow Tryd.prog 23 32 = true := by kernel_rfl
theorem rw25_s14 : isRow Tryd.prog 25 33 = true := by kernel_rfl
theorem rw28_s14 : isRow Tryd.prog 28 67 = true := by kernel_rfl
theorem rw45_s14 : isRow Tryd.prog 45 2 = true := by kernel_rfl
theorem rw54_s14 : isRow Tryd.prog 54 65 = true := by kernel_rfl
theorem sz4_s14 : (Tryd.prog.info? 4).map (·.size) = some 1 := by kernel_rfl
theorem sz5_s14 : (Tryd.prog.info? 5).map (·.size) = some 1 := by kernel_rfl
theorem sz22_s14 : (Tryd.prog.info? 22).map (·.size) = some 32 := by kernel_rfl
theorem sz23_s14 : (Tryd.prog.info? 23).map (·.size) = some 32 := by kernel_rfl
theorem sz25_s14 : (Tryd.prog.info? 25).map (·.size) = some 33 := by kernel_rfl
theorem sz26_s14 : (Tryd.prog.info? 26).map (·.size) = some 1 := by kernel_rfl
theorem sz28_s14 : (Tryd.prog.info? 28).map (·.size) = some 67 := by kernel_rfl
theorem sz43_s14 : (Tryd.prog.info? 43).map (·.size) = some 1 := by kernel_rfl
theorem sz45_s14 : (Tryd.prog.info? 45).map (·.size) = some 2 := by kernel_rfl
theorem sz54_s14 : (Tryd.prog.info? 54).map (·.size) = some 65 := by kernel_rfl
theorem cl34_s14 : CallsTo Tryd.prog 34 := ⟨_, Tryd.func34, by kernel_rfl, by kernel_rfl⟩
theorem cl54_s14 : CallsTo Tryd.prog 54 := ⟨_, Tryd.func54, by kernel_rfl, by kernel_rfl⟩
theorem cl56_s14 : CallsTo Tryd.prog 56 := ⟨_, Tryd.func56, by kernel_rfl, by kernel_rfl⟩
theorem cl57_s14 : CallsTo Tryd.prog 57 := ⟨_, Tryd.func57, by kernel_rfl, by kernel_rfl⟩
theorem cl64_s14 : CallsTo Tryd.prog 64 := ⟨_, Tryd.func64, by kernel_rfl, by kernel_rfl⟩
theorem cl65_s14 : CallsTo Tryd.prog 65 := ⟨_, Tryd.func65, by kernel_rfl, by kernel_rfl⟩
theorem cl70_s14 : CallsTo Tryd.prog 70 := ⟨_, Tryd.func70, by kernel_rfl, by kernel_rfl⟩

theorem zr23_s14 : zeroIs Tryd.prog 23 (.agg (dc (List.replicate 32 0)).toArray) := by unfold zeroIs; kernel_rfl
theorem zr45_s14 : zeroIs Tryd.prog 45 (.agg ([.pointer none, .slice none 0 0] : List Value).toArray) := by unfold zeroIs; kernel_rfl
theorem zr54_s14 : zeroIs Tryd.prog 54 (.agg ([.int .u8 0, .int .u8 0, .int .u8 0, .int .u8 0, .int .u8 0, .int .u8 0, .int .u8 0, .int .u8 0, .int .u8 0, .int .u8 0, .int .u8 0, .int .u8 0, .int .u8 0, .int .u8 0, .int .u8 0, .int .u8 0, .int .u8 0, .int .u8 0, .int .u8 0, .int .u8 0, .int .u8 0, .int .u8 0, .int .u8 0, .int .u8 0, .int .u8 0, .int .u8 0, .int .u8 0, .int .u8 0, .int .u8 0, .int .u8 0, .int .u8 0, .int .u8 0, .int .i64 0, .int .u8 0, .int .u8 0, .int .u8 0, .int .u8 0, .int .u8 0, .int .u8 0, .int .u8 0, .int .u8 0, .int .u8 0, .int .u8 0, .int .u8 0, .int .u8 0, .int .u8 0, .int .u8 0, .int .u8 0, .int .u8 0, .int .u8 0, .int .u8 0, .int .u8 0, .int .u8 0, .int .u8 0, .int .u8 0, .int .u8 0, .int .u8 0, .int .u8 0, .int .u8 0, .int .u8 0, .int .u8 0, .int .u8 0, .int .u8 0, .int .u8 0, .int .u8 0] : List Value).toArray) := by unfold zeroIs; kernel_rfl

set_option maxRecDepth 100000 in
set_option maxHeartbeats 2000000 in
theorem rt_proveN (w0 w : World) (R G : List Seg) (hG : G ⊆ R) (width : Int) (k : List UInt8) (hk : k.length = 32) (hT : Tab w0) (hA : Hp w0 R w) : Calls Tryd.prog 40 #[.agg ([.pointer none, .slice none 0 0] : List Value).toArray, .int .i64 width, .agg (dc k).toArray] w fun e w' => ∃ sv X, e = .returned (.agg ((prvP width [] k 256).cells sv).toArray) ∧ Buf 23 32 X sv (prvP width [] k 256).ss.length (digV (prvP width [] k 256).ss) ∧ Hp w0 (X :: R) w' := by
  have hdk : (dc k).length = 32 := by rw [dc_length, hk]
  have hII : ∀ i ∈ ([] : List Itm), i.OK := (fun i hi => by cases hi)
  have hch := getCh_length hII k
  have hel : (Value.int .i64 (getCt [] k) :: dc (getCh [] k)).length = 33 := by rw [List.length_cons, dc_length, hch]
  have hnl := nbr_length (min (max width 1) 32) k []
  refine vc_enter Tryd.func40 rfl Tryd.ntmps40 (Nat.le_of_ble_eq_true rfl) (fun a hF => ?_)
  apply wp_seq_k; intro K1 hK1
  refine wp_region_lit ?_
  refine vc_op rfl (fun K hK => hs_box (cs := [.pointer none, .slice none 0 0]) hF rfl (by decide) rfl hA rfl (fun b1 w2 a hb1 hF hA3 => hK _ _ ?_))
  clear hK K
  replace hA3 : Hp w0 ([row b1 45 [.pointer none, .slice none 0 0]] :: R) w2 := hA3
  refine vc_op rfl (fun K hK => hs_box (cs := dc k) hF rfl (by decide) rfl hA3 rfl (fun b4 w5 a hb4 hF hA6 => hK _ _ ?_))
  clear hK K
  replace hA6 : Hp w0 ([row b4 23 (dc k)] :: [row b1 45 [.pointer none, .slice none 0 0]] :: R) w5 := hA6
  refine vc_op rfl (fun K hK => hs_alloc hF rfl (by decide) rfl hA6 zrPrf (fun b7 w8 a hb7 hF hA9 => hK _ _ ?_))
  clear hK K
  replace hA9 : Hp w0 ([row b7 28 (prf0.cells (.slice none 0 0))] :: [row b4 23 (dc k)] :: [row b1 45 [.pointer none, .slice none 0 0]] :: R) w8 := hA9
  refine vc_nil ?_
  refine hK1 _ _ ?_; clear  hK1 K1
  apply wp_seq_k; intro K2 hK2
  refine wp_region_lit ?_
  refine vc_y hF rfl rfl (by decide) _ (y_move rfl rfl) (fun a hF => ?_)
  refine vc_y hF rfl rfl (by decide) _ (y_field rfl Tryd.underlying45 rfl sz26_s14 (by decide) rfl (rfl : (⟨_, 0 + _, none⟩ : Addr) = ⟨_, 1, none⟩)) (fun a hF => ?_)
  refine vc_y hF rfl rfl (by decide) _ (y_ld rfl hA9.q rfl 2 rfl rfl nr26_s14) (fun a hF => ?_)
  refine vc_op rfl (fun K hK => ws_call hF rfl (by decide) cl54_s14 rfl rfl ?_)
  with_reducible refine (rt_atN w0 _ ([row b7 28 (prf0.cells (.slice none 0 0))] :: [row b4 23 (dc k)] :: [row b1 45 [.pointer none, .slice none 0 0]] :: R) width hT hA9 ).mono ?_
  rintro e' w10 ⟨gs, SX, rfl, hSm2, hA11⟩
  refine ⟨_, rfl, fun a hF => hK _ _ ?_⟩
  clear hK K
  replace hA11 : Hp w0 (SX :: [row b7 28 (prf0.cells (.slice none 0 0))] :: [row b4 23 (dc k)] :: [row b1 45 [.pointer none, .slice none 0 0]] :: R) w10 := hA11
  have hSm := hSm2.sm
  refine vc_y hF rfl rfl (by decide) _ (y_assign rfl rfl) (fun a hF => ?_)
  refine vc_nil ?_
  refine hK2 _ _ ?_; clear  hK2 K2
  apply wp_seq_k; intro K3 hK3
  refine wp_region_lit ?_
  refine vc_op rfl (fun K hK => hs_alloc hF rfl (by decide) rfl hA11 zrPrf (fun b12 w13 a hb12 hF hA14 => hK _ _ ?_))
  clear hK K
  replace hA14 : Hp w0 ([row b12 28 (prf0.cells (.slice none 0 0))] :: SX :: [row b7 28 (prf0.cells (.slice none 0 0))] :: [row b4 23 (dc k)] :: [row b1 45 [.pointer none, .slice none 0 0]] :: R) w13 := hA14
  refine vc_nil ?_
  refine hK3 _ _ ?_; clear  hK3 K3
  apply wp_seq_k; intro K4 hK4
  have hSm2 := hSm2.mono (List.cons_subset_cons SX (List.nil_subset G))
  have hSm := hSm2.sm
  have hSmk := hSm
  obtain ⟨AE, cE, wb, hs1, hs2, hs3⟩ := hSmk
  refine wp_region_lit ?_
  refine vc_y hF rfl rfl (by decide) _ (y_ldRow (new := [.pointer none, .slice none 0 0]) rfl hA14.q rfl 4 rfl rw45_s14 (Nat.le_of_ble_eq_true rfl) rfl) (fun a hF => ?_)
  refine vc_y hF rfl rfl (by decide) _ (y_ldRow (new := dc k) rfl hA14.q rfl 3 rfl rw23_s14 (by rw [hdk]; exact Nat.le_refl _) (by rw [List.drop_zero]; exact List.take_of_length_le (by rw [hdk]; exact Nat.le_refl _))) (fun a hF => ?_)
  refine vc_op rfl (fun K hK => ws_call hF rfl (by decide) cl34_s14 rfl rfl ?_)
  with_reducible refine (rt_getN w0 _ ([row b12 28 (prf0.cells (.slice none 0 0))] :: SX :: [row b7 28 (prf0.cells (.slice none 0 0))] :: [row b4 23 (dc k)] :: [row b1 45 [.pointer none, .slice none 0 0]] :: R) k hk hA14 ).mono ?_
  rintro e' w15 ⟨rfl, hA16⟩
  refine ⟨_, rfl, fun a hF => hK _ _ ?_⟩
  clear hK K
  replace hA16 : Hp w0 ([row b12 28 (prf0.cells (.slice none 0 0))] :: SX :: [row b7 28 (prf0.cells (.slice none 0 0))] :: [row b4 23 (dc k)] :: [row b1 45 [.pointer none, .slice none 0 0]] :: R) w15 := hA16
  refine vc_y hF rfl rfl (by decide) _ (y_move rfl rfl) (fun a hF => ?_)
  refine vc_y hF rfl rfl (by decide) _ (y_extract (v := .agg (.int .i64 (getCt [] k) :: dc (getCh [] k)).toArray) rfl rfl rfl) (fun a hF => ?_)
  refine vc_y hF rfl rfl (by decide) _ (y_extract (v := .bool ((getL [] k).isSome)) rfl rfl rfl) (fun a hF => ?_)
  refine vc_y hF rfl rfl (by decide) _ (y_field rfl Tryd.underlying28 rfl sz25_s14 (by decide) rfl (rfl : (⟨_, 0 + _, none⟩ : Addr) = ⟨_, 1, none⟩)) (fun a hF => ?_)
  refine vc_op rfl (fun K hK => hs_storeRow (new := .int .i64 (getCt [] k) :: dc (getCh [] k)) hF rfl rfl hA16 rfl rfl 0 rfl (by rw [hel, Prf.c_len prf0_ok]; decide) (ent_one _ _) (by rw [hel]; exact sz25_s14) (fun w17 hA18 => hK _ _ ?_))
  clear hK K
  replace hA18 : Hp w0 ([row b12 28 (splice (prf0.cells (.slice none 0 0)) 1 (.int .i64 (getCt [] k) :: dc (getCh [] k)))] :: SX :: [row b7 28 (prf0.cells (.slice none 0 0))] :: [row b4 23 (dc k)] :: [row b1 45 [.pointer none, .slice none 0 0]] :: R) w17 := hA18
  have hA19 : Hp w0 ([row b12 28 (Prf.cells ⟨false, getCt [] k, getCh [] k, List.replicate 32 0, []⟩ (.slice none 0 0))] :: SX :: [row b7 28 (prf0.cells (.slice none 0 0))] :: [row b4 23 (dc k)] :: [row b1 45 [.pointer none, .slice none 0 0]] :: R) w17 := by
    rw [← show splice (prf0.cells (.slice none 0 0)) 1 (.int .i64 (getCt [] k) :: dc (getCh [] k)) = Prf.cells ⟨false, getCt [] k, getCh [] k, List.replicate 32 0, []⟩ (.slice none 0 0) from (Prf.c_putE prf0_ok _ hch)]
    exact hA18
  refine vc_y hF rfl rfl (by decide) _ (y_field rfl Tryd.underlying28 rfl sz4_s14 (by decide) rfl (rfl : (⟨_, 0 + _, none⟩ : Addr) = ⟨_, 0, none⟩)) (fun a hF => ?_)
  refine vc_op rfl (fun K hK => hs_store1 hF rfl rfl hA19 rfl rfl 0 rfl (by rw [Prf.c_len ⟨hch, List.length_replicate .., (fun d hd => by cases hd), Nat.zero_le _⟩]; decide) rfl sz4_s14 (fun w20 hA21 => hK _ _ ?_))
  clear hK K
  replace hA21 : Hp w0 ([row b12 28 ((Prf.cells ⟨false, getCt [] k, getCh [] k, List.replicate 32 0, []⟩ (.slice none 0 0)).set 0 (.bool (getL [] k).isSome))] :: SX :: [row b7 28 (prf0.cells (.slice none 0 0))] :: [row b4 23 (dc k)] :: [row b1 45 [.pointer none, .slice none 0 0]] :: R) w20 := hA21
  have hA22 : Hp w0 ([row b12 28 ((prvP (min (max width 1) 32) [] k 0).cells (.slice none 0 0))] :: SX :: [row b7 28 (prf0.cells (.slice none 0 0))] :: [row b4 23 (dc k)] :: [row b1 45 [.pointer none, .slice none 0 0]] :: R) w20 := by
    rw [← show (Prf.cells ⟨false, getCt [] k, getCh [] k, List.replicate 32 0, []⟩ (.slice none 0 0)).set 0 (.bool (getL [] k).isSome) = (prvP (min (max width 1) 32) [] k 0).cells (.slice none 0 0) from rfl]
    exact hA21
  refine vc_nil ?_
  refine hK4 _ _ ?_; clear  hK4 K4
  apply wp_seq_k; intro K5 hK5
  apply wp_seq_k; intro K6 hK6
  refine wp_region_lit ?_
  refine vc_y hF rfl rfl (by decide) _ (y_ldRow (new := [.pointer none, .slice none 0 0]) rfl hA22.q rfl 4 rfl rw45_s14 (Nat.le_of_ble_eq_true rfl) rfl) (fun a hF => ?_)
  refine vc_y hF rfl rfl (by decide) _ (y_move rfl rfl) (fun a hF => ?_)
  refine vc_y hF rfl rfl (by decide) _ (y_ldRow (new := dc k) rfl hA22.q rfl 3 rfl rw23_s14 (by rw [hdk]; exact Nat.le_refl _) (by rw [List.drop_zero]; exact List.take_of_length_le (by rw [hdk]; exact Nat.le_refl _))) (fun a hF => ?_)
  refine vc_op rfl (fun K hK => ws_call hF rfl (by decide) cl70_s14 rfl rfl ?_)
  with_reducible refine (rt_besideN w0 _ ([row b12 28 ((prvP (min (max width 1) 32) [] k 0).cells (.slice none 0 0))] :: SX :: [row b7 28 (prf0.cells (.slice none 0 0))] :: [row b4 23 (dc k)] :: [row b1 45 [.pointer none, .slice none 0 0]] :: R) (SX :: G) (sub_cons2 (List.mem_cons_of_mem _ ((List.mem_cons_self ..))) (List.Subset.trans hG (subC (subC (subC (subC (subC (sub0)))))))) k hk gs (min (max width 1) 32) hSm2 hA22 ).mono ?_
  rintro e' w23 ⟨bv, XB, rfl, hBE, hA24⟩
  refine ⟨_, rfl, fun a hF => hK _ _ ?_⟩
  clear hK K
  replace hA24 : Hp w0 (XB :: [row b12 28 ((prvP (min (max width 1) 32) [] k 0).cells (.slice none 0 0))] :: SX :: [row b7 28 (prf0.cells (.slice none 0 0))] :: [row b4 23 (dc k)] :: [row b1 45 [.pointer none, .slice none 0 0]] :: R) w23 := hA24
  have hFn := hF
  obtain ⟨AB, cB, rfl, _, hRB⟩ := hBE.rc (w0 := w0) (R := [XB]) (List.mem_cons_self ..)
  have hF := hFn
  refine vc_y hF rfl rfl (by decide) _ (y_lenSl rfl Tryd.underlying26 rfl rfl) (fun a hF => ?_)
  refine vc_y hF rfl rfl (by decide) _ (y_move rfl rfl) (fun a hF => ?_)
  refine vc_nil ?_
  refine hK6 _ _ ?_; clear  hK6 K6
  apply wp_block
  have hA25 : Hp w0 ([row b12 28 ((prvP (min (max width 1) 32) [] k 0).cells (.slice none 0 0))] :: [row b7 28 (prf0.cells (.slice none 0 0))] :: XB :: SX :: R) w23 := Hp.sel [XB, [row b12 28 ((prvP (min (max width 1) 32) [] k 0).cells (.slice none 0 0))], SX, [row b7 28 (prf0.cells (.slice none 0 0))], [row b4 23 (dc k)], [row b1 45 [.pointer none, .slice none 0 0]]] R [1, 3, 0, 2] [4, 5] hA24 rfl
  have hA26 : Hp w0 ([row b12 28 ((prvP (min (max width 1) 32) [] k 0).cells (.slice none 0 0))] :: [] :: [row b7 28 (prf0.cells (.slice none 0 0))] :: XB :: SX :: R) w23 := hA25
  refine vc_loop (G := Nat) (fun h a x => ∃ (sv : Value) (XS : Seg), h ≤ 256 ∧ Buf 23 32 XS sv (prvP (min (max width 1) 32) [] k h).ss.length (digV (prvP (min (max width 1) 32) [] k h).ss) ∧ Fr 61 [(28, .int .i64 (h : Int)), (7, .pointer (some ⟨gs, 0, none⟩)), (8, .pointer (some ⟨b12, 0, none⟩)), (6, .pointer (some ⟨b7, 0, none⟩)), (26, .slice AB 256 cB), (27, .int .i64 256)] a ∧ Hp w0 ([row b12 28 ((prvP (min (max width 1) 32) [] k h).cells sv)] :: XS :: [row b7 28 (prf0.cells (.slice none 0 0))] :: XB :: SX :: R) x) (fun h => 256 - h) 0 (⟨_, _, Nat.zero_le _, (Buf.nil 23 32), hF.keep [28, 7, 8, 6, 26, 27] rfl, hA26⟩) ?_
  clear hF
  rintro h a w28 ⟨sv, XS, hh, hS, hF, hA27⟩
  have hpk : (prvP (min (max width 1) 32) [] k h).OK := prvP_ok hII k hh
  apply wp_seq_k; intro K7 hK7
  refine wp_region_lit ?_
  refine vc_y hF rfl rfl (by decide) _ (y_cmp rfl rfl rfl rfl rfl) (fun a hF => ?_)
  refine vc_nil ?_
  refine hK7 _ _ ?_; clear  hK7 K7
  apply wp_seq_k; intro K8 hK8
  by_cases hlt : h < 256
  · refine vc_trueB hF rfl (lss_t (by omega)) ?_
    have hdd : (dc (nbr (min (max width 1) 32) k [] h)).length = 32 := by rw [dc_length, hnl]
    have hdle := emptyL_length (min (max width 1) 32)
    obtain ⟨herd, hele⟩ := digs_rd (emptyL (min (max width 1) 32)) 257 h (fun i _ => hdle i) (by omega)
    obtain ⟨hnrd, hnle⟩ := digs_rd (nbr (min (max width 1) 32) k []) 256 h (fun i _ => hnl i) hlt
    obtain ⟨be_, qe, hAE, hce⟩ := hs3.ne (i := h * 32) (by omega)
    obtain ⟨bn, qn, hAN, hcn⟩ := hRB.ne (i := h * 32) (by omega)
    apply wp_skip
    refine hK8 _ _ ?_; clear  hK8 K8
    apply wp_seq_k; intro K9 hK9
    apply wp_block
    apply wp_seq_k; intro K10 hK10
    refine wp_region_lit ?_
    refine vc_y hF rfl rfl (by decide) _ (y_move rfl rfl) (fun a hF => ?_)
    refine vc_y hF rfl rfl (by decide) _ (y_ixSl rfl Tryd.underlying26 sz23_s14 (by exact congrArg (fun A => some (Value.slice A 256 cB)) hAN) rfl h rfl hlt rfl) (fun a hF => ?_)
    refine vc_y hF rfl rfl (by decide) _ (y_ldRowC rfl (Hq.sub hA27.q (sub1 (List.mem_cons_of_mem _ (List.mem_cons_of_mem _ (List.mem_cons_of_mem _ ((List.mem_cons_self ..))))))) rfl hcn (h * 32) hnle rfl hnrd rw23_s14) (fun a hF => ?_)
    refine vc_op rfl (fun K hK => hs_alloc hF rfl (by decide) rfl hA27 (zr23_s14) (fun b29 w30 a hb29 hF hA31 => hK _ _ ?_))
    clear hK K
    replace hA31 : Hp w0 ([row b29 23 (dc (List.replicate 32 0))] :: [row b12 28 ((prvP (min (max width 1) 32) [] k h).cells sv)] :: XS :: [row b7 28 (prf0.cells (.slice none 0 0))] :: XB :: SX :: R) w30 := hA31
    refine vc_y hF rfl rfl (by decide) _ (y_assign rfl rfl) (fun a hF => ?_)
    refine vc_op rfl (fun K hK => hs_storeAll (new := dc (nbr (min (max width 1) 32) k [] h)) hF rfl rfl hA31 rfl rfl 0 rfl (by rw [hdd]; rfl) (dc_one _) sz23_s14 (fun w32 hA33 => hK _ _ ?_))
    clear hK K
    replace hA33 : Hp w0 ([row b29 23 (dc (nbr (min (max width 1) 32) k [] h))] :: [row b12 28 ((prvP (min (max width 1) 32) [] k h).cells sv)] :: XS :: [row b7 28 (prf0.cells (.slice none 0 0))] :: XB :: SX :: R) w32 := hA33
    refine vc_nil ?_
    refine hK10 _ _ ?_; clear  hK10 K10
    apply wp_seq_k; intro K11 hK11
    by_cases heq : nbr (min (max width 1) 32) k [] h = emptyL (min (max width 1) 32) h
    · refine wp_region_plan 8 [8] [0,1,2,3,4,5,6,7,8] (fun x => Hq w0 ([row b29 23 (dc (nbr (min (max width 1) 32) k [] h))] :: [row b12 28 ((prvP (min (max width 1) 32) [] k h).cells sv)] :: XS :: [row b7 28 (prf0.cells (.slice none 0 0))] :: XB :: SX :: R) x) (by kernel_rfl) (by kernel_rfl) (Hq.drew (Hp.qp [[row b29 23 (dc (nbr (min (max width 1) 32) k [] h))], [row b12 28 ((prvP (min (max width 1) 32) [] k h).cells sv)], XS, [row b7 28 (prf0.cells (.slice none 0 0))], XB, SX] R [0, 1, 2, 3, 4, 5] hA33)) ?_
      have hA34 := Hl.drew hA33
      refine vp_y hF rfl rfl rfl rfl (by decide) _ (fun x hx => y_ldRow (new := dc (nbr (min (max width 1) 32) k [] h)) rfl hx rfl 0 rfl rw23_s14 (by rw [hdd]; exact Nat.le_refl _) (by rw [List.drop_zero]; exact List.take_of_length_le (by rw [hdd]; exact Nat.le_refl _))) (fun a hF => ?_)
      refine vp_y hF rfl rfl rfl rfl (by decide) _ (fun x hx => y_move rfl rfl) (fun a hF => ?_)
      refine vp_y hF rfl rfl rfl rfl (by decide) _ (fun x hx => y_nilCheck rfl rfl) (fun a hF => ?_)
      refine vp_y hF rfl rfl rfl rfl (by decide) _ (fun x hx => y_field rfl Tryd.underlying102 rfl sz26_s14 (by decide) rfl (rfl : (⟨_, 0 + _, none⟩ : Addr) = ⟨_, 1, none⟩)) (fun a hF => ?_)
      refine vp_y hF rfl rfl rfl rfl (by decide) _ (fun x hx => y_ldC rfl (Hq.sub hx (sub_cons2 (List.mem_cons_of_mem _ (List.mem_cons_of_mem _ (List.mem_cons_of_mem _ (List.mem_cons_of_mem _ (List.mem_cons_of_mem _ ((List.mem_cons_self ..))))))) (List.Subset.trans hG (subC (subC (subC (subC (subC (subC (sub0)))))))))) rfl hs1 1 (by simp) rfl rfl nr26_s14) (fun a hF => ?_)
      refine vp_y hF rfl rfl rfl rfl (by decide) _ (fun x hx => y_move rfl rfl) (fun a hF => ?_)
      refine vp_y hF rfl rfl rfl rfl (by decide) _ (fun x hx => y_ixSl rfl Tryd.underlying26 sz23_s14 (by exact congrArg (fun A => some (Value.slice A 257 cE)) hAE) rfl h rfl (by omega) rfl) (fun a hF => ?_)
      refine vp_y hF rfl rfl rfl rfl (by decide) _ (fun x hx => y_ldRowC rfl (Hq.sub hx (sub_cons2 (List.mem_cons_of_mem _ (List.mem_cons_of_mem _ (List.mem_cons_of_mem _ (List.mem_cons_of_mem _ (List.mem_cons_of_mem _ ((List.mem_cons_self ..))))))) (List.Subset.trans hG (subC (subC (subC (subC (subC (subC (sub0)))))))))) rfl hce (h * 32) hele rfl herd rw23_s14) (fun a hF => ?_)
      refine vp_ly hF rfl rfl rfl rfl (by decide) _ (y_neB rfl Tryd.underlying23 Tryd.underlying5 sz5_s14 (by kernel_rfl) rfl rfl (hnl h) (hdle h) (show (!decide (nbr (min (max width 1) 32) k [] h = emptyL (min (max width 1) 32) h)) = false by rw [decide_eq_true heq]; rfl)) (fun h => absurd h (by decide)) (fun a hF => ?_)
      refine plan_end ?_
      refine hK11 _ _ ?_; clear  hK11 K11
      refine vc_false hF rfl ?_
      apply wp_skip
      refine hK9 _ _ ?_; clear  hK9 K9
      refine wp_region_lit ?_
      refine vc_y hF rfl rfl (by decide) _ (y_add rfl rfl rfl (IntWalk.i64_in _ (by omega))) (fun a hF => ?_)
      refine vc_y hF rfl rfl (by decide) _ (y_move rfl rfl) (fun a hF => ?_)
      refine vc_nil ?_
      have hps := prv_same heq
      rw [← hps] at hS
      have hA35 : Hp w0 ([row b29 23 (dc (nbr (min (max width 1) 32) k [] h))] :: [row b12 28 ((prvP (min (max width 1) 32) [] k (h + 1)).cells sv)] :: XS :: [row b7 28 (prf0.cells (.slice none 0 0))] :: XB :: SX :: R) w32.drew := by
        rw [← show (prvP (min (max width 1) 32) [] k h).cells sv = (prvP (min (max width 1) 32) [] k (h + 1)).cells sv from (by rw [hps])]
        exact hA34
      have hA36 : Hp w0 ([row b12 28 ((prvP (min (max width 1) 32) [] k (h + 1)).cells sv)] :: XS :: [row b7 28 (prf0.cells (.slice none 0 0))] :: XB :: SX :: R) w32.drew := Hp.sel [[row b29 23 (dc (nbr (min (max width 1) 32) k [] h))], [row b12 28 ((prvP (min (max width 1) 32) [] k (h + 1)).cells sv)], XS, [row b7 28 (prf0.cells (.slice none 0 0))], XB, SX] R [1, 2, 3, 4, 5] [0] hA35 rfl
      exact ⟨h + 1, by omega, _, _, by omega, hS, hF.keep [28, 7, 8, 6, 26, 27] rfl, hA36⟩
    · refine wp_region_plan 8 [8] [0,1,2,3,4,5,6,7,8] (fun x => Hq w0 ([row b29 23 (dc (nbr (min (max width 1) 32) k [] h))] :: [row b12 28 ((prvP (min (max width 1) 32) [] k h).cells sv)] :: XS :: [row b7 28 (prf0.cells (.slice none 0 0))] :: XB :: SX :: R) x) (by kernel_rfl) (by kernel_rfl) (Hq.drew (Hp.qp [[row b29 23 (dc (nbr (min (max width 1) 32) k [] h))], [row b12 28 ((prvP (min (max width 1) 32) [] k h).cells sv)], XS, [row b7 28 (prf0.cells (.slice none 0 0))], XB, SX] R [0, 1, 2, 3, 4, 5] hA33)) ?_
      have hA37 := Hl.drew hA33
      refine vp_y hF rfl rfl rfl rfl (by decide) _ (fun x hx => y_ldRow (new := dc (nbr (min (max width 1) 32) k [] h)) rfl hx rfl 0 rfl rw23_s14 (by rw [hdd]; exact Nat.le_refl _) (by rw [List.drop_zero]; exact List.take_of_length_le (by rw [hdd]; exact Nat.le_refl _))) (fun a hF => ?_)
      refine vp_y hF rfl rfl rfl rfl (by decide) _ (fun x hx => y_move rfl rfl) (fun a hF => ?_)
      refine vp_y hF rfl rfl rfl rfl (by decide) _ (fun x hx => y_nilCheck rfl rfl) (fun a hF => ?_)
      refine vp_y hF rfl rfl rfl rfl (by decide) _ (fun x hx => y_field rfl Tryd.underlying102 rfl sz26_s14 (by decide) rfl (rfl : (⟨_, 0 + _, none⟩ : Addr) = ⟨_, 1, none⟩)) (fun a hF => ?_)
      refine vp_y hF rfl rfl rfl rfl (by decide) _ (fun x hx => y_ldC rfl (Hq.sub hx (sub_cons2 (List.mem_cons_of_mem _ (List.mem_cons_of_mem _ (List.mem_cons_of_mem _ (List.mem_cons_of_mem _ (List.mem_cons_of_mem _ ((List.mem_cons_self ..))))))) (List.Subset.trans hG (subC (subC (subC (subC (subC (subC (sub0)))))))))) rfl hs1 1 (by simp) rfl rfl nr26_s14) (fun a hF => ?_)
      refine vp_y hF rfl rfl rfl rfl (by decide) _ (fun x hx => y_move rfl rfl) (fun a hF => ?_)
      refine vp_y hF rfl rfl rfl rfl (by decide) _ (fun x hx => y_ixSl rfl Tryd.underlying26 sz23_s14 (by exact congrArg (fun A => some (Value.slice A 257 cE)) hAE) rfl h rfl (by omega) rfl) (fun a hF => ?_)
      refine vp_y hF rfl rfl rfl rfl (by decide) _ (fun x hx => y_ldRowC rfl (Hq.sub hx (sub_cons2 (List.mem_cons_of_mem _ (List.mem_cons_of_mem _ (List.mem_cons_of_mem _ (List.mem_cons_of_mem _ (List.mem_cons_of_mem _ ((List.mem_cons_self ..))))))) (List.Subset.trans hG (subC (subC (subC (subC (subC (subC (sub0)))))))))) rfl hce (h * 32) hele rfl herd rw23_s14) (fun a hF => ?_)
      refine vp_ly hF rfl rfl rfl rfl (by decide) _ (y_neB rfl Tryd.underlying23 Tryd.underlying5 sz5_s14 (by kernel_rfl) rfl rfl (hnl h) (hdle h) (show (!decide (nbr (min (max width 1) 32) k [] h = emptyL (min (max width 1) 32) h)) = true by rw [decide_eq_false heq]; rfl)) (fun h => absurd h (by decide)) (fun a hF => ?_)
      refine plan_end ?_
      refine hK11 _ _ ?_; clear  hK11 K11
      refine vc_true hF rfl ?_
      apply wp_seq_k; intro K12 hK12
      refine wp_region_plan 11 [11] [0,1,2,3,4,5,6,7,8,9,10,11] (fun x => Hq w0 ([row b29 23 (dc (nbr (min (max width 1) 32) k [] h))] :: [row b12 28 ((prvP (min (max width 1) 32) [] k h).cells sv)] :: XS :: [row b7 28 (prf0.cells (.slice none 0 0))] :: XB :: SX :: R) x) (by kernel_rfl) (by kernel_rfl) (Hq.drew (Hp.qp [[row b29 23 (dc (nbr (min (max width 1) 32) k [] h))], [row b12 28 ((prvP (min (max width 1) 32) [] k h).cells sv)], XS, [row b7 28 (prf0.cells (.slice none 0 0))], XB, SX] R [0, 1, 2, 3, 4, 5] hA37)) ?_
      have hA38 := Hl.drew hA37
      refine vp_y hF rfl rfl rfl rfl (by decide) _ (fun x hx => y_move rfl rfl) (fun a hF => ?_)
      refine vp_y hF rfl rfl rfl rfl (by decide) _ (fun x hx => y_quo rfl rfl rfl (by decide) (quo8 h hlt)) (fun a hF => ?_)
      refine vp_y hF rfl rfl rfl rfl (by decide) _ (fun x hx => y_field rfl Tryd.underlying28 rfl sz22_s14 (by decide) rfl (rfl : (⟨_, 0 + _, none⟩ : Addr) = ⟨_, 34, none⟩)) (fun a hF => ?_)
      refine vp_y hF rfl rfl rfl rfl (by decide) _ (fun x hx => y_ixArr rfl Tryd.underlying22 sz5_s14 rfl rfl (h / 8) rfl (by omega) (ad2 _ _ _) (rfl : (none : Option Nat) = none)) (fun a hF => ?_)
      refine vp_y hF rfl rfl rfl rfl (by decide) _ (fun x hx => y_ld rfl hx rfl 1 rfl (Prf.c_bit hpk (by omega)) nr5_s14) (fun a hF => ?_)
      refine vp_y hF rfl rfl rfl rfl (by decide) _ (fun x hx => y_move rfl rfl) (fun a hF => ?_)
      refine vp_y hF rfl rfl rfl rfl (by decide) _ (fun x hx => y_rem rfl rfl rfl (by decide) (rem8 h)) (fun a hF => ?_)
      refine vp_y hF rfl rfl rfl rfl (by decide) _ (fun x hx => y_shl rfl rfl rfl (by omega) (shl8_bit h)) (fun a hF => ?_)
      refine vp_y hF rfl rfl rfl rfl (by decide) _ (fun x hx => y_or rfl rfl rfl (pByte_step _ _ hlt).1) (fun a hF => ?_)
      refine vp_y hF rfl rfl rfl rfl (by decide) _ (fun x hx => y_field rfl Tryd.underlying28 rfl sz22_s14 (by decide) rfl (rfl : (⟨_, 0 + _, none⟩ : Addr) = ⟨_, 34, none⟩)) (fun a hF => ?_)
      refine vp_y hF rfl rfl rfl rfl (by decide) _ (fun x hx => y_ixArr rfl Tryd.underlying22 sz5_s14 rfl rfl (h / 8) rfl (by omega) (ad2 _ _ _) (rfl : (none : Option Nat) = none)) (fun a hF => ?_)
      refine vp_l rfl rfl rfl (fun K hK => hs_store1 hF rfl rfl hA38 rfl rfl 1 rfl (by rw [Prf.c_len hpk]; omega) rfl sz5_s14 (fun w39 hA40 => hK _ _ (fun h => absurd h (by decide)) ?_))
      clear hK K
      replace hA40 : Hp w0 ([row b29 23 (dc (nbr (min (max width 1) 32) k [] h))] :: [row b12 28 (((prvP (min (max width 1) 32) [] k h).cells sv).set (34 + h / 8) (.int .u8 ((UInt8.ofNat ((bAt (prvP (min (max width 1) 32) [] k h).bs (h / 8)).toNat + 2 ^ (h % 8))).toNat : Int)))] :: XS :: [row b7 28 (prf0.cells (.slice none 0 0))] :: XB :: SX :: R) w39 := hA40
      have hA41 : Hp w0 ([row b29 23 (dc (nbr (min (max width 1) 32) k [] h))] :: [row b12 28 (Prf.cells ⟨(prvP (min (max width 1) 32) [] k h).pr, (prvP (min (max width 1) 32) [] k h).ct, (prvP (min (max width 1) 32) [] k h).ch, (prvP (min (max width 1) 32) [] k h).bs.set (h / 8) (UInt8.ofNat ((bAt (prvP (min (max width 1) 32) [] k h).bs (h / 8)).toNat + 2 ^ (h % 8))), (prvP (min (max width 1) 32) [] k h).ss⟩ sv)] :: XS :: [row b7 28 (prf0.cells (.slice none 0 0))] :: XB :: SX :: R) w39 := by
        rw [← show ((prvP (min (max width 1) 32) [] k h).cells sv).set (34 + h / 8) (.int .u8 ((UInt8.ofNat ((bAt (prvP (min (max width 1) 32) [] k h).bs (h / 8)).toNat + 2 ^ (h % 8))).toNat : Int)) = Prf.cells ⟨(prvP (min (max width 1) 32) [] k h).pr, (prvP (min (max width 1) 32) [] k h).ct, (prvP (min (max width 1) 32) [] k h).ch, (prvP (min (max width 1) 32) [] k h).bs.set (h / 8) (UInt8.ofNat ((bAt (prvP (min (max width 1) 32) [] k h).bs (h / 8)).toNat + 2 ^ (h % 8))), (prvP (min (max width 1) 32) [] k h).ss⟩ sv from (Prf.c_putB hpk (by omega) _)]
        exact hA40
      refine plan_end ?_
      refine hK12 _ _ ?_; clear  hK12 K12
      have hpb : Prf.OK (⟨(prvP (min (max width 1) 32) [] k h).pr, (prvP (min (max width 1) 32) [] k h).ct, (prvP (min (max width 1) 32) [] k h).ch, (prvP (min (max width 1) 32) [] k h).bs.set (h / 8) (UInt8.ofNat ((bAt (prvP (min (max width 1) 32) [] k h).bs (h / 8)).toNat + 2 ^ (h % 8))), (prvP (min (max width 1) 32) [] k h).ss⟩ : Prf) := ⟨hpk.ch, by show (List.set _ _ _).length = 32; rw [List.length_set]; exact hpk.bs, hpk.ss, hpk.few⟩
      refine wp_region_lit ?_
      refine vc_y hF rfl rfl (by decide) _ (y_field rfl Tryd.underlying28 rfl sz26_s14 (by decide) rfl (rfl : (⟨_, 0 + _, none⟩ : Addr) = ⟨_, 66, none⟩)) (fun a hF => ?_)
      refine vc_y hF rfl rfl (by decide) _ (y_ld rfl hA41.q rfl 1 rfl (Prf.c_sums hpb) nr26_s14) (fun a hF => ?_)
      refine vc_y hF rfl rfl (by decide) _ (y_ldRow (new := dc (nbr (min (max width 1) 32) k [] h)) rfl hA41.q rfl 0 rfl rw23_s14 (by rw [hdd]; exact Nat.le_refl _) (by rw [List.drop_zero]; exact List.take_of_length_le (by rw [hdd]; exact Nat.le_refl _))) (fun a hF => ?_)
      refine vc_op rfl (fun K hK => hs_bs (qs := #[(0, .agg (dc (nbr (min (max width 1) 32) k [] h)).toArray)]) (cells := (dc (nbr (min (max width 1) 32) k [] h)).toArray) hF rfl (by decide) rfl hA41 rfl (by exact t7_build (hnl h)) (fun b42 w43 a hb42 hF hA44 => hK _ _ ?_))
      clear hK K
      replace hA44 : Hp w0 ([row b42 23 (dc (nbr (min (max width 1) 32) k [] h))] :: [row b29 23 (dc (nbr (min (max width 1) 32) k [] h))] :: [row b12 28 (Prf.cells ⟨(prvP (min (max width 1) 32) [] k h).pr, (prvP (min (max width 1) 32) [] k h).ct, (prvP (min (max width 1) 32) [] k h).ch, (prvP (min (max width 1) 32) [] k h).bs.set (h / 8) (UInt8.ofNat ((bAt (prvP (min (max width 1) 32) [] k h).bs (h / 8)).toNat + 2 ^ (h % 8))), (prvP (min (max width 1) 32) [] k h).ss⟩ sv)] :: XS :: [row b7 28 (prf0.cells (.slice none 0 0))] :: XB :: SX :: R) w43 := hA44
      refine vc_op rfl (fun K hK => hs_append hF rfl (by decide) rfl hA44 3 rfl hS Tryd.underlying26 t7_elem rfl rfl (Rc.srcC (W := dc (nbr (min (max width 1) 32) k [] h)) (m := 1) (size := 32) (R := [row b42 23 (dc (nbr (min (max width 1) 32) k [] h))] :: [row b29 23 (dc (nbr (min (max width 1) 32) k [] h))] :: [row b12 28 (Prf.cells ⟨(prvP (min (max width 1) 32) [] k h).pr, (prvP (min (max width 1) 32) [] k h).ct, (prvP (min (max width 1) 32) [] k h).ch, (prvP (min (max width 1) 32) [] k h).bs.set (h / 8) (UInt8.ofNat ((bAt (prvP (min (max width 1) 32) [] k h).bs (h / 8)).toNat + 2 ^ (h % 8))), (prvP (min (max width 1) 32) [] k h).ss⟩ sv)] :: XS :: [row b7 28 (prf0.cells (.slice none 0 0))] :: XB :: SX :: R) (Rc.ofRow (i := 0) (off := 0) rfl (by rw [List.drop_zero]; exact List.take_length ..)) hA44.q Tryd.underlying26 (by decide) (by rw [dc_length, (hnl h)]) (dc_one _)) (by have := hpk.few; omega) (by decide) (fun sv2 XS2 w45 a hS2 hF hA46 => hK _ _ ?_))
      clear hK K
      replace hA46 : Hp w0 ([row b42 23 (dc (nbr (min (max width 1) 32) k [] h))] :: [row b29 23 (dc (nbr (min (max width 1) 32) k [] h))] :: [row b12 28 (Prf.cells ⟨(prvP (min (max width 1) 32) [] k h).pr, (prvP (min (max width 1) 32) [] k h).ct, (prvP (min (max width 1) 32) [] k h).ch, (prvP (min (max width 1) 32) [] k h).bs.set (h / 8) (UInt8.ofNat ((bAt (prvP (min (max width 1) 32) [] k h).bs (h / 8)).toNat + 2 ^ (h % 8))), (prvP (min (max width 1) 32) [] k h).ss⟩ sv)] :: XS2 :: [row b7 28 (prf0.cells (.slice none 0 0))] :: XB :: SX :: R) w45 := hA46
      refine vc_y hF rfl rfl (by decide) _ (y_field rfl Tryd.underlying28 rfl sz26_s14 (by decide) rfl (rfl : (⟨_, 0 + _, none⟩ : Addr) = ⟨_, 66, none⟩)) (fun a hF => ?_)
      refine vc_op rfl (fun K hK => hs_store1 hF rfl rfl hA46 rfl rfl 2 rfl (by rw [Prf.c_len hpb]; decide) hS2.one sz26_s14 (fun w47 hA48 => hK _ _ ?_))
      clear hK K
      replace hA48 : Hp w0 ([row b42 23 (dc (nbr (min (max width 1) 32) k [] h))] :: [row b29 23 (dc (nbr (min (max width 1) 32) k [] h))] :: [row b12 28 ((Prf.cells ⟨(prvP (min (max width 1) 32) [] k h).pr, (prvP (min (max width 1) 32) [] k h).ct, (prvP (min (max width 1) 32) [] k h).ch, (prvP (min (max width 1) 32) [] k h).bs.set (h / 8) (UInt8.ofNat ((bAt (prvP (min (max width 1) 32) [] k h).bs (h / 8)).toNat + 2 ^ (h % 8))), (prvP (min (max width 1) 32) [] k h).ss⟩ sv).set 66 sv2)] :: XS2 :: [row b7 28 (prf0.cells (.slice none 0 0))] :: XB :: SX :: R) w47 := hA48
      have hA49 : Hp w0 ([row b42 23 (dc (nbr (min (max width 1) 32) k [] h))] :: [row b29 23 (dc (nbr (min (max width 1) 32) k [] h))] :: [row b12 28 ((prvP (min (max width 1) 32) [] k (h + 1)).cells sv2)] :: XS2 :: [row b7 28 (prf0.cells (.slice none 0 0))] :: XB :: SX :: R) w47 := by
        rw [← show (Prf.cells ⟨(prvP (min (max width 1) 32) [] k h).pr, (prvP (min (max width 1) 32) [] k h).ct, (prvP (min (max width 1) 32) [] k h).ch, (prvP (min (max width 1) 32) [] k h).bs.set (h / 8) (UInt8.ofNat ((bAt (prvP (min (max width 1) 32) [] k h).bs (h / 8)).toNat + 2 ^ (h % 8))), (prvP (min (max width 1) 32) [] k h).ss⟩ sv).set 66 sv2 = (prvP (min (max width 1) 32) [] k (h + 1)).cells sv2 from ((Prf.c_set hpb sv2).trans (by rw [prv_next heq]; rfl))]
        exact hA48
      rw [← digV_snoc, ← prv_sums heq, show (prvP (min (max width 1) 32) [] k h).ss.length + 1 = (prvP (min (max width 1) 32) [] k (h + 1)).ss.length by rw [prv_sums heq, List.length_append]; rfl] at hS2
      refine vc_nil ?_
      refine hK9 _ _ ?_; clear  hK9 K9
      refine wp_region_lit ?_
      refine vc_y hF rfl rfl (by decide) _ (y_add rfl rfl rfl (IntWalk.i64_in _ (by omega))) (fun a hF => ?_)
      refine vc_y hF rfl rfl (by decide) _ (y_move rfl rfl) (fun a hF => ?_)
      refine vc_nil ?_
      have hA50 : Hp w0 ([row b12 28 ((prvP (min (max width 1) 32) [] k (h + 1)).cells sv2)] :: XS2 :: [row b7 28 (prf0.cells (.slice none 0 0))] :: XB :: SX :: R) w47 := Hp.sel [[row b42 23 (dc (nbr (min (max width 1) 32) k [] h))], [row b29 23 (dc (nbr (min (max width 1) 32) k [] h))], [row b12 28 ((prvP (min (max width 1) 32) [] k (h + 1)).cells sv2)], XS2, [row b7 28 (prf0.cells (.slice none 0 0))], XB, SX] R [2, 3, 4, 5, 6] [0, 1] hA49 rfl
      exact ⟨h + 1, by omega, _, _, by omega, hS2, hF.keep [28, 7, 8, 6, 26, 27] rfl, hA50⟩
  · refine vc_falseB hF rfl (lss_f (by omega)) ?_
    obtain rfl : h = 256 := by omega
    apply wp_exit
    refine hK5 _ _ ?_; clear hK8 K8 hK5 K5
    apply wp_seq_k; intro K13 hK13
    refine wp_region_lit ?_
    refine vc_y hF rfl rfl (by decide) _ (y_ldRow rfl hA27.q rfl 0 rfl rw28_s14 (by rw [Prf.c_len hpk]; decide) (Prf.c_all hpk)) (fun a hF => ?_)
    refine vc_op rfl (fun K hK => hs_storeAll (new := (prvP (min (max width 1) 32) [] k 256).cells sv) hF rfl rfl hA27 rfl rfl 2 rfl (by rw [Prf.c_len hpk, Prf.c_len prf0_ok]) (Prf.c_one hS.one) (by rw [Prf.c_len prf0_ok]; exact sz28_s14) (fun w51 hA52 => hK _ _ ?_))
    clear hK K
    replace hA52 : Hp w0 ([row b12 28 ((prvP (min (max width 1) 32) [] k 256).cells sv)] :: XS :: [row b7 28 ((prvP (min (max width 1) 32) [] k 256).cells sv)] :: XB :: SX :: R) w51 := hA52
    refine vc_nil ?_
    refine hK13 _ _ ?_; clear  hK13 K13
    apply wp_ret
    refine vc_retR hF Tryd.results40 hA52.q rfl 2 rfl (by rw [Prf.c_len hpk]; exact rw28_s14) ?_
    have hA53 : Hp w0 (XS :: R) w51 := Hp.sel [[row b12 28 ((prvP (min (max width 1) 32) [] k 256).cells sv)], XS, [row b7 28 ((prvP (min (max width 1) 32) [] k 256).cells sv)], XB, SX] R [1] [0, 2, 3, 4] hA52 rfl
    rw [prvP_clamp] at hS ⊢
    exact ⟨sv, XS, rfl, hS, hA53⟩

set_option maxRecDepth 100000 in
set_option maxHeartbeats 2000000 in
theorem rt_proveS (w0 w : World) (R G : List Seg) (hG : G ⊆ R) (t : Rx) (hg : t.Good) (gn : Nat) (hTr : Tr w0 G true t gn) (ad : Addr) (c : Nat) (hcb : 257 ≤ c) (hRc : Rc w0 G (some ad) (digs (emptyL 32) 257)) (width : Int) (k : List UInt8) (hk : k.length = 32) (hT : Tab w0) (hA : Hp w0 R w) : Calls Tryd.prog 40 #[.agg ([.pointer (some ⟨gn, 0, none⟩), .slice (some ad) 257 c] : List Value).toArray, .int .i64 width, .agg (dc k).toArray] w fun e w' => ∃ sv X, e = .returned (.agg ((prvP width t.items k 256).cells sv).toArray) ∧ Buf 23 32 X sv (prvP width t.items k 256).ss.length (digV (prvP width t.items k 256).ss) ∧ Hp w0 (X :: R) w' := by
  have hdk : (dc k).length = 32 := by rw [dc_length, hk]
  have hII : ∀ i ∈ (t.items : List Itm), i.OK := hg.ok
  have hch := getCh_length hII k
  have hel : (Value.int .i64 (getCt t.items k) :: dc (getCh t.items k)).length = 33 := by rw [List.length_cons, dc_length, hch]
  have hnl := nbr_length (min (max width 1) 32) k t.items
  refine vc_enter Tryd.func40 rfl Tryd.ntmps40 (Nat.le_of_ble_eq_true rfl) (fun a hF => ?_)
  apply wp_seq_k; intro K1 hK1
  refine wp_region_lit ?_
  refine vc_op rfl (fun K hK => hs_box (cs := [.pointer (some ⟨gn, 0, none⟩), .slice (some ad) 257 c]) hF rfl (by decide) rfl hA rfl (fun b1 w2 a hb1 hF hA3 => hK _ _ ?_))
  clear hK K
  replace hA3 : Hp w0 ([row b1 45 [.pointer (some ⟨gn, 0, none⟩), .slice (some ad) 257 c]] :: R) w2 := hA3
  refine vc_op rfl (fun K hK => hs_box (cs := dc k) hF rfl (by decide) rfl hA3 rfl (fun b4 w5 a hb4 hF hA6 => hK _ _ ?_))
  clear hK K
  replace hA6 : Hp w0 ([row b4 23 (dc k)] :: [row b1 45 [.pointer (some ⟨gn, 0, none⟩), .slice (some ad) 257 c]] :: R) w5 := hA6
  refine vc_op rfl (fun K hK => hs_alloc hF rfl (by decide) rfl hA6 zrPrf (fun b7 w8 a hb7 hF hA9 => hK _ _ ?_))
  clear hK K
  replace hA9 : Hp w0 ([row b7 28 (prf0.cells (.slice none 0 0))] :: [row b4 23 (dc k)] :: [row b1 45 [.pointer (some ⟨gn, 0, none⟩), .slice (some ad) 257 c]] :: R) w8 := hA9
  refine vc_nil ?_
  refine hK1 _ _ ?_; clear  hK1 K1
  apply wp_seq_k; intro K2 hK2
  refine wp_region_lit ?_
  refine vc_y hF rfl rfl (by decide) _ (y_move rfl rfl) (fun a hF => ?_)
  refine vc_y hF rfl rfl (by decide) _ (y_field rfl Tryd.underlying45 rfl sz26_s14 (by decide) rfl (rfl : (⟨_, 0 + _, none⟩ : Addr) = ⟨_, 1, none⟩)) (fun a hF => ?_)
  refine vc_y hF rfl rfl (by decide) _ (y_ld rfl hA9.q rfl 2 rfl rfl nr26_s14) (fun a hF => ?_)
  refine vc_op rfl (fun K hK => ws_call hF rfl (by decide) cl54_s14 rfl rfl ?_)
  with_reducible refine (rt_atS w0 _ ([row b7 28 (prf0.cells (.slice none 0 0))] :: [row b4 23 (dc k)] :: [row b1 45 [.pointer (some ⟨gn, 0, none⟩), .slice (some ad) 257 c]] :: R) G width ad c hcb hRc hT hA9 ).mono ?_
  rintro e' w10 ⟨gs, SX, rfl, hSm2, hA11⟩
  refine ⟨_, rfl, fun a hF => hK _ _ ?_⟩
  clear hK K
  replace hA11 : Hp w0 (SX :: [row b7 28 (prf0.cells (.slice none 0 0))] :: [row b4 23 (dc k)] :: [row b1 45 [.pointer (some ⟨gn, 0, none⟩), .slice (some ad) 257 c]] :: R) w10 := hA11
  have hSm := hSm2.sm
  refine vc_y hF rfl rfl (by decide) _ (y_assign rfl rfl) (fun a hF => ?_)
  refine vc_nil ?_
  refine hK2 _ _ ?_; clear  hK2 K2
  apply wp_seq_k; intro K3 hK3
  refine wp_region_lit ?_
  refine vc_op rfl (fun K hK => hs_alloc hF rfl (by decide) rfl hA11 zrPrf (fun b12 w13 a hb12 hF hA14 => hK _ _ ?_))
  clear hK K
  replace hA14 : Hp w0 ([row b12 28 (prf0.cells (.slice none 0 0))] :: SX :: [row b7 28 (prf0.cells (.slice none 0 0))] :: [row b4 23 (dc k)] :: [row b1 45 [.pointer (some ⟨gn, 0, none⟩), .slice (some ad) 257 c]] :: R) w13 := hA14
  refine vc_nil ?_
  refine hK3 _ _ ?_; clear  hK3 K3
  apply wp_seq_k; intro K4 hK4
  have hSmk := hSm
  obtain ⟨AE, cE, wb, hs1, hs2, hs3⟩ := hSmk
  refine wp_region_lit ?_
  refine vc_y hF rfl rfl (by decide) _ (y_ldRow (new := [.pointer (some ⟨gn, 0, none⟩), .slice (some ad) 257 c]) rfl hA14.q rfl 4 rfl rw45_s14 (Nat.le_of_ble_eq_true rfl) rfl) (fun a hF => ?_)
  refine vc_y hF rfl rfl (by decide) _ (y_ldRow (new := dc k) rfl hA14.q rfl 3 rfl rw23_s14 (by rw [hdk]; exact Nat.le_refl _) (by rw [List.drop_zero]; exact List.take_of_length_le (by rw [hdk]; exact Nat.le_refl _))) (fun a hF => ?_)
  refine vc_op rfl (fun K hK => ws_call hF rfl (by decide) cl34_s14 rfl rfl ?_)
  with_reducible refine (rt_getS w0 _ ([row b12 28 (prf0.cells (.slice none 0 0))] :: SX :: [row b7 28 (prf0.cells (.slice none 0 0))] :: [row b4 23 (dc k)] :: [row b1 45 [.pointer (some ⟨gn, 0, none⟩), .slice (some ad) 257 c]] :: R) G (List.Subset.trans hG (subC (subC (subC (subC (subC (sub0))))))) t hg gn hTr _ k hk hA14 ).mono ?_
  rintro e' w15 ⟨rfl, hA16⟩
  refine ⟨_, rfl, fun a hF => hK _ _ ?_⟩
  clear hK K
  replace hA16 : Hp w0 ([row b12 28 (prf0.cells (.slice none 0 0))] :: SX :: [row b7 28 (prf0.cells (.slice none 0 0))] :: [row b4 23 (dc k)] :: [row b1 45 [.pointer (some ⟨gn, 0, none⟩), .slice (some ad) 257 c]] :: R) w15 := hA16
  refine vc_y hF rfl rfl (by decide) _ (y_move rfl rfl) (fun a hF => ?_)
  refine vc_y hF rfl rfl (by decide) _ (y_extract (v := .agg (.int .i64 (getCt t.items k) :: dc (getCh t.items k)).toArray) rfl rfl rfl) (fun a hF => ?_)
  refine vc_y hF rfl rfl (by decide) _ (y_extract (v := .bool ((getL t.items k).isSome)) rfl rfl rfl) (fun a hF => ?_)
  refine vc_y hF rfl rfl (by decide) _ (y_field rfl Tryd.underlying28 rfl sz25_s14 (by decide) rfl (rfl : (⟨_, 0 + _, none⟩ : Addr) = ⟨_, 1, none⟩)) (fun a hF => ?_)
  refine vc_op rfl (fun K hK => hs_storeRow (new := .int .i64 (getCt t.items k) :: dc (getCh t.items k)) hF rfl rfl hA16 rfl rfl 0 rfl (by rw [hel, Prf.c_len prf0_ok]; decide) (ent_one _ _) (by rw [hel]; exact sz25_s14) (fun w17 hA18 => hK _ _ ?_))
  clear hK K
  replace hA18 : Hp w0 ([row b12 28 (splice (prf0.cells (.slice none 0 0)) 1 (.int .i64 (getCt t.items k) :: dc (getCh t.items k)))] :: SX :: [row b7 28 (prf0.cells (.slice none 0 0))] :: [row b4 23 (dc k)] :: [row b1 45 [.pointer (some ⟨gn, 0, none⟩), .slice (some ad) 257 c]] :: R) w17 := hA18
  have hA19 : Hp w0 ([row b12 28 (Prf.cells ⟨false, getCt t.items k, getCh t.items k, List.replicate 32 0, []⟩ (.slice none 0 0))] :: SX :: [row b7 28 (prf0.cells (.slice none 0 0))] :: [row b4 23 (dc k)] :: [row b1 45 [.pointer (some ⟨gn, 0, none⟩), .slice (some ad) 257 c]] :: R) w17 := by
    rw [← show splice (prf0.cells (.slice none 0 0)) 1 (.int .i64 (getCt t.items k) :: dc (getCh t.items k)) = Prf.cells ⟨false, getCt t.items k, getCh t.items k, List.replicate 32 0, []⟩ (.slice none 0 0) from (Prf.c_putE prf0_ok _ hch)]
    exact hA18
  refine vc_y hF rfl rfl (by decide) _ (y_field rfl Tryd.underlying28 rfl sz4_s14 (by decide) rfl (rfl : (⟨_, 0 + _, none⟩ : Addr) = ⟨_, 0, none⟩)) (fun a hF => ?_)
  refine vc_op rfl (fun K hK => hs_store1 hF rfl rfl hA19 rfl rfl 0 rfl (by rw [Prf.c_len ⟨hch, List.length_replicate .., (fun d hd => by cases hd), Nat.zero_le _⟩]; decide) rfl sz4_s14 (fun w20 hA21 => hK _ _ ?_))
  clear hK K
  replace hA21 : Hp w0 ([row b12 28 ((Prf.cells ⟨false, getCt t.items k, getCh t.items k, List.replicate 32 0, []⟩ (.slice none 0 0)).set 0 (.bool (getL t.items k).isSome))] :: SX :: [row b7 28 (prf0.cells (.slice none 0 0))] :: [row b4 23 (dc k)] :: [row b1 45 [.pointer (some ⟨gn, 0, none⟩), .slice (some ad) 257 c]] :: R) w20 := hA21
  have hA22 : Hp w0 ([row b12 28 ((prvP (min (max width 1) 32) t.items k 0).cells (.slice none 0 0))] :: SX :: [row b7 28 (prf0.cells (.slice none 0 0))] :: [row b4 23 (dc k)] :: [row b1 45 [.pointer (some ⟨gn, 0, none⟩), .slice (some ad) 257 c]] :: R) w20 := by
    rw [← show (Prf.cells ⟨false, getCt t.items k, getCh t.items k, List.replicate 32 0, []⟩ (.slice none 0 0)).set 0 (.bool (getL t.items k).isSome) = (prvP (min (max width 1) 32) t.items k 0).cells (.slice none 0 0) from rfl]
    exact hA21
  refine vc_nil ?_
  refine hK4 _ _ ?_; clear  hK4 K4
  apply wp_seq_k; intro K5 hK5
  apply wp_seq_k; intro K6 hK6
  refine wp_region_lit ?_
  refine vc_y hF rfl rfl (by decide) _ (y_ldRow (new := [.pointer (some ⟨gn, 0, none⟩), .slice (some ad) 257 c]) rfl hA22.q rfl 4 rfl rw45_s14 (Nat.le_of_ble_eq_true rfl) rfl) (fun a hF => ?_)
  refine vc_y hF rfl rfl (by decide) _ (y_move rfl rfl) (fun a hF => ?_)
  refine vc_y hF rfl rfl (by decide) _ (y_ldRow (new := dc k) rfl hA22.q rfl 3 rfl rw23_s14 (by rw [hdk]; exact Nat.le_refl _) (by rw [List.drop_zero]; exact List.take_of_length_le (by rw [hdk]; exact Nat.le_refl _))) (fun a hF => ?_)
  refine vc_op rfl (fun K hK => ws_call hF rfl (by decide) cl70_s14 rfl rfl ?_)
  with_reducible refine (rt_besideS w0 _ ([row b12 28 ((prvP (min (max width 1) 32) t.items k 0).cells (.slice none 0 0))] :: SX :: [row b7 28 (prf0.cells (.slice none 0 0))] :: [row b4 23 (dc k)] :: [row b1 45 [.pointer (some ⟨gn, 0, none⟩), .slice (some ad) 257 c]] :: R) (SX :: G) (sub_cons2 (List.mem_cons_of_mem _ ((List.mem_cons_self ..))) (List.Subset.trans hG (subC (subC (subC (subC (subC (sub0)))))))) t hg gn (hTr.mono (List.subset_cons_of_subset _ (List.Subset.refl _))) ad c hcb (hRc.mono (List.subset_cons_of_subset _ (List.Subset.refl _))) k hk gs (min (max width 1) 32) hSm2 hT hA22 ).mono ?_
  rintro e' w23 ⟨bv, XB, rfl, hBE, hA24⟩
  refine ⟨_, rfl, fun a hF => hK _ _ ?_⟩
  clear hK K
  replace hA24 : Hp w0 (XB :: [row b12 28 ((prvP (min (max width 1) 32) t.items k 0).cells (.slice none 0 0))] :: SX :: [row b7 28 (prf0.cells (.slice none 0 0))] :: [row b4 23 (dc k)] :: [row b1 45 [.pointer (some ⟨gn, 0, none⟩), .slice (some ad) 257 c]] :: R) w23 := hA24
  have hFn := hF
  obtain ⟨AB, cB, rfl, _, hRB⟩ := hBE.rc (w0 := w0) (R := [XB]) (List.mem_cons_self ..)
  have hF := hFn
  refine vc_y hF rfl rfl (by decide) _ (y_lenSl rfl Tryd.underlying26 rfl rfl) (fun a hF => ?_)
  refine vc_y hF rfl rfl (by decide) _ (y_move rfl rfl) (fun a hF => ?_)
  refine vc_nil ?_
  refine hK6 _ _ ?_; clear  hK6 K6
  apply wp_block
  have hA25 : Hp w0 ([row b12 28 ((prvP (min (max width 1) 32) t.items k 0).cells (.slice none 0 0))] :: [row b7 28 (prf0.cells (.slice none 0 0))] :: XB :: SX :: R) w23 := Hp.sel [XB, [row b12 28 ((prvP (min (max width 1) 32) t.items k 0).cells (.slice none 0 0))], SX, [row b7 28 (prf0.cells (.slice none 0 0))], [row b4 23 (dc k)], [row b1 45 [.pointer (some ⟨gn, 0, none⟩), .slice (some ad) 257 c]]] R [1, 3, 0, 2] [4, 5] hA24 rfl
  have hA26 : Hp w0 ([row b12 28 ((prvP (min (max width 1) 32) t.items k 0).cells (.slice none 0 0))] :: [] :: [row b7 28 (prf0.cells (.slice none 0 0))] :: XB :: SX :: R) w23 := hA25
  refine vc_loop (G := Nat) (fun h a x => ∃ (sv : Value) (XS : Seg), h ≤ 256 ∧ Buf 23 32 XS sv (prvP (min (max width 1) 32) t.items k h).ss.length (digV (prvP (min (max width 1) 32) t.items k h).ss) ∧ Fr 61 [(28, .int .i64 (h : Int)), (7, .pointer (some ⟨gs, 0, none⟩)), (8, .pointer (some ⟨b12, 0, none⟩)), (6, .pointer (some ⟨b7, 0, none⟩)), (26, .slice AB 256 cB), (27, .int .i64 256)] a ∧ Hp w0 ([row b12 28 ((prvP (min (max width 1) 32) t.items k h).cells sv)] :: XS :: [row b7 28 (prf0.cells (.slice none 0 0))] :: XB :: SX :: R) x) (fun h => 256 - h) 0 (⟨_, _, Nat.zero_le _, (Buf.nil 23 32), hF.keep [28, 7, 8, 6, 26, 27] rfl, hA26⟩) ?_
  clear hF
  rintro h a w28 ⟨sv, XS, hh, hS, hF, hA27⟩
  have hpk : (prvP (min (max width 1) 32) t.items k h).OK := prvP_ok hII k hh
  apply wp_seq_k; intro K7 hK7
  refine wp_region_lit ?_
  refine vc_y hF rfl rfl (by decide) _ (y_cmp rfl rfl rfl rfl rfl) (fun a hF => ?_)
  refine vc_nil ?_
  refine hK7 _ _ ?_; clear  hK7 K7
  apply wp_seq_k; intro K8 hK8
  by_cases hlt : h < 256
  · refine vc_trueB hF rfl (lss_t (by omega)) ?_
    have hdd : (dc (nbr (min (max width 1) 32) k t.items h)).length = 32 := by rw [dc_length, hnl]
    have hdle := emptyL_length (min (max width 1) 32)
    obtain ⟨herd, hele⟩ := digs_rd (emptyL (min (max width 1) 32)) 257 h (fun i _ => hdle i) (by omega)
    obtain ⟨hnrd, hnle⟩ := digs_rd (nbr (min (max width 1) 32) k t.items) 256 h (fun i _ => hnl i) hlt
    obtain ⟨be_, qe, hAE, hce⟩ := hs3.ne (i := h * 32) (by omega)
    obtain ⟨bn, qn, hAN, hcn⟩ := hRB.ne (i := h * 32) (by omega)
    apply wp_skip
    refine hK8 _ _ ?_; clear  hK8 K8
    apply wp_seq_k; intro K9 hK9
    apply wp_block
    apply wp_seq_k; intro K10 hK10
    refine wp_region_lit ?_
    refine vc_y hF rfl rfl (by decide) _ (y_move rfl rfl) (fun a hF => ?_)
    refine vc_y hF rfl rfl (by decide) _ (y_ixSl rfl Tryd.underlying26 sz23_s14 (by exact congrArg (fun A => some (Value.slice A 256 cB)) hAN) rfl h rfl hlt rfl) (fun a hF => ?_)
    refine vc_y hF rfl rfl (by decide) _ (y_ldRowC rfl (Hq.sub hA27.q (sub1 (List.mem_cons_of_mem _ (List.mem_cons_of_mem _ (List.mem_cons_of_mem _ ((List.mem_cons_self ..))))))) rfl hcn (h * 32) hnle rfl hnrd rw23_s14) (fun a hF => ?_)
    refine vc_op rfl (fun K hK => hs_alloc hF rfl (by decide) rfl hA27 (zr23_s14) (fun b29 w30 a hb29 hF hA31 => hK _ _ ?_))
    clear hK K
    replace hA31 : Hp w0 ([row b29 23 (dc (List.replicate 32 0))] :: [row b12 28 ((prvP (min (max width 1) 32) t.items k h).cells sv)] :: XS :: [row b7 28 (prf0.cells (.slice none 0 0))] :: XB :: SX :: R) w30 := hA31
    refine vc_y hF rfl rfl (by decide) _ (y_assign rfl rfl) (fun a hF => ?_)
    refine vc_op rfl (fun K hK => hs_storeAll (new := dc (nbr (min (max width 1) 32) k t.items h)) hF rfl rfl hA31 rfl rfl 0 rfl (by rw [hdd]; rfl) (dc_one _) sz23_s14 (fun w32 hA33 => hK _ _ ?_))
    clear hK K
    replace hA33 : Hp w0 ([row b29 23 (dc (nbr (min (max width 1) 32) k t.items h))] :: [row b12 28 ((prvP (min (max width 1) 32) t.items k h).cells sv)] :: XS :: [row b7 28 (prf0.cells (.slice none 0 0))] :: XB :: SX :: R) w32 := hA33
    refine vc_nil ?_
    refine hK10 _ _ ?_; clear  hK10 K10
    apply wp_seq_k; intro K11 hK11
    by_cases heq : nbr (min (max width 1) 32) k t.items h = emptyL (min (max width 1) 32) h
    · refine wp_region_plan 8 [8] [0,1,2,3,4,5,6,7,8] (fun x => Hq w0 ([row b29 23 (dc (nbr (min (max width 1) 32) k t.items h))] :: [row b12 28 ((prvP (min (max width 1) 32) t.items k h).cells sv)] :: XS :: [row b7 28 (prf0.cells (.slice none 0 0))] :: XB :: SX :: R) x) (by kernel_rfl) (by kernel_rfl) (Hq.drew (Hp.qp [[row b29 23 (dc (nbr (min (max width 1) 32) k t.items h))], [row b12 28 ((prvP (min (max width 1) 32) t.items k h).cells sv)], XS, [row b7 28 (prf0.cells (.slice none 0 0))], XB, SX] R [0, 1, 2, 3, 4, 5] hA33)) ?_
      have hA34 := Hl.drew hA33
      refine vp_y hF rfl rfl rfl rfl (by decide) _ (fun x hx => y_ldRow (new := dc (nbr (min (max width 1) 32) k t.items h)) rfl hx rfl 0 rfl rw23_s14 (by rw [hdd]; exact Nat.le_refl _) (by rw [List.drop_zero]; exact List.take_of_length_le (by rw [hdd]; exact Nat.le_refl _))) (fun a hF => ?_)
      refine vp_y hF rfl rfl rfl rfl (by decide) _ (fun x hx => y_move rfl rfl) (fun a hF => ?_)
      refine vp_y hF rfl rfl rfl rfl (by decide) _ (fun x hx => y_nilCheck rfl rfl) (fun a hF => ?_)
      refine vp_y hF rfl rfl rfl rfl (by decide) _ (fun x hx => y_field rfl Tryd.underlying102 rfl sz26_s14 (by decide) rfl (rfl : (⟨_, 0 + _, none⟩ : Addr) = ⟨_, 1, none⟩)) (fun a hF => ?_)
      refine vp_y hF rfl rfl rfl rfl (by decide) _ (fun x hx => y_ldC rfl (Hq.sub hx (sub_cons2 (List.mem_cons_of_mem _ (List.mem_cons_of_mem _ (List.mem_cons_of_mem _ (List.mem_cons_of_mem _ (List.mem_cons_of_mem _ ((List.mem_cons_self ..))))))) (List.Subset.trans hG (subC (subC (subC (subC (subC (subC (sub0)))))))))) rfl hs1 1 (by simp) rfl rfl nr26_s14) (fun a hF => ?_)
      refine vp_y hF rfl rfl rfl rfl (by decide) _ (fun x hx => y_move rfl rfl) (fun a hF => ?_)
      refine vp_y hF rfl rfl rfl rfl (by decide) _ (fun x hx => y_ixSl rfl Tryd.underlying26 sz23_s14 (by exact congrArg (fun A => some (Value.slice A 257 cE)) hAE) rfl h rfl (by omega) rfl) (fun a hF => ?_)
      refine vp_y hF rfl rfl rfl rfl (by decide) _ (fun x hx => y_ldRowC rfl (Hq.sub hx (sub_cons2 (List.mem_cons_of_mem _ (List.mem_cons_of_mem _ (List.mem_cons_of_mem _ (List.mem_cons_of_mem _ (List.mem_cons_of_mem _ ((List.mem_cons_self ..))))))) (List.Subset.trans hG (subC (subC (subC (subC (subC (subC (sub0)))))))))) rfl hce (h * 32) hele rfl herd rw23_s14) (fun a hF => ?_)
      refine vp_ly hF rfl rfl rfl rfl (by decide) _ (y_neB rfl Tryd.underlying23 Tryd.underlying5 sz5_s14 (by kernel_rfl) rfl rfl (hnl h) (hdle h) (show (!decide (nbr (min (max width 1) 32) k t.items h = emptyL (min (max width 1) 32) h)) = false by rw [decide_eq_true heq]; rfl)) (fun h => absurd h (by decide)) (fun a hF => ?_)
      refine plan_end ?_
      refine hK11 _ _ ?_; clear  hK11 K11
      refine vc_false hF rfl ?_
      apply wp_skip
      refine hK9 _ _ ?_; clear  hK9 K9
      refine wp_region_lit ?_
      refine vc_y hF rfl rfl (by decide) _ (y_add rfl rfl rfl (IntWalk.i64_in _ (by omega))) (fun a hF => ?_)
      refine vc_y hF rfl rfl (by decide) _ (y_move rfl rfl) (fun a hF => ?_)
      refine vc_nil ?_
      have hps := prv_same heq
      rw [← hps] at hS
      have hA35 : Hp w0 ([row b29 23 (dc (nbr (min (max width 1) 32) k t.items h))] :: [row b12 28 ((prvP (min (max width 1) 32) t.items k (h + 1)).cells sv)] :: XS :: [row b7 28 (prf0.cells (.slice none 0 0))] :: XB :: SX :: R) w32.drew := by
        rw [← show (prvP (min (max width 1) 32) t.items k h).cells sv = (prvP (min (max width 1) 32) t.items k (h + 1)).cells sv from (by rw [hps])]
        exact hA34
      have hA36 : Hp w0 ([row b12 28 ((prvP (min (max width 1) 32) t.items k (h + 1)).cells sv)] :: XS :: [row b7 28 (prf0.cells (.slice none 0 0))] :: XB :: SX :: R) w32.drew := Hp.sel [[row b29 23 (dc (nbr (min (max width 1) 32) k t.items h))], [row b12 28 ((prvP (min (max width 1) 32) t.items k (h + 1)).cells sv)], XS, [row b7 28 (prf0.cells (.slice none 0 0))], XB, SX] R [1, 2, 3, 4, 5] [0] hA35 rfl
      exact ⟨h + 1, by omega, _, _, by omega, hS, hF.keep [28, 7, 8, 6, 26, 27] rfl, hA36⟩
    · refine wp_region_plan 8 [8] [0,1,2,3,4,5,6,7,8] (fun x => Hq w0 ([row b29 23 (dc (nbr (min (max width 1) 32) k t.items h))] :: [row b12 28 ((prvP (min (max width 1) 32) t.items k h).cells sv)] :: XS :: [row b7 28 (prf0.cells (.slice none 0 0))] :: XB :: SX :: R) x) (by kernel_rfl) (by kernel_rfl) (Hq.drew (Hp.qp [[row b29 23 (dc (nbr (min (max width 1) 32) k t.items h))], [row b12 28 ((prvP (min (max width 1) 32) t.items k h).cells sv)], XS, [row b7 28 (prf0.cells (.slice none 0 0))], XB, SX] R [0, 1, 2, 3, 4, 5] hA33)) ?_
      have hA37 := Hl.drew hA33
      refine vp_y hF rfl rfl rfl rfl (by decide) _ (fun x hx => y_ldRow (new := dc (nbr (min (max width 1) 32) k t.items h)) rfl hx rfl 0 rfl rw23_s14 (by rw [hdd]; exact Nat.le_refl _) (by rw [List.drop_zero]; exact List.take_of_length_le (by rw [hdd]; exact Nat.le_refl _))) (fun a hF => ?_)
      refine vp_y hF rfl rfl rfl rfl (by decide) _ (fun x hx => y_move rfl rfl) (fun a hF => ?_)
      refine vp_y hF rfl rfl rfl rfl (by decide) _ (fun x hx => y_nilCheck rfl rfl) (fun a hF => ?_)
      refine vp_y hF rfl rfl rfl rfl (by decide) _ (fun x hx => y_field rfl Tryd.underlying102 rfl sz26_s14 (by decide) rfl (rfl : (⟨_, 0 + _, none⟩ : Addr) = ⟨_, 1, none⟩)) (fun a hF => ?_)
      refine vp_y hF rfl rfl rfl rfl (by decide) _ (fun x hx => y_ldC rfl (Hq.sub hx (sub_cons2 (List.mem_cons_of_mem _ (List.mem_cons_of_mem _ (List.mem_cons_of_mem _ (List.mem_cons_of_mem _ (List.mem_cons_of_mem _ ((List.mem_cons_self ..))))))) (List.Subset.trans hG (subC (subC (subC (subC (subC (subC (sub0)))))))))) rfl hs1 1 (by simp) rfl rfl nr26_s14) (fun a hF => ?_)
      refine vp_y hF rfl rfl rfl rfl (by decide) _ (fun x hx => y_move rfl rfl) (fun a hF => ?_)
      refine vp_y hF rfl rfl rfl rfl (by decide) _ (fun x hx => y_ixSl rfl Tryd.underlying26 sz23_s14 (by exact congrArg (fun A => some (Value.slice A 257 cE)) hAE) rfl h rfl (by omega) rfl) (fun a hF => ?_)
      refine vp_y hF rfl rfl rfl rfl (by decide) _ (fun x hx => y_ldRowC rfl (Hq.sub hx (sub_cons2 (List.mem_cons_of_mem _ (List.mem_cons_of_mem _ (List.mem_cons_of_mem _ (List.mem_cons_of_mem _ (List.mem_cons_of_mem _ ((List.mem_cons_self ..))))))) (List.Subset.trans hG (subC (subC (subC (subC (subC (subC (sub0)))))))))) rfl hce (h * 32) hele rfl herd rw23_s14) (fun a hF => ?_)
      refine vp_ly hF rfl rfl rfl rfl (by decide) _ (y_neB rfl Tryd.underlying23 Tryd.underlying5 sz5_s14 (by kernel_rfl) rfl rfl (hnl h) (hdle h) (show (!decide (nbr (min (max width 1) 32) k t.items h = emptyL (min (max width 1) 32) h)) = true by rw [decide_eq_false heq]; rfl)) (fun h => absurd h (by decide)) (fun a hF => ?_)
      refine plan_end ?_
      refine hK11 _ _ ?_; clear  hK11 K11
      refine vc_true hF rfl ?_
      apply wp_seq_k; intro K12 hK12
      refine wp_region_plan 11 [11] [0,1,2,3,4,5,6,7,8,9,10,11] (fun x => Hq w0 ([row b29 23 (dc (nbr (min (max width 1) 32) k t.items h))] :: [row b12 28 ((prvP (min (max width 1) 32) t.items k h).cells sv)] :: XS :: [row b7 28 (prf0.cells (.slice none 0 0))] :: XB :: SX :: R) x) (by kernel_rfl) (by kernel_rfl) (Hq.drew (Hp.qp [[row b29 23 (dc (nbr (min (max width 1) 32) k t.items h))], [row b12 28 ((prvP (min (max width 1) 32) t.items k h).cells sv)], XS, [row b7 28 (prf0.cells (.slice none 0 0))], XB, SX] R [0, 1, 2, 3, 4, 5] hA37)) ?_
      have hA38 := Hl.drew hA37
      refine vp_y hF rfl rfl rfl rfl (by decide) _ (fun x hx => y_move rfl rfl) (fun a hF => ?_)
      refine vp_y hF rfl rfl rfl rfl (by decide) _ (fun x hx => y_quo rfl rfl rfl (by decide) (quo8 h hlt)) (fun a hF => ?_)
      refine vp_y hF rfl rfl rfl rfl (by decide) _ (fun x hx => y_field rfl Tryd.underlying28 rfl sz22_s14 (by decide) rfl (rfl : (⟨_, 0 + _, none⟩ : Addr) = ⟨_, 34, none⟩)) (fun a hF => ?_)
      refine vp_y hF rfl rfl rfl rfl (by decide) _ (fun x hx => y_ixArr rfl Tryd.underlying22 sz5_s14 rfl rfl (h / 8) rfl (by omega) (ad2 _ _ _) (rfl : (none : Option Nat) = none)) (fun a hF => ?_)
      refine vp_y hF rfl rfl rfl rfl (by decide) _ (fun x hx => y_ld rfl hx rfl 1 rfl (Prf.c_bit hpk (by omega)) nr5_s14) (fun a hF => ?_)
      refine vp_y hF rfl rfl rfl rfl (by decide) _ (fun x hx => y_move rfl rfl) (fun a hF => ?_)
      refine vp_y hF rfl rfl rfl rfl (by decide) _ (fun x hx => y_rem rfl rfl rfl (by decide) (rem8 h)) (fun a hF => ?_)
      refine vp_y hF rfl rfl rfl rfl (by decide) _ (fun x hx => y_shl rfl rfl rfl (by omega) (shl8_bit h)) (fun a hF => ?_)
      refine vp_y hF rfl rfl rfl rfl (by decide) _ (fun x hx => y_or rfl rfl rfl (pByte_step _ _ hlt).1) (fun a hF => ?_)
      refine vp_y hF rfl rfl rfl rfl (by decide) _ (fun x hx => y_field rfl Tryd.underlying28 rfl sz22_s14 (by decide) rfl (rfl : (⟨_, 0 + _, none⟩ : Addr) = ⟨_, 34, none⟩)) (fun a hF => ?_)
      refine vp_y hF rfl rfl rfl rfl (by decide) _ (fun x hx => y_ixArr rfl Tryd.underlying22 sz5_s14 rfl rfl (h / 8) rfl (by omega) (ad2 _ _ _) (rfl : (none : Option Nat) = none)) (fun a hF => ?_)
      refine vp_l rfl rfl rfl (fun K hK => hs_store1 hF rfl rfl hA38 rfl rfl 1 rfl (by rw [Prf.c_len hpk]; omega) rfl sz5_s14 (fun w39 hA40 => hK _ _ (fun h => absurd h (by decide)) ?_))
      clear hK K
      replace hA40 : Hp w0 ([row b29 23 (dc (nbr (min (max width 1) 32) k t.items h))] :: [row b12 28 (((prvP (min (max width 1) 32) t.items k h).cells sv).set (34 + h / 8) (.int .u8 ((UInt8.ofNat ((bAt (prvP (min (max width 1) 32) t.items k h).bs (h / 8)).toNat + 2 ^ (h % 8))).toNat : Int)))] :: XS :: [row b7 28 (prf0.cells (.slice none 0 0))] :: XB :: SX :: R) w39 := hA40
      have hA41 : Hp w0 ([row b29 23 (dc (nbr (min (max width 1) 32) k t.items h))] :: [row b12 28 (Prf.cells ⟨(prvP (min (max width 1) 32) t.items k h).pr, (prvP (min (max width 1) 32) t.items k h).ct, (prvP (min (max width 1) 32) t.items k h).ch, (prvP (min (max width 1) 32) t.items k h).bs.set (h / 8) (UInt8.ofNat ((bAt (prvP (min (max width 1) 32) t.items k h).bs (h / 8)).toNat + 2 ^ (h % 8))), (prvP (min (max width 1) 32) t.items k h).ss⟩ sv)] :: XS :: [row b7 28 (prf0.cells (.slice none 0 0))] :: XB :: SX :: R) w39 := by
        rw [← show ((prvP (min (max width 1) 32) t.items k h).cells sv).set (34 + h / 8) (.int .u8 ((UInt8.ofNat ((bAt (prvP (min (max width 1) 32) t.items k h).bs (h / 8)).toNat + 2 ^ (h % 8))).toNat : Int)) = Prf.cells ⟨(prvP (min (max width 1) 32) t.items k h).pr, (prvP (min (max width 1) 32) t.items k h).ct, (prvP (min (max width 1) 32) t.items k h).ch, (prvP (min (max width 1) 32) t.items k h).bs.set (h / 8) (UInt8.ofNat ((bAt (prvP (min (max width 1) 32) t.items k h).bs (h / 8)).toNat + 2 ^ (h % 8))), (prvP (min (max width 1) 32) t.items k h).ss⟩ sv from (Prf.c_putB hpk (by omega) _)]
        exact hA40
      refine plan_end ?_
      refine hK12 _ _ ?_; clear  hK12 K12
      have hpb : Prf.OK (⟨(prvP (min (max width 1) 32) t.items k h).pr, (prvP (min (max width 1) 32) t.items k h).ct, (prvP (min (max width 1) 32) t.items k h).ch, (prvP (min (max width 1) 32) t.items k h).bs.set (h / 8) (UInt8.ofNat ((bAt (prvP (min (max width 1) 32) t.items k h).bs (h / 8)).toNat + 2 ^ (h % 8))), (prvP (min (max width 1) 32) t.items k h).ss⟩ : Prf) := ⟨hpk.ch, by show (List.set _ _ _).length = 32; rw [List.length_set]; exact hpk.bs, hpk.ss, hpk.few⟩
      refine wp_region_lit ?_
      refine vc_y hF rfl rfl (by decide) _ (y_field rfl Tryd.underlying28 rfl sz26_s14 (by decide) rfl (rfl : (⟨_, 0 + _, none⟩ : Addr) = ⟨_, 66, none⟩)) (fun a hF => ?_)
      refine vc_y hF rfl rfl (by decide) _ (y_ld rfl hA41.q rfl 1 rfl (Prf.c_sums hpb) nr26_s14) (fun a hF => ?_)
      refine vc_y hF rfl rfl (by decide) _ (y_ldRow (new := dc (nbr (min (max width 1) 32) k t.items h)) rfl hA41.q rfl 0 rfl rw23_s14 (by rw [hdd]; exact Nat.le_refl _) (by rw [List.drop_zero]; exact List.take_of_length_le (by rw [hdd]; exact Nat.le_refl _))) (fun a hF => ?_)
      refine vc_op rfl (fun K hK => hs_bs (qs := #[(0, .agg (dc (nbr (min (max width 1) 32) k t.items h)).toArray)]) (cells := (dc (nbr (min (max width 1) 32) k t.items h)).toArray) hF rfl (by decide) rfl hA41 rfl (by exact t7_build (hnl h)) (fun b42 w43 a hb42 hF hA44 => hK _ _ ?_))
      clear hK K
      replace hA44 : Hp w0 ([row b42 23 (dc (nbr (min (max width 1) 32) k t.items h))] :: [row b29 23 (dc (nbr (min (max width 1) 32) k t.items h))] :: [row b12 28 (Prf.cells ⟨(prvP (min (max width 1) 32) t.items k h).pr, (prvP (min (max width 1) 32) t.items k h).ct, (prvP (min (max width 1) 32) t.items k h).ch, (prvP (min (max width 1) 32) t.items k h).bs.set (h / 8) (UInt8.ofNat ((bAt (prvP (min (max width 1) 32) t.items k h).bs (h / 8)).toNat + 2 ^ (h % 8))), (prvP (min (max width 1) 32) t.items k h).ss⟩ sv)] :: XS :: [row b7 28 (prf0.cells (.slice none 0 0))] :: XB :: SX :: R) w43 := hA44
      refine vc_op rfl (fun K hK => hs_append hF rfl (by decide) rfl hA44 3 rfl hS Tryd.underlying26 t7_elem rfl rfl (Rc.srcC (W := dc (nbr (min (max width 1) 32) k t.items h)) (m := 1) (size := 32) (R := [row b42 23 (dc (nbr (min (max width 1) 32) k t.items h))] :: [row b29 23 (dc (nbr (min (max width 1) 32) k t.items h))] :: [row b12 28 (Prf.cells ⟨(prvP (min (max width 1) 32) t.items k h).pr, (prvP (min (max width 1) 32) t.items k h).ct, (prvP (min (max width 1) 32) t.items k h).ch, (prvP (min (max width 1) 32) t.items k h).bs.set (h / 8) (UInt8.ofNat ((bAt (prvP (min (max width 1) 32) t.items k h).bs (h / 8)).toNat + 2 ^ (h % 8))), (prvP (min (max width 1) 32) t.items k h).ss⟩ sv)] :: XS :: [row b7 28 (prf0.cells (.slice none 0 0))] :: XB :: SX :: R) (Rc.ofRow (i := 0) (off := 0) rfl (by rw [List.drop_zero]; exact List.take_length ..)) hA44.q Tryd.underlying26 (by decide) (by rw [dc_length, (hnl h)]) (dc_one _)) (by have := hpk.few; omega) (by decide) (fun sv2 XS2 w45 a hS2 hF hA46 => hK _ _ ?_))
      clear hK K
      replace hA46 : Hp w0 ([row b42 23 (dc (nbr (min (max width 1) 32) k t.items h))] :: [row b29 23 (dc (nbr (min (max width 1) 32) k t.items h))] :: [row b12 28 (Prf.cells ⟨(prvP (min (max width 1) 32) t.items k h).pr, (prvP (min (max width 1) 32) t.items k h).ct, (prvP (min (max width 1) 32) t.items k h).ch, (prvP (min (max width 1) 32) t.items k h).bs.set (h / 8) (UInt8.ofNat ((bAt (prvP (min (max width 1) 32) t.items k h).bs (h / 8)).toNat + 2 ^ (h % 8))), (prvP (min (max width 1) 32) t.items k h).ss⟩ sv)] :: XS2 :: [row b7 28 (prf0.cells (.slice none 0 0))] :: XB :: SX :: R) w45 := hA46
      refine vc_y hF rfl rfl (by decide) _ (y_field rfl Tryd.underlying28 rfl sz26_s14 (by decide) rfl (rfl : (⟨_, 0 + _, none⟩ : Addr) = ⟨_, 66, none⟩)) (fun a hF => ?_)
      refine vc_op rfl (fun K hK => hs_store1 hF rfl rfl hA46 rfl rfl 2 rfl (by rw [Prf.c_len hpb]; decide) hS2.one sz26_s14 (fun w47 hA48 => hK _ _ ?_))
      clear hK K
      replace hA48 : Hp w0 ([row b42 23 (dc (nbr (min (max width 1) 32) k t.items h))] :: [row b29 23 (dc (nbr (min (max width 1) 32) k t.items h))] :: [row b12 28 ((Prf.cells ⟨(prvP (min (max width 1) 32) t.items k h).pr, (prvP (min (max width 1) 32) t.items k h).ct, (prvP (min (max width 1) 32) t.items k h).ch, (prvP (min (max width 1) 32) t.items k h).bs.set (h / 8) (UInt8.ofNat ((bAt (prvP (min (max width 1) 32) t.items k h).bs (h / 8)).toNat + 2 ^ (h % 8))), (prvP (min (max width 1) 32) t.items k h).ss⟩ sv).set 66 sv2)] :: XS2 :: [row b7 28 (prf0.cells (.slice none 0 0))] :: XB :: SX :: R) w47 := hA48
      have hA49 : Hp w0 ([row b42 23 (dc (nbr (min (max width 1) 32) k t.items h))] :: [row b29 23 (dc (nbr (min (max width 1) 32) k t.items h))] :: [row b12 28 ((prvP (min (max width 1) 32) t.items k (h + 1)).cells sv2)] :: XS2 :: [row b7 28 (prf0.cells (.slice none 0 0))] :: XB :: SX :: R) w47 := by
        rw [← show (Prf.cells ⟨(prvP (min (max width 1) 32) t.items k h).pr, (prvP (min (max width 1) 32) t.items k h).ct, (prvP (min (max width 1) 32) t.items k h).ch, (prvP (min (max width 1) 32) t.items k h).bs.set (h / 8) (UInt8.ofNat ((bAt (prvP (min (max width 1) 32) t.items k h).bs (h / 8)).toNat + 2 ^ (h % 8))), (prvP (min (max width 1) 32) t.items k h).ss⟩ sv).set 66 sv2 = (prvP (min (max width 1) 32) t.items k (h + 1)).cells sv2 from ((Prf.c_set hpb sv2).trans (by rw [prv_next heq]; rfl))]
        exact hA48
      rw [← digV_snoc, ← prv_sums heq, show (prvP (min (max width 1) 32) t.items k h).ss.length + 1 = (prvP (min (max width 1) 32) t.items k (h + 1)).ss.length by rw [prv_sums heq, List.length_append]; rfl] at hS2
      refine vc_nil ?_
      refine hK9 _ _ ?_; clear  hK9 K9
      refine wp_region_lit ?_
      refine vc_y hF rfl rfl (by decide) _ (y_add rfl rfl rfl (IntWalk.i64_in _ (by omega))) (fun a hF => ?_)
      refine vc_y hF rfl rfl (by decide) _ (y_move rfl rfl) (fun a hF => ?_)
      refine vc_nil ?_
      have hA50 : Hp w0 ([row b12 28 ((prvP (min (max width 1) 32) t.items k (h + 1)).cells sv2)] :: XS2 :: [row b7 28 (prf0.cells (.slice none 0 0))] :: XB :: SX :: R) w47 := Hp.sel [[row b42 23 (dc (nbr (min (max width 1) 32) k t.items h))], [row b29 23 (dc (nbr (min (max width 1) 32) k t.items h))], [row b12 28 ((prvP (min (max width 1) 32) t.items k (h + 1)).cells sv2)], XS2, [row b7 28 (prf0.cells (.slice none 0 0))], XB, SX] R [2, 3, 4, 5, 6] [0, 1] hA49 rfl
      exact ⟨h + 1, by omega, _, _, by omega, hS2, hF.keep [28, 7, 8, 6, 26, 27] rfl, hA50⟩
  · refine vc_falseB hF rfl (lss_f (by omega)) ?_
    obtain rfl : h = 256 := by omega
    apply wp_exit
    refine hK5 _ _ ?_; clear hK8 K8 hK5 K5
    apply wp_seq_k; intro K13 hK13
    refine wp_region_lit ?_
    refine vc_y hF rfl rfl (by decide) _ (y_ldRow rfl hA27.q rfl 0 rfl rw28_s14 (by rw [Prf.c_len hpk]; decide) (Prf.c_all hpk)) (fun a hF => ?_)
    refine vc_op rfl (fun K hK => hs_storeAll (new := (prvP (min (max width 1) 32) t.items k 256).cells sv) hF rfl rfl hA27 rfl rfl 2 rfl (by rw [Prf.c_len hpk, Prf.c_len prf0_ok]) (Prf.c_one hS.one) (by rw [Prf.c_len prf0_ok]; exact sz28_s14) (fun w51 hA52 => hK _ _ ?_))
    clear hK K
    replace hA52 : Hp w0 ([row b12 28 ((prvP (min (max width 1) 32) t.items k 256).cells sv)] :: XS :: [row b7 28 ((prvP (min (max width 1) 32) t.items k 256).cells sv)] :: XB :: SX :: R) w51 := hA52
    refine vc_nil ?_
    refine hK13 _ _ ?_; clear  hK13 K13
    apply wp_ret
    refine vc_retR hF Tryd.results40 hA52.q rfl 2 rfl (by rw [Prf.c_len hpk]; exact rw28_s14) ?_
    have hA53 : Hp w0 (XS :: R) w51 := Hp.sel [[row b12 28 ((prvP (min (max width 1) 32) t.items k 256).cells sv)], XS, [row b7 28 ((prvP (min (max width 1) 32) t.items k 256).cells sv)], XB, SX] R [1] [0, 2, 3, 4] hA52 rfl
    rw [prvP_clamp] at hS ⊢
    exact ⟨sv, XS, rfl, hS, hA53⟩

theorem rt_prove (w0 w : World) (R G : List Seg) (hG : G ⊆ R) (L : List Itm) (top sl : Value) (h : TV w0 G L top sl) (width : Int) (k : List UInt8) (hk : k.length = 32) (hT : Tab w0) (hA : Hp w0 R w) : Calls Tryd.prog 40 #[.agg ([top, sl] : List Value).toArray, .int .i64 width, .agg (dc k).toArray] w fun e w' => ∃ sv X, e = .returned (.agg ((prvP width L k 256).cells sv).toArray) ∧ Buf 23 32 X sv (prvP width L k 256).ss.length (digV (prvP width L k 256).ss) ∧ Hp w0 (X :: R) w' := by
  rcases h with ⟨rfl, rfl, rfl⟩ | ⟨t, g, ad, c, rfl, hg, rfl, rfl, hTr, hRc, hcb⟩
  · exact rt_proveN w0 w R G hG width k hk hT hA
  · exact rt_proveS w0 w R G hG t hg g hTr ad c hcb hRc width k hk hT hA

/-- what Build holds: the items so far, the top, its rows -/
def BSt (acc : List Itm) (top : Value) (Y : Seg) : Prop := (acc = [] ∧ top = .pointer none ∧ Y = []) ∨ ∃ t g, t.items = acc ∧ t.Good ∧ top = ptr g ∧ TrO false t g Y
theorem BSt.nil : BSt [] (.pointer none) [] := .inl ⟨rfl, rfl, rfl⟩

set_option maxRecDepth 100000 in
set_option maxHeartbeats 2000000 in
theorem rt_build (w0 w : World) (R G : List Seg) (hG : G ⊆ R) (G0 : List Seg) (A : Option Addr) (l : List Itm) (c : Nat) (hlc : l.length ≤ c) (hcm : l.length ≤ 100000) (hI : ∀ i ∈ l, i.OK) (hL : Rc w0 G A (cel Itm.cells l)) (hT : Tab w0) (hA : Hp w0 R w) : Calls Tryd.prog 30 #[.slice A l.length c] w fun e w' => ∃ top sl X, e = .returned (.tuple #[.agg ([top, sl] : List Value).toArray, .int .i64 (((bldS [] l).1 : Nat) : Int)]) ∧ TV w0 (X :: G0) (bldS [] l).2 top sl ∧ Hp w0 (X :: R) w' := by
  refine vc_enter Tryd.func30 rfl Tryd.ntmps30 (Nat.le_of_ble_eq_true rfl) (fun a hF => ?_)
  apply wp_seq_k; intro K1 hK1
  refine wp_region_lit ?_
  refine vc_op rfl (fun K hK => hs_alloc hF rfl (by decide) rfl hA (zr45_s14) (fun b1 w2 a hb1 hF hA3 => hK _ _ ?_))
  clear hK K
  replace hA3 : Hp w0 ([row b1 45 [.pointer none, .slice none 0 0]] :: R) w2 := hA3
  refine vc_y hF rfl rfl (by decide) _ (y_assign rfl rfl) (fun a hF => ?_)
  refine vc_nil ?_
  refine hK1 _ _ ?_; clear  hK1 K1
  apply wp_seq_k; intro K2 hK2
  refine wp_region_lit ?_
  refine vc_op rfl (fun K hK => hs_alloc hF rfl (by decide) rfl hA3 (zr45_s14) (fun b4 w5 a hb4 hF hA6 => hK _ _ ?_))
  clear hK K
  replace hA6 : Hp w0 ([row b4 45 [.pointer none, .slice none 0 0]] :: [row b1 45 [.pointer none, .slice none 0 0]] :: R) w5 := hA6
  refine vc_nil ?_
  refine hK2 _ _ ?_; clear  hK2 K2
  apply wp_seq_k; intro K3 hK3
  apply wp_seq_k; intro K4 hK4
  refine wp_region_lit ?_
  refine vc_y hF rfl rfl (by decide) _ (y_move rfl rfl) (fun a hF => ?_)
  refine vc_y hF rfl rfl (by decide) _ (y_lenSl rfl Tryd.underlying55 rfl rfl) (fun a hF => ?_)
  refine vc_y hF rfl rfl (by decide) _ (y_move rfl rfl) (fun a hF => ?_)
  refine vc_nil ?_
  refine hK4 _ _ ?_; clear  hK4 K4
  apply wp_block
  have hA7 : Hp w0 ([row b4 45 [.pointer none, .slice none 0 0]] :: [] :: [row b1 45 [.pointer none, .slice none 0 0]] :: R) w5 := hA6
  refine vc_loop (G := Nat) (fun n a x => ∃ (acc : List Itm) (top : Value) (Y : Seg), n ≤ l.length ∧ bldS [] l = bldS acc (l.drop n) ∧ acc.length ≤ n ∧ BSt acc top Y ∧ Fr 49 [(10, .int .i64 (n : Int)), (8, .slice A l.length c), (9, .int .i64 l.length), (2, .pointer (some ⟨b1, 0, none⟩)), (4, .pointer (some ⟨b4, 0, none⟩))] a ∧ Hp w0 ([row b4 45 [top, .slice none 0 0]] :: Y :: [row b1 45 [.pointer none, .slice none 0 0]] :: R) x) (fun n => l.length - n) 0 (⟨_, _, _, Nat.zero_le _, (by rw [List.drop_zero]), Nat.le_refl _, BSt.nil, hF.keep [10, 8, 9, 2, 4] rfl, hA7⟩) ?_
  clear hF
  rintro n a w9 ⟨acc, top, Y, hn, hbl, hal, hB, hF, hA8⟩
  apply wp_seq_k; intro K5 hK5
  refine wp_region_lit ?_
  refine vc_y hF rfl rfl (by decide) _ (y_cmp rfl rfl rfl rfl rfl) (fun a hF => ?_)
  refine vc_nil ?_
  refine hK5 _ _ ?_; clear  hK5 K5
  apply wp_seq_k; intro K6 hK6
  by_cases hlt : n < l.length
  · refine vc_trueB hF rfl (lss_t (by omega)) ?_
    obtain ⟨i, hi⟩ : ∃ i, l[n]? = some i := ⟨_, List.getElem?_eq_getElem hlt⟩
    have hiK := hI i (List.mem_of_getElem? hi)
    have hrb := (rs_at hI hi).2
    obtain ⟨b, q, hA2, hc⟩ := hL.ne (i := n * 65) (by omega)
    have hdr : l.drop n = i :: l.drop (n + 1) := by rw [List.drop_eq_getElem_cons hlt]; congr 1; exact Option.some.inj ((List.getElem?_eq_getElem hlt).symm.trans hi)
    have hil : i.cells.length = 65 := Itm.len hiK
    have hdk : (dc i.k).length = 32 := by rw [dc_length, hiK.k]
    have hde : (Value.int .i64 i.ct :: dc i.ch).length = 33 := by rw [List.length_cons, dc_length, hiK.ch]
    apply wp_skip
    refine hK6 _ _ ?_; clear  hK6 K6
    apply wp_seq_k; intro K7 hK7
    apply wp_block
    apply wp_seq_k; intro K8 hK8
    refine wp_region_lit ?_
    refine vc_y hF rfl rfl (by decide) _ (y_ixSl rfl Tryd.underlying55 sz54_s14 (by exact congrArg (fun A => some (Value.slice A l.length c)) hA2) rfl n rfl hlt rfl) (fun a hF => ?_)
    refine vc_y hF rfl rfl (by decide) _ (y_ldRowC rfl (Hq.sub hA8.q (List.Subset.trans hG (subC (subC (subC (sub0)))))) rfl hc (n * 65) (rs_at hI hi).2 rfl (rs_at hI hi).1 rw54_s14) (fun a hF => ?_)
    refine vc_op rfl (fun K hK => hs_alloc hF rfl (by decide) rfl hA8 (zr54_s14) (fun b10 w11 a hb10 hF hA12 => hK _ _ ?_))
    clear hK K
    replace hA12 : Hp w0 ([row b10 54 [.int .u8 0, .int .u8 0, .int .u8 0, .int .u8 0, .int .u8 0, .int .u8 0, .int .u8 0, .int .u8 0, .int .u8 0, .int .u8 0, .int .u8 0, .int .u8 0, .int .u8 0, .int .u8 0, .int .u8 0, .int .u8 0, .int .u8 0, .int .u8 0, .int .u8 0, .int .u8 0, .int .u8 0, .int .u8 0, .int .u8 0, .int .u8 0, .int .u8 0, .int .u8 0, .int .u8 0, .int .u8 0, .int .u8 0, .int .u8 0, .int .u8 0, .int .u8 0, .int .i64 0, .int .u8 0, .int .u8 0, .int .u8 0, .int .u8 0, .int .u8 0, .int .u8 0, .int .u8 0, .int .u8 0, .int .u8 0, .int .u8 0, .int .u8 0, .int .u8 0, .int .u8 0, .int .u8 0, .int .u8 0, .int .u8 0, .int .u8 0, .int .u8 0, .int .u8 0, .int .u8 0, .int .u8 0, .int .u8 0, .int .u8 0, .int .u8 0, .int .u8 0, .int .u8 0, .int .u8 0, .int .u8 0, .int .u8 0, .int .u8 0, .int .u8 0, .int .u8 0]] :: [row b4 45 [top, .slice none 0 0]] :: Y :: [row b1 45 [.pointer none, .slice none 0 0]] :: R) w11 := hA12
    refine vc_op rfl (fun K hK => hs_storeAll (new := i.cells) hF rfl rfl hA12 rfl rfl 0 rfl (by rw [hil]; rfl) (Itm.one i) sz54_s14 (fun w13 hA14 => hK _ _ ?_))
    clear hK K
    replace hA14 : Hp w0 ([row b10 54 i.cells] :: [row b4 45 [top, .slice none 0 0]] :: Y :: [row b1 45 [.pointer none, .slice none 0 0]] :: R) w13 := hA14
    refine vc_nil ?_
    refine hK8 _ _ ?_; clear  hK8 K8
    apply wp_seq_k; intro K9 hK9
    apply wp_seq_k; intro K10 hK10
    by_cases hct : 1 ≤ i.ct ∧ i.ct ≤ 1099511627776
    · refine wp_region_lit ?_
      refine vc_y hF rfl rfl (by decide) _ (y_field rfl Tryd.underlying54 rfl sz25_s14 (by decide) rfl (rfl : (⟨_, 0 + _, none⟩ : Addr) = ⟨_, 32, none⟩)) (fun a hF => ?_)
      refine vc_y hF rfl rfl (by decide) _ (y_ldRow rfl hA14.q rfl 0 rfl rw25_s14 (by rw [hil]; decide) (by exact Itm.c_ent hiK)) (fun a hF => ?_)
      refine vc_op rfl (fun K hK => ws_call hF rfl (by decide) cl56_s14 rfl rfl ?_)
      with_reducible refine (sp_counted w0 _ ([row b10 54 i.cells] :: [row b4 45 [top, .slice none 0 0]] :: Y :: [row b1 45 [.pointer none, .slice none 0 0]] :: R) i.ct i.ch hA14 ).mono ?_
      rintro e' w15 ⟨rfl, hA16⟩
      refine ⟨_, rfl, fun a hF => hK _ _ ?_⟩
      clear hK K
      replace hA16 : Hp w0 ([row b10 54 i.cells] :: [row b4 45 [top, .slice none 0 0]] :: Y :: [row b1 45 [.pointer none, .slice none 0 0]] :: R) w15 := hA16
      rw [decide_eq_true hct] at hF
      refine vc_y hF rfl rfl (by decide) _ (y_not rfl rfl rfl) (fun a hF => ?_)
      refine vc_nil ?_
      refine hK10 _ _ ?_; clear  hK10 K10
      refine vc_false hF rfl ?_
      have hok : okC i = true := decide_eq_true hct
      have hFn := hF
      rcases hB with ⟨rfl, rfl, rfl⟩ | ⟨t, g, rfl, hg, rfl, hTO⟩
      · have hF := hFn
        apply wp_skip
        refine hK9 _ _ ?_; clear  hK9 K9
        apply wp_seq_k; intro K11 hK11
        apply wp_seq_k; intro K12 hK12
        refine wp_region_lit ?_
        refine vc_y hF rfl rfl (by decide) _ (y_field rfl Tryd.underlying45 rfl sz43_s14 (by decide) rfl (rfl : (⟨_, 0 + _, none⟩ : Addr) = ⟨_, 0, none⟩)) (fun a hF => ?_)
        refine vc_y hF rfl rfl (by decide) _ (y_ld rfl hA16.q rfl 1 rfl rfl nr43_s14) (fun a hF => ?_)
        refine vc_y hF rfl rfl (by decide) _ (y_field rfl Tryd.underlying54 rfl sz23_s14 (by decide) rfl (rfl : (⟨_, 0 + _, none⟩ : Addr) = ⟨_, 0, none⟩)) (fun a hF => ?_)
        refine vc_y hF rfl rfl (by decide) _ (y_ldRow rfl hA16.q rfl 0 rfl rw23_s14 (by rw [hil]; decide) (show List.take 32 (List.drop 0 i.cells) = dc i.k from Itm.c_key hiK)) (fun a hF => ?_)
        refine vc_op rfl (fun K hK => ws_call hF rfl (by decide) cl64_s14 rfl rfl ?_)
        with_reducible refine (rt_find0 w0 _ ([row b10 54 i.cells] :: [row b4 45 [.pointer none, .slice none 0 0]] :: ([] : Seg) :: [row b1 45 [.pointer none, .slice none 0 0]] :: R) i.k hA16 ).mono ?_
        rintro e' w17 ⟨rfl, hA18⟩
        refine ⟨_, rfl, fun a hF => hK _ _ ?_⟩
        clear hK K
        replace hA18 : Hp w0 ([row b10 54 i.cells] :: [row b4 45 [.pointer none, .slice none 0 0]] :: ([] : Seg) :: [row b1 45 [.pointer none, .slice none 0 0]] :: R) w17 := hA18
        refine vc_y hF rfl rfl (by decide) _ (y_neNilT rfl (by kernel_rfl) rfl rfl) (fun a hF => ?_)
        refine vc_nil ?_
        refine hK12 _ _ ?_; clear  hK12 K12
        refine vc_false hF rfl ?_
        apply wp_skip
        refine hK11 _ _ ?_; clear  hK11 K11
        refine wp_region_lit ?_
        refine vc_y hF rfl rfl (by decide) _ (y_field rfl Tryd.underlying45 rfl sz43_s14 (by decide) rfl (rfl : (⟨_, 0 + _, none⟩ : Addr) = ⟨_, 0, none⟩)) (fun a hF => ?_)
        refine vc_y hF rfl rfl (by decide) _ (y_ld rfl hA18.q rfl 1 rfl rfl nr43_s14) (fun a hF => ?_)
        refine vc_y hF rfl rfl (by decide) _ (y_field rfl Tryd.underlying54 rfl sz23_s14 (by decide) rfl (rfl : (⟨_, 0 + _, none⟩ : Addr) = ⟨_, 0, none⟩)) (fun a hF => ?_)
        refine vc_y hF rfl rfl (by decide) _ (y_ldRow rfl hA18.q rfl 0 rfl rw23_s14 (by rw [hil]; decide) (show List.take 32 (List.drop 0 i.cells) = dc i.k from Itm.c_key hiK)) (fun a hF => ?_)
        refine vc_y hF rfl rfl (by decide) _ (y_field rfl Tryd.underlying54 rfl sz25_s14 (by decide) rfl (rfl : (⟨_, 0 + _, none⟩ : Addr) = ⟨_, 32, none⟩)) (fun a hF => ?_)
        refine vc_y hF rfl rfl (by decide) _ (y_ldRow rfl hA18.q rfl 0 rfl rw25_s14 (by rw [hil]; decide) (by exact Itm.c_ent hiK)) (fun a hF => ?_)
        refine vc_op rfl (fun K hK => ws_call hF rfl (by decide) cl57_s14 rfl rfl ?_)
        with_reducible refine (rx_put0 w0 _ ([row b10 54 i.cells] :: [row b4 45 [.pointer none, .slice none 0 0]] :: ([] : Seg) :: [row b1 45 [.pointer none, .slice none 0 0]] :: R) i hiK _ hA18 ).mono ?_
        rintro e' w19 ⟨g2, rfl, hA20⟩
        refine ⟨_, rfl, fun a hF => hK _ _ ?_⟩
        clear hK K
        replace hA20 : Hp w0 ([row g2 107 (leafC i)] :: [row b10 54 i.cells] :: [row b4 45 [.pointer none, .slice none 0 0]] :: ([] : Seg) :: [row b1 45 [.pointer none, .slice none 0 0]] :: R) w19 := hA20
        refine vc_y hF rfl rfl (by decide) _ (y_field rfl Tryd.underlying45 rfl sz43_s14 (by decide) rfl (rfl : (⟨_, 0 + _, none⟩ : Addr) = ⟨_, 0, none⟩)) (fun a hF => ?_)
        refine vc_op rfl (fun K hK => hs_store1 hF rfl rfl hA20 rfl rfl 2 rfl (by simp) rfl sz43_s14 (fun w21 hA22 => hK _ _ ?_))
        clear hK K
        replace hA22 : Hp w0 ([row g2 107 (leafC i)] :: [row b10 54 i.cells] :: [row b4 45 [.pointer (some ⟨g2, 0, none⟩), .slice none 0 0]] :: ([] : Seg) :: [row b1 45 [.pointer none, .slice none 0 0]] :: R) w21 := hA22
        refine vc_nil ?_
        refine hK7 _ _ ?_; clear  hK7 K7
        refine wp_region_lit ?_
        refine vc_y hF rfl rfl (by decide) _ (y_add rfl rfl rfl (IntWalk.i64_in _ (by omega))) (fun a hF => ?_)
        refine vc_y hF rfl rfl (by decide) _ (y_move rfl rfl) (fun a hF => ?_)
        refine vc_nil ?_
        have hA23 : Hp w0 ([row b4 45 [.pointer (some ⟨g2, 0, none⟩), .slice none 0 0]] :: [row g2 107 (leafC i)] :: [row b1 45 [.pointer none, .slice none 0 0]] :: R) w21 := Hp.sel [[row g2 107 (leafC i)], [row b10 54 i.cells], [row b4 45 [.pointer (some ⟨g2, 0, none⟩), .slice none 0 0]], ([] : Seg), [row b1 45 [.pointer none, .slice none 0 0]]] R [2, 0, 4] [1, 3] hA22 rfl
        exact ⟨n + 1, by omega, insL i [], _, [row g2 107 (leafC i)], by omega, (by rw [hbl, hdr]; show (if okC i = true then (if hasK [] i.k = true then _ else _) else _) = _; rw [if_pos hok]; rfl), (by show 1 ≤ n + 1; omega), .inr ⟨.leaf i, g2, rfl, hiK, rfl, rfl⟩, hF.keep [10, 8, 9, 2, 4] rfl, hA23⟩
      · have hF := hFn
        have hTrY : Tr w0 [Y] false t g := hTO.tr (List.mem_singleton.2 rfl)
        by_cases hf : t.find i.k = none
        · apply wp_skip
          refine hK9 _ _ ?_; clear  hK9 K9
          apply wp_seq_k; intro K13 hK13
          apply wp_seq_k; intro K14 hK14
          refine wp_region_lit ?_
          refine vc_y hF rfl rfl (by decide) _ (y_field rfl Tryd.underlying45 rfl sz43_s14 (by decide) rfl (rfl : (⟨_, 0 + _, none⟩ : Addr) = ⟨_, 0, none⟩)) (fun a hF => ?_)
          refine vc_y hF rfl rfl (by decide) _ (y_ld rfl hA16.q rfl 1 rfl rfl nr43_s14) (fun a hF => ?_)
          refine vc_y hF rfl rfl (by decide) _ (y_field rfl Tryd.underlying54 rfl sz23_s14 (by decide) rfl (rfl : (⟨_, 0 + _, none⟩ : Addr) = ⟨_, 0, none⟩)) (fun a hF => ?_)
          refine vc_y hF rfl rfl (by decide) _ (y_ldRow rfl hA16.q rfl 0 rfl rw23_s14 (by rw [hil]; decide) (show List.take 32 (List.drop 0 i.cells) = dc i.k from Itm.c_key hiK)) (fun a hF => ?_)
          refine vc_op rfl (fun K hK => ws_call hF rfl (by decide) cl64_s14 rfl rfl ?_)
          with_reducible refine (rt_find_no w0 _ ([row b10 54 i.cells] :: [row b4 45 [.pointer (some ⟨g, 0, none⟩), .slice none 0 0]] :: Y :: [row b1 45 [.pointer none, .slice none 0 0]] :: R) [Y] (sub1 (List.mem_cons_of_mem _ (List.mem_cons_of_mem _ ((List.mem_cons_self ..))))) t hg g false i.k hiK.k hTrY hf hA16 ).mono ?_
          rintro e' w24 ⟨rfl, hA25⟩
          refine ⟨_, rfl, fun a hF => hK _ _ ?_⟩
          clear hK K
          replace hA25 : Hp w0 ([row b10 54 i.cells] :: [row b4 45 [.pointer (some ⟨g, 0, none⟩), .slice none 0 0]] :: Y :: [row b1 45 [.pointer none, .slice none 0 0]] :: R) w24 := hA25
          refine vc_y hF rfl rfl (by decide) _ (y_neNilT rfl (by kernel_rfl) rfl rfl) (fun a hF => ?_)
          refine vc_nil ?_
          refine hK14 _ _ ?_; clear  hK14 K14
          refine vc_false hF rfl ?_
          apply wp_skip
          refine hK13 _ _ ?_; clear  hK13 K13
          refine wp_region_lit ?_
          refine vc_y hF rfl rfl (by decide) _ (y_field rfl Tryd.underlying45 rfl sz43_s14 (by decide) rfl (rfl : (⟨_, 0 + _, none⟩ : Addr) = ⟨_, 0, none⟩)) (fun a hF => ?_)
          refine vc_y hF rfl rfl (by decide) _ (y_ld rfl hA25.q rfl 1 rfl rfl nr43_s14) (fun a hF => ?_)
          refine vc_y hF rfl rfl (by decide) _ (y_field rfl Tryd.underlying54 rfl sz23_s14 (by decide) rfl (rfl : (⟨_, 0 + _, none⟩ : Addr) = ⟨_, 0, none⟩)) (fun a hF => ?_)
          refine vc_y hF rfl rfl (by decide) _ (y_ldRow rfl hA25.q rfl 0 rfl rw23_s14 (by rw [hil]; decide) (show List.take 32 (List.drop 0 i.cells) = dc i.k from Itm.c_key hiK)) (fun a hF => ?_)
          refine vc_y hF rfl rfl (by decide) _ (y_field rfl Tryd.underlying54 rfl sz25_s14 (by decide) rfl (rfl : (⟨_, 0 + _, none⟩ : Addr) = ⟨_, 32, none⟩)) (fun a hF => ?_)
          refine vc_y hF rfl rfl (by decide) _ (y_ldRow rfl hA25.q rfl 0 rfl rw25_s14 (by rw [hil]; decide) (by exact Itm.c_ent hiK)) (fun a hF => ?_)
          have hA26 : Hp w0 (Y :: [row b10 54 i.cells] :: [row b4 45 [.pointer (some ⟨g, 0, none⟩), .slice none 0 0]] :: [row b1 45 [.pointer none, .slice none 0 0]] :: R) w24 := Hp.ord [[row b10 54 i.cells], [row b4 45 [.pointer (some ⟨g, 0, none⟩), .slice none 0 0]], Y, [row b1 45 [.pointer none, .slice none 0 0]]] R [2, 0, 1, 3] hA25 rfl
          refine vc_op rfl (fun K hK => ws_call hF rfl (by decide) cl57_s14 rfl rfl ?_)
          with_reducible refine (rt_putN w0 i hiK t hg (by rw [t.size_eq]; omega) _ ([row b10 54 i.cells] :: [row b4 45 [.pointer (some ⟨g, 0, none⟩), .slice none 0 0]] :: [row b1 45 [.pointer none, .slice none 0 0]] :: R) Y g hTO hA26 ).mono ?_
          rintro e' w27 ⟨g2, Y2, rfl, h2, hA28⟩
          refine ⟨_, rfl, fun a hF => hK _ _ ?_⟩
          clear hK K
          replace hA28 : Hp w0 (Y2 :: [row b10 54 i.cells] :: [row b4 45 [.pointer (some ⟨g, 0, none⟩), .slice none 0 0]] :: [row b1 45 [.pointer none, .slice none 0 0]] :: R) w27 := hA28
          refine vc_y hF rfl rfl (by decide) _ (y_field rfl Tryd.underlying45 rfl sz43_s14 (by decide) rfl (rfl : (⟨_, 0 + _, none⟩ : Addr) = ⟨_, 0, none⟩)) (fun a hF => ?_)
          refine vc_op rfl (fun K hK => hs_store1 hF rfl rfl hA28 rfl rfl 2 rfl (by simp) rfl sz43_s14 (fun w29 hA30 => hK _ _ ?_))
          clear hK K
          replace hA30 : Hp w0 (Y2 :: [row b10 54 i.cells] :: [row b4 45 [.pointer (some ⟨g2, 0, none⟩), .slice none 0 0]] :: [row b1 45 [.pointer none, .slice none 0 0]] :: R) w29 := hA30
          refine vc_nil ?_
          refine hK7 _ _ ?_; clear  hK7 K7
          refine wp_region_lit ?_
          refine vc_y hF rfl rfl (by decide) _ (y_add rfl rfl rfl (IntWalk.i64_in _ (by omega))) (fun a hF => ?_)
          refine vc_y hF rfl rfl (by decide) _ (y_move rfl rfl) (fun a hF => ?_)
          refine vc_nil ?_
          have hle := insL_len (i := i) t.items
          have hA31 : Hp w0 ([row b4 45 [.pointer (some ⟨g2, 0, none⟩), .slice none 0 0]] :: Y2 :: [row b1 45 [.pointer none, .slice none 0 0]] :: R) w29 := Hp.sel [Y2, [row b10 54 i.cells], [row b4 45 [.pointer (some ⟨g2, 0, none⟩), .slice none 0 0]], [row b1 45 [.pointer none, .slice none 0 0]]] R [2, 0, 3] [1] hA30 rfl
          exact ⟨n + 1, by omega, insL i t.items, _, Y2, by omega, (by rw [hbl, hdr]; show (if okC i = true then (if hasK t.items i.k = true then _ else _) else _) = _; rw [if_pos hok, if_neg (by rw [← getL_has, Rx.getL_eq hg, hf]; exact Bool.false_ne_true)]), by omega, .inr ⟨t.ins i, g2, (Rx.ins_good hiK hg).2.1, (Rx.ins_good hiK hg).1, rfl, h2⟩, hF.keep [10, 8, 9, 2, 4] rfl, hA31⟩
        · obtain ⟨j, hf⟩ := Option.ne_none_iff_exists'.1 hf
          apply wp_skip
          refine hK9 _ _ ?_; clear  hK9 K9
          apply wp_seq_k; intro K15 hK15
          apply wp_seq_k; intro K16 hK16
          refine wp_region_lit ?_
          refine vc_y hF rfl rfl (by decide) _ (y_field rfl Tryd.underlying45 rfl sz43_s14 (by decide) rfl (rfl : (⟨_, 0 + _, none⟩ : Addr) = ⟨_, 0, none⟩)) (fun a hF => ?_)
          refine vc_y hF rfl rfl (by decide) _ (y_ld rfl hA16.q rfl 1 rfl rfl nr43_s14) (fun a hF => ?_)
          refine vc_y hF rfl rfl (by decide) _ (y_field rfl Tryd.underlying54 rfl sz23_s14 (by decide) rfl (rfl : (⟨_, 0 + _, none⟩ : Addr) = ⟨_, 0, none⟩)) (fun a hF => ?_)
          refine vc_y hF rfl rfl (by decide) _ (y_ldRow rfl hA16.q rfl 0 rfl rw23_s14 (by rw [hil]; decide) (show List.take 32 (List.drop 0 i.cells) = dc i.k from Itm.c_key hiK)) (fun a hF => ?_)
          refine vc_op rfl (fun K hK => ws_call hF rfl (by decide) cl64_s14 rfl rfl ?_)
          with_reducible refine (rt_find_yes w0 _ ([row b10 54 i.cells] :: [row b4 45 [.pointer (some ⟨g, 0, none⟩), .slice none 0 0]] :: Y :: [row b1 45 [.pointer none, .slice none 0 0]] :: R) [Y] (sub1 (List.mem_cons_of_mem _ (List.mem_cons_of_mem _ ((List.mem_cons_self ..))))) t hg g false i.k hiK.k hTrY j hf hA16 ).mono ?_
          rintro e' w32 ⟨gf, rfl, _, hA33⟩
          refine ⟨_, rfl, fun a hF => hK _ _ ?_⟩
          clear hK K
          replace hA33 : Hp w0 ([row b10 54 i.cells] :: [row b4 45 [.pointer (some ⟨g, 0, none⟩), .slice none 0 0]] :: Y :: [row b1 45 [.pointer none, .slice none 0 0]] :: R) w32 := hA33
          refine vc_y hF rfl rfl (by decide) _ (y_neNil rfl (by kernel_rfl) rfl rfl) (fun a hF => ?_)
          refine vc_nil ?_
          refine hK16 _ _ ?_; clear  hK16 K16
          refine vc_true hF rfl ?_
          apply wp_seq_k; intro K17 hK17
          refine wp_region_lit ?_
          refine vc_y hF rfl rfl (by decide) _ (y_build (qs := #[]) rfl rfl rt_tree0) (fun a hF => ?_)
          refine vc_op rfl (fun K hK => hs_storeAll (new := [.pointer none, .slice none 0 0]) hF rfl rfl hA33 rfl rfl 3 rfl rfl (by simp [Value.oneCell']) sz45_s14 (fun w34 hA35 => hK _ _ ?_))
          clear hK K
          replace hA35 : Hp w0 ([row b10 54 i.cells] :: [row b4 45 [.pointer (some ⟨g, 0, none⟩), .slice none 0 0]] :: Y :: [row b1 45 [.pointer none, .slice none 0 0]] :: R) w34 := hA35
          refine vc_y hF rfl rfl (by decide) _ (y_assign rfl rfl) (fun a hF => ?_)
          refine vc_nil ?_
          refine hK17 _ _ ?_; clear  hK17 K17
          apply wp_ret
          simp only [Exit.then, Exit.inBlock]
          refine vc_retCT hF Tryd.results30 hA35.q rfl rfl 3 rfl rw45_s14 ?_
          have hA36 : Hp w0 (Y :: R) w34 := Hp.sel [[row b10 54 i.cells], [row b4 45 [.pointer (some ⟨g, 0, none⟩), .slice none 0 0]], Y, [row b1 45 [.pointer none, .slice none 0 0]]] R [2] [0, 1, 3] hA35 rfl
          have hre : bldS [] l = (92, []) := by rw [hbl, hdr]; unfold bldS; rw [if_pos hok, if_pos (by rw [← getL_has, Rx.getL_eq hg, hf]; rfl)]
          rw [hre]
          exact ⟨_, _, Y, rfl, .inl ⟨rfl, rfl, rfl⟩, hA36⟩
    · refine wp_region_lit ?_
      refine vc_y hF rfl rfl (by decide) _ (y_field rfl Tryd.underlying54 rfl sz25_s14 (by decide) rfl (rfl : (⟨_, 0 + _, none⟩ : Addr) = ⟨_, 32, none⟩)) (fun a hF => ?_)
      refine vc_y hF rfl rfl (by decide) _ (y_ldRow rfl hA14.q rfl 0 rfl rw25_s14 (by rw [hil]; decide) (by exact Itm.c_ent hiK)) (fun a hF => ?_)
      refine vc_op rfl (fun K hK => ws_call hF rfl (by decide) cl56_s14 rfl rfl ?_)
      with_reducible refine (sp_counted w0 _ ([row b10 54 i.cells] :: [row b4 45 [top, .slice none 0 0]] :: Y :: [row b1 45 [.pointer none, .slice none 0 0]] :: R) i.ct i.ch hA14 ).mono ?_
      rintro e' w37 ⟨rfl, hA38⟩
      refine ⟨_, rfl, fun a hF => hK _ _ ?_⟩
      clear hK K
      replace hA38 : Hp w0 ([row b10 54 i.cells] :: [row b4 45 [top, .slice none 0 0]] :: Y :: [row b1 45 [.pointer none, .slice none 0 0]] :: R) w37 := hA38
      rw [decide_eq_false hct] at hF
      refine vc_y hF rfl rfl (by decide) _ (y_not rfl rfl rfl) (fun a hF => ?_)
      refine vc_nil ?_
      refine hK10 _ _ ?_; clear  hK10 K10
      refine vc_true hF rfl ?_
      apply wp_seq_k; intro K18 hK18
      refine wp_region_lit ?_
      refine vc_y hF rfl rfl (by decide) _ (y_build (qs := #[]) rfl rfl rt_tree0) (fun a hF => ?_)
      refine vc_op rfl (fun K hK => hs_storeAll (new := [.pointer none, .slice none 0 0]) hF rfl rfl hA38 rfl rfl 3 rfl rfl (by simp [Value.oneCell']) sz45_s14 (fun w39 hA40 => hK _ _ ?_))
      clear hK K
      replace hA40 : Hp w0 ([row b10 54 i.cells] :: [row b4 45 [top, .slice none 0 0]] :: Y :: [row b1 45 [.pointer none, .slice none 0 0]] :: R) w39 := hA40
      refine vc_y hF rfl rfl (by decide) _ (y_assign rfl rfl) (fun a hF => ?_)
      refine vc_nil ?_
      refine hK18 _ _ ?_; clear  hK18 K18
      apply wp_ret
      simp only [Exit.then, Exit.inBlock]
      refine vc_retCT hF Tryd.results30 hA40.q rfl rfl 3 rfl rw45_s14 ?_
      have hA41 : Hp w0 (Y :: R) w39 := Hp.sel [[row b10 54 i.cells], [row b4 45 [top, .slice none 0 0]], Y, [row b1 45 [.pointer none, .slice none 0 0]]] R [2] [0, 1, 3] hA40 rfl
      have hre : bldS [] l = (8, []) := by rw [hbl, hdr]; unfold bldS; rw [if_neg (by unfold okC; rw [decide_eq_false hct]; exact Bool.false_ne_true)]
      rw [hre]
      exact ⟨_, _, Y, rfl, .inl ⟨rfl, rfl, rfl⟩, hA41⟩
  · refine vc_falseB hF rfl (lss_f (by omega)) ?_
    obtain rfl : n = l.length := by omega
    rw [List.drop_length] at hbl
    have hre : bldS [] l = (0, acc) := hbl
    have hFn := hF
    rcases hB with ⟨rfl, rfl, rfl⟩ | ⟨t, g, rfl, hg, rfl, hTO⟩
    · have hF := hFn
      apply wp_exit
      refine hK3 _ _ ?_; clear hK6 K6 hK3 K3
      apply wp_seq_k; intro K19 hK19
      apply wp_seq_k; intro K20 hK20
      refine wp_region_lit ?_
      refine vc_y hF rfl rfl (by decide) _ (y_field rfl Tryd.underlying45 rfl sz43_s14 (by decide) rfl (rfl : (⟨_, 0 + _, none⟩ : Addr) = ⟨_, 0, none⟩)) (fun a hF => ?_)
      refine vc_y hF rfl rfl (by decide) _ (y_ld rfl hA8.q rfl 0 rfl rfl nr43_s14) (fun a hF => ?_)
      refine vc_y hF rfl rfl (by decide) _ (y_neNilT rfl (by kernel_rfl) rfl rfl) (fun a hF => ?_)
      refine vc_nil ?_
      refine hK20 _ _ ?_; clear  hK20 K20
      refine vc_false hF rfl ?_
      apply wp_skip
      refine hK19 _ _ ?_; clear  hK19 K19
      apply wp_seq_k; intro K21 hK21
      refine wp_region_lit ?_
      refine vc_y hF rfl rfl (by decide) _ (y_ldRow (new := [.pointer none, .slice none 0 0]) rfl hA8.q rfl 0 rfl rw45_s14 (Nat.le_of_ble_eq_true rfl) rfl) (fun a hF => ?_)
      refine vc_op rfl (fun K hK => hs_storeAll (new := [.pointer none, .slice none 0 0]) hF rfl rfl hA8 rfl rfl 2 rfl rfl (by simp [Value.oneCell']) sz45_s14 (fun w42 hA43 => hK _ _ ?_))
      clear hK K
      replace hA43 : Hp w0 ([row b4 45 [.pointer none, .slice none 0 0]] :: ([] : Seg) :: [row b1 45 [.pointer none, .slice none 0 0]] :: R) w42 := hA43
      refine vc_y hF rfl rfl (by decide) _ (y_assign rfl rfl) (fun a hF => ?_)
      refine vc_nil ?_
      refine hK21 _ _ ?_; clear  hK21 K21
      apply wp_ret
      refine vc_retCT hF Tryd.results30 hA43.q rfl rfl 2 rfl rw45_s14 ?_
      have hA44 : Hp w0 (([] : Seg) :: R) w42 := Hp.sel [[row b4 45 [.pointer none, .slice none 0 0]], ([] : Seg), [row b1 45 [.pointer none, .slice none 0 0]]] R [1] [0, 2] hA43 rfl
      rw [hre]
      exact ⟨_, _, [], rfl, .inl ⟨rfl, rfl, rfl⟩, hA44⟩
    · have hF := hFn
      apply wp_exit
      refine hK3 _ _ ?_; clear hK6 K6 hK3 K3
      apply wp_seq_k; intro K22 hK22
      apply wp_seq_k; intro K23 hK23
      refine wp_region_lit ?_
      refine vc_y hF rfl rfl (by decide) _ (y_field rfl Tryd.underlying45 rfl sz43_s14 (by decide) rfl (rfl : (⟨_, 0 + _, none⟩ : Addr) = ⟨_, 0, none⟩)) (fun a hF => ?_)
      refine vc_y hF rfl rfl (by decide) _ (y_ld rfl hA8.q rfl 0 rfl rfl nr43_s14) (fun a hF => ?_)
      refine vc_y hF rfl rfl (by decide) _ (y_neNil rfl (by kernel_rfl) rfl rfl) (fun a hF => ?_)
      refine vc_nil ?_
      refine hK23 _ _ ?_; clear  hK23 K23
      refine vc_true hF rfl ?_
      apply wp_seq_k; intro K24 hK24
      refine wp_region_lit ?_
      refine vc_op rfl (fun K hK => ws_call hF rfl (by decide) cl54_s14 rfl rfl ?_)
      with_reducible refine (rt_atN w0 _ ([row b4 45 [.pointer (some ⟨g, 0, none⟩), .slice none 0 0]] :: Y :: [row b1 45 [.pointer none, .slice none 0 0]] :: R) 32 hT hA8 ).mono ?_
      rintro e' w45 ⟨gs, SX, rfl, hSm2, hA46⟩
      refine ⟨_, rfl, fun a hF => hK _ _ ?_⟩
      clear hK K
      replace hA46 : Hp w0 (SX :: [row b4 45 [.pointer (some ⟨g, 0, none⟩), .slice none 0 0]] :: Y :: [row b1 45 [.pointer none, .slice none 0 0]] :: R) w45 := hA46
      rw [show min (max (32 : Int) 1) 32 = 32 from rfl] at hSm2
      have hSm := hSm2.sm
      obtain ⟨AE, cE, wb, hs1, hs2, hs3, hcE⟩ := id hSm2
      obtain ⟨be_, qe, hAE, _⟩ := hs3.ne (i := 0) (by rw [digs_len _ _ (fun i _ => emptyL_length _ _)]; decide)
      refine vc_y hF rfl rfl (by decide) _ (y_assign rfl rfl) (fun a hF => ?_)
      refine vc_nil ?_
      refine hK24 _ _ ?_; clear  hK24 K24
      apply wp_seq_k; intro K25 hK25
      refine wp_region_lit ?_
      refine vc_y hF rfl rfl (by decide) _ (y_move rfl rfl) (fun a hF => ?_)
      refine vc_y hF rfl rfl (by decide) _ (y_nilCheck rfl rfl) (fun a hF => ?_)
      refine vc_y hF rfl rfl (by decide) _ (y_field rfl Tryd.underlying102 rfl sz26_s14 (by decide) rfl (rfl : (⟨_, 0 + _, none⟩ : Addr) = ⟨_, 1, none⟩)) (fun a hF => ?_)
      refine vc_y hF rfl rfl (by decide) _ (y_ldC rfl (Hq.sub hA46.q (sub1 ((List.mem_cons_self ..)))) rfl hs1 1 (by simp) rfl rfl nr26_s14) (fun a hF => ?_)
      refine vc_y hF rfl rfl (by decide) _ (y_field rfl Tryd.underlying45 rfl sz26_s14 (by decide) rfl (rfl : (⟨_, 0 + _, none⟩ : Addr) = ⟨_, 1, none⟩)) (fun a hF => ?_)
      refine vc_op rfl (fun K hK => hs_store1 hF rfl rfl hA46 rfl rfl 1 rfl (by simp) rfl sz26_s14 (fun w47 hA48 => hK _ _ ?_))
      clear hK K
      replace hA48 : Hp w0 (SX :: [row b4 45 [.pointer (some ⟨g, 0, none⟩), .slice AE 257 cE]] :: Y :: [row b1 45 [.pointer none, .slice none 0 0]] :: R) w47 := hA48
      refine vc_nil ?_
      refine hK25 _ _ ?_; clear  hK25 K25
      refine wp_region_lit ?_
      refine vc_y hF rfl rfl (by decide) _ (y_field rfl Tryd.underlying45 rfl sz43_s14 (by decide) rfl (rfl : (⟨_, 0 + _, none⟩ : Addr) = ⟨_, 0, none⟩)) (fun a hF => ?_)
      refine vc_y hF rfl rfl (by decide) _ (y_ld rfl hA48.q rfl 1 rfl rfl nr43_s14) (fun a hF => ?_)
      refine vc_y hF rfl rfl (by decide) _ (y_move rfl rfl) (fun a hF => ?_)
      have hGS : [SX] ⊆ (SX :: [row b4 45 [.pointer (some ⟨g, 0, none⟩), .slice AE 257 cE]] :: [row b1 45 [.pointer none, .slice none 0 0]] :: R) := sub1 ((List.mem_cons_self ..))
      have hA49 : Hp w0 (Y :: SX :: [row b4 45 [.pointer (some ⟨g, 0, none⟩), .slice AE 257 cE]] :: [row b1 45 [.pointer none, .slice none 0 0]] :: R) w47 := Hp.ord [SX, [row b4 45 [.pointer (some ⟨g, 0, none⟩), .slice AE 257 cE]], Y, [row b1 45 [.pointer none, .slice none 0 0]]] R [2, 0, 1, 3] hA48 rfl
      refine vc_op rfl (fun K hK => ws_call hF rfl (by decide) cl65_s14 rfl rfl ?_)
      with_reducible refine (rt_settle w0 hT t hg _ (SX :: [row b4 45 [.pointer (some ⟨g, 0, none⟩), .slice AE 257 cE]] :: [row b1 45 [.pointer none, .slice none 0 0]] :: R) [SX] hGS Y gs g hSm hTO hA49 ).mono ?_
      rintro e' w50 ⟨rfl, Y2, h2, hA51⟩
      refine ⟨_, rfl, fun a hF => hK _ _ ?_⟩
      clear hK K
      replace hA51 : Hp w0 (Y2 :: SX :: [row b4 45 [.pointer (some ⟨g, 0, none⟩), .slice AE 257 cE]] :: [row b1 45 [.pointer none, .slice none 0 0]] :: R) w50 := hA51
      refine vc_nil ?_
      refine hK22 _ _ ?_; clear  hK22 K22
      apply wp_seq_k; intro K26 hK26
      refine wp_region_lit ?_
      refine vc_y hF rfl rfl (by decide) _ (y_ldRow (new := [.pointer (some ⟨g, 0, none⟩), .slice AE 257 cE]) rfl hA51.q rfl 2 rfl rw45_s14 (Nat.le_of_ble_eq_true rfl) rfl) (fun a hF => ?_)
      refine vc_op rfl (fun K hK => hs_storeAll (new := [.pointer (some ⟨g, 0, none⟩), .slice AE 257 cE]) hF rfl rfl hA51 rfl rfl 3 rfl rfl (by simp [Value.oneCell']) sz45_s14 (fun w52 hA53 => hK _ _ ?_))
      clear hK K
      replace hA53 : Hp w0 (Y2 :: SX :: [row b4 45 [.pointer (some ⟨g, 0, none⟩), .slice AE 257 cE]] :: [row b1 45 [.pointer (some ⟨g, 0, none⟩), .slice AE 257 cE]] :: R) w52 := hA53
      refine vc_y hF rfl rfl (by decide) _ (y_assign rfl rfl) (fun a hF => ?_)
      refine vc_nil ?_
      refine hK26 _ _ ?_; clear  hK26 K26
      apply wp_ret
      refine vc_retCT hF Tryd.results30 hA53.q rfl rfl 3 rfl rw45_s14 ?_
      have hA54 : Hp w0 (Y2 :: SX :: R) w52 := Hp.sel [Y2, SX, [row b4 45 [.pointer (some ⟨g, 0, none⟩), .slice AE 257 cE]], [row b1 45 [.pointer (some ⟨g, 0, none⟩), .slice AE 257 cE]]] R [0, 1] [2, 3] hA53 rfl
      have hup : [SX].flatten ⊆ ((Y2 ++ SX) :: G0).flatten := fun r hr => by
        rw [List.flatten_cons, List.flatten_nil, List.append_nil] at hr
        rw [List.flatten_cons]
        exact List.mem_append_left _ (List.mem_append_right _ hr)
      have hup2 : [Y2].flatten ⊆ ((Y2 ++ SX) :: G0).flatten := fun r hr => by
        rw [List.flatten_cons, List.flatten_nil, List.append_nil] at hr
        rw [List.flatten_cons]
        exact List.mem_append_left _ (List.mem_append_left _ hr)
      rw [hre]
      exact ⟨_, .slice AE 257 cE, Y2 ++ SX, rfl, .inr ⟨t, g, ⟨be_, qe, none⟩, cE, rfl, hg, rfl, by rw [hAE], (h2.tr (w0 := w0) (R := [Y2]) (List.mem_singleton.2 rfl)).monoF hup2, by rw [← hAE]; exact hs3.monoF hup, hcE⟩, Hp.join hA54⟩
end Go.Proofs.YtpomngkcfbnjoaaDoor
