/- The statements' books of memory: keep, stays, apart, marks. -/
import Derived.Test.YtppmhlkonemebaaDoorKb
import Derived.Test.YtppmhlkonemebaaDoorBook1
namespace Go.Proofs.YtppmhlkonemebaaDoor
open Go.RowKit Go.Dk
theorem nr3_kc : notRow Tryd.prog 3 = true := by kernel_rfl
theorem nr4_kc : notRow Tryd.prog 4 = true := by kernel_rfl
theorem nr24_kc : notRow Tryd.prog 24 = true := by kernel_rfl
theorem nr29_kc : notRow Tryd.prog 29 = true := by kernel_rfl
theorem sz3_kc : (Tryd.prog.info? 3).map (·.size) = some 1 := by kernel_rfl
theorem sz4_kc : (Tryd.prog.info? 4).map (·.size) = some 1 := by kernel_rfl
theorem sz24_kc : (Tryd.prog.info? 24).map (·.size) = some 1 := by kernel_rfl
theorem sz29_kc : (Tryd.prog.info? 29).map (·.size) = some 1 := by kernel_rfl
theorem cl65_kc : CallsTo Tryd.prog 65 := ⟨_, Tryd.func65, by kernel_rfl, by kernel_rfl⟩


theorem kb_bs_byte (A : Option Addr) (n c : Nat) (w : World) : (Instr.buildSlice 29 1 #[(0, .slice A n c)]).run Tryd.prog w = .ok (.slice (some ⟨w.heap.size, 0, none⟩) 1 1) (w.alloc (.cells #[.slice A n c] 24)) := by kernel_rfl
theorem kb_elemL_byte : elemInfo Tryd.prog 24 1 24 := elemInfo_of (z := .slice none 0 0) (by kernel_rfl) (by kernel_rfl)
theorem kb_elem_byte : elemInfo Tryd.prog 5 1 1 := elemInfo_of (z := .int .u8 0) (by kernel_rfl) (by kernel_rfl)
theorem kb_szL_byte : (Tryd.prog.info? 24).map (·.size) = some 1 := by kernel_rfl

set_option maxRecDepth 100000 in
set_option maxHeartbeats 4000000 in
theorem kb_keep_byte {lv wv : Value} {BT : TypeId} {held : Int} (w0 w : World) (R : List Seg) (bb : Nat) (ks : List (KeptX (UInt8))) (Y X : Seg) (lv0 : Value) (l : List (UInt8)) (hb : BookV cB 24 5 1 ks lv wv Y) (hX : Buf 5 1 X lv0 l.length (cel cB l)) (hl1 : ∀ x ∈ l, (cB x).length = 1) (hlm : l.length ≤ 9223372036854775807) (hl : (l.length + l.length / 4 + 192) * 1 ≤ 281474976710656) (hA : Hp w0 (X :: [row bb BT [lv, wv, .int .i64 held, .bool false]] :: Y :: R) w) : Calls Tryd.prog 30 #[.pointer (some ⟨bb, 0, none⟩), lv0] w fun e w' => ∃ ks' lv' wv' held' Y', e = .returned (.tuple #[]) ∧ BookV cB 24 5 1 ks' lv' wv' Y' ∧ X ⊆ Y' ∧ Hp w0 ([row bb BT [lv', wv', .int .i64 held', .bool false]] :: Y' :: R) w' := by
  have hzl : (0 + l.length + (0 + l.length) / 4 + 192) * 1 ≤ 281474976710656 := by rw [Nat.zero_add]; exact hl
  clear hl
  obtain ⟨hn4, XL, XW, hL, hW, hK, rfl⟩ := hb
  have hz4 : (ks.length + 1 + (ks.length + 1) / 4 + 192) * 24 ≤ 281474976710656 := by clear hlm hzl hl1 hX hA hK hL hW; omega
  obtain ⟨A0, c0, rfl, hc0, hc0m⟩ := hX.cap
  have hX0 := hX
  have h1 : Hp w0 (X :: [row bb BT [lv, wv, .int .i64 held, .bool false]] :: XL :: XW :: kflat ks :: R) w := hA.cast (by simp)
  replace hA : Hp w0 ([row bb BT [lv, wv, .int .i64 held, .bool false]] :: X :: XL :: XW :: kflat ks :: R) w := Hp.ord [X, [row bb BT [lv, wv, .int .i64 held, .bool false]]] (XL :: XW :: kflat ks :: R) [1, 0] h1 rfl
  clear h1
  obtain ⟨AL, cL, rfl, hcL⟩ := hL.slice
  obtain ⟨AW, cW, rfl, hcW⟩ := hW.slice
  obtain ⟨_, _, e0, _, hR0⟩ := hX.rc (w0 := w0) (R := [X]) (List.mem_cons_self ..)
  injection e0 with e0 _ _
  subst e0
  refine vc_enter Tryd.func30 rfl Tryd.ntmps30 (Nat.le_of_ble_eq_true rfl) (fun a hF => ?_)
  apply wp_seq_k; intro K1 hK1
  refine wp_region_lit ?_
  refine vc_y hF rfl rfl (by decide) _ (y_move rfl rfl) (fun a hF => ?_)
  refine vc_y hF rfl rfl (by decide) _ (y_move rfl rfl) (fun a hF => ?_)
  refine vc_y hF rfl rfl (by decide) _ (y_nilCheck rfl rfl) (fun a hF => ?_)
  refine vc_y hF rfl rfl (by decide) _ (y_field rfl Tryd.underlying56 rfl sz29_kc (by decide) rfl (rfl : (⟨_, 0 + _, none⟩ : Addr) = ⟨_, 0, none⟩)) (fun a hF => ?_)
  refine vc_y hF rfl rfl (by decide) _ (y_ld rfl hA.q rfl 0 rfl rfl nr29_kc) (fun a hF => ?_)
  refine vc_y hF rfl rfl (by decide) _ (y_move rfl rfl) (fun a hF => ?_)
  refine vc_op rfl (fun K hK => hs_bs1 (u1 := .slice A0 l.length c0) hF rfl (by decide) rfl hA rfl (kb_bs_byte _ _ _) (fun b1 w2 a hb1 hF hA3 => hK _ _ ?_))
  clear hK K
  replace hA3 : Hp w0 ([row b1 24 [.slice A0 l.length c0]] :: [row bb BT [.slice AL ks.length cL, .slice AW ks.length cW, .int .i64 held, .bool false]] :: X :: XL :: XW :: kflat ks :: R) w2 := hA3
  refine vc_op rfl (fun K hK => hs_append hF rfl (by decide) rfl hA3 3 rfl hL Tryd.underlying29 kb_elemL_byte rfl rfl (Rc.srcC (W := [.slice A0 l.length c0]) (m := 1) (size := 1) (R := [row b1 24 [.slice A0 l.length c0]] :: [row bb BT [.slice AL ks.length cL, .slice AW ks.length cW, .int .i64 held, .bool false]] :: X :: XL :: XW :: kflat ks :: R) (Rc.ofRow (i := 0) (off := 0) rfl rfl) hA3.q Tryd.underlying29 (by decide) rfl (by simp [Value.oneCell'])) (hz4) (by decide) (fun lv2 XL2 w4 a hL2 hF hA5 => hK _ _ ?_))
  clear hK K
  replace hA5 : Hp w0 ([row b1 24 [.slice A0 l.length c0]] :: [row bb BT [.slice AL ks.length cL, .slice AW ks.length cW, .int .i64 held, .bool false]] :: X :: XL2 :: XW :: kflat ks :: R) w4 := hA5
  refine vc_y hF rfl rfl (by decide) _ (y_nilCheck rfl rfl) (fun a hF => ?_)
  refine vc_y hF rfl rfl (by decide) _ (y_field rfl Tryd.underlying56 rfl sz29_kc (by decide) rfl (rfl : (⟨_, 0 + _, none⟩ : Addr) = ⟨_, 0, none⟩)) (fun a hF => ?_)
  refine vc_op rfl (fun K hK => hs_store1 hF rfl rfl hA5 rfl rfl 1 rfl (by simp) hL2.one sz29_kc (fun w6 hA7 => hK _ _ ?_))
  clear hK K
  replace hA7 : Hp w0 ([row b1 24 [.slice A0 l.length c0]] :: [row bb BT [lv2, .slice AW ks.length cW, .int .i64 held, .bool false]] :: X :: XL2 :: XW :: kflat ks :: R) w6 := hA7
  refine vc_nil ?_
  refine hK1 _ _ ?_; clear  hK1 K1
  apply wp_seq_k; intro K2 hK2
  refine wp_region_plan 9 [6,7,8,9,10,11] [0,1,2,3,4,5,6,7,8,9,10,11] (fun x => Hq w0 ([row bb BT [lv2, .slice AW ks.length cW, .int .i64 held, .bool false]] :: R) x) (by kernel_rfl) (by kernel_rfl) (Hq.drew (Hp.qp [[row b1 24 [.slice A0 l.length c0]], [row bb BT [lv2, .slice AW ks.length cW, .int .i64 held, .bool false]], X, XL2, XW, kflat ks] R [1] hA7)) ?_
  have hA8 := Hl.drew hA7
  refine vp_y hF rfl rfl rfl rfl (by decide) _ (fun x hx => y_move rfl rfl) (fun a hF => ?_)
  refine vp_y hF rfl rfl rfl rfl (by decide) _ (fun x hx => y_move rfl rfl) (fun a hF => ?_)
  refine vp_y hF rfl rfl rfl rfl (by decide) _ (fun x hx => y_nilCheck rfl rfl) (fun a hF => ?_)
  refine vp_y hF rfl rfl rfl rfl (by decide) _ (fun x hx => y_field rfl Tryd.underlying56 rfl sz29_kc (by decide) rfl (rfl : (⟨_, 0 + _, none⟩ : Addr) = ⟨_, 1, none⟩)) (fun a hF => ?_)
  refine vp_y hF rfl rfl rfl rfl (by decide) _ (fun x hx => y_ld rfl hx rfl 0 rfl rfl nr29_kc) (fun a hF => ?_)
  refine vp_y hF rfl rfl rfl rfl (by decide) _ (fun x hx => y_move rfl rfl) (fun a hF => ?_)
  have hA9 : Hp w0 (([] : Seg) :: [row b1 24 [.slice A0 l.length c0]] :: [row bb BT [lv2, .slice AW ks.length cW, .int .i64 held, .bool false]] :: X :: XL2 :: XW :: kflat ks :: R) w6.drew := Hp.nil hA8
  refine vp_l rfl rfl rfl (fun K hK => hs_append hF rfl (by decide) rfl hA9 0 rfl (Buf.nil 5 1) Tryd.underlying24 kb_elem_byte rfl rfl (Rc.srcC (size := 1) hR0 (Hq.sub hA9.q (by simp)) Tryd.underlying24 (by decide) (by rw [cel_len hl1]) (cel_one_byte hl1)) (hzl) (by decide) (fun cv Z2 w10 a hZ hF hA11 => hK _ _ (fun _ => ?_) ?_))
  · exact Hp.qp [Z2, [row b1 24 [.slice A0 l.length c0]], [row bb BT [lv2, .slice AW ks.length cW, .int .i64 held, .bool false]], X, XL2, XW, kflat ks] R [2] hA11
  clear hK K
  replace hA11 : Hp w0 (Z2 :: [row b1 24 [.slice A0 l.length c0]] :: [row bb BT [lv2, .slice AW ks.length cW, .int .i64 held, .bool false]] :: X :: XL2 :: XW :: kflat ks :: R) w10 := hA11
  rw [List.nil_append, Nat.zero_add] at hZ
  obtain ⟨A2, c2, rfl, _⟩ := hZ.slice
  refine vp_l rfl rfl rfl (fun K hK => hs_bs1 (u1 := .slice A2 l.length c2) hF rfl (by decide) rfl hA11 rfl (kb_bs_byte _ _ _) (fun b12 w13 a hb12 hF hA14 => hK _ _ (fun _ => ?_) ?_))
  · exact Hp.qp [[row b12 24 [.slice A2 l.length c2]], Z2, [row b1 24 [.slice A0 l.length c0]], [row bb BT [lv2, .slice AW ks.length cW, .int .i64 held, .bool false]], X, XL2, XW, kflat ks] R [3] hA14
  clear hK K
  replace hA14 : Hp w0 ([row b12 24 [.slice A2 l.length c2]] :: Z2 :: [row b1 24 [.slice A0 l.length c0]] :: [row bb BT [lv2, .slice AW ks.length cW, .int .i64 held, .bool false]] :: X :: XL2 :: XW :: kflat ks :: R) w13 := hA14
  refine vp_l rfl rfl rfl (fun K hK => hs_append hF rfl (by decide) rfl hA14 6 rfl hW Tryd.underlying29 kb_elemL_byte rfl rfl (Rc.srcC (W := [.slice A2 l.length c2]) (m := 1) (size := 1) (R := [row b12 24 [.slice A2 l.length c2]] :: Z2 :: [row b1 24 [.slice A0 l.length c0]] :: [row bb BT [lv2, .slice AW ks.length cW, .int .i64 held, .bool false]] :: X :: XL2 :: XW :: kflat ks :: R) (Rc.ofRow (i := 0) (off := 0) rfl rfl) hA14.q Tryd.underlying29 (by decide) rfl (by simp [Value.oneCell'])) (hz4) (by decide) (fun wv2 XW2 w15 a hW2 hF hA16 => hK _ _ (fun _ => ?_) ?_))
  · exact Hp.qp [[row b12 24 [.slice A2 l.length c2]], Z2, [row b1 24 [.slice A0 l.length c0]], [row bb BT [lv2, .slice AW ks.length cW, .int .i64 held, .bool false]], X, XL2, XW2, kflat ks] R [3] hA16
  clear hK K
  replace hA16 : Hp w0 ([row b12 24 [.slice A2 l.length c2]] :: Z2 :: [row b1 24 [.slice A0 l.length c0]] :: [row bb BT [lv2, .slice AW ks.length cW, .int .i64 held, .bool false]] :: X :: XL2 :: XW2 :: kflat ks :: R) w15 := hA16
  refine vp_ly hF rfl rfl rfl rfl (by decide) _ (y_nilCheck rfl rfl) (fun h => absurd h (by decide)) (fun a hF => ?_)
  refine vp_ly hF rfl rfl rfl rfl (by decide) _ (y_field rfl Tryd.underlying56 rfl sz29_kc (by decide) rfl (rfl : (⟨_, 0 + _, none⟩ : Addr) = ⟨_, 1, none⟩)) (fun h => absurd h (by decide)) (fun a hF => ?_)
  refine vp_l rfl rfl rfl (fun K hK => hs_store1 hF rfl rfl hA16 rfl rfl 3 rfl (by simp) hW2.one sz29_kc (fun w17 hA18 => hK _ _ (fun h => absurd h (by decide)) ?_))
  clear hK K
  replace hA18 : Hp w0 ([row b12 24 [.slice A2 l.length c2]] :: Z2 :: [row b1 24 [.slice A0 l.length c0]] :: [row bb BT [lv2, wv2, .int .i64 held, .bool false]] :: X :: XL2 :: XW2 :: kflat ks :: R) w17 := hA18
  refine plan_end ?_
  refine hK2 _ _ ?_; clear  hK2 K2
  apply wp_seq_k; intro K3 hK3
  refine wp_region_lit ?_
  refine vc_y hF rfl rfl (by decide) _ (y_move rfl rfl) (fun a hF => ?_)
  refine vc_y hF rfl rfl (by decide) _ (y_move rfl rfl) (fun a hF => ?_)
  refine vc_y hF rfl rfl (by decide) _ (y_nilCheck rfl rfl) (fun a hF => ?_)
  refine vc_y hF rfl rfl (by decide) _ (y_field rfl Tryd.underlying56 rfl sz3_kc (by decide) rfl (rfl : (⟨_, 0 + _, none⟩ : Addr) = ⟨_, 2, none⟩)) (fun a hF => ?_)
  refine vc_y hF rfl rfl (by decide) _ (y_ld rfl hA18.q rfl 3 rfl rfl nr3_kc) (fun a hF => ?_)
  refine vc_y hF rfl rfl (by decide) _ (y_move rfl rfl) (fun a hF => ?_)
  refine vc_y hF rfl rfl (by decide) _ (y_capSl rfl Tryd.underlying24 rfl) (fun a hF => ?_)
  refine vc_y hF rfl rfl (by decide) _ (y_add (r := heldN held c0) rfl rfl rfl rfl) (fun a hF => ?_)
  refine vc_y hF rfl rfl (by decide) _ (y_add (r := heldN (heldN held c0) 1) rfl rfl rfl rfl) (fun a hF => ?_)
  refine vc_y hF rfl rfl (by decide) _ (y_nilCheck rfl rfl) (fun a hF => ?_)
  refine vc_y hF rfl rfl (by decide) _ (y_field rfl Tryd.underlying56 rfl sz3_kc (by decide) rfl (rfl : (⟨_, 0 + _, none⟩ : Addr) = ⟨_, 2, none⟩)) (fun a hF => ?_)
  refine vc_op rfl (fun K hK => hs_store1 hF rfl rfl hA18 rfl rfl 3 rfl (by simp) rfl sz3_kc (fun w19 hA20 => hK _ _ ?_))
  clear hK K
  replace hA20 : Hp w0 ([row b12 24 [.slice A2 l.length c2]] :: Z2 :: [row b1 24 [.slice A0 l.length c0]] :: [row bb BT [lv2, wv2, .int .i64 (heldN (heldN held c0) 1), .bool false]] :: X :: XL2 :: XW2 :: kflat ks :: R) w19 := hA20
  refine vc_nil ?_
  refine hK3 _ _ ?_; clear  hK3 K3
  apply wp_block
  have hA21 : Hp w0 ([row bb BT [lv2, wv2, .int .i64 (heldN (heldN held c0) 1), .bool false]] :: XL2 :: XW2 :: kflat ks :: X :: Z2 :: R) w19 := Hp.sel [[row b12 24 [.slice A2 l.length c2]], Z2, [row b1 24 [.slice A0 l.length c0]], [row bb BT [lv2, wv2, .int .i64 (heldN (heldN held c0) 1), .bool false]], X, XL2, XW2, kflat ks] R [3, 5, 6, 7, 4, 1] [0, 2] hA20 rfl
  clear hzl hz4
  obtain ⟨kn, hkn⟩ : ∃ kn : KeptX (UInt8), kn = ⟨.slice A0 l.length c0, l, X, .slice A2 l.length c2, Z2⟩ := ⟨_, rfl⟩
  have hkk : KOK cB 5 1 kn := by rw [hkn]; exact ⟨hl1, hlm, hX0, hZ⟩
  have hK2 : ∀ k ∈ ks ++ [kn], KOK cB 5 1 k := fun k hk => by
    rcases List.mem_append.1 hk with hk | hk
    · exact hK k hk
    · rw [List.mem_singleton] at hk; rw [hk]; exact hkk
  have hL3 : Buf 24 1 XL2 lv2 (ks ++ [kn]).length ((ks ++ [kn]).map (·.v)) := by rw [List.length_append, List.map_append, hkn]; exact hL2
  have hW3 : Buf 24 1 XW2 wv2 (ks ++ [kn]).length ((ks ++ [kn]).map (·.cv)) := by rw [List.length_append, List.map_append, hkn]; exact hW2
  have hA22 : Hp w0 ([row bb BT [lv2, wv2, .int .i64 (heldN (heldN held c0) 1), .bool false]] :: XL2 :: XW2 :: kflat (ks ++ [kn]) :: R) w19 := hA21.cast (by rw [hkn]; simp [kflat])
  refine vc_loop (G := Nat) (fun i a x => ∃ (qs : List (KeptX (UInt8))) (lv3 : Value) (wv3 : Value) (hd3 : Int) (XL3 : Seg) (XW3 : Seg), i = qs.length ∧ qs.getLast? = some kn ∧ qs.length ≤ 4001 ∧ (∀ k ∈ qs, KOK cB 5 1 k) ∧ Buf 24 1 XL3 lv3 qs.length (qs.map (·.v)) ∧ Buf 24 1 XW3 wv3 qs.length (qs.map (·.cv)) ∧ Fr 112 [(0, .pointer (some ⟨bb, 0, none⟩))] a ∧ Hp w0 ([row bb BT [lv3, wv3, .int .i64 hd3, .bool false]] :: XL3 :: XW3 :: kflat qs :: R) x) (fun i => i) (ks ++ [kn]).length (⟨ks ++ [kn], _, _, _, _, _, rfl, by simp, by rw [List.length_append]; simp; omega, hK2, hL3, hW3, hF.keep [0] rfl, hA22⟩) ?_
  clear hF
  rintro i a w24 ⟨qs, lv3, wv3, hd3, XL3, XW3, hi, hlast, hq4, hKq, hLq, hWq, hF, hA23⟩
  obtain ⟨AL, cL, rfl, hcL⟩ := hLq.slice
  obtain ⟨AW, cW, rfl, hcW⟩ := hWq.slice
  by_cases h1 : 1 < qs.length
  · by_cases h2 : 1000000 < hd3
    · apply wp_seq_k; intro K4 hK4
      apply wp_seq_k; intro K5 hK5
      refine wp_region_lit ?_
      refine vc_y hF rfl rfl (by decide) _ (y_move rfl rfl) (fun a hF => ?_)
      refine vc_y hF rfl rfl (by decide) _ (y_nilCheck rfl rfl) (fun a hF => ?_)
      refine vc_y hF rfl rfl (by decide) _ (y_field rfl Tryd.underlying56 rfl sz29_kc (by decide) rfl (rfl : (⟨_, 0 + _, none⟩ : Addr) = ⟨_, 0, none⟩)) (fun a hF => ?_)
      refine vc_y hF rfl rfl (by decide) _ (y_ld rfl hA23.q rfl 0 rfl rfl nr29_kc) (fun a hF => ?_)
      refine vc_y hF rfl rfl (by decide) _ (y_lenSl rfl Tryd.underlying29 rfl rfl) (fun a hF => ?_)
      refine vc_y hF rfl rfl (by decide) _ (y_cmp rfl rfl rfl rfl (gtr_t (by omega))) (fun a hF => ?_)
      refine vc_y hF rfl rfl (by decide) _ (y_move rfl rfl) (fun a hF => ?_)
      refine vc_yg hF rfl rfl rfl rfl rfl (by decide) _ (y_move rfl rfl) (fun a hF => ?_)
      refine vc_yg hF rfl rfl rfl rfl rfl (by decide) _ (y_nilCheck rfl rfl) (fun a hF => ?_)
      refine vc_yg hF rfl rfl rfl rfl rfl (by decide) _ (y_field rfl Tryd.underlying56 rfl sz3_kc (by decide) rfl (rfl : (⟨_, 0 + _, none⟩ : Addr) = ⟨_, 2, none⟩)) (fun a hF => ?_)
      refine vc_yg hF rfl rfl rfl rfl rfl (by decide) _ (y_ld rfl hA23.q rfl 0 rfl rfl nr3_kc) (fun a hF => ?_)
      refine vc_yg hF rfl rfl rfl rfl rfl (by decide) _ (y_cmp rfl rfl rfl rfl (gtr_t (by omega))) (fun a hF => ?_)
      refine vc_yg hF rfl rfl rfl rfl rfl (by decide) _ (y_move rfl rfl) (fun a hF => ?_)
      refine vc_skip hF rfl rfl rfl rfl rfl rfl (by decide) (fun a hF => ?_)
      refine vc_skip hF rfl rfl rfl rfl rfl rfl (by decide) (fun a hF => ?_)
      refine vc_skip hF rfl rfl rfl rfl rfl rfl (by decide) (fun a hF => ?_)
      refine vc_skip hF rfl rfl rfl rfl rfl rfl (by decide) (fun a hF => ?_)
      refine vc_skip hF rfl rfl rfl rfl rfl rfl (by decide) (fun a hF => ?_)
      refine vc_skip hF rfl rfl rfl rfl rfl rfl (by decide) (fun a hF => ?_)
      refine vc_yg hF rfl rfl rfl rfl rfl (by decide) _ (y_pick rfl rfl rfl) (fun a hF => ?_)
      refine vc_y hF rfl rfl (by decide) _ (y_pick rfl rfl rfl) (fun a hF => ?_)
      refine vc_nil ?_
      refine hK5 _ _ ?_; clear  hK5 K5
      refine vc_true hF rfl ?_
      obtain ⟨k0, kr, rfl⟩ : ∃ k0 kr, qs = k0 :: kr := by
        cases qs with
        | nil => exact absurd h1 (Nat.not_lt_zero _)
        | cons k0 kr => exact ⟨k0, kr, rfl⟩
      have hlastr : kr.getLast? = some kn := by
        cases kr with
        | nil => simp at h1
        | cons k1 kr => rw [List.getLast?_cons_cons] at hlast; exact hlast
      obtain ⟨gL, cL', oL, eL, hLt⟩ := Buf.tail (m := kr.length) (W := kr.map (·.v)) (u := k0.v) hLq
      injection eL with eL _ eLc
      subst eL eLc
      obtain ⟨gW, cW', oW, eW, hWt⟩ := Buf.tail (m := kr.length) (W := kr.map (·.cv)) (u := k0.cv) hWq
      injection eW with eW _ eWc
      subst eW eWc
      obtain ⟨hk1, hk2, hk3, hk4⟩ := hKq k0 (List.mem_cons_self ..)
      obtain ⟨B1, d1, ev1, _, _, hr1⟩ := hk3.rcIn (w0 := w0) (R := [kflat (k0 :: kr)]) (kflat_mem (List.mem_cons_self ..)).1 (List.mem_cons_self ..)
      obtain ⟨B2, d2, ev2, _, _, hr2⟩ := hk4.rcIn (w0 := w0) (R := [kflat (k0 :: kr)]) (kflat_mem (List.mem_cons_self ..)).2 (List.mem_cons_self ..)
      obtain ⟨_, _, f1, _, hc1⟩ := hLq.rc (w0 := w0) (R := [XL3]) (List.mem_cons_self ..)
      injection f1 with f1 _ _
      subst f1
      obtain ⟨_, _, f2, _, hc2⟩ := hWq.rc (w0 := w0) (R := [XW3]) (List.mem_cons_self ..)
      injection f2 with f2 _ _
      subst f2
      obtain ⟨_, _, f1, hcc1⟩ := hc1.ne (i := 0) (by simp)
      injection f1 with f1
      injection f1 with f1 f1'
      subst f1 f1'
      obtain ⟨_, _, f2, hcc2⟩ := hc2.ne (i := 0) (by simp)
      injection f2 with f2
      injection f2 with f2 f2'
      subst f2 f2'
      apply wp_skip
      refine hK4 _ _ ?_; clear  hK4 K4
      apply wp_block
      apply wp_seq_k; intro K6 hK6
      refine wp_region_plan 23 [18,23] [0,1,2,3,4,5,6,7,8,9,10,11,12,13,14,15,16,17,18,19,20,21,22,23] (fun x => Hq w0 ([row bb BT [.slice (some ⟨gL, oL, none⟩) ((k0 :: kr).length) (cL' + 1), .slice (some ⟨gW, oW, none⟩) ((k0 :: kr).length) (cW' + 1), .int .i64 hd3, .bool false]] :: XL3 :: XW3 :: kflat (k0 :: kr) :: R) x) (by kernel_rfl) (by kernel_rfl) (Hq.drew (Hp.qp [[row bb BT [.slice (some ⟨gL, oL, none⟩) ((k0 :: kr).length) (cL' + 1), .slice (some ⟨gW, oW, none⟩) ((k0 :: kr).length) (cW' + 1), .int .i64 hd3, .bool false]], XL3, XW3, kflat (k0 :: kr)] R [0, 1, 2, 3] hA23)) ?_
      have hA25 := Hl.drew hA23
      refine vp_y hF rfl rfl rfl rfl (by decide) _ (fun x hx => y_move rfl rfl) (fun a hF => ?_)
      refine vp_y hF rfl rfl rfl rfl (by decide) _ (fun x hx => y_move rfl rfl) (fun a hF => ?_)
      refine vp_y hF rfl rfl rfl rfl (by decide) _ (fun x hx => y_nilCheck rfl rfl) (fun a hF => ?_)
      refine vp_y hF rfl rfl rfl rfl (by decide) _ (fun x hx => y_field rfl Tryd.underlying56 rfl sz4_kc (by decide) rfl (rfl : (⟨_, 0 + _, none⟩ : Addr) = ⟨_, 3, none⟩)) (fun a hF => ?_)
      refine vp_y hF rfl rfl rfl rfl (by decide) _ (fun x hx => y_ld rfl hx rfl 0 rfl rfl nr4_kc) (fun a hF => ?_)
      refine vp_y hF rfl rfl rfl rfl (by decide) _ (fun x hx => y_move rfl rfl) (fun a hF => ?_)
      refine vp_yg hF rfl rfl rfl rfl rfl rfl rfl (by decide) _ (fun x hx => y_move rfl rfl) (fun a hF => ?_)
      refine vp_yg hF rfl rfl rfl rfl rfl rfl rfl (by decide) _ (fun x hx => y_nilCheck rfl rfl) (fun a hF => ?_)
      refine vp_yg hF rfl rfl rfl rfl rfl rfl rfl (by decide) _ (fun x hx => y_field rfl Tryd.underlying56 rfl sz29_kc (by decide) rfl (rfl : (⟨_, 0 + _, none⟩ : Addr) = ⟨_, 0, none⟩)) (fun a hF => ?_)
      refine vp_yg hF rfl rfl rfl rfl rfl rfl rfl (by decide) _ (fun x hx => y_ld rfl hx rfl 0 rfl rfl nr29_kc) (fun a hF => ?_)
      refine vp_yg hF rfl rfl rfl rfl rfl rfl rfl (by decide) _ (fun x hx => y_ixSl rfl Tryd.underlying29 sz24_kc rfl rfl 0 rfl (by simp) (ad2 _ _ _)) (fun a hF => ?_)
      refine vp_yg hF rfl rfl rfl rfl rfl rfl rfl (by decide) _ (fun x hx => y_ldC (u := .slice B1 k0.l.length d1) rfl (Hq.sub hx (fun x hx => by rw [List.mem_singleton] at hx; subst hx; simp)) rfl hcc1 0 (by simp) rfl (show ((k0 :: kr).map (·.v))[0]? = _ from congrArg some ev1) nr24_kc) (fun a hF => ?_)
      refine vp_yg hF rfl rfl rfl rfl rfl rfl rfl (by decide) _ (fun x hx => y_move rfl rfl) (fun a hF => ?_)
      refine vp_yg hF rfl rfl rfl rfl rfl rfl rfl (by decide) _ (fun x hx => y_nilCheck rfl rfl) (fun a hF => ?_)
      refine vp_yg hF rfl rfl rfl rfl rfl rfl rfl (by decide) _ (fun x hx => y_field rfl Tryd.underlying56 rfl sz29_kc (by decide) rfl (rfl : (⟨_, 0 + _, none⟩ : Addr) = ⟨_, 1, none⟩)) (fun a hF => ?_)
      refine vp_yg hF rfl rfl rfl rfl rfl rfl rfl (by decide) _ (fun x hx => y_ld rfl hx rfl 0 rfl rfl nr29_kc) (fun a hF => ?_)
      refine vp_yg hF rfl rfl rfl rfl rfl rfl rfl (by decide) _ (fun x hx => y_ixSl rfl Tryd.underlying29 sz24_kc rfl rfl 0 rfl (by simp) (ad2 _ _ _)) (fun a hF => ?_)
      refine vp_yg hF rfl rfl rfl rfl rfl rfl rfl (by decide) _ (fun x hx => y_ldC (u := .slice B2 k0.l.length d2) rfl (Hq.sub hx (fun x hx => by rw [List.mem_singleton] at hx; subst hx; simp)) rfl hcc2 0 (by simp) rfl (show ((k0 :: kr).map (·.cv))[0]? = _ from congrArg some ev2) nr24_kc) (fun a hF => ?_)
      refine vp_lg hF rfl rfl rfl rfl rfl rfl (fun K hK => ws_call hF rfl (by decide) cl65_kc rfl rfl ?_)
      with_reducible refine (kb_same_byte w0 _ ([row bb BT [.slice (some ⟨gL, oL, none⟩) ((k0 :: kr).length) (cL' + 1), .slice (some ⟨gW, oW, none⟩) ((k0 :: kr).length) (cW' + 1), .int .i64 hd3, .bool false]] :: XL3 :: XW3 :: kflat (k0 :: kr) :: R) B1 B2 k0.l k0.l d1 d2 (hr1.mono (by simp)) (hr2.mono (by simp)) hk1 hk1 hA25 hk2 ).mono ?_
      rintro e' w26 ⟨rfl, hA27⟩
      refine ⟨_, rfl, fun a hF => hK _ _ (fun _ => ?_) ?_⟩
      · exact Hp.qp [[row bb BT [.slice (some ⟨gL, oL, none⟩) ((k0 :: kr).length) (cL' + 1), .slice (some ⟨gW, oW, none⟩) ((k0 :: kr).length) (cW' + 1), .int .i64 hd3, .bool false]], XL3, XW3, kflat (k0 :: kr)] R [0, 1, 2, 3] hA27
      clear hK K
      replace hA27 : Hp w0 ([row bb BT [.slice (some ⟨gL, oL, none⟩) ((k0 :: kr).length) (cL' + 1), .slice (some ⟨gW, oW, none⟩) ((k0 :: kr).length) (cW' + 1), .int .i64 hd3, .bool false]] :: XL3 :: XW3 :: kflat (k0 :: kr) :: R) w26 := hA27
      rw [decide_eq_true rfl] at hF
      refine vp_yg hF rfl rfl rfl rfl rfl rfl rfl (by decide) _ (fun x hx => y_not rfl rfl rfl) (fun a hF => ?_)
      refine vp_y hF rfl rfl rfl rfl (by decide) _ (fun x hx => y_pick rfl rfl rfl) (fun a hF => ?_)
      refine vp_y hF rfl rfl rfl rfl (by decide) _ (fun x hx => y_nilCheck rfl rfl) (fun a hF => ?_)
      refine vp_y hF rfl rfl rfl rfl (by decide) _ (fun x hx => y_field rfl Tryd.underlying56 rfl sz4_kc (by decide) rfl (rfl : (⟨_, 0 + _, none⟩ : Addr) = ⟨_, 3, none⟩)) (fun a hF => ?_)
      refine vp_l rfl rfl rfl (fun K hK => hs_store1 hF rfl rfl hA27 rfl rfl 0 rfl (by simp) rfl sz4_kc (fun w28 hA29 => hK _ _ (fun h => absurd h (by decide)) ?_))
      clear hK K
      replace hA29 : Hp w0 ([row bb BT [.slice (some ⟨gL, oL, none⟩) ((k0 :: kr).length) (cL' + 1), .slice (some ⟨gW, oW, none⟩) ((k0 :: kr).length) (cW' + 1), .int .i64 hd3, .bool false]] :: XL3 :: XW3 :: kflat (k0 :: kr) :: R) w28 := hA29
      refine plan_end ?_
      refine hK6 _ _ ?_; clear  hK6 K6
      apply wp_seq_k; intro K7 hK7
      refine wp_region_plan 16 [16] [0,1,2,3,4,5,6,7,8,9,10,11,12,13,14,15,16] (fun x => Hq w0 ([row bb BT [.slice (some ⟨gL, oL, none⟩) ((k0 :: kr).length) (cL' + 1), .slice (some ⟨gW, oW, none⟩) ((k0 :: kr).length) (cW' + 1), .int .i64 hd3, .bool false]] :: XL3 :: XW3 :: kflat (k0 :: kr) :: R) x) (by kernel_rfl) (by kernel_rfl) (Hq.drew (Hp.qp [[row bb BT [.slice (some ⟨gL, oL, none⟩) ((k0 :: kr).length) (cL' + 1), .slice (some ⟨gW, oW, none⟩) ((k0 :: kr).length) (cW' + 1), .int .i64 hd3, .bool false]], XL3, XW3, kflat (k0 :: kr)] R [0, 1, 2, 3] hA29)) ?_
      have hA30 := Hl.drew hA29
      refine vp_y hF rfl rfl rfl rfl (by decide) _ (fun x hx => y_move rfl rfl) (fun a hF => ?_)
      refine vp_y hF rfl rfl rfl rfl (by decide) _ (fun x hx => y_move rfl rfl) (fun a hF => ?_)
      refine vp_y hF rfl rfl rfl rfl (by decide) _ (fun x hx => y_nilCheck rfl rfl) (fun a hF => ?_)
      refine vp_y hF rfl rfl rfl rfl (by decide) _ (fun x hx => y_field rfl Tryd.underlying56 rfl sz3_kc (by decide) rfl (rfl : (⟨_, 0 + _, none⟩ : Addr) = ⟨_, 2, none⟩)) (fun a hF => ?_)
      refine vp_y hF rfl rfl rfl rfl (by decide) _ (fun x hx => y_ld rfl hx rfl 0 rfl rfl nr3_kc) (fun a hF => ?_)
      refine vp_y hF rfl rfl rfl rfl (by decide) _ (fun x hx => y_move rfl rfl) (fun a hF => ?_)
      refine vp_y hF rfl rfl rfl rfl (by decide) _ (fun x hx => y_nilCheck rfl rfl) (fun a hF => ?_)
      refine vp_y hF rfl rfl rfl rfl (by decide) _ (fun x hx => y_field rfl Tryd.underlying56 rfl sz29_kc (by decide) rfl (rfl : (⟨_, 0 + _, none⟩ : Addr) = ⟨_, 0, none⟩)) (fun a hF => ?_)
      refine vp_y hF rfl rfl rfl rfl (by decide) _ (fun x hx => y_ld rfl hx rfl 0 rfl rfl nr29_kc) (fun a hF => ?_)
      refine vp_y hF rfl rfl rfl rfl (by decide) _ (fun x hx => y_ixSl rfl Tryd.underlying29 sz24_kc rfl rfl 0 rfl (by simp) (ad2 _ _ _)) (fun a hF => ?_)
      refine vp_y hF rfl rfl rfl rfl (by decide) _ (fun x hx => y_ldC (u := .slice B1 k0.l.length d1) rfl (Hq.sub hx (fun x hx => by rw [List.mem_singleton] at hx; subst hx; simp)) rfl hcc1 0 (by simp) rfl (show ((k0 :: kr).map (·.v))[0]? = _ from congrArg some ev1) nr24_kc) (fun a hF => ?_)
      refine vp_y hF rfl rfl rfl rfl (by decide) _ (fun x hx => y_capSl rfl Tryd.underlying24 rfl) (fun a hF => ?_)
      refine vp_y hF rfl rfl rfl rfl (by decide) _ (fun x hx => y_sub (r := heldM hd3 d1) rfl rfl rfl rfl) (fun a hF => ?_)
      refine vp_y hF rfl rfl rfl rfl (by decide) _ (fun x hx => y_sub (r := heldM (heldM hd3 d1) 1) rfl rfl rfl rfl) (fun a hF => ?_)
      refine vp_y hF rfl rfl rfl rfl (by decide) _ (fun x hx => y_nilCheck rfl rfl) (fun a hF => ?_)
      refine vp_y hF rfl rfl rfl rfl (by decide) _ (fun x hx => y_field rfl Tryd.underlying56 rfl sz3_kc (by decide) rfl (rfl : (⟨_, 0 + _, none⟩ : Addr) = ⟨_, 2, none⟩)) (fun a hF => ?_)
      refine vp_l rfl rfl rfl (fun K hK => hs_store1 hF rfl rfl hA30 rfl rfl 0 rfl (by simp) rfl sz3_kc (fun w31 hA32 => hK _ _ (fun h => absurd h (by decide)) ?_))
      clear hK K
      replace hA32 : Hp w0 ([row bb BT [.slice (some ⟨gL, oL, none⟩) ((k0 :: kr).length) (cL' + 1), .slice (some ⟨gW, oW, none⟩) ((k0 :: kr).length) (cW' + 1), .int .i64 (heldM (heldM hd3 d1) 1), .bool false]] :: XL3 :: XW3 :: kflat (k0 :: kr) :: R) w31 := hA32
      refine plan_end ?_
      refine hK7 _ _ ?_; clear  hK7 K7
      apply wp_seq_k; intro K8 hK8
      refine wp_region_lit ?_
      refine vc_y hF rfl rfl (by decide) _ (y_move rfl rfl) (fun a hF => ?_)
      refine vc_y hF rfl rfl (by decide) _ (y_move rfl rfl) (fun a hF => ?_)
      refine vc_y hF rfl rfl (by decide) _ (y_nilCheck rfl rfl) (fun a hF => ?_)
      refine vc_y hF rfl rfl (by decide) _ (y_field rfl Tryd.underlying56 rfl sz29_kc (by decide) rfl (rfl : (⟨_, 0 + _, none⟩ : Addr) = ⟨_, 0, none⟩)) (fun a hF => ?_)
      refine vc_y hF rfl rfl (by decide) _ (y_ld rfl hA32.q rfl 0 rfl rfl nr29_kc) (fun a hF => ?_)
      refine vc_y hF rfl rfl (by decide) _ (y_slice (v := .slice (some ⟨gL, oL + 1, none⟩) kr.length cL') rfl Tryd.underlying29 kb_szL_byte rfl (.some (k := 1) rfl rfl) (.none _) (by simp) (by omega) (by rw [show (k0 :: kr).length - 1 = kr.length from rfl, show cL' + 1 - 1 = cL' from rfl]; unfold sub; rw [if_neg (by simp at hcL; simp at h1; omega), Option.map_some, Addr.add_mid])) (fun a hF => ?_)
      refine vc_y hF rfl rfl (by decide) _ (y_nilCheck rfl rfl) (fun a hF => ?_)
      refine vc_y hF rfl rfl (by decide) _ (y_field rfl Tryd.underlying56 rfl sz29_kc (by decide) rfl (rfl : (⟨_, 0 + _, none⟩ : Addr) = ⟨_, 0, none⟩)) (fun a hF => ?_)
      refine vc_op rfl (fun K hK => hs_store1 hF rfl rfl hA32 rfl rfl 0 rfl (by simp) rfl sz29_kc (fun w33 hA34 => hK _ _ ?_))
      clear hK K
      replace hA34 : Hp w0 ([row bb BT [.slice (some ⟨gL, oL + 1, none⟩) kr.length cL', .slice (some ⟨gW, oW, none⟩) ((k0 :: kr).length) (cW' + 1), .int .i64 (heldM (heldM hd3 d1) 1), .bool false]] :: XL3 :: XW3 :: kflat (k0 :: kr) :: R) w33 := hA34
      refine vc_nil ?_
      refine hK8 _ _ ?_; clear  hK8 K8
      refine wp_region_lit ?_
      refine vc_y hF rfl rfl (by decide) _ (y_move rfl rfl) (fun a hF => ?_)
      refine vc_y hF rfl rfl (by decide) _ (y_move rfl rfl) (fun a hF => ?_)
      refine vc_y hF rfl rfl (by decide) _ (y_nilCheck rfl rfl) (fun a hF => ?_)
      refine vc_y hF rfl rfl (by decide) _ (y_field rfl Tryd.underlying56 rfl sz29_kc (by decide) rfl (rfl : (⟨_, 0 + _, none⟩ : Addr) = ⟨_, 1, none⟩)) (fun a hF => ?_)
      refine vc_y hF rfl rfl (by decide) _ (y_ld rfl hA34.q rfl 0 rfl rfl nr29_kc) (fun a hF => ?_)
      refine vc_y hF rfl rfl (by decide) _ (y_slice (v := .slice (some ⟨gW, oW + 1, none⟩) kr.length cW') rfl Tryd.underlying29 kb_szL_byte rfl (.some (k := 1) rfl rfl) (.none _) (by simp) (by omega) (by rw [show (k0 :: kr).length - 1 = kr.length from rfl, show cW' + 1 - 1 = cW' from rfl]; unfold sub; rw [if_neg (by simp at hcW; simp at h1; omega), Option.map_some, Addr.add_mid])) (fun a hF => ?_)
      refine vc_y hF rfl rfl (by decide) _ (y_nilCheck rfl rfl) (fun a hF => ?_)
      refine vc_y hF rfl rfl (by decide) _ (y_field rfl Tryd.underlying56 rfl sz29_kc (by decide) rfl (rfl : (⟨_, 0 + _, none⟩ : Addr) = ⟨_, 1, none⟩)) (fun a hF => ?_)
      refine vc_op rfl (fun K hK => hs_store1 hF rfl rfl hA34 rfl rfl 0 rfl (by simp) rfl sz29_kc (fun w35 hA36 => hK _ _ ?_))
      clear hK K
      replace hA36 : Hp w0 ([row bb BT [.slice (some ⟨gL, oL + 1, none⟩) kr.length cL', .slice (some ⟨gW, oW + 1, none⟩) kr.length cW', .int .i64 (heldM (heldM hd3 d1) 1), .bool false]] :: XL3 :: XW3 :: kflat (k0 :: kr) :: R) w35 := hA36
      refine vc_nil ?_
      have hA37 : Hp w0 ([row bb BT [.slice (some ⟨gL, oL + 1, none⟩) kr.length cL', .slice (some ⟨gW, oW + 1, none⟩) kr.length cW', .int .i64 (heldM (heldM hd3 d1) 1), .bool false]] :: XL3 :: XW3 :: kflat kr :: R) w35 := Hl.sub hA36 (by
        simp only [List.flatten_cons, kflat, List.flatMap_cons, List.append_assoc]
        exact List.Sublist.append_left (List.Sublist.append_left (List.Sublist.append_left ((List.sublist_append_right _ _).trans (List.sublist_append_right _ _)) _) _) _)
      exact ⟨kr.length, by rw [hi]; exact Nat.lt_succ_self _, kr, _, _, _, XL3, XW3, rfl, hlastr, by simp at hq4; omega, (fun k hk => hKq k (List.mem_cons_of_mem _ hk)), hLt, hWt, hF.keep [0] rfl, hA37⟩
    · by_cases h3 : 4000 < qs.length
      · apply wp_seq_k; intro K9 hK9
        apply wp_seq_k; intro K10 hK10
        refine wp_region_lit ?_
        refine vc_y hF rfl rfl (by decide) _ (y_move rfl rfl) (fun a hF => ?_)
        refine vc_y hF rfl rfl (by decide) _ (y_nilCheck rfl rfl) (fun a hF => ?_)
        refine vc_y hF rfl rfl (by decide) _ (y_field rfl Tryd.underlying56 rfl sz29_kc (by decide) rfl (rfl : (⟨_, 0 + _, none⟩ : Addr) = ⟨_, 0, none⟩)) (fun a hF => ?_)
        refine vc_y hF rfl rfl (by decide) _ (y_ld rfl hA23.q rfl 0 rfl rfl nr29_kc) (fun a hF => ?_)
        refine vc_y hF rfl rfl (by decide) _ (y_lenSl rfl Tryd.underlying29 rfl rfl) (fun a hF => ?_)
        refine vc_y hF rfl rfl (by decide) _ (y_cmp rfl rfl rfl rfl (gtr_t (by omega))) (fun a hF => ?_)
        refine vc_y hF rfl rfl (by decide) _ (y_move rfl rfl) (fun a hF => ?_)
        refine vc_yg hF rfl rfl rfl rfl rfl (by decide) _ (y_move rfl rfl) (fun a hF => ?_)
        refine vc_yg hF rfl rfl rfl rfl rfl (by decide) _ (y_nilCheck rfl rfl) (fun a hF => ?_)
        refine vc_yg hF rfl rfl rfl rfl rfl (by decide) _ (y_field rfl Tryd.underlying56 rfl sz3_kc (by decide) rfl (rfl : (⟨_, 0 + _, none⟩ : Addr) = ⟨_, 2, none⟩)) (fun a hF => ?_)
        refine vc_yg hF rfl rfl rfl rfl rfl (by decide) _ (y_ld rfl hA23.q rfl 0 rfl rfl nr3_kc) (fun a hF => ?_)
        refine vc_yg hF rfl rfl rfl rfl rfl (by decide) _ (y_cmp rfl rfl rfl rfl (gtr_f (by omega))) (fun a hF => ?_)
        refine vc_yg hF rfl rfl rfl rfl rfl (by decide) _ (y_move rfl rfl) (fun a hF => ?_)
        refine vc_yg hF rfl rfl rfl rfl rfl (by decide) _ (y_move rfl rfl) (fun a hF => ?_)
        refine vc_yg hF rfl rfl rfl rfl rfl (by decide) _ (y_nilCheck rfl rfl) (fun a hF => ?_)
        refine vc_yg hF rfl rfl rfl rfl rfl (by decide) _ (y_field rfl Tryd.underlying56 rfl sz29_kc (by decide) rfl (rfl : (⟨_, 0 + _, none⟩ : Addr) = ⟨_, 0, none⟩)) (fun a hF => ?_)
        refine vc_yg hF rfl rfl rfl rfl rfl (by decide) _ (y_ld rfl hA23.q rfl 0 rfl rfl nr29_kc) (fun a hF => ?_)
        refine vc_yg hF rfl rfl rfl rfl rfl (by decide) _ (y_lenSl rfl Tryd.underlying29 rfl rfl) (fun a hF => ?_)
        refine vc_yg hF rfl rfl rfl rfl rfl (by decide) _ (y_cmp rfl rfl rfl rfl (gtr_t (by omega))) (fun a hF => ?_)
        refine vc_yg hF rfl rfl rfl rfl rfl (by decide) _ (y_pick rfl rfl rfl) (fun a hF => ?_)
        refine vc_y hF rfl rfl (by decide) _ (y_pick rfl rfl rfl) (fun a hF => ?_)
        refine vc_nil ?_
        refine hK10 _ _ ?_; clear  hK10 K10
        refine vc_true hF rfl ?_
        obtain ⟨k0, kr, rfl⟩ : ∃ k0 kr, qs = k0 :: kr := by
          cases qs with
          | nil => exact absurd h1 (Nat.not_lt_zero _)
          | cons k0 kr => exact ⟨k0, kr, rfl⟩
        have hlastr : kr.getLast? = some kn := by
          cases kr with
          | nil => simp at h1
          | cons k1 kr => rw [List.getLast?_cons_cons] at hlast; exact hlast
        obtain ⟨gL, cL', oL, eL, hLt⟩ := Buf.tail (m := kr.length) (W := kr.map (·.v)) (u := k0.v) hLq
        injection eL with eL _ eLc
        subst eL eLc
        obtain ⟨gW, cW', oW, eW, hWt⟩ := Buf.tail (m := kr.length) (W := kr.map (·.cv)) (u := k0.cv) hWq
        injection eW with eW _ eWc
        subst eW eWc
        obtain ⟨hk1, hk2, hk3, hk4⟩ := hKq k0 (List.mem_cons_self ..)
        obtain ⟨B1, d1, ev1, _, _, hr1⟩ := hk3.rcIn (w0 := w0) (R := [kflat (k0 :: kr)]) (kflat_mem (List.mem_cons_self ..)).1 (List.mem_cons_self ..)
        obtain ⟨B2, d2, ev2, _, _, hr2⟩ := hk4.rcIn (w0 := w0) (R := [kflat (k0 :: kr)]) (kflat_mem (List.mem_cons_self ..)).2 (List.mem_cons_self ..)
        obtain ⟨_, _, f1, _, hc1⟩ := hLq.rc (w0 := w0) (R := [XL3]) (List.mem_cons_self ..)
        injection f1 with f1 _ _
        subst f1
        obtain ⟨_, _, f2, _, hc2⟩ := hWq.rc (w0 := w0) (R := [XW3]) (List.mem_cons_self ..)
        injection f2 with f2 _ _
        subst f2
        obtain ⟨_, _, f1, hcc1⟩ := hc1.ne (i := 0) (by simp)
        injection f1 with f1
        injection f1 with f1 f1'
        subst f1 f1'
        obtain ⟨_, _, f2, hcc2⟩ := hc2.ne (i := 0) (by simp)
        injection f2 with f2
        injection f2 with f2 f2'
        subst f2 f2'
        apply wp_skip
        refine hK9 _ _ ?_; clear  hK9 K9
        apply wp_block
        apply wp_seq_k; intro K11 hK11
        refine wp_region_plan 23 [18,23] [0,1,2,3,4,5,6,7,8,9,10,11,12,13,14,15,16,17,18,19,20,21,22,23] (fun x => Hq w0 ([row bb BT [.slice (some ⟨gL, oL, none⟩) ((k0 :: kr).length) (cL' + 1), .slice (some ⟨gW, oW, none⟩) ((k0 :: kr).length) (cW' + 1), .int .i64 hd3, .bool false]] :: XL3 :: XW3 :: kflat (k0 :: kr) :: R) x) (by kernel_rfl) (by kernel_rfl) (Hq.drew (Hp.qp [[row bb BT [.slice (some ⟨gL, oL, none⟩) ((k0 :: kr).length) (cL' + 1), .slice (some ⟨gW, oW, none⟩) ((k0 :: kr).length) (cW' + 1), .int .i64 hd3, .bool false]], XL3, XW3, kflat (k0 :: kr)] R [0, 1, 2, 3] hA23)) ?_
        have hA38 := Hl.drew hA23
        refine vp_y hF rfl rfl rfl rfl (by decide) _ (fun x hx => y_move rfl rfl) (fun a hF => ?_)
        refine vp_y hF rfl rfl rfl rfl (by decide) _ (fun x hx => y_move rfl rfl) (fun a hF => ?_)
        refine vp_y hF rfl rfl rfl rfl (by decide) _ (fun x hx => y_nilCheck rfl rfl) (fun a hF => ?_)
        refine vp_y hF rfl rfl rfl rfl (by decide) _ (fun x hx => y_field rfl Tryd.underlying56 rfl sz4_kc (by decide) rfl (rfl : (⟨_, 0 + _, none⟩ : Addr) = ⟨_, 3, none⟩)) (fun a hF => ?_)
        refine vp_y hF rfl rfl rfl rfl (by decide) _ (fun x hx => y_ld rfl hx rfl 0 rfl rfl nr4_kc) (fun a hF => ?_)
        refine vp_y hF rfl rfl rfl rfl (by decide) _ (fun x hx => y_move rfl rfl) (fun a hF => ?_)
        refine vp_yg hF rfl rfl rfl rfl rfl rfl rfl (by decide) _ (fun x hx => y_move rfl rfl) (fun a hF => ?_)
        refine vp_yg hF rfl rfl rfl rfl rfl rfl rfl (by decide) _ (fun x hx => y_nilCheck rfl rfl) (fun a hF => ?_)
        refine vp_yg hF rfl rfl rfl rfl rfl rfl rfl (by decide) _ (fun x hx => y_field rfl Tryd.underlying56 rfl sz29_kc (by decide) rfl (rfl : (⟨_, 0 + _, none⟩ : Addr) = ⟨_, 0, none⟩)) (fun a hF => ?_)
        refine vp_yg hF rfl rfl rfl rfl rfl rfl rfl (by decide) _ (fun x hx => y_ld rfl hx rfl 0 rfl rfl nr29_kc) (fun a hF => ?_)
        refine vp_yg hF rfl rfl rfl rfl rfl rfl rfl (by decide) _ (fun x hx => y_ixSl rfl Tryd.underlying29 sz24_kc rfl rfl 0 rfl (by simp) (ad2 _ _ _)) (fun a hF => ?_)
        refine vp_yg hF rfl rfl rfl rfl rfl rfl rfl (by decide) _ (fun x hx => y_ldC (u := .slice B1 k0.l.length d1) rfl (Hq.sub hx (fun x hx => by rw [List.mem_singleton] at hx; subst hx; simp)) rfl hcc1 0 (by simp) rfl (show ((k0 :: kr).map (·.v))[0]? = _ from congrArg some ev1) nr24_kc) (fun a hF => ?_)
        refine vp_yg hF rfl rfl rfl rfl rfl rfl rfl (by decide) _ (fun x hx => y_move rfl rfl) (fun a hF => ?_)
        refine vp_yg hF rfl rfl rfl rfl rfl rfl rfl (by decide) _ (fun x hx => y_nilCheck rfl rfl) (fun a hF => ?_)
        refine vp_yg hF rfl rfl rfl rfl rfl rfl rfl (by decide) _ (fun x hx => y_field rfl Tryd.underlying56 rfl sz29_kc (by decide) rfl (rfl : (⟨_, 0 + _, none⟩ : Addr) = ⟨_, 1, none⟩)) (fun a hF => ?_)
        refine vp_yg hF rfl rfl rfl rfl rfl rfl rfl (by decide) _ (fun x hx => y_ld rfl hx rfl 0 rfl rfl nr29_kc) (fun a hF => ?_)
        refine vp_yg hF rfl rfl rfl rfl rfl rfl rfl (by decide) _ (fun x hx => y_ixSl rfl Tryd.underlying29 sz24_kc rfl rfl 0 rfl (by simp) (ad2 _ _ _)) (fun a hF => ?_)
        refine vp_yg hF rfl rfl rfl rfl rfl rfl rfl (by decide) _ (fun x hx => y_ldC (u := .slice B2 k0.l.length d2) rfl (Hq.sub hx (fun x hx => by rw [List.mem_singleton] at hx; subst hx; simp)) rfl hcc2 0 (by simp) rfl (show ((k0 :: kr).map (·.cv))[0]? = _ from congrArg some ev2) nr24_kc) (fun a hF => ?_)
        refine vp_lg hF rfl rfl rfl rfl rfl rfl (fun K hK => ws_call hF rfl (by decide) cl65_kc rfl rfl ?_)
        with_reducible refine (kb_same_byte w0 _ ([row bb BT [.slice (some ⟨gL, oL, none⟩) ((k0 :: kr).length) (cL' + 1), .slice (some ⟨gW, oW, none⟩) ((k0 :: kr).length) (cW' + 1), .int .i64 hd3, .bool false]] :: XL3 :: XW3 :: kflat (k0 :: kr) :: R) B1 B2 k0.l k0.l d1 d2 (hr1.mono (by simp)) (hr2.mono (by simp)) hk1 hk1 hA38 hk2 ).mono ?_
        rintro e' w39 ⟨rfl, hA40⟩
        refine ⟨_, rfl, fun a hF => hK _ _ (fun _ => ?_) ?_⟩
        · exact Hp.qp [[row bb BT [.slice (some ⟨gL, oL, none⟩) ((k0 :: kr).length) (cL' + 1), .slice (some ⟨gW, oW, none⟩) ((k0 :: kr).length) (cW' + 1), .int .i64 hd3, .bool false]], XL3, XW3, kflat (k0 :: kr)] R [0, 1, 2, 3] hA40
        clear hK K
        replace hA40 : Hp w0 ([row bb BT [.slice (some ⟨gL, oL, none⟩) ((k0 :: kr).length) (cL' + 1), .slice (some ⟨gW, oW, none⟩) ((k0 :: kr).length) (cW' + 1), .int .i64 hd3, .bool false]] :: XL3 :: XW3 :: kflat (k0 :: kr) :: R) w39 := hA40
        rw [decide_eq_true rfl] at hF
        refine vp_yg hF rfl rfl rfl rfl rfl rfl rfl (by decide) _ (fun x hx => y_not rfl rfl rfl) (fun a hF => ?_)
        refine vp_y hF rfl rfl rfl rfl (by decide) _ (fun x hx => y_pick rfl rfl rfl) (fun a hF => ?_)
        refine vp_y hF rfl rfl rfl rfl (by decide) _ (fun x hx => y_nilCheck rfl rfl) (fun a hF => ?_)
        refine vp_y hF rfl rfl rfl rfl (by decide) _ (fun x hx => y_field rfl Tryd.underlying56 rfl sz4_kc (by decide) rfl (rfl : (⟨_, 0 + _, none⟩ : Addr) = ⟨_, 3, none⟩)) (fun a hF => ?_)
        refine vp_l rfl rfl rfl (fun K hK => hs_store1 hF rfl rfl hA40 rfl rfl 0 rfl (by simp) rfl sz4_kc (fun w41 hA42 => hK _ _ (fun h => absurd h (by decide)) ?_))
        clear hK K
        replace hA42 : Hp w0 ([row bb BT [.slice (some ⟨gL, oL, none⟩) ((k0 :: kr).length) (cL' + 1), .slice (some ⟨gW, oW, none⟩) ((k0 :: kr).length) (cW' + 1), .int .i64 hd3, .bool false]] :: XL3 :: XW3 :: kflat (k0 :: kr) :: R) w41 := hA42
        refine plan_end ?_
        refine hK11 _ _ ?_; clear  hK11 K11
        apply wp_seq_k; intro K12 hK12
        refine wp_region_plan 16 [16] [0,1,2,3,4,5,6,7,8,9,10,11,12,13,14,15,16] (fun x => Hq w0 ([row bb BT [.slice (some ⟨gL, oL, none⟩) ((k0 :: kr).length) (cL' + 1), .slice (some ⟨gW, oW, none⟩) ((k0 :: kr).length) (cW' + 1), .int .i64 hd3, .bool false]] :: XL3 :: XW3 :: kflat (k0 :: kr) :: R) x) (by kernel_rfl) (by kernel_rfl) (Hq.drew (Hp.qp [[row bb BT [.slice (some ⟨gL, oL, none⟩) ((k0 :: kr).length) (cL' + 1), .slice (some ⟨gW, oW, none⟩) ((k0 :: kr).length) (cW' + 1), .int .i64 hd3, .bool false]], XL3, XW3, kflat (k0 :: kr)] R [0, 1, 2, 3] hA42)) ?_
        have hA43 := Hl.drew hA42
        refine vp_y hF rfl rfl rfl rfl (by decide) _ (fun x hx => y_move rfl rfl) (fun a hF => ?_)
        refine vp_y hF rfl rfl rfl rfl (by decide) _ (fun x hx => y_move rfl rfl) (fun a hF => ?_)
        refine vp_y hF rfl rfl rfl rfl (by decide) _ (fun x hx => y_nilCheck rfl rfl) (fun a hF => ?_)
        refine vp_y hF rfl rfl rfl rfl (by decide) _ (fun x hx => y_field rfl Tryd.underlying56 rfl sz3_kc (by decide) rfl (rfl : (⟨_, 0 + _, none⟩ : Addr) = ⟨_, 2, none⟩)) (fun a hF => ?_)
        refine vp_y hF rfl rfl rfl rfl (by decide) _ (fun x hx => y_ld rfl hx rfl 0 rfl rfl nr3_kc) (fun a hF => ?_)
        refine vp_y hF rfl rfl rfl rfl (by decide) _ (fun x hx => y_move rfl rfl) (fun a hF => ?_)
        refine vp_y hF rfl rfl rfl rfl (by decide) _ (fun x hx => y_nilCheck rfl rfl) (fun a hF => ?_)
        refine vp_y hF rfl rfl rfl rfl (by decide) _ (fun x hx => y_field rfl Tryd.underlying56 rfl sz29_kc (by decide) rfl (rfl : (⟨_, 0 + _, none⟩ : Addr) = ⟨_, 0, none⟩)) (fun a hF => ?_)
        refine vp_y hF rfl rfl rfl rfl (by decide) _ (fun x hx => y_ld rfl hx rfl 0 rfl rfl nr29_kc) (fun a hF => ?_)
        refine vp_y hF rfl rfl rfl rfl (by decide) _ (fun x hx => y_ixSl rfl Tryd.underlying29 sz24_kc rfl rfl 0 rfl (by simp) (ad2 _ _ _)) (fun a hF => ?_)
        refine vp_y hF rfl rfl rfl rfl (by decide) _ (fun x hx => y_ldC (u := .slice B1 k0.l.length d1) rfl (Hq.sub hx (fun x hx => by rw [List.mem_singleton] at hx; subst hx; simp)) rfl hcc1 0 (by simp) rfl (show ((k0 :: kr).map (·.v))[0]? = _ from congrArg some ev1) nr24_kc) (fun a hF => ?_)
        refine vp_y hF rfl rfl rfl rfl (by decide) _ (fun x hx => y_capSl rfl Tryd.underlying24 rfl) (fun a hF => ?_)
        refine vp_y hF rfl rfl rfl rfl (by decide) _ (fun x hx => y_sub (r := heldM hd3 d1) rfl rfl rfl rfl) (fun a hF => ?_)
        refine vp_y hF rfl rfl rfl rfl (by decide) _ (fun x hx => y_sub (r := heldM (heldM hd3 d1) 1) rfl rfl rfl rfl) (fun a hF => ?_)
        refine vp_y hF rfl rfl rfl rfl (by decide) _ (fun x hx => y_nilCheck rfl rfl) (fun a hF => ?_)
        refine vp_y hF rfl rfl rfl rfl (by decide) _ (fun x hx => y_field rfl Tryd.underlying56 rfl sz3_kc (by decide) rfl (rfl : (⟨_, 0 + _, none⟩ : Addr) = ⟨_, 2, none⟩)) (fun a hF => ?_)
        refine vp_l rfl rfl rfl (fun K hK => hs_store1 hF rfl rfl hA43 rfl rfl 0 rfl (by simp) rfl sz3_kc (fun w44 hA45 => hK _ _ (fun h => absurd h (by decide)) ?_))
        clear hK K
        replace hA45 : Hp w0 ([row bb BT [.slice (some ⟨gL, oL, none⟩) ((k0 :: kr).length) (cL' + 1), .slice (some ⟨gW, oW, none⟩) ((k0 :: kr).length) (cW' + 1), .int .i64 (heldM (heldM hd3 d1) 1), .bool false]] :: XL3 :: XW3 :: kflat (k0 :: kr) :: R) w44 := hA45
        refine plan_end ?_
        refine hK12 _ _ ?_; clear  hK12 K12
        apply wp_seq_k; intro K13 hK13
        refine wp_region_lit ?_
        refine vc_y hF rfl rfl (by decide) _ (y_move rfl rfl) (fun a hF => ?_)
        refine vc_y hF rfl rfl (by decide) _ (y_move rfl rfl) (fun a hF => ?_)
        refine vc_y hF rfl rfl (by decide) _ (y_nilCheck rfl rfl) (fun a hF => ?_)
        refine vc_y hF rfl rfl (by decide) _ (y_field rfl Tryd.underlying56 rfl sz29_kc (by decide) rfl (rfl : (⟨_, 0 + _, none⟩ : Addr) = ⟨_, 0, none⟩)) (fun a hF => ?_)
        refine vc_y hF rfl rfl (by decide) _ (y_ld rfl hA45.q rfl 0 rfl rfl nr29_kc) (fun a hF => ?_)
        refine vc_y hF rfl rfl (by decide) _ (y_slice (v := .slice (some ⟨gL, oL + 1, none⟩) kr.length cL') rfl Tryd.underlying29 kb_szL_byte rfl (.some (k := 1) rfl rfl) (.none _) (by simp) (by omega) (by rw [show (k0 :: kr).length - 1 = kr.length from rfl, show cL' + 1 - 1 = cL' from rfl]; unfold sub; rw [if_neg (by simp at hcL; simp at h1; omega), Option.map_some, Addr.add_mid])) (fun a hF => ?_)
        refine vc_y hF rfl rfl (by decide) _ (y_nilCheck rfl rfl) (fun a hF => ?_)
        refine vc_y hF rfl rfl (by decide) _ (y_field rfl Tryd.underlying56 rfl sz29_kc (by decide) rfl (rfl : (⟨_, 0 + _, none⟩ : Addr) = ⟨_, 0, none⟩)) (fun a hF => ?_)
        refine vc_op rfl (fun K hK => hs_store1 hF rfl rfl hA45 rfl rfl 0 rfl (by simp) rfl sz29_kc (fun w46 hA47 => hK _ _ ?_))
        clear hK K
        replace hA47 : Hp w0 ([row bb BT [.slice (some ⟨gL, oL + 1, none⟩) kr.length cL', .slice (some ⟨gW, oW, none⟩) ((k0 :: kr).length) (cW' + 1), .int .i64 (heldM (heldM hd3 d1) 1), .bool false]] :: XL3 :: XW3 :: kflat (k0 :: kr) :: R) w46 := hA47
        refine vc_nil ?_
        refine hK13 _ _ ?_; clear  hK13 K13
        refine wp_region_lit ?_
        refine vc_y hF rfl rfl (by decide) _ (y_move rfl rfl) (fun a hF => ?_)
        refine vc_y hF rfl rfl (by decide) _ (y_move rfl rfl) (fun a hF => ?_)
        refine vc_y hF rfl rfl (by decide) _ (y_nilCheck rfl rfl) (fun a hF => ?_)
        refine vc_y hF rfl rfl (by decide) _ (y_field rfl Tryd.underlying56 rfl sz29_kc (by decide) rfl (rfl : (⟨_, 0 + _, none⟩ : Addr) = ⟨_, 1, none⟩)) (fun a hF => ?_)
        refine vc_y hF rfl rfl (by decide) _ (y_ld rfl hA47.q rfl 0 rfl rfl nr29_kc) (fun a hF => ?_)
        refine vc_y hF rfl rfl (by decide) _ (y_slice (v := .slice (some ⟨gW, oW + 1, none⟩) kr.length cW') rfl Tryd.underlying29 kb_szL_byte rfl (.some (k := 1) rfl rfl) (.none _) (by simp) (by omega) (by rw [show (k0 :: kr).length - 1 = kr.length from rfl, show cW' + 1 - 1 = cW' from rfl]; unfold sub; rw [if_neg (by simp at hcW; simp at h1; omega), Option.map_some, Addr.add_mid])) (fun a hF => ?_)
        refine vc_y hF rfl rfl (by decide) _ (y_nilCheck rfl rfl) (fun a hF => ?_)
        refine vc_y hF rfl rfl (by decide) _ (y_field rfl Tryd.underlying56 rfl sz29_kc (by decide) rfl (rfl : (⟨_, 0 + _, none⟩ : Addr) = ⟨_, 1, none⟩)) (fun a hF => ?_)
        refine vc_op rfl (fun K hK => hs_store1 hF rfl rfl hA47 rfl rfl 0 rfl (by simp) rfl sz29_kc (fun w48 hA49 => hK _ _ ?_))
        clear hK K
        replace hA49 : Hp w0 ([row bb BT [.slice (some ⟨gL, oL + 1, none⟩) kr.length cL', .slice (some ⟨gW, oW + 1, none⟩) kr.length cW', .int .i64 (heldM (heldM hd3 d1) 1), .bool false]] :: XL3 :: XW3 :: kflat (k0 :: kr) :: R) w48 := hA49
        refine vc_nil ?_
        have hA50 : Hp w0 ([row bb BT [.slice (some ⟨gL, oL + 1, none⟩) kr.length cL', .slice (some ⟨gW, oW + 1, none⟩) kr.length cW', .int .i64 (heldM (heldM hd3 d1) 1), .bool false]] :: XL3 :: XW3 :: kflat kr :: R) w48 := Hl.sub hA49 (by
          simp only [List.flatten_cons, kflat, List.flatMap_cons, List.append_assoc]
          exact List.Sublist.append_left (List.Sublist.append_left (List.Sublist.append_left ((List.sublist_append_right _ _).trans (List.sublist_append_right _ _)) _) _) _)
        exact ⟨kr.length, by rw [hi]; exact Nat.lt_succ_self _, kr, _, _, _, XL3, XW3, rfl, hlastr, by simp at hq4; omega, (fun k hk => hKq k (List.mem_cons_of_mem _ hk)), hLt, hWt, hF.keep [0] rfl, hA50⟩
      · apply wp_seq_k; intro K14 hK14
        apply wp_seq_k; intro K15 hK15
        refine wp_region_lit ?_
        refine vc_y hF rfl rfl (by decide) _ (y_move rfl rfl) (fun a hF => ?_)
        refine vc_y hF rfl rfl (by decide) _ (y_nilCheck rfl rfl) (fun a hF => ?_)
        refine vc_y hF rfl rfl (by decide) _ (y_field rfl Tryd.underlying56 rfl sz29_kc (by decide) rfl (rfl : (⟨_, 0 + _, none⟩ : Addr) = ⟨_, 0, none⟩)) (fun a hF => ?_)
        refine vc_y hF rfl rfl (by decide) _ (y_ld rfl hA23.q rfl 0 rfl rfl nr29_kc) (fun a hF => ?_)
        refine vc_y hF rfl rfl (by decide) _ (y_lenSl rfl Tryd.underlying29 rfl rfl) (fun a hF => ?_)
        refine vc_y hF rfl rfl (by decide) _ (y_cmp rfl rfl rfl rfl (gtr_t (by omega))) (fun a hF => ?_)
        refine vc_y hF rfl rfl (by decide) _ (y_move rfl rfl) (fun a hF => ?_)
        refine vc_yg hF rfl rfl rfl rfl rfl (by decide) _ (y_move rfl rfl) (fun a hF => ?_)
        refine vc_yg hF rfl rfl rfl rfl rfl (by decide) _ (y_nilCheck rfl rfl) (fun a hF => ?_)
        refine vc_yg hF rfl rfl rfl rfl rfl (by decide) _ (y_field rfl Tryd.underlying56 rfl sz3_kc (by decide) rfl (rfl : (⟨_, 0 + _, none⟩ : Addr) = ⟨_, 2, none⟩)) (fun a hF => ?_)
        refine vc_yg hF rfl rfl rfl rfl rfl (by decide) _ (y_ld rfl hA23.q rfl 0 rfl rfl nr3_kc) (fun a hF => ?_)
        refine vc_yg hF rfl rfl rfl rfl rfl (by decide) _ (y_cmp rfl rfl rfl rfl (gtr_f (by omega))) (fun a hF => ?_)
        refine vc_yg hF rfl rfl rfl rfl rfl (by decide) _ (y_move rfl rfl) (fun a hF => ?_)
        refine vc_yg hF rfl rfl rfl rfl rfl (by decide) _ (y_move rfl rfl) (fun a hF => ?_)
        refine vc_yg hF rfl rfl rfl rfl rfl (by decide) _ (y_nilCheck rfl rfl) (fun a hF => ?_)
        refine vc_yg hF rfl rfl rfl rfl rfl (by decide) _ (y_field rfl Tryd.underlying56 rfl sz29_kc (by decide) rfl (rfl : (⟨_, 0 + _, none⟩ : Addr) = ⟨_, 0, none⟩)) (fun a hF => ?_)
        refine vc_yg hF rfl rfl rfl rfl rfl (by decide) _ (y_ld rfl hA23.q rfl 0 rfl rfl nr29_kc) (fun a hF => ?_)
        refine vc_yg hF rfl rfl rfl rfl rfl (by decide) _ (y_lenSl rfl Tryd.underlying29 rfl rfl) (fun a hF => ?_)
        refine vc_yg hF rfl rfl rfl rfl rfl (by decide) _ (y_cmp rfl rfl rfl rfl (gtr_f (by omega))) (fun a hF => ?_)
        refine vc_yg hF rfl rfl rfl rfl rfl (by decide) _ (y_pick rfl rfl rfl) (fun a hF => ?_)
        refine vc_y hF rfl rfl (by decide) _ (y_pick rfl rfl rfl) (fun a hF => ?_)
        refine vc_nil ?_
        refine hK15 _ _ ?_; clear  hK15 K15
        refine vc_false hF rfl ?_
        apply wp_exit
        simp only [Exit.then, Exit.inBlock, ↓reduceIte]
        refine vc_end0 hF Tryd.results30 ?_
        refine ⟨qs, .slice AL qs.length cL, .slice AW qs.length cW, hd3, XL3 ++ (XW3 ++ kflat qs), rfl, ⟨by omega, XL3, XW3, hLq, hWq, hKq, rfl⟩, fun r hr => ?_, hA23.cast (by simp)⟩
        refine List.mem_append_right _ (List.mem_append_right _ ((kflat_mem (List.mem_of_getLast? hlast)).1 ?_))
        rw [hkn]; exact hr
  · apply wp_seq_k; intro K16 hK16
    apply wp_seq_k; intro K17 hK17
    refine wp_region_lit ?_
    refine vc_y hF rfl rfl (by decide) _ (y_move rfl rfl) (fun a hF => ?_)
    refine vc_y hF rfl rfl (by decide) _ (y_nilCheck rfl rfl) (fun a hF => ?_)
    refine vc_y hF rfl rfl (by decide) _ (y_field rfl Tryd.underlying56 rfl sz29_kc (by decide) rfl (rfl : (⟨_, 0 + _, none⟩ : Addr) = ⟨_, 0, none⟩)) (fun a hF => ?_)
    refine vc_y hF rfl rfl (by decide) _ (y_ld rfl hA23.q rfl 0 rfl rfl nr29_kc) (fun a hF => ?_)
    refine vc_y hF rfl rfl (by decide) _ (y_lenSl rfl Tryd.underlying29 rfl rfl) (fun a hF => ?_)
    refine vc_y hF rfl rfl (by decide) _ (y_cmp rfl rfl rfl rfl (gtr_f (by omega))) (fun a hF => ?_)
    refine vc_y hF rfl rfl (by decide) _ (y_move rfl rfl) (fun a hF => ?_)
    refine vc_skip hF rfl rfl rfl rfl rfl rfl (by decide) (fun a hF => ?_)
    refine vc_skip hF rfl rfl rfl rfl rfl rfl (by decide) (fun a hF => ?_)
    refine vc_skip hF rfl rfl rfl rfl rfl rfl (by decide) (fun a hF => ?_)
    refine vc_skip hF rfl rfl rfl rfl rfl rfl (by decide) (fun a hF => ?_)
    refine vc_skip hF rfl rfl rfl rfl rfl rfl (by decide) (fun a hF => ?_)
    refine vc_skip hF rfl rfl rfl rfl rfl rfl (by decide) (fun a hF => ?_)
    refine vc_skipU hF rfl rfl rfl rfl rfl (by decide) (fun a hF => ?_)
    refine vc_skipU hF rfl rfl rfl rfl rfl (by decide) (fun a hF => ?_)
    refine vc_skipU hF rfl rfl rfl rfl rfl (by decide) (fun a hF => ?_)
    refine vc_skipU hF rfl rfl rfl rfl rfl (by decide) (fun a hF => ?_)
    refine vc_skipU hF rfl rfl rfl rfl rfl (by decide) (fun a hF => ?_)
    refine vc_skipU hF rfl rfl rfl rfl rfl (by decide) (fun a hF => ?_)
    refine vc_skip hF rfl rfl rfl rfl rfl rfl (by decide) (fun a hF => ?_)
    refine vc_y hF rfl rfl (by decide) _ (y_pick rfl rfl rfl) (fun a hF => ?_)
    refine vc_nil ?_
    refine hK17 _ _ ?_; clear  hK17 K17
    refine vc_false hF rfl ?_
    apply wp_exit
    simp only [Exit.then, Exit.inBlock, ↓reduceIte]
    refine vc_end0 hF Tryd.results30 ?_
    refine ⟨qs, .slice AL qs.length cL, .slice AW qs.length cW, hd3, XL3 ++ (XW3 ++ kflat qs), rfl, ⟨by omega, XL3, XW3, hLq, hWq, hKq, rfl⟩, fun r hr => ?_, hA23.cast (by simp)⟩
    refine List.mem_append_right _ (List.mem_append_right _ ((kflat_mem (List.mem_of_getLast? hlast)).1 ?_))
    rw [hkn]; exact hr

set_option maxRecDepth 100000 in
set_option maxHeartbeats 4000000 in
theorem kb_stays_byte {lv wv : Value} {BT : TypeId} {held : Int} (w0 w : World) (R : List Seg) (bb : Nat) (ks : List (KeptX (UInt8))) (Y : Seg) (hb : BookV cB 24 5 1 ks lv wv Y) (hA : Hp w0 ([row bb BT [lv, wv, .int .i64 held, .bool false]] :: Y :: R) w) : Calls Tryd.prog 69 #[.pointer (some ⟨bb, 0, none⟩)] w fun e w' => e = .returned (.bool true) ∧ Hp w0 ([row bb BT [lv, wv, .int .i64 held, .bool false]] :: Y :: R) w' := by
  obtain ⟨hn4, XL, XW, hL, hW, hK, rfl⟩ := hb
  replace hA : Hp w0 ([row bb BT [lv, wv, .int .i64 held, .bool false]] :: XL :: XW :: kflat ks :: R) w := hA.cast (by simp)
  obtain ⟨AL, cL, rfl, hcL⟩ := hL.slice
  obtain ⟨AW, cW, rfl, hcW⟩ := hW.slice
  refine vc_enter Tryd.func69 rfl Tryd.ntmps69 (Nat.le_of_ble_eq_true rfl) (fun a hF => ?_)
  apply wp_seq_k; intro K1 hK1
  refine wp_region_lit ?_
  refine vc_y hF rfl rfl (by decide) _ (y_assign rfl rfl) (fun a hF => ?_)
  refine vc_nil ?_
  refine hK1 _ _ ?_; clear  hK1 K1
  apply wp_seq_k; intro K2 hK2
  apply wp_seq_k; intro K3 hK3
  refine wp_region_lit ?_
  refine vc_y hF rfl rfl (by decide) _ (y_assign rfl rfl) (fun a hF => ?_)
  refine vc_nil ?_
  refine hK3 _ _ ?_; clear  hK3 K3
  apply wp_block
  refine vc_loop (G := Nat) (fun i a x => i ≤ ks.length ∧ Fr 43 [(3, .int .i64 (i : Int)), (0, .pointer (some ⟨bb, 0, none⟩))] a ∧ Hp w0 ([row bb BT [.slice AL ks.length cL, .slice AW ks.length cW, .int .i64 held, .bool false]] :: XL :: XW :: kflat ks :: R) x) (fun i => ks.length - i) 0 (⟨Nat.zero_le _, hF.keep [3, 0] rfl, hA⟩) ?_
  clear hF
  rintro i a w2 ⟨hi, hF, hA1⟩
  apply wp_seq_k; intro K4 hK4
  apply wp_seq_k; intro K5 hK5
  refine wp_region_lit ?_
  refine vc_y hF rfl rfl (by decide) _ (y_move rfl rfl) (fun a hF => ?_)
  refine vc_y hF rfl rfl (by decide) _ (y_move rfl rfl) (fun a hF => ?_)
  refine vc_y hF rfl rfl (by decide) _ (y_nilCheck rfl rfl) (fun a hF => ?_)
  refine vc_y hF rfl rfl (by decide) _ (y_field rfl Tryd.underlying56 rfl sz29_kc (by decide) rfl (rfl : (⟨_, 0 + _, none⟩ : Addr) = ⟨_, 0, none⟩)) (fun a hF => ?_)
  refine vc_y hF rfl rfl (by decide) _ (y_ld rfl hA1.q rfl 0 rfl rfl nr29_kc) (fun a hF => ?_)
  refine vc_y hF rfl rfl (by decide) _ (y_lenSl rfl Tryd.underlying29 rfl rfl) (fun a hF => ?_)
  refine vc_y hF rfl rfl (by decide) _ (y_cmp rfl rfl rfl rfl rfl) (fun a hF => ?_)
  refine vc_nil ?_
  refine hK5 _ _ ?_; clear  hK5 K5
  by_cases hlt : i < ks.length
  · refine vc_trueB hF rfl (lss_t (by omega)) ?_
    obtain ⟨k0, hk0⟩ : ∃ k0, ks[i]? = some k0 := ⟨_, List.getElem?_eq_getElem hlt⟩
    have hmem := List.mem_of_getElem? hk0
    obtain ⟨hk1, hk2, hk3, hk4⟩ := hK k0 hmem
    obtain ⟨B1, d1, ev1, _, _, hr1⟩ := hk3.rcIn (w0 := w0) (R := [kflat ks]) (kflat_mem hmem).1 (List.mem_cons_self ..)
    obtain ⟨B2, d2, ev2, _, _, hr2⟩ := hk4.rcIn (w0 := w0) (R := [kflat ks]) (kflat_mem hmem).2 (List.mem_cons_self ..)
    obtain ⟨_, _, f1, _, hc1⟩ := hL.rc (w0 := w0) (R := [XL]) (List.mem_cons_self ..)
    injection f1 with f1 _ _
    subst f1
    obtain ⟨_, _, f2, _, hc2⟩ := hW.rc (w0 := w0) (R := [XW]) (List.mem_cons_self ..)
    injection f2 with f2 _ _
    subst f2
    obtain ⟨gL, oL, rfl, hcc1⟩ := hc1.ne (i := i) (by rw [List.length_map]; exact hlt)
    obtain ⟨gW, oW, rfl, hcc2⟩ := hc2.ne (i := i) (by rw [List.length_map]; exact hlt)
    apply wp_skip
    refine hK4 _ _ ?_; clear  hK4 K4
    apply wp_seq_k; intro K6 hK6
    apply wp_block
    refine wp_region_plan 23 [20,23,24,25] [0,1,2,3,4,5,6,7,8,9,10,11,12,13,14,15,16,17,18,19,20,21,22,23,24,25] (fun x => Hq w0 ([row bb BT [.slice (some ⟨gL, oL, none⟩) ks.length cL, .slice (some ⟨gW, oW, none⟩) ks.length cW, .int .i64 held, .bool false]] :: XL :: XW :: kflat ks :: R) x) (by kernel_rfl) (by kernel_rfl) (Hq.drew (Hp.qp [[row bb BT [.slice (some ⟨gL, oL, none⟩) ks.length cL, .slice (some ⟨gW, oW, none⟩) ks.length cW, .int .i64 held, .bool false]], XL, XW, kflat ks] R [0, 1, 2, 3] hA1)) ?_
    have hA3 := Hl.drew hA1
    refine vp_y hF rfl rfl rfl rfl (by decide) _ (fun x hx => y_move rfl rfl) (fun a hF => ?_)
    refine vp_y hF rfl rfl rfl rfl (by decide) _ (fun x hx => y_move rfl rfl) (fun a hF => ?_)
    refine vp_y hF rfl rfl rfl rfl (by decide) _ (fun x hx => y_nilCheck rfl rfl) (fun a hF => ?_)
    refine vp_y hF rfl rfl rfl rfl (by decide) _ (fun x hx => y_field rfl Tryd.underlying56 rfl sz4_kc (by decide) rfl (rfl : (⟨_, 0 + _, none⟩ : Addr) = ⟨_, 3, none⟩)) (fun a hF => ?_)
    refine vp_y hF rfl rfl rfl rfl (by decide) _ (fun x hx => y_ld rfl hx rfl 0 rfl rfl nr4_kc) (fun a hF => ?_)
    refine vp_y hF rfl rfl rfl rfl (by decide) _ (fun x hx => y_move rfl rfl) (fun a hF => ?_)
    refine vp_yg hF rfl rfl rfl rfl rfl rfl rfl (by decide) _ (fun x hx => y_move rfl rfl) (fun a hF => ?_)
    refine vp_yg hF rfl rfl rfl rfl rfl rfl rfl (by decide) _ (fun x hx => y_nilCheck rfl rfl) (fun a hF => ?_)
    refine vp_yg hF rfl rfl rfl rfl rfl rfl rfl (by decide) _ (fun x hx => y_field rfl Tryd.underlying56 rfl sz29_kc (by decide) rfl (rfl : (⟨_, 0 + _, none⟩ : Addr) = ⟨_, 0, none⟩)) (fun a hF => ?_)
    refine vp_yg hF rfl rfl rfl rfl rfl rfl rfl (by decide) _ (fun x hx => y_ld rfl hx rfl 0 rfl rfl nr29_kc) (fun a hF => ?_)
    refine vp_yg hF rfl rfl rfl rfl rfl rfl rfl (by decide) _ (fun x hx => y_move rfl rfl) (fun a hF => ?_)
    refine vp_yg hF rfl rfl rfl rfl rfl rfl rfl (by decide) _ (fun x hx => y_ixSl rfl Tryd.underlying29 sz24_kc rfl rfl i rfl hlt (ad2 _ _ _)) (fun a hF => ?_)
    refine vp_yg hF rfl rfl rfl rfl rfl rfl rfl (by decide) _ (fun x hx => y_ldC (u := .slice B1 k0.l.length d1) rfl (Hq.sub hx (fun x hx => by rw [List.mem_singleton] at hx; subst hx; simp)) rfl hcc1 i (by rw [List.length_map]; exact hlt) rfl (by rw [List.getElem?_map, hk0]; exact congrArg some ev1) nr24_kc) (fun a hF => ?_)
    refine vp_yg hF rfl rfl rfl rfl rfl rfl rfl (by decide) _ (fun x hx => y_move rfl rfl) (fun a hF => ?_)
    refine vp_yg hF rfl rfl rfl rfl rfl rfl rfl (by decide) _ (fun x hx => y_nilCheck rfl rfl) (fun a hF => ?_)
    refine vp_yg hF rfl rfl rfl rfl rfl rfl rfl (by decide) _ (fun x hx => y_field rfl Tryd.underlying56 rfl sz29_kc (by decide) rfl (rfl : (⟨_, 0 + _, none⟩ : Addr) = ⟨_, 1, none⟩)) (fun a hF => ?_)
    refine vp_yg hF rfl rfl rfl rfl rfl rfl rfl (by decide) _ (fun x hx => y_ld rfl hx rfl 0 rfl rfl nr29_kc) (fun a hF => ?_)
    refine vp_yg hF rfl rfl rfl rfl rfl rfl rfl (by decide) _ (fun x hx => y_move rfl rfl) (fun a hF => ?_)
    refine vp_yg hF rfl rfl rfl rfl rfl rfl rfl (by decide) _ (fun x hx => y_ixSl rfl Tryd.underlying29 sz24_kc rfl rfl i rfl hlt (ad2 _ _ _)) (fun a hF => ?_)
    refine vp_yg hF rfl rfl rfl rfl rfl rfl rfl (by decide) _ (fun x hx => y_ldC (u := .slice B2 k0.l.length d2) rfl (Hq.sub hx (fun x hx => by rw [List.mem_singleton] at hx; subst hx; simp)) rfl hcc2 i (by rw [List.length_map]; exact hlt) rfl (by rw [List.getElem?_map, hk0]; exact congrArg some ev2) nr24_kc) (fun a hF => ?_)
    refine vp_lg hF rfl rfl rfl rfl rfl rfl (fun K hK => ws_call hF rfl (by decide) cl65_kc rfl rfl ?_)
    with_reducible refine (kb_same_byte w0 _ ([row bb BT [.slice (some ⟨gL, oL, none⟩) ks.length cL, .slice (some ⟨gW, oW, none⟩) ks.length cW, .int .i64 held, .bool false]] :: XL :: XW :: kflat ks :: R) B1 B2 k0.l k0.l d1 d2 (hr1.mono (by simp)) (hr2.mono (by simp)) hk1 hk1 hA3 hk2 ).mono ?_
    rintro e' w4 ⟨rfl, hA5⟩
    refine ⟨_, rfl, fun a hF => hK _ _ (fun _ => ?_) ?_⟩
    · exact Hp.qp [[row bb BT [.slice (some ⟨gL, oL, none⟩) ks.length cL, .slice (some ⟨gW, oW, none⟩) ks.length cW, .int .i64 held, .bool false]], XL, XW, kflat ks] R [0, 1, 2, 3] hA5
    clear hK K
    replace hA5 : Hp w0 ([row bb BT [.slice (some ⟨gL, oL, none⟩) ks.length cL, .slice (some ⟨gW, oW, none⟩) ks.length cW, .int .i64 held, .bool false]] :: XL :: XW :: kflat ks :: R) w4 := hA5
    rw [decide_eq_true rfl] at hF
    refine vp_yg hF rfl rfl rfl rfl rfl rfl rfl (by decide) _ (fun x hx => y_not rfl rfl rfl) (fun a hF => ?_)
    refine vp_y hF rfl rfl rfl rfl (by decide) _ (fun x hx => y_pick rfl rfl rfl) (fun a hF => ?_)
    refine vp_ly hF rfl rfl rfl rfl (by decide) _ (y_nilCheck rfl rfl) (fun h => absurd h (by decide)) (fun a hF => ?_)
    refine vp_ly hF rfl rfl rfl rfl (by decide) _ (y_field rfl Tryd.underlying56 rfl sz4_kc (by decide) rfl (rfl : (⟨_, 0 + _, none⟩ : Addr) = ⟨_, 3, none⟩)) (fun h => absurd h (by decide)) (fun a hF => ?_)
    refine vp_l rfl rfl rfl (fun K hK => hs_store1 hF rfl rfl hA5 rfl rfl 0 rfl (by simp) rfl sz4_kc (fun w6 hA7 => hK _ _ (fun h => absurd h (by decide)) ?_))
    clear hK K
    replace hA7 : Hp w0 ([row bb BT [.slice (some ⟨gL, oL, none⟩) ks.length cL, .slice (some ⟨gW, oW, none⟩) ks.length cW, .int .i64 held, .bool false]] :: XL :: XW :: kflat ks :: R) w6 := hA7
    refine plan_end ?_
    refine hK6 _ _ ?_; clear  hK6 K6
    refine wp_region_lit ?_
    refine vc_y hF rfl rfl (by decide) _ (y_move rfl rfl) (fun a hF => ?_)
    refine vc_y hF rfl rfl (by decide) _ (y_add rfl rfl rfl (IntWalk.i64_in _ (by omega))) (fun a hF => ?_)
    refine vc_y hF rfl rfl (by decide) _ (y_assign rfl rfl) (fun a hF => ?_)
    refine vc_nil ?_
    exact ⟨i + 1, by omega, by omega, hF.keep [3, 0] rfl, hA7⟩
  · refine vc_falseB hF rfl (lss_f (by omega)) ?_
    apply wp_exit
    refine hK2 _ _ ?_; clear hK4 K4 hK2 K2
    apply wp_seq_k; intro K7 hK7
    refine wp_region_lit ?_
    refine vc_y hF rfl rfl (by decide) _ (y_move rfl rfl) (fun a hF => ?_)
    refine vc_y hF rfl rfl (by decide) _ (y_nilCheck rfl rfl) (fun a hF => ?_)
    refine vc_y hF rfl rfl (by decide) _ (y_field rfl Tryd.underlying56 rfl sz4_kc (by decide) rfl (rfl : (⟨_, 0 + _, none⟩ : Addr) = ⟨_, 3, none⟩)) (fun a hF => ?_)
    refine vc_y hF rfl rfl (by decide) _ (y_ld rfl hA1.q rfl 0 rfl rfl nr4_kc) (fun a hF => ?_)
    refine vc_y hF rfl rfl (by decide) _ (y_not rfl rfl rfl) (fun a hF => ?_)
    refine vc_y hF rfl rfl (by decide) _ (y_assign rfl rfl) (fun a hF => ?_)
    refine vc_nil ?_
    refine hK7 _ _ ?_; clear  hK7 K7
    apply wp_ret
    refine vc_ret1 hF Tryd.results69 rfl ?_
    exact ⟨rfl, hA1.cast (by simp)⟩
end Go.Proofs.YtppmhlkonemebaaDoor
