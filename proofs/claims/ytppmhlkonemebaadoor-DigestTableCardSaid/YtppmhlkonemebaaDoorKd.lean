/- The statements' books of memory: apart. -/
import Derived.Test.YtppmhlkonemebaaDoorKc
import Derived.Test.YtppmhlkonemebaaDoorBook1
namespace Go.Proofs.YtppmhlkonemebaaDoor
open Go.RowKit Go.Dk
theorem nr5_kd : notRow Tryd.prog 5 = true := by kernel_rfl
theorem nr24_kd : notRow Tryd.prog 24 = true := by kernel_rfl
theorem nr29_kd : notRow Tryd.prog 29 = true := by kernel_rfl
theorem sz3_kd : (Tryd.prog.info? 3).map (·.size) = some 1 := by kernel_rfl
theorem sz5_kd : (Tryd.prog.info? 5).map (·.size) = some 1 := by kernel_rfl
theorem sz24_kd : (Tryd.prog.info? 24).map (·.size) = some 1 := by kernel_rfl
theorem sz29_kd : (Tryd.prog.info? 29).map (·.size) = some 1 := by kernel_rfl
theorem cl69_kd : CallsTo Tryd.prog 69 := ⟨_, Tryd.func69, by kernel_rfl, by kernel_rfl⟩


set_option maxRecDepth 100000 in
set_option maxHeartbeats 4000000 in
theorem kb_apart_byte {lv wv : Value} {BT : TypeId} {held : Int} (w0 w : World) (R : List Seg) (bb fm : Nat) (ks : List (KeptX (UInt8))) (Y : Seg) (mv : Nat → Nat → UInt8) (hml : ∀ i j, (cB (mv i j)).length = 1) (hcf : CallsTo Tryd.prog fm) (hmark : ∀ (i j : Nat) (S : List Seg) (x : World), i < 4000 → j < 9223372036854775807 → Hp w0 S x → Calls Tryd.prog fm #[.int .i64 (i : Int), .int .i64 (j : Int)] x fun e x' => e = .returned (.int .u8 ((mv i j).toNat : Int)) ∧ Hp w0 S x') (hb : BookV cB 24 5 1 ks lv wv Y) (hA : Hp w0 ([row bb BT [lv, wv, .int .i64 held, .bool false]] :: Y :: R) w) : Calls Tryd.prog 31 #[.pointer (some ⟨bb, 0, none⟩), .func (.func fm) #[] #[]] w fun e w' => e = .returned (.bool true) ∧ Hp w0 ([row bb BT [.slice none 0 0, .slice none 0 0, .int .i64 0, .bool false]] :: R) w' := by
  refine vc_enter Tryd.func31 rfl Tryd.ntmps31 (Nat.le_of_ble_eq_true rfl) (fun a hF => ?_)
  apply wp_seq_k; intro K1 hK1
  refine wp_region_lit ?_
  refine vc_y hF rfl rfl (by decide) _ (y_assign rfl rfl) (fun a hF => ?_)
  refine vc_nil ?_
  refine hK1 _ _ ?_; clear  hK1 K1
  apply wp_seq_k; intro K2 hK2
  apply wp_seq_k; intro K3 hK3
  refine wp_region_lit ?_
  refine vc_y hF rfl rfl (by decide) _ (y_move rfl rfl) (fun a hF => ?_)
  refine vc_op rfl (fun K hK => ws_call hF rfl (by decide) cl69_kd rfl rfl ?_)
  with_reducible refine (kb_stays_byte w0 _ R bb ks Y hb hA ).mono ?_
  rintro e' w1 ⟨rfl, hA2⟩
  refine ⟨_, rfl, fun a hF => hK _ _ ?_⟩
  clear hK K
  replace hA2 : Hp w0 ([row bb BT [lv, wv, .int .i64 held, .bool false]] :: Y :: R) w1 := hA2
  refine vc_y hF rfl rfl (by decide) _ (y_not rfl rfl rfl) (fun a hF => ?_)
  refine vc_nil ?_
  refine hK3 _ _ ?_; clear  hK3 K3
  refine vc_false hF rfl ?_
  apply wp_skip
  refine hK2 _ _ ?_; clear  hK2 K2
  apply wp_seq_k; intro K4 hK4
  apply wp_seq_k; intro K5 hK5
  refine wp_region_lit ?_
  refine vc_y hF rfl rfl (by decide) _ (y_assign rfl rfl) (fun a hF => ?_)
  refine vc_nil ?_
  refine hK5 _ _ ?_; clear  hK5 K5
  apply wp_block
  obtain ⟨hn4, XL, XW, hL, hW, hK, rfl⟩ := hb
  obtain ⟨AL, cL, rfl, hcL⟩ := hL.slice
  obtain ⟨AW, cW, rfl, hcW⟩ := hW.slice
  obtain ⟨_, _, f1, _, hc1⟩ := hL.rc (w0 := w0) (R := [XL]) (List.mem_cons_self ..)
  injection f1 with f1 _ _
  subst f1
  have hA3 := Hp.bookX hA2
  refine vc_loop (G := Nat) (fun i a x => ∃ (XS : List Seg), i ≤ ks.length ∧ ApS cB 5 1 mv ks i XS ∧ Fr 101 [(5, .int .i64 (i : Int)), (0, .pointer (some ⟨bb, 0, none⟩)), (1, .func (.func fm) #[] #[])] a ∧ Hp w0 ([row bb BT [.slice AL ks.length cL, .slice AW ks.length cW, .int .i64 held, .bool false]] :: XL :: XS.flatten :: R) x) (fun i => ks.length - i) 0 (⟨ks.map (·.X), Nat.zero_le _, ApS.new hK, hF.keep [5, 0, 1] rfl, hA3⟩) ?_
  clear hF
  rintro i a w5 ⟨XS, hi, hap, hF, hA4⟩
  apply wp_seq_k; intro K6 hK6
  apply wp_seq_k; intro K7 hK7
  refine wp_region_lit ?_
  refine vc_y hF rfl rfl (by decide) _ (y_move rfl rfl) (fun a hF => ?_)
  refine vc_y hF rfl rfl (by decide) _ (y_move rfl rfl) (fun a hF => ?_)
  refine vc_y hF rfl rfl (by decide) _ (y_nilCheck rfl rfl) (fun a hF => ?_)
  refine vc_y hF rfl rfl (by decide) _ (y_field rfl Tryd.underlying56 rfl sz29_kd (by decide) rfl (rfl : (⟨_, 0 + _, none⟩ : Addr) = ⟨_, 0, none⟩)) (fun a hF => ?_)
  refine vc_y hF rfl rfl (by decide) _ (y_ld rfl hA4.q rfl 0 rfl rfl nr29_kd) (fun a hF => ?_)
  refine vc_y hF rfl rfl (by decide) _ (y_lenSl rfl Tryd.underlying29 rfl rfl) (fun a hF => ?_)
  refine vc_y hF rfl rfl (by decide) _ (y_cmp rfl rfl rfl rfl rfl) (fun a hF => ?_)
  refine vc_nil ?_
  refine hK7 _ _ ?_; clear  hK7 K7
  by_cases hlt : i < ks.length
  · refine vc_trueB hF rfl (lss_t (by omega)) ?_
    obtain ⟨k0, X0, hk0, hX0, _, hbuf⟩ := hap.at hlt
    replace hbuf := hbuf (Nat.le_refl _)
    obtain ⟨A, c, ev, hcap1, hcap2⟩ := hbuf.cap
    rw [ev] at hbuf
    have hA6 := Hp.outX hA4 hX0
    obtain ⟨gL, oL, eAL, hcc1⟩ := hc1.ne (i := i) (by rw [List.length_map]; exact hlt)
    subst eAL
    apply wp_skip
    refine hK6 _ _ ?_; clear  hK6 K6
    apply wp_seq_k; intro K8 hK8
    apply wp_block
    apply wp_seq_k; intro K9 hK9
    refine wp_region_plan 16 [16] [0,1,2,3,4,5,6,7,8,9,10,11,12,13,14,15,16] (fun x => Hq w0 ([row bb BT [.slice (some ⟨gL, oL, none⟩) ks.length cL, .slice AW ks.length cW, .int .i64 held, .bool false]] :: XL :: X0 :: (XS.eraseIdx i).flatten :: R) x) (by kernel_rfl) (by kernel_rfl) (Hq.drew (Hp.qp [[row bb BT [.slice (some ⟨gL, oL, none⟩) ks.length cL, .slice AW ks.length cW, .int .i64 held, .bool false]], XL, X0, (XS.eraseIdx i).flatten] R [0, 1, 2, 3] hA6)) ?_
    have hA7 := Hl.drew hA6
    refine vp_y hF rfl rfl rfl rfl (by decide) _ (fun x hx => y_move rfl rfl) (fun a hF => ?_)
    refine vp_y hF rfl rfl rfl rfl (by decide) _ (fun x hx => y_nilCheck rfl rfl) (fun a hF => ?_)
    refine vp_y hF rfl rfl rfl rfl (by decide) _ (fun x hx => y_field rfl Tryd.underlying56 rfl sz29_kd (by decide) rfl (rfl : (⟨_, 0 + _, none⟩ : Addr) = ⟨_, 0, none⟩)) (fun a hF => ?_)
    refine vp_y hF rfl rfl rfl rfl (by decide) _ (fun x hx => y_ld rfl hx rfl 0 rfl rfl nr29_kd) (fun a hF => ?_)
    refine vp_y hF rfl rfl rfl rfl (by decide) _ (fun x hx => y_move rfl rfl) (fun a hF => ?_)
    refine vp_y hF rfl rfl rfl rfl (by decide) _ (fun x hx => y_ixSl rfl Tryd.underlying29 sz24_kd rfl rfl i rfl hlt (ad2 _ _ _)) (fun a hF => ?_)
    refine vp_y hF rfl rfl rfl rfl (by decide) _ (fun x hx => y_ldC (u := .slice A k0.l.length c) rfl (Hq.sub hx (fun x hx => by rw [List.mem_singleton] at hx; subst hx; simp)) rfl hcc1 i (by rw [List.length_map]; exact hlt) rfl (by rw [List.getElem?_map, hk0]; exact congrArg some ev) nr24_kd) (fun a hF => ?_)
    refine vp_y hF rfl rfl rfl rfl (by decide) _ (fun x hx => y_move rfl rfl) (fun a hF => ?_)
    refine vp_y hF rfl rfl rfl rfl (by decide) _ (fun x hx => y_nilCheck rfl rfl) (fun a hF => ?_)
    refine vp_y hF rfl rfl rfl rfl (by decide) _ (fun x hx => y_field rfl Tryd.underlying56 rfl sz29_kd (by decide) rfl (rfl : (⟨_, 0 + _, none⟩ : Addr) = ⟨_, 0, none⟩)) (fun a hF => ?_)
    refine vp_y hF rfl rfl rfl rfl (by decide) _ (fun x hx => y_ld rfl hx rfl 0 rfl rfl nr29_kd) (fun a hF => ?_)
    refine vp_y hF rfl rfl rfl rfl (by decide) _ (fun x hx => y_move rfl rfl) (fun a hF => ?_)
    refine vp_y hF rfl rfl rfl rfl (by decide) _ (fun x hx => y_ixSl rfl Tryd.underlying29 sz24_kd rfl rfl i rfl hlt (ad2 _ _ _)) (fun a hF => ?_)
    refine vp_y hF rfl rfl rfl rfl (by decide) _ (fun x hx => y_ldC (u := .slice A k0.l.length c) rfl (Hq.sub hx (fun x hx => by rw [List.mem_singleton] at hx; subst hx; simp)) rfl hcc1 i (by rw [List.length_map]; exact hlt) rfl (by rw [List.getElem?_map, hk0]; exact congrArg some ev) nr24_kd) (fun a hF => ?_)
    refine vp_y hF rfl rfl rfl rfl (by decide) _ (fun x hx => y_capSl rfl Tryd.underlying24 rfl) (fun a hF => ?_)
    refine vp_y hF rfl rfl rfl rfl (by decide) _ (fun x hx => y_slice rfl Tryd.underlying24 kb_sz_byte rfl (.none 0) (.some rfl rfl) (Nat.zero_le _) (Nat.le_refl _) slice_to) (fun a hF => ?_)
    refine vp_ly hF rfl rfl rfl rfl (by decide) _ (y_assign rfl rfl) (fun h => absurd h (by decide)) (fun a hF => ?_)
    refine plan_end ?_
    refine hK9 _ _ ?_; clear  hK9 K9
    apply wp_seq_k; intro K10 hK10
    refine wp_region_lit ?_
    refine vc_y hF rfl rfl (by decide) _ (y_assign rfl rfl) (fun a hF => ?_)
    refine vc_nil ?_
    refine hK10 _ _ ?_; clear  hK10 K10
    apply wp_block
    refine vc_loop (G := Nat) (fun j a x => ∃ (X1 : Seg), j ≤ c ∧ Buf 5 1 X1 (.slice A j c) j (cel cB (mkL (mv i) j)) ∧ Fr 101 [(7, .int .i64 (j : Int)), (0, .pointer (some ⟨bb, 0, none⟩)), (1, .func (.func fm) #[] #[]), (5, .int .i64 (i : Int)), (6, .slice A c c)] a ∧ Hp w0 ([row bb BT [.slice (some ⟨gL, oL, none⟩) ks.length cL, .slice AW ks.length cW, .int .i64 held, .bool false]] :: XL :: X1 :: (XS.eraseIdx i).flatten :: R) x) (fun j => c - j) 0 (⟨X0, Nat.zero_le _, hbuf.forget, hF.keep [7, 0, 1, 5, 6] rfl, hA7⟩) ?_
    clear hF
    rintro j a w9 ⟨X1, hj, hbj, hF, hA8⟩
    apply wp_seq_k; intro K11 hK11
    apply wp_seq_k; intro K12 hK12
    refine wp_region_lit ?_
    refine vc_y hF rfl rfl (by decide) _ (y_move rfl rfl) (fun a hF => ?_)
    refine vc_y hF rfl rfl (by decide) _ (y_move rfl rfl) (fun a hF => ?_)
    refine vc_y hF rfl rfl (by decide) _ (y_lenSl rfl Tryd.underlying24 rfl rfl) (fun a hF => ?_)
    refine vc_y hF rfl rfl (by decide) _ (y_cmp rfl rfl rfl rfl rfl) (fun a hF => ?_)
    refine vc_nil ?_
    refine hK12 _ _ ?_; clear  hK12 K12
    by_cases hltj : j < c
    · refine vc_trueB hF rfl (lss_t (by omega)) ?_
      obtain ⟨g1, B1, Z1, rfl, rfl, hWl, hZl, hnx⟩ := hbj.opens hltj
      apply wp_skip
      refine hK11 _ _ ?_; clear  hK11 K11
      apply wp_seq_k; intro K13 hK13
      apply wp_block
      refine wp_region_lit ?_
      refine vc_y hF rfl rfl (by decide) _ (y_move rfl rfl) (fun a hF => ?_)
      refine vc_y hF rfl rfl (by decide) _ (y_move rfl rfl) (fun a hF => ?_)
      refine vc_y hF rfl rfl (by decide) _ (y_move rfl rfl) (fun a hF => ?_)
      refine vc_y hF rfl rfl (by decide) _ (y_move rfl rfl) (fun a hF => ?_)
      refine vc_y hF rfl rfl (by decide) _ (y_move rfl rfl) (fun a hF => ?_)
      refine vc_op rfl (fun K hK => ws_callV hF rfl (by decide) hcf rfl rfl rfl ?_)
      with_reducible refine (hmark i j ([row bb BT [.slice (some ⟨gL, oL, none⟩) ks.length cL, .slice AW ks.length cW, .int .i64 held, .bool false]] :: XL :: [row g1 5 (B1 ++ cel cB (mkL (mv i) j) ++ Z1)] :: (XS.eraseIdx i).flatten :: R) _ (by omega) (by omega) hA8 ).mono ?_
      rintro e' w10 ⟨rfl, hA11⟩
      refine ⟨_, rfl, fun a hF => hK _ _ ?_⟩
      clear hK K
      replace hA11 : Hp w0 ([row bb BT [.slice (some ⟨gL, oL, none⟩) ks.length cL, .slice AW ks.length cW, .int .i64 held, .bool false]] :: XL :: [row g1 5 (B1 ++ cel cB (mkL (mv i) j) ++ Z1)] :: (XS.eraseIdx i).flatten :: R) w10 := hA11
      refine vc_y hF rfl rfl (by decide) _ (y_ixSl rfl Tryd.underlying24 sz5_kd rfl rfl j rfl hltj (ad2 _ _ _)) (fun a hF => ?_)
      refine vc_op rfl (fun K hK => hs_store1 hF rfl rfl hA11 rfl rfl 2 rfl (by rw [List.length_append, List.length_append, hWl]; omega) rfl sz5_kd (fun w12 hA13 => hK _ _ ?_))
      clear hK K
      replace hA13 : Hp w0 ([row bb BT [.slice (some ⟨gL, oL, none⟩) ks.length cL, .slice AW ks.length cW, .int .i64 held, .bool false]] :: XL :: [row g1 5 ((B1 ++ cel cB (mkL (mv i) j) ++ Z1).set (B1.length + j) (.int .u8 ((mv i j).toNat : Int)))] :: (XS.eraseIdx i).flatten :: R) w12 := hA13
      have hA14 : Hp w0 ([row bb BT [.slice (some ⟨gL, oL, none⟩) ks.length cL, .slice AW ks.length cW, .int .i64 held, .bool false]] :: XL :: [row g1 5 (B1 ++ cel cB (mkL (mv i) j) ++ (cB (mv i j) ++ Z1.drop 1))] :: (XS.eraseIdx i).flatten :: R) w12 := by
        have hsm := set_mid (B := B1) (Z := Z1) (u := .int .u8 ((mv i j).toNat : Int)) (hWl.trans (Nat.mul_one _)) hZl
        rw [hsm] at hA13; exact hA13
      refine vc_nil ?_
      refine hK13 _ _ ?_; clear  hK13 K13
      refine wp_region_lit ?_
      refine vc_y hF rfl rfl (by decide) _ (y_move rfl rfl) (fun a hF => ?_)
      refine vc_y hF rfl rfl (by decide) _ (y_add rfl rfl rfl (IntWalk.i64_in _ (by omega))) (fun a hF => ?_)
      refine vc_y hF rfl rfl (by decide) _ (y_assign rfl rfl) (fun a hF => ?_)
      refine vc_nil ?_
      exact ⟨j + 1, by omega, _, by omega, (by rw [cel_mk]; exact hnx _ (hml i j)), hF.keep [7, 0, 1, 5, 6] rfl, hA14⟩
    · refine vc_falseB hF rfl (lss_f (by omega)) ?_
      have hjc : j = c := by omega
      rw [hjc] at hbj
      apply wp_exit
      refine hK8 _ _ ?_; clear hK11 K11 hK8 K8
      refine wp_region_lit ?_
      refine vc_y hF rfl rfl (by decide) _ (y_move rfl rfl) (fun a hF => ?_)
      refine vc_y hF rfl rfl (by decide) _ (y_add rfl rfl rfl (IntWalk.i64_in _ (by omega))) (fun a hF => ?_)
      refine vc_y hF rfl rfl (by decide) _ (y_assign rfl rfl) (fun a hF => ?_)
      refine vc_nil ?_
      have hA15 := Hp.inX hA8 (by rw [hap.1]; exact hlt)
      exact ⟨i + 1, by omega, _, by omega, hap.step hk0 ⟨A, c, ev, hbj⟩, hF.keep [5, 0, 1] rfl, hA15⟩
  · refine vc_falseB hF rfl (lss_f (by omega)) ?_
    have hie : i = ks.length := by omega
    rw [hie] at hap
    apply wp_exit
    refine hK4 _ _ ?_; clear hK6 K6 hK4 K4
    apply wp_seq_k; intro K14 hK14
    apply wp_seq_k; intro K15 hK15
    refine wp_region_lit ?_
    refine vc_y hF rfl rfl (by decide) _ (y_assign rfl rfl) (fun a hF => ?_)
    refine vc_nil ?_
    refine hK15 _ _ ?_; clear  hK15 K15
    apply wp_block
    refine vc_loop (G := Nat) (fun i a x => i ≤ ks.length ∧ Fr 101 [(8, .int .i64 (i : Int)), (0, .pointer (some ⟨bb, 0, none⟩)), (1, .func (.func fm) #[] #[])] a ∧ Hp w0 ([row bb BT [.slice AL ks.length cL, .slice AW ks.length cW, .int .i64 held, .bool false]] :: XL :: XS.flatten :: R) x) (fun i => ks.length - i) 0 (⟨Nat.zero_le _, hF.keep [8, 0, 1] rfl, hA4⟩) ?_
    clear hF
    rintro i a w17 ⟨hi2, hF, hA16⟩
    apply wp_seq_k; intro K16 hK16
    apply wp_seq_k; intro K17 hK17
    refine wp_region_lit ?_
    refine vc_y hF rfl rfl (by decide) _ (y_move rfl rfl) (fun a hF => ?_)
    refine vc_y hF rfl rfl (by decide) _ (y_move rfl rfl) (fun a hF => ?_)
    refine vc_y hF rfl rfl (by decide) _ (y_nilCheck rfl rfl) (fun a hF => ?_)
    refine vc_y hF rfl rfl (by decide) _ (y_field rfl Tryd.underlying56 rfl sz29_kd (by decide) rfl (rfl : (⟨_, 0 + _, none⟩ : Addr) = ⟨_, 0, none⟩)) (fun a hF => ?_)
    refine vc_y hF rfl rfl (by decide) _ (y_ld rfl hA16.q rfl 0 rfl rfl nr29_kd) (fun a hF => ?_)
    refine vc_y hF rfl rfl (by decide) _ (y_lenSl rfl Tryd.underlying29 rfl rfl) (fun a hF => ?_)
    refine vc_y hF rfl rfl (by decide) _ (y_cmp rfl rfl rfl rfl rfl) (fun a hF => ?_)
    refine vc_nil ?_
    refine hK17 _ _ ?_; clear  hK17 K17
    by_cases hlt : i < ks.length
    · refine vc_trueB hF rfl (lss_t (by omega)) ?_
      clear hie
      obtain ⟨k0, X0, hk0, hX0, hm, _⟩ := hap.at hlt
      obtain ⟨A, c, ev, hbm⟩ := hm hlt
      obtain ⟨A', c', e', _, hcap2, hrc⟩ := hbm.rcIn (w0 := w0) (R := [XS.flatten]) (fun r hr => List.mem_flatten.2 ⟨X0, List.mem_of_getElem? hX0, hr⟩) (List.mem_cons_self ..)
      injection e' with e' _ e''
      subst e' e''
      obtain ⟨gL, oL, eAL, hcc1⟩ := hc1.ne (i := i) (by rw [List.length_map]; exact hlt)
      subst eAL
      apply wp_skip
      refine hK16 _ _ ?_; clear  hK16 K16
      apply wp_seq_k; intro K18 hK18
      apply wp_block
      apply wp_seq_k; intro K19 hK19
      refine wp_region_plan 16 [16] [0,1,2,3,4,5,6,7,8,9,10,11,12,13,14,15,16] (fun x => Hq w0 ([row bb BT [.slice (some ⟨gL, oL, none⟩) ks.length cL, .slice AW ks.length cW, .int .i64 held, .bool false]] :: XL :: XS.flatten :: R) x) (by kernel_rfl) (by kernel_rfl) (Hq.drew (Hp.qp [[row bb BT [.slice (some ⟨gL, oL, none⟩) ks.length cL, .slice AW ks.length cW, .int .i64 held, .bool false]], XL, XS.flatten] R [0, 1, 2] hA16)) ?_
      have hA18 := Hl.drew hA16
      refine vp_y hF rfl rfl rfl rfl (by decide) _ (fun x hx => y_move rfl rfl) (fun a hF => ?_)
      refine vp_y hF rfl rfl rfl rfl (by decide) _ (fun x hx => y_nilCheck rfl rfl) (fun a hF => ?_)
      refine vp_y hF rfl rfl rfl rfl (by decide) _ (fun x hx => y_field rfl Tryd.underlying56 rfl sz29_kd (by decide) rfl (rfl : (⟨_, 0 + _, none⟩ : Addr) = ⟨_, 0, none⟩)) (fun a hF => ?_)
      refine vp_y hF rfl rfl rfl rfl (by decide) _ (fun x hx => y_ld rfl hx rfl 0 rfl rfl nr29_kd) (fun a hF => ?_)
      refine vp_y hF rfl rfl rfl rfl (by decide) _ (fun x hx => y_move rfl rfl) (fun a hF => ?_)
      refine vp_y hF rfl rfl rfl rfl (by decide) _ (fun x hx => y_ixSl rfl Tryd.underlying29 sz24_kd rfl rfl i rfl hlt (ad2 _ _ _)) (fun a hF => ?_)
      refine vp_y hF rfl rfl rfl rfl (by decide) _ (fun x hx => y_ldC (u := .slice A k0.l.length c) rfl (Hq.sub hx (fun x hx => by rw [List.mem_singleton] at hx; subst hx; simp)) rfl hcc1 i (by rw [List.length_map]; exact hlt) rfl (by rw [List.getElem?_map, hk0]; exact congrArg some ev) nr24_kd) (fun a hF => ?_)
      refine vp_y hF rfl rfl rfl rfl (by decide) _ (fun x hx => y_move rfl rfl) (fun a hF => ?_)
      refine vp_y hF rfl rfl rfl rfl (by decide) _ (fun x hx => y_nilCheck rfl rfl) (fun a hF => ?_)
      refine vp_y hF rfl rfl rfl rfl (by decide) _ (fun x hx => y_field rfl Tryd.underlying56 rfl sz29_kd (by decide) rfl (rfl : (⟨_, 0 + _, none⟩ : Addr) = ⟨_, 0, none⟩)) (fun a hF => ?_)
      refine vp_y hF rfl rfl rfl rfl (by decide) _ (fun x hx => y_ld rfl hx rfl 0 rfl rfl nr29_kd) (fun a hF => ?_)
      refine vp_y hF rfl rfl rfl rfl (by decide) _ (fun x hx => y_move rfl rfl) (fun a hF => ?_)
      refine vp_y hF rfl rfl rfl rfl (by decide) _ (fun x hx => y_ixSl rfl Tryd.underlying29 sz24_kd rfl rfl i rfl hlt (ad2 _ _ _)) (fun a hF => ?_)
      refine vp_y hF rfl rfl rfl rfl (by decide) _ (fun x hx => y_ldC (u := .slice A k0.l.length c) rfl (Hq.sub hx (fun x hx => by rw [List.mem_singleton] at hx; subst hx; simp)) rfl hcc1 i (by rw [List.length_map]; exact hlt) rfl (by rw [List.getElem?_map, hk0]; exact congrArg some ev) nr24_kd) (fun a hF => ?_)
      refine vp_y hF rfl rfl rfl rfl (by decide) _ (fun x hx => y_capSl rfl Tryd.underlying24 rfl) (fun a hF => ?_)
      refine vp_y hF rfl rfl rfl rfl (by decide) _ (fun x hx => y_slice rfl Tryd.underlying24 kb_sz_byte rfl (.none 0) (.some rfl rfl) (Nat.zero_le _) (Nat.le_refl _) slice_to) (fun a hF => ?_)
      refine vp_ly hF rfl rfl rfl rfl (by decide) _ (y_assign rfl rfl) (fun h => absurd h (by decide)) (fun a hF => ?_)
      refine plan_end ?_
      refine hK19 _ _ ?_; clear  hK19 K19
      apply wp_seq_k; intro K20 hK20
      refine wp_region_lit ?_
      refine vc_y hF rfl rfl (by decide) _ (y_assign rfl rfl) (fun a hF => ?_)
      refine vc_nil ?_
      refine hK20 _ _ ?_; clear  hK20 K20
      apply wp_block
      refine vc_loop (G := Nat) (fun j a x => j ≤ c ∧ Fr 101 [(10, .int .i64 (j : Int)), (0, .pointer (some ⟨bb, 0, none⟩)), (1, .func (.func fm) #[] #[]), (8, .int .i64 (i : Int)), (9, .slice A c c)] a ∧ Hp w0 ([row bb BT [.slice (some ⟨gL, oL, none⟩) ks.length cL, .slice AW ks.length cW, .int .i64 held, .bool false]] :: XL :: XS.flatten :: R) x) (fun j => c - j) 0 (⟨Nat.zero_le _, hF.keep [10, 0, 1, 8, 9] rfl, hA18⟩) ?_
      clear hF
      rintro j a w20 ⟨hj, hF, hA19⟩
      apply wp_seq_k; intro K21 hK21
      apply wp_seq_k; intro K22 hK22
      refine wp_region_lit ?_
      refine vc_y hF rfl rfl (by decide) _ (y_move rfl rfl) (fun a hF => ?_)
      refine vc_y hF rfl rfl (by decide) _ (y_move rfl rfl) (fun a hF => ?_)
      refine vc_y hF rfl rfl (by decide) _ (y_lenSl rfl Tryd.underlying24 rfl rfl) (fun a hF => ?_)
      refine vc_y hF rfl rfl (by decide) _ (y_cmp rfl rfl rfl rfl rfl) (fun a hF => ?_)
      refine vc_nil ?_
      refine hK22 _ _ ?_; clear  hK22 K22
      by_cases hltj : j < c
      · refine vc_trueB hF rfl (lss_t (by omega)) ?_
        obtain ⟨hd1, hd2⟩ := cel_at1 (u := .int .u8 ((mv i j).toNat : Int)) (mkL_one (hml i) c) (mkL_at (mv i) hltj) rfl
        obtain ⟨b, o, rfl, hc⟩ := hrc.ne (i := j) hd2
        apply wp_skip
        refine hK21 _ _ ?_; clear  hK21 K21
        apply wp_seq_k; intro K23 hK23
        apply wp_block
        apply wp_seq_k; intro K24 hK24
        refine wp_region_plan 8 [7,8] [0,1,2,3,4,5,6,7,8] (fun x => Hq w0 ([row bb BT [.slice (some ⟨gL, oL, none⟩) ks.length cL, .slice AW ks.length cW, .int .i64 held, .bool false]] :: XL :: XS.flatten :: R) x) (by kernel_rfl) (by kernel_rfl) (Hq.drew (Hp.qp [[row bb BT [.slice (some ⟨gL, oL, none⟩) ks.length cL, .slice AW ks.length cW, .int .i64 held, .bool false]], XL, XS.flatten] R [0, 1, 2] hA19)) ?_
        have hA21 := Hl.drew hA19
        refine vp_y hF rfl rfl rfl rfl (by decide) _ (fun x hx => y_move rfl rfl) (fun a hF => ?_)
        refine vp_y hF rfl rfl rfl rfl (by decide) _ (fun x hx => y_move rfl rfl) (fun a hF => ?_)
        refine vp_y hF rfl rfl rfl rfl (by decide) _ (fun x hx => y_ixSl rfl Tryd.underlying24 sz5_kd rfl rfl j rfl hltj (ad2 _ _ _)) (fun a hF => ?_)
        refine vp_y hF rfl rfl rfl rfl (by decide) _ (fun x hx => y_ldC (u := .int .u8 ((mv i j).toNat : Int)) rfl (Hq.sub hx (fun x hx => by rw [List.mem_singleton] at hx; subst hx; simp)) rfl hc j hd2 rfl hd1 nr5_kd) (fun a hF => ?_)
        refine vp_y hF rfl rfl rfl rfl (by decide) _ (fun x hx => y_move rfl rfl) (fun a hF => ?_)
        refine vp_y hF rfl rfl rfl rfl (by decide) _ (fun x hx => y_move rfl rfl) (fun a hF => ?_)
        refine vp_y hF rfl rfl rfl rfl (by decide) _ (fun x hx => y_move rfl rfl) (fun a hF => ?_)
        refine vp_l rfl rfl rfl (fun K hK => ws_callV hF rfl (by decide) hcf rfl rfl rfl ?_)
        with_reducible refine (hmark i j ([row bb BT [.slice (some ⟨gL, oL, none⟩) ks.length cL, .slice AW ks.length cW, .int .i64 held, .bool false]] :: XL :: XS.flatten :: R) _ (by omega) (by omega) hA21 ).mono ?_
        rintro e' w22 ⟨rfl, hA23⟩
        refine ⟨_, rfl, fun a hF => hK _ _ (fun _ => ?_) ?_⟩
        · exact Hp.qp [[row bb BT [.slice (some ⟨gL, oL, none⟩) ks.length cL, .slice AW ks.length cW, .int .i64 held, .bool false]], XL, XS.flatten] R [0, 1, 2] hA23
        clear hK K
        replace hA23 : Hp w0 ([row bb BT [.slice (some ⟨gL, oL, none⟩) ks.length cL, .slice AW ks.length cW, .int .i64 held, .bool false]] :: XL :: XS.flatten :: R) w22 := hA23
        refine vp_ly hF rfl rfl rfl rfl (by decide) _ (y_cmp rfl rfl rfl rfl (neq_f rfl)) (fun h => absurd h (by decide)) (fun a hF => ?_)
        refine plan_end ?_
        refine hK24 _ _ ?_; clear  hK24 K24
        refine vc_false hF rfl ?_
        apply wp_skip
        refine hK23 _ _ ?_; clear  hK23 K23
        refine wp_region_lit ?_
        refine vc_y hF rfl rfl (by decide) _ (y_move rfl rfl) (fun a hF => ?_)
        refine vc_y hF rfl rfl (by decide) _ (y_add rfl rfl rfl (IntWalk.i64_in _ (by omega))) (fun a hF => ?_)
        refine vc_y hF rfl rfl (by decide) _ (y_assign rfl rfl) (fun a hF => ?_)
        refine vc_nil ?_
        exact ⟨j + 1, by omega, by omega, hF.keep [10, 0, 1, 8, 9] rfl, hA23⟩
      · refine vc_falseB hF rfl (lss_f (by omega)) ?_
        apply wp_exit
        refine hK18 _ _ ?_; clear hK21 K21 hK18 K18
        refine wp_region_lit ?_
        refine vc_y hF rfl rfl (by decide) _ (y_move rfl rfl) (fun a hF => ?_)
        refine vc_y hF rfl rfl (by decide) _ (y_add rfl rfl rfl (IntWalk.i64_in _ (by omega))) (fun a hF => ?_)
        refine vc_y hF rfl rfl (by decide) _ (y_assign rfl rfl) (fun a hF => ?_)
        refine vc_nil ?_
        exact ⟨i + 1, by omega, by omega, hF.keep [8, 0, 1] rfl, hA19⟩
    · refine vc_falseB hF rfl (lss_f (by omega)) ?_
      apply wp_exit
      refine hK14 _ _ ?_; clear hK16 K16 hK14 K14
      apply wp_seq_k; intro K25 hK25
      refine wp_region_lit ?_
      refine vc_y hF rfl rfl (by decide) _ (y_move rfl rfl) (fun a hF => ?_)
      refine vc_y hF rfl rfl (by decide) _ (y_nilCheck rfl rfl) (fun a hF => ?_)
      refine vc_y hF rfl rfl (by decide) _ (y_field rfl Tryd.underlying56 rfl sz29_kd (by decide) rfl (rfl : (⟨_, 0 + _, none⟩ : Addr) = ⟨_, 0, none⟩)) (fun a hF => ?_)
      refine vc_op rfl (fun K hK => hs_store1 hF rfl rfl hA16 rfl rfl 0 rfl (by simp) rfl sz29_kd (fun w24 hA25 => hK _ _ ?_))
      clear hK K
      replace hA25 : Hp w0 ([row bb BT [.slice none 0 0, .slice AW ks.length cW, .int .i64 held, .bool false]] :: XL :: XS.flatten :: R) w24 := hA25
      refine vc_nil ?_
      refine hK25 _ _ ?_; clear  hK25 K25
      apply wp_seq_k; intro K26 hK26
      refine wp_region_lit ?_
      refine vc_y hF rfl rfl (by decide) _ (y_move rfl rfl) (fun a hF => ?_)
      refine vc_y hF rfl rfl (by decide) _ (y_nilCheck rfl rfl) (fun a hF => ?_)
      refine vc_y hF rfl rfl (by decide) _ (y_field rfl Tryd.underlying56 rfl sz29_kd (by decide) rfl (rfl : (⟨_, 0 + _, none⟩ : Addr) = ⟨_, 1, none⟩)) (fun a hF => ?_)
      refine vc_op rfl (fun K hK => hs_store1 hF rfl rfl hA25 rfl rfl 0 rfl (by simp) rfl sz29_kd (fun w26 hA27 => hK _ _ ?_))
      clear hK K
      replace hA27 : Hp w0 ([row bb BT [.slice none 0 0, .slice none 0 0, .int .i64 held, .bool false]] :: XL :: XS.flatten :: R) w26 := hA27
      refine vc_nil ?_
      refine hK26 _ _ ?_; clear  hK26 K26
      apply wp_seq_k; intro K27 hK27
      refine wp_region_lit ?_
      refine vc_y hF rfl rfl (by decide) _ (y_move rfl rfl) (fun a hF => ?_)
      refine vc_y hF rfl rfl (by decide) _ (y_nilCheck rfl rfl) (fun a hF => ?_)
      refine vc_y hF rfl rfl (by decide) _ (y_field rfl Tryd.underlying56 rfl sz3_kd (by decide) rfl (rfl : (⟨_, 0 + _, none⟩ : Addr) = ⟨_, 2, none⟩)) (fun a hF => ?_)
      refine vc_op rfl (fun K hK => hs_store1 hF rfl rfl hA27 rfl rfl 0 rfl (by simp) rfl sz3_kd (fun w28 hA29 => hK _ _ ?_))
      clear hK K
      replace hA29 : Hp w0 ([row bb BT [.slice none 0 0, .slice none 0 0, .int .i64 0, .bool false]] :: XL :: XS.flatten :: R) w28 := hA29
      refine vc_nil ?_
      refine hK27 _ _ ?_; clear  hK27 K27
      apply wp_seq_k; intro K28 hK28
      refine wp_region_lit ?_
      refine vc_y hF rfl rfl (by decide) _ (y_assign rfl rfl) (fun a hF => ?_)
      refine vc_nil ?_
      refine hK28 _ _ ?_; clear  hK28 K28
      apply wp_ret
      refine vc_ret1 hF Tryd.results31 rfl ?_
      have hA30 : Hp w0 ([row bb BT [.slice none 0 0, .slice none 0 0, .int .i64 0, .bool false]] :: R) w28 := Hp.sel [[row bb BT [.slice none 0 0, .slice none 0 0, .int .i64 0, .bool false]], XL, XS.flatten] R [0] [1, 2] hA29 rfl
      exact ⟨rfl, hA30⟩
end Go.Proofs.YtppmhlkonemebaaDoor
