/- The walk of DigestSums. -/
import Derived.Test.YtppmhlkonemebaaDoorRefSum
import Derived.Test.YtppmhlkonemebaaDoorVs
import Derived.Test.YtppmhlkonemebaaDoorLawNames
namespace Go.Proofs.YtppmhlkonemebaaDoor
open Go.RowKit Go.Dk

theorem elem5 : elemInfo Tryd.prog 5 1 1 := elemInfo_byte bk_byte5
/-- the first i bytes turned -/
def mix (l : List UInt8) (i : Nat) : List UInt8 := (l.map flip).take i ++ l.drop i
theorem mix_zero (l : List UInt8) : mix l 0 = l := rfl
theorem mix_length (l : List UInt8) (i : Nat) (h : i ≤ l.length) : (mix l i).length = l.length := by unfold mix; rw [List.length_append, List.length_take, List.length_map, List.length_drop]; omega
theorem mix_end (l : List UInt8) : mix l l.length = l.map flip := by unfold mix; rw [List.drop_length, List.append_nil, List.take_of_length_le (by simp)]
theorem mix_set (l : List UInt8) (R : List Value) (i : Nat) (hi : i < l.length) : (dc (mix l i) ++ R).set i (.int .u8 ((flip (bAt l i)).toNat : Int)) = dc (mix l (i + 1)) ++ R := turn_set l R i hi
theorem mix_get (l : List UInt8) (R : List Value) (i : Nat) (hi : i < l.length) : (dc (mix l i) ++ R)[i]? = some (.int .u8 ((bAt l i).toNat : Int)) := turn_get l R i hi
theorem mix_got (l : List UInt8) (R : List Value) (i : Nat) (hi : i < l.length) : (dc (mix l (i + 1)) ++ R)[i]? = some (.int .u8 ((flip (bAt l i)).toNat : Int)) := by
  rw [← mix_set l R i hi, List.getElem?_set_self]
  rw [List.length_append, dc_length, mix_length l i (by omega)]
  omega
theorem bts_front {w0 w : World} {L : List Row} {k g : Nat} {t : TypeId} {l : List UInt8} {R : List Value} (hA : At w0 L w) (hk : L[k]? = some (g, t, dc l ++ R)) : Bts w (some ⟨g, 0, none⟩) l :=
  Bts.row hA hk (by rw [List.drop_zero, List.take_append_of_le_length (by rw [dc_length]; exact Nat.le_refl _), List.take_of_length_le (by rw [dc_length]; exact Nat.le_refl _)])
theorem bts_roomy {w0 w : World} {L : List Row} {k g : Nat} {t : TypeId} {l : List UInt8} {R : List Value} (hA : At w0 L w) (hk : L[k]? = some (g, t, dc l ++ R)) (hR : R = dc (List.replicate 80 165)) : Bts w (some ⟨g, 0, none⟩) (roomy l 165) :=
  Bts.row hA (by rw [hk, hR]) (by rw [List.drop_zero, ← dc_append]; unfold roomy; rw [List.take_of_length_le (by rw [dc_length]; exact Nat.le_refl _)])
theorem roomy_dc (l : List UInt8) : dc (roomy l 165) = dc l ++ dc (List.replicate 80 165) := by rw [roomy, dc_append]
theorem flip_len (l : List UInt8) : (l.map flip).length = l.length := by simp
theorem in_row {w0 w : World} {L : List Row} {k g : Nat} {t : TypeId} {cs : List Value} (hA : At w0 L w) (hk : L[k]? = some (g, t, cs)) : In w (some ⟨g, 0, none⟩) := in_some (hA.lt hk)

theorem put_back (l : List UInt8) (R : List Value) : splice (dc (l.map flip) ++ R) 0 (dc l) = dc l ++ R := by
  unfold splice
  rw [List.take_zero, List.nil_append, Nat.zero_add, dc_length, List.drop_append, List.drop_of_length_le (by rw [dc_length, flip_len]; exact Nat.le_refl _), List.nil_append, dc_length, flip_len, Nat.sub_self, List.drop_zero]
theorem nr5_s : notRow Tryd.prog 5 = true := by kernel_rfl
theorem rw36_s : isRow Tryd.prog 36 32 = true := by kernel_rfl
theorem sz5_s : (Tryd.prog.info? 5).map (·.size) = some 1 := by kernel_rfl
theorem cl16_s : CallsTo Tryd.prog 16 := ⟨_, Tryd.func16, by kernel_rfl, by kernel_rfl⟩
theorem cl19_s : CallsTo Tryd.prog 19 := ⟨_, Tryd.func19, by kernel_rfl, by kernel_rfl⟩
theorem cl20_s : CallsTo Tryd.prog 20 := ⟨_, Tryd.func20, by kernel_rfl, by kernel_rfl⟩
theorem cl21_s : CallsTo Tryd.prog 21 := ⟨_, Tryd.func21, by kernel_rfl, by kernel_rfl⟩
theorem cl22_s : CallsTo Tryd.prog 22 := ⟨_, Tryd.func22, by kernel_rfl, by kernel_rfl⟩

set_option maxRecDepth 100000 in
set_option maxHeartbeats 2000000 in
theorem law_sums (w : World) (A : Option Addr) (c : Nat) (l : List UInt8) (_hc : l.length ≤ c) (hB : Bts w A l) (hl : l.length < 140737488355000) (hT : Tab w) :
    Calls Tryd.prog 4 #[.slice A l.length c] w fun e w' => e = .returned (.bool true) ∧ At w [] w' := by
  have hA0 := At.refl w
  have hpos : 0 < w.heap.size := hT.lt
  obtain ⟨D, hD⟩ : ∃ D, D = sha l := ⟨_, rfl⟩
  have hDl : D.length = 32 := by rw [hD, sha_length]
  obtain ⟨R, hR⟩ : ∃ R, R = dc (List.replicate 80 165) := ⟨_, rfl⟩
  refine vc_enter Tryd.func4 rfl Tryd.ntmps4 (Nat.le_of_ble_eq_true rfl) (fun a hF => ?_)
  apply wp_seq_k; intro K1 hK1
  refine wp_region_lit ?_
  refine vc_y hF rfl rfl (by decide) _ (y_assign rfl rfl) (fun a hF => ?_)
  refine vc_nil ?_
  refine hK1 _ _ ?_; clear  hK1 K1
  apply wp_seq_k; intro K2 hK2
  refine wp_region_lit ?_
  refine vc_y hF rfl rfl (by decide) _ (y_move rfl rfl) (fun a hF => ?_)
  refine vc_op rfl (fun K hK => ws_call hF rfl (by decide) cl20_s rfl rfl ?_)
  with_reducible refine (roomy_any w A l 165 c l.length rfl hB hl 165 rfl).mono ?_
  rintro e' w1 ⟨g, rfl, hg, hA1⟩
  refine ⟨_, rfl, fun a hF => hK _ _ ?_⟩; clear hK K
  rw [roomy_dc, ← hR] at hA1
  refine vc_y hF rfl rfl (by decide) _ (y_assign rfl rfl) (fun a hF => ?_)
  refine vc_nil ?_
  refine hK2 _ _ ?_; clear  hK2 K2
  apply wp_seq_k; intro K3 hK3
  refine wp_region_lit ?_
  refine vc_y hF rfl rfl (by decide) _ (y_move rfl rfl) (fun a hF => ?_)
  refine vc_y hF rfl rfl (by decide) _ (y_move rfl rfl) (fun a hF => ?_)
  refine vc_y hF rfl rfl (by decide) _ (y_lenSl rfl Tryd.underlying24 rfl rfl) (fun a hF => ?_)
  refine vc_y hF rfl rfl (by decide) _ (y_slice rfl Tryd.underlying24 bk_size5 rfl (.none 0) (.some rfl rfl) (by omega) (by omega) slice_to) (fun a hF => ?_)
  refine vc_y hF rfl rfl (by decide) _ (y_assign rfl rfl) (fun a hF => ?_)
  refine vc_nil ?_
  refine hK3 _ _ ?_; clear  hK3 K3
  apply wp_seq_k; intro K4 hK4
  refine wp_region_lit ?_
  refine vc_y hF rfl rfl (by decide) _ (y_move rfl rfl) (fun a hF => ?_)
  refine vc_op rfl (fun K hK => ws_call hF rfl (by decide) cl21_s rfl rfl ?_)
  with_reducible refine (digest_any w1 (some ⟨g, 0, none⟩) l (l.length + 80) _ rfl (by omega) (bts_front hA1 (k := 0) rfl) (in_row hA1 (k := 0) rfl) (by first | omega | (rw [flip_len]; omega)) (hT.at_ hA1 (by simp; omega))).mono ?_
  rintro e' w2 ⟨rfl, hc2⟩
  refine ⟨_, rfl, fun a hF => hK _ _ ?_⟩; clear hK K
  have hA2 := hA1.then0 hc2
  clear hc2
  rw [← hD] at hF
  refine vc_op rfl (fun K hK => ws_alloc hF rfl (by decide) rfl hA2 zero36 (fun b5 w3 a hb5 hF hA3 => hK _ _ ?_))
  clear hK K
  refine vc_op rfl (fun K hK => ws_storeAll hF rfl rfl hA3 rfl rfl 0 rfl (by rw [dc_length, hDl]; rfl) (dc_one _) (by rw [size36]; rfl) (fun w4 hA4 => hK _ _ ?_))
  clear hK K
  replace hA4 : At w [(b5, 36, dc D), (g, 5, dc l ++ R)] w4 := hA4
  refine vc_nil ?_
  refine hK4 _ _ ?_; clear  hK4 K4
  apply wp_seq_k; intro K5 hK5
  apply wp_seq_k; intro K6 hK6
  have q5 : w.heap.size ≤ b5 := by have := hA2.size; omega
  have hnew : ∀ r ∈ [(b5, 36, dc D), (g, 5, dc l ++ R)], w.heap.size ≤ (r : Row).1 := by
    intro r hr; simp only [List.mem_cons, List.not_mem_nil, or_false] at hr; rcases hr with h | h <;> subst h <;> simp only <;> omega
  refine wp_region_plan 15 [2,6,13,15] [0,1,2,3,4,5,7,6,8,9,10,11,12,13,14,15] (At w [(b5, 36, dc D), (g, 5, dc l ++ R)]) (by kernel_rfl) (by kernel_rfl) (hA4.drew) ?_
  refine vp_y hF rfl rfl rfl rfl (by decide) _ (fun x hx => y_loadRow rfl hx rfl 0 rfl rw36_s (by rw [dc_length, hDl]; decide) (by rw [List.drop_zero, List.take_of_length_le (by rw [dc_length, hDl]; exact Nat.le_refl _)])) (fun a hF => ?_)
  refine vp_y hF rfl rfl rfl rfl (by decide) _ (fun x hx => y_move rfl rfl) (fun a hF => ?_)
  refine vp_l rfl rfl rfl (fun K hK => ws_call hF rfl (by decide) cl19_s rfl rfl ?_)
  with_reducible refine (refsum_any _ A l c l.length rfl (hB.fresh hA4.drew hnew) (by omega)).mono ?_
  rintro e' w5 ⟨rfl, hc5⟩
  refine ⟨_, rfl, fun a hF => hK _ _ (fun _ => hA4.drew.then0 hc5) ?_⟩; clear hK K
  have hA5 := hA4.drew.then0 hc5
  clear hc5
  rw [← hD] at hF
  refine vp_y hF rfl rfl rfl rfl (by decide) _ (fun x hx => y_neB rfl Tryd.underlying36 Tryd.underlying5 bk_size5 (by kernel_rfl) rfl rfl hDl hDl (ndec_f rfl)) (fun a hF => ?_)
  refine vp_y hF rfl rfl rfl rfl (by decide) _ (fun x hx => y_move rfl rfl) (fun a hF => ?_)
  refine vp_yg hF rfl rfl rfl rfl rfl rfl rfl (by decide) _ (fun x hx => y_move rfl rfl) (fun a hF => ?_)
  refine vp_yg hF rfl rfl rfl rfl rfl rfl rfl (by decide) _ (fun x hx => y_loadRow rfl hx rfl 0 rfl rw36_s (by rw [dc_length, hDl]; decide) (by rw [List.drop_zero, List.take_of_length_le (by rw [dc_length, hDl]; exact Nat.le_refl _)])) (fun a hF => ?_)
  refine vp_lg hF rfl rfl rfl rfl rfl rfl (fun K hK => ws_call hF rfl (by decide) cl21_s rfl rfl ?_)
  with_reducible refine (digest_any w5 (some ⟨g, 0, none⟩) l (l.length + 80) _ rfl (by omega) (bts_front hA5 (k := 1) rfl) (in_row hA5 (k := 1) rfl) (by first | omega | (rw [flip_len]; omega)) (hT.at_ hA5 (by simp; omega))).mono ?_
  rintro e' w6 ⟨rfl, hc6⟩
  refine ⟨_, rfl, fun a hF => hK _ _ (fun _ => hA5.then0 hc6) ?_⟩; clear hK K
  have hA6 := hA5.then0 hc6
  clear hc6
  rw [← hD] at hF
  refine vp_yg hF rfl rfl rfl rfl rfl rfl rfl (by decide) _ (fun x hx => y_neB rfl Tryd.underlying36 Tryd.underlying5 bk_size5 (by kernel_rfl) rfl rfl hDl hDl (ndec_f rfl)) (fun a hF => ?_)
  refine vp_y hF rfl rfl rfl rfl (by decide) _ (fun x hx => y_pick rfl rfl rfl) (fun a hF => ?_)
  refine vp_y hF rfl rfl rfl rfl (by decide) _ (fun x hx => y_move rfl rfl) (fun a hF => ?_)
  refine vp_yg hF rfl rfl rfl rfl rfl rfl rfl (by decide) _ (fun x hx => y_move rfl rfl) (fun a hF => ?_)
  refine vp_yg hF rfl rfl rfl rfl rfl rfl rfl (by decide) _ (fun x hx => y_move rfl rfl) (fun a hF => ?_)
  refine vp_lg hF rfl rfl rfl rfl rfl rfl (fun K hK => ws_call hF rfl (by decide) cl22_s rfl rfl ?_)
  with_reducible refine (intact_any w6 (some ⟨g, 0, none⟩) A l 165 (l.length + 80) c l.length (l.length + 80) rfl rfl (Nat.le_refl _) (bts_roomy hA6 (k := 1) rfl hR) (hB.fresh hA6 hnew) (by omega) 165 rfl).mono ?_
  rintro e' w7 ⟨rfl, hc7⟩
  refine ⟨_, rfl, fun a hF => hK _ _ (fun _ => hA6.then0 hc7) ?_⟩; clear hK K
  have hA7 := hA6.then0 hc7
  clear hc7
  refine vp_yg hF rfl rfl rfl rfl rfl rfl rfl (by decide) _ (fun x hx => y_not rfl rfl rfl) (fun a hF => ?_)
  refine vp_ly hF rfl rfl rfl rfl (by decide) _ (y_pick rfl rfl rfl) (fun h => absurd h (by decide)) (fun a hF => ?_)
  refine plan_end ?_
  refine hK6 _ _ ?_; clear  hK6 K6
  refine vc_false hF rfl ?_
  apply wp_skip
  refine hK5 _ _ ?_; clear  hK5 K5
  apply wp_seq_k; intro K7 hK7
  refine wp_region_lit ?_
  refine vc_y hF rfl rfl (by decide) _ (y_move rfl rfl) (fun a hF => ?_)
  refine vc_op rfl (fun K hK => ws_own hF rfl (by decide) rfl [(b5, 36, dc D), (g, 5, dc l ++ R)] (X := []) hA7 (Own.nil w 5 1) Tryd.underlying24 elem5 rfl rfl (Bts.src Tryd.underlying24 (hB.fresh hA7 hnew)) (by omega) (by decide) (fun vo X w8 a hO hF hA8 => hK _ _ ?_))
  clear hK K
  rw [List.nil_append, Nat.zero_add] at hO
  refine vc_y hF rfl rfl (by decide) _ (y_assign rfl rfl) (fun a hF => ?_)
  refine vc_nil ?_
  refine hK7 _ _ ?_; clear  hK7 K7
  apply wp_seq_k; intro K8 hK8
  apply wp_seq_k; intro K9 hK9
  refine wp_region_lit ?_
  refine vc_y hF rfl rfl (by decide) _ (y_assign rfl rfl) (fun a hF => ?_)
  refine vc_nil ?_
  refine hK9 _ _ ?_; clear  hK9 K9
  apply wp_block
  replace hO : Own w 5 1 X vo l.length (dc (mix l 0)) := hO
  replace hA8 : At w ([(b5, 36, dc D), (g, 5, dc (mix l 0) ++ R)] ++ X) w8 := hA8
  have hO0 := hO
  refine vc_loop (G := Nat) (fun i a x => i ≤ l.length ∧ Fr 80 [(7, .int .i64 (i : Int)), (0, .slice A l.length c), (3, .slice (some ⟨g, 0, none⟩) (l.length + 80) (l.length + 80)), (4, .slice (some ⟨g, 0, none⟩) l.length (l.length + 80)), (5, .pointer (some ⟨b5, 0, none⟩)), (6, vo)] a ∧ ∃ X, Own w 5 1 X vo l.length (dc (mix l i)) ∧ At w ([(b5, 36, dc D), (g, 5, dc (mix l i) ++ R)] ++ X) x) (fun i => l.length - i) 0 ⟨Nat.zero_le _, hF.keep [7, 0, 3, 4, 5, 6] rfl, X, hO, hA8⟩ ?_
  clear hF
  rintro i a wr ⟨hi, hF, X, hO, hAr⟩
  by_cases hlt : i < l.length
  · rcases hO.2 with ⟨_, h0, _⟩ | ⟨go, co, Z, rfl, hoc, hgo, hZ, rfl⟩
    · omega
    have hW : dc (mix l i) ++ Z = dc (mix l i) ++ Z := rfl
    apply wp_seq_k; intro K10 hK10
    apply wp_seq_k; intro K11 hK11
    refine wp_region_lit ?_
    refine vc_y hF rfl rfl (by decide) _ (y_move rfl rfl) (fun a hF => ?_)
    refine vc_y hF rfl rfl (by decide) _ (y_move rfl rfl) (fun a hF => ?_)
    refine vc_y hF rfl rfl (by decide) _ (y_lenSl rfl Tryd.underlying24 rfl rfl) (fun a hF => ?_)
    refine vc_y hF rfl rfl (by decide) _ (y_cmp rfl rfl rfl rfl (lss_t (by omega))) (fun a hF => ?_)
    refine vc_nil ?_
    refine hK11 _ _ ?_; clear  hK11 K11
    refine vc_true hF rfl ?_
    apply wp_skip
    refine hK10 _ _ ?_; clear  hK10 K10
    apply wp_seq_k; intro K12 hK12
    apply wp_block
    apply wp_seq_k; intro K13 hK13
    refine wp_region_lit ?_
    refine vc_y hF rfl rfl (by decide) _ (y_move rfl rfl) (fun a hF => ?_)
    refine vc_y hF rfl rfl (by decide) _ (y_move rfl rfl) (fun a hF => ?_)
    refine vc_y hF rfl rfl (by decide) _ (y_move rfl rfl) (fun a hF => ?_)
    refine vc_y hF rfl rfl (by decide) _ (y_move rfl rfl) (fun a hF => ?_)
    refine vc_y hF rfl rfl (by decide) _ (y_ixSl rfl Tryd.underlying24 sz5_s rfl rfl i rfl hlt (ad1 _ _)) (fun a hF => ?_)
    refine vc_y hF rfl rfl (by decide) _ (y_loadAt rfl hAr rfl 2 rfl (by rw [← hW]; exact mix_get l Z i hlt) nr5_s) (fun a hF => ?_)
    refine vc_y hF rfl rfl (by decide) _ (y_xor rfl rfl rfl (xor_flip _)) (fun a hF => ?_)
    refine vc_y hF rfl rfl (by decide) _ (y_ixSl rfl Tryd.underlying24 sz5_s rfl rfl i rfl hlt (ad1 _ _)) (fun a hF => ?_)
    refine vc_op rfl (fun K hK => ws_store1 hF rfl rfl hAr rfl rfl 2 rfl (by rw [← hW, List.length_append, dc_length, mix_length l i hi]; omega) rfl sz5_s (fun w9 hA9 => hK _ _ ?_))
    clear hK K
    replace hA9 : At w [(b5, 36, dc D), (g, 5, dc (mix l i) ++ R), (go, 5, dc (mix l (i + 1)) ++ Z)] w9 := by rw [← mix_set l Z i hlt, hW]; exact hA9
    refine vc_nil ?_
    refine hK13 _ _ ?_; clear  hK13 K13
    refine wp_region_lit ?_
    refine vc_y hF rfl rfl (by decide) _ (y_move rfl rfl) (fun a hF => ?_)
    refine vc_y hF rfl rfl (by decide) _ (y_move rfl rfl) (fun a hF => ?_)
    refine vc_y hF rfl rfl (by decide) _ (y_move rfl rfl) (fun a hF => ?_)
    refine vc_y hF rfl rfl (by decide) _ (y_move rfl rfl) (fun a hF => ?_)
    refine vc_y hF rfl rfl (by decide) _ (y_ixSl rfl Tryd.underlying24 sz5_s rfl rfl i rfl hlt (ad1 _ _)) (fun a hF => ?_)
    refine vc_y hF rfl rfl (by decide) _ (y_loadAt rfl hA9 rfl 2 rfl (mix_got l Z i hlt) nr5_s) (fun a hF => ?_)
    refine vc_y hF rfl rfl (by decide) _ (y_ixSl rfl Tryd.underlying24 sz5_s rfl rfl i rfl hlt (ad1 _ _)) (fun a hF => ?_)
    refine vc_op rfl (fun K hK => ws_store1 hF rfl rfl hA9 rfl rfl 1 rfl (by rw [List.length_append, dc_length, mix_length l i hi]; omega) rfl sz5_s (fun w10 hA10 => hK _ _ ?_))
    clear hK K
    replace hA10 : At w [(b5, 36, dc D), (g, 5, dc (mix l (i + 1)) ++ R), (go, 5, dc (mix l (i + 1)) ++ Z)] w10 := by rw [← mix_set l R i hlt]; exact hA10
    refine vc_nil ?_
    refine hK12 _ _ ?_; clear  hK12 K12
    refine wp_region_lit ?_
    refine vc_y hF rfl rfl (by decide) _ (y_move rfl rfl) (fun a hF => ?_)
    refine vc_y hF rfl rfl (by decide) _ (y_add rfl rfl rfl (IntWalk.i64_in _ (by omega))) (fun a hF => ?_)
    refine vc_y hF rfl rfl (by decide) _ (y_assign rfl rfl) (fun a hF => ?_)
    refine vc_nil ?_
    exact ⟨i + 1, by omega, by omega, hF.keep [7, 0, 3, 4, 5, 6] rfl, [(go, 5, dc (mix l (i + 1)) ++ Z)], ⟨by rw [dc_length, mix_length l _ (by omega)]; omega, .inr ⟨go, co, Z, rfl, hoc, hgo, hZ, rfl⟩⟩, hA10⟩
  · obtain rfl : i = l.length := by omega
    rw [mix_end] at hO hAr
    have hsl : ∃ Ao co, vo = .slice Ao l.length co ∧ l.length ≤ co ∧ ∀ x, At w ([(b5, 36, dc D), (g, 5, dc (l.map flip) ++ R)] ++ X) x → Bts x Ao (l.map flip) := by
      obtain ⟨Ao, co, h1, h2⟩ := hO.slice
      refine ⟨Ao, co, h1, h2, fun x hx => ?_⟩
      obtain ⟨A2, c2, h3, _, _, h6, _⟩ := hO.bts hx
      rw [h1] at h3
      cases h3
      exact h6
    obtain ⟨Ao, co, rfl, hoc, hBo⟩ := hsl
    have hnewX : ∀ r ∈ [(b5, 36, dc D), (g, 5, dc (l.map flip) ++ R)] ++ X, w.heap.size ≤ (r : Row).1 := by
      intro r hr
      rcases List.mem_append.1 hr with h | h
      · simp only [List.mem_cons, List.not_mem_nil, or_false] at h; rcases h with h | h <;> subst h <;> simp only <;> omega
      · exact hO.new r h
    have hnewX1 : ∀ r ∈ [(b5, 36, dc D), (g, 5, dc l ++ R)] ++ X, w.heap.size ≤ (r : Row).1 := by
      intro r hr
      rcases List.mem_append.1 hr with h | h
      · simp only [List.mem_cons, List.not_mem_nil, or_false] at h; rcases h with h | h <;> subst h <;> simp only <;> omega
      · exact hO.new r h
    have hz0 : 0 ∉ ([(b5, 36, dc D), (g, 5, dc (l.map flip) ++ R)] ++ X).map (fun r : Row => r.1) := fun hm => by
      obtain ⟨r, hr, he⟩ := List.mem_map.1 hm
      have := hnewX r hr
      omega
    have hz1 : 0 ∉ ([(b5, 36, dc D), (g, 5, dc l ++ R)] ++ X).map (fun r : Row => r.1) := fun hm => by
      obtain ⟨r, hr, he⟩ := List.mem_map.1 hm
      have := hnewX1 r hr
      omega
    apply wp_seq_k; intro K14 hK14
    apply wp_seq_k; intro K15 hK15
    refine wp_region_lit ?_
    refine vc_y hF rfl rfl (by decide) _ (y_move rfl rfl) (fun a hF => ?_)
    refine vc_y hF rfl rfl (by decide) _ (y_move rfl rfl) (fun a hF => ?_)
    refine vc_y hF rfl rfl (by decide) _ (y_lenSl rfl Tryd.underlying24 rfl rfl) (fun a hF => ?_)
    refine vc_y hF rfl rfl (by decide) _ (y_cmp rfl rfl rfl rfl (lss_f (by omega))) (fun a hF => ?_)
    refine vc_nil ?_
    refine hK15 _ _ ?_; clear  hK15 K15
    refine vc_false hF rfl ?_
    apply wp_exit
    refine hK8 _ _ ?_; clear hK14 K14 hK8 K8
    apply wp_seq_k; intro K16 hK16
    apply wp_seq_k; intro K17 hK17
    refine wp_region_lit ?_
    refine vc_y hF rfl rfl (by decide) _ (y_move rfl rfl) (fun a hF => ?_)
    refine vc_op rfl (fun K hK => ws_call hF rfl (by decide) cl21_s rfl rfl ?_)
    with_reducible refine (digest_any wr (some ⟨g, 0, none⟩) (l.map flip) (l.length + 80) _ (flip_len l).symm (by omega) (bts_front hAr (k := 1) rfl) (in_row hAr (k := 1) rfl) (by first | omega | (rw [flip_len]; omega)) (hT.at_ hAr hz0)).mono ?_
    rintro e' w11 ⟨rfl, hc11⟩
    refine ⟨_, rfl, fun a hF => hK _ _ ?_⟩; clear hK K
    have hA11 : At w ([(b5, 36, dc D), (g, 5, dc (l.map flip) ++ R)] ++ X) w11 := hAr.then0 hc11
    clear hc11
    refine vc_y hF rfl rfl (by decide) _ (y_move rfl rfl) (fun a hF => ?_)
    refine vc_op rfl (fun K hK => ws_call hF rfl (by decide) cl19_s rfl rfl ?_)
    with_reducible refine (refsum_any w11 Ao (l.map flip) co l.length (flip_len l).symm (hBo w11 hA11) (by omega)).mono ?_
    rintro e' w12 ⟨rfl, hc12⟩
    refine ⟨_, rfl, fun a hF => hK _ _ ?_⟩; clear hK K
    have hA12 : At w ([(b5, 36, dc D), (g, 5, dc (l.map flip) ++ R)] ++ X) w12 := hA11.then0 hc12
    clear hc12
    refine vc_y hF rfl rfl (by decide) _ (y_neB rfl Tryd.underlying36 Tryd.underlying5 bk_size5 (by kernel_rfl) rfl rfl (sha_length _) (sha_length _) (ndec_f rfl)) (fun a hF => ?_)
    refine vc_y hF rfl rfl (by decide) _ (y_move rfl rfl) (fun a hF => ?_)
    refine vc_yg hF rfl rfl rfl rfl rfl (by decide) _ (y_move rfl rfl) (fun a hF => ?_)
    refine vc_yg hF rfl rfl rfl rfl rfl (by decide) _ (y_move rfl rfl) (fun a hF => ?_)
    refine vc_opg hF rfl rfl rfl rfl (fun K hK => ws_call hF rfl (by decide) cl22_s rfl rfl ?_)
    with_reducible refine (intact_any w12 (some ⟨g, 0, none⟩) Ao (l.map flip) 165 (l.length + 80) co l.length (l.length + 80) (flip_len l).symm rfl (Nat.le_refl _) (bts_roomy hA12 (k := 1) rfl hR) (hBo w12 hA12) (by rw [flip_len]; omega) 165 rfl).mono ?_
    rintro e' w13 ⟨rfl, hc13⟩
    refine ⟨_, rfl, fun a hF => hK _ _ ?_⟩; clear hK K
    have hA13 : At w ([(b5, 36, dc D), (g, 5, dc (l.map flip) ++ R)] ++ X) w13 := hA12.then0 hc13
    clear hc13
    refine vc_yg hF rfl rfl rfl rfl rfl (by decide) _ (y_not rfl rfl rfl) (fun a hF => ?_)
    refine vc_y hF rfl rfl (by decide) _ (y_pick rfl rfl rfl) (fun a hF => ?_)
    refine vc_nil ?_
    refine hK17 _ _ ?_; clear  hK17 K17
    refine vc_false hF rfl ?_
    apply wp_skip
    refine hK16 _ _ ?_; clear  hK16 K16
    apply wp_seq_k; intro K18 hK18
    refine wp_region_lit ?_
    refine vc_y hF rfl rfl (by decide) _ (y_move rfl rfl) (fun a hF => ?_)
    refine vc_y hF rfl rfl (by decide) _ (y_move rfl rfl) (fun a hF => ?_)
    refine vc_op rfl (fun K hK => ws_copy hF rfl (by decide) rfl hA13 Tryd.underlying24 bk_size5 rfl rfl l (Nat.min_self _).symm (hB.fresh hA13 hnewX) 0 1 rfl (fun _ => rfl) (by rw [List.length_append, dc_length, flip_len]; omega) (fun w14 a hF hA14 => hK _ _ ?_))
    clear hK K
    replace hA14 : At w ([(b5, 36, dc D), (g, 5, dc l ++ R)] ++ X) w14 := by rw [← put_back l R]; exact hA14
    refine vc_nil ?_
    refine hK18 _ _ ?_; clear  hK18 K18
    apply wp_seq_k; intro K19 hK19
    refine wp_region_plan 11 [1,5,6,7,8,11] [0,2,1,3,4,5,6,7,8,9,10,11] (At w ([(b5, 36, dc D), (g, 5, dc l ++ R)] ++ X)) (by kernel_rfl) (by kernel_rfl) (hA14.drew) ?_
    refine vp_y hF rfl rfl rfl rfl (by decide) _ (fun x hx => y_move rfl rfl) (fun a hF => ?_)
    refine vp_y hF rfl rfl rfl rfl (by decide) _ (fun x hx => y_loadRow rfl hx rfl 0 rfl rw36_s (by rw [dc_length, hDl]; decide) (by rw [List.drop_zero, List.take_of_length_le (by rw [dc_length, hDl]; exact Nat.le_refl _)])) (fun a hF => ?_)
    refine vp_l rfl rfl rfl (fun K hK => ws_call hF rfl (by decide) cl21_s rfl rfl ?_)
    with_reducible refine (digest_any w14.drew (some ⟨g, 0, none⟩) l (l.length + 80) _ rfl (by omega) (bts_front hA14.drew (k := 1) rfl) (in_row hA14.drew (k := 1) rfl) (by first | omega | (rw [flip_len]; omega)) (hT.at_ hA14.drew hz1)).mono ?_
    rintro e' w15 ⟨rfl, hc15⟩
    refine ⟨_, rfl, fun a hF => hK _ _ (fun _ => hA14.drew.then0 hc15) ?_⟩; clear hK K
    have hA15 : At w ([(b5, 36, dc D), (g, 5, dc l ++ R)] ++ X) w15 := hA14.drew.then0 hc15
    clear hc15
    rw [← hD] at hF
    refine vp_y hF rfl rfl rfl rfl (by decide) _ (fun x hx => y_eqB rfl Tryd.underlying36 Tryd.underlying5 bk_size5 (by kernel_rfl) rfl rfl hDl hDl (dec_t rfl)) (fun a hF => ?_)
    refine vp_y hF rfl rfl rfl rfl (by decide) _ (fun x hx => y_move rfl rfl) (fun a hF => ?_)
    refine vp_lg hF rfl rfl rfl rfl rfl rfl (fun K hK => ws_bytes hF rfl (by decide) rfl hA15 Tryd.underlying24 bk_byte5 lit0 len0 (by decide) (by decide) (by kernel_rfl) (fun gl a _ _ hF => hK _ _ (fun _ => hA15.alloc0 _) ?_))
    clear hK K
    refine vp_lg hF rfl rfl rfl rfl rfl rfl (fun K hK => ws_mark (l := lit0) hF rfl (by decide) rfl hA15 Tryd.underlying24 Tryd.underlying5 rfl (fun gm w16 a hgm hF hA16 hBm hIm => hK _ _ (fun _ => hA16) ?_))
    clear hK K
    refine vp_lg hF rfl rfl rfl rfl rfl rfl (fun K hK => ws_call hF rfl (by decide) cl21_s rfl rfl ?_)
    with_reducible refine (digest_any w16 (some ⟨gm, 0, none⟩) lit0 28 28 len0 (Nat.le_refl _) hBm (in_some hIm) lt0 (hT.at_ hA16 hz1)).mono ?_
    rintro e' w17 ⟨rfl, hc17⟩
    refine ⟨_, rfl, fun a hF => hK _ _ (fun _ => hA16.then0 hc17) ?_⟩; clear hK K
    have hA17 : At w ([(b5, 36, dc D), (g, 5, dc l ++ R)] ++ X) w17 := hA16.then0 hc17
    clear hc17
    rw [hx0_eq] at hF
    refine vp_lg hF rfl rfl rfl rfl rfl rfl (fun K hK => ws_call hF rfl (by decide) cl16_s rfl rfl ?_)
    with_reducible refine (written_any w17 hx0 rfl).mono ?_
    rintro e' w18 ⟨rfl, hc18⟩
    refine ⟨_, rfl, fun a hF => hK _ _ (fun _ => hA17.then0 hc18) ?_⟩; clear hK K
    have hA18 : At w ([(b5, 36, dc D), (g, 5, dc l ++ R)] ++ X) w18 := hA17.then0 hc18
    clear hc18
    refine vp_yg hF rfl rfl rfl rfl rfl rfl rfl (by decide) _ (fun x hx => y_eqB rfl Tryd.underlying36 Tryd.underlying5 bk_size5 (by kernel_rfl) rfl rfl (writtenL_length _) (writtenL_length _) (dec_t rfl)) (fun a hF => ?_)
    refine vp_y hF rfl rfl rfl rfl (by decide) _ (fun x hx => y_pick rfl rfl rfl) (fun a hF => ?_)
    refine vp_ly hF rfl rfl rfl rfl (by decide) _ (y_assign rfl rfl) (fun h => absurd h (by decide)) (fun a hF => ?_)
    refine plan_end ?_
    refine hK19 _ _ ?_; clear  hK19 K19
    apply wp_ret
    refine vc_ret1 hF Tryd.results4 rfl ?_
    exact ⟨rfl, hA18.clear hnewX1⟩
end Go.Proofs.YtppmhlkonemebaaDoor
