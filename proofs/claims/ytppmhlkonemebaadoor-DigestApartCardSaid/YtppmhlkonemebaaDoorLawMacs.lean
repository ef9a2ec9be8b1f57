/- The walks of turned (any slice of one's own), DigestMacs. -/
import Derived.Test.YtppmhlkonemebaaDoorMac2
import Derived.Test.YtppmhlkonemebaaDoorTwo
namespace Go.Proofs.YtppmhlkonemebaaDoor
open Go.RowKit Go.Dk

/-- turned: the bytes turned where they stand, and a copy of them -/
def Turned2 (w : World) (g : Nat) (T : TypeId) (X : List UInt8) (R : List Value) (e : Ending) (w' : World) : Prop :=
  ∃ v Y, e = .returned v ∧ Own w 5 1 Y v X.length (dc (X.map flip)) ∧ At w ((g, T, dc (X.map flip) ++ R) :: Y) w'
theorem mac_at (w : World) (KA MA : Option Addr) (k m : List UInt8) (ck cm nk nm : Nat) (hnk : nk = k.length) (hnm : nm = m.length) (hck : nk ≤ ck) (hcm : nm ≤ cm) (hBk : Bts w KA k) (hIk : In w KA) (hBm : Bts w MA m) (hIm : In w MA) (hk : nk < 140737488355000) (hm : nm < 140737488355000) (hT : Tab w) :
    Calls Tryd.prog 25 #[.slice KA nk ck, .slice MA nm cm] w fun e w' => e = .returned (.agg (dc (macL (macK k) m)).toArray) ∧ At w [] w' := by
  subst hnk hnm
  exact mac_any w KA MA k m ck cm hck hcm hBk hIk hBm hIm hk hm hT
theorem refmac_at (w : World) (KA M : Option Addr) (k m : List UInt8) (ck cm nk : Nat) (hnk : nk = k.length) (hBk : Bts w KA k) (hBm : Bts w M m) (hk : nk < 140737488355000) (hm : m.length < 140737488355000) :
    Calls Tryd.prog 26 #[.slice KA nk ck, .slice M m.length cm] w fun e w' => e = .returned (.agg (dc (macL (macK k) m)).toArray) ∧ At w [] w' := by
  subst hnk
  exact refmac_any w KA M k m ck cm hBk hBm hk hm
theorem refmac_at2 (w : World) (KA M : Option Addr) (k m : List UInt8) (ck cm nk nm : Nat) (hnk : nk = k.length) (hnm : nm = m.length) (hBk : Bts w KA k) (hBm : Bts w M m) (hk : nk < 140737488355000) (hm : nm < 140737488355000) :
    Calls Tryd.prog 26 #[.slice KA nk ck, .slice M nm cm] w fun e w' => e = .returned (.agg (dc (macL (macK k) m)).toArray) ∧ At w [] w' := by
  subst hnk hnm
  exact refmac_any w KA M k m ck cm hBk hBm hk hm
theorem nr5_lm : notRow Tryd.prog 5 = true := by kernel_rfl
theorem rw36_lm : isRow Tryd.prog 36 32 = true := by kernel_rfl
theorem sz5_lm : (Tryd.prog.info? 5).map (·.size) = some 1 := by kernel_rfl
theorem cl20_lm : CallsTo Tryd.prog 20 := ⟨_, Tryd.func20, by kernel_rfl, by kernel_rfl⟩
theorem cl22_lm : CallsTo Tryd.prog 22 := ⟨_, Tryd.func22, by kernel_rfl, by kernel_rfl⟩
theorem cl25_lm : CallsTo Tryd.prog 25 := ⟨_, Tryd.func25, by kernel_rfl, by kernel_rfl⟩
theorem cl26_lm : CallsTo Tryd.prog 26 := ⟨_, Tryd.func26, by kernel_rfl, by kernel_rfl⟩
theorem cl27_lm : CallsTo Tryd.prog 27 := ⟨_, Tryd.func27, by kernel_rfl, by kernel_rfl⟩

set_option maxRecDepth 100000 in
set_option maxHeartbeats 1000000 in
theorem turned_all (w : World) (g : Nat) (T : TypeId) (X : List UInt8) (R : List Value) (c : Nat) (hl : X.length < 140737488355000) (hrow : w.heap[g]? = some (.cells (dc X ++ R).toArray T (0, 0))) :
    Calls Tryd.prog 27 #[.slice (some ⟨g, 0, none⟩) X.length c] w (Turned2 w g T X R) := by
  have hA0 : At w [(g, T, dc (mix X 0) ++ R)] w := At.start1 hrow
  refine vc_enter Tryd.func27 rfl Tryd.ntmps27 (Nat.le_of_ble_eq_true rfl) (fun a hF => ?_)
  apply wp_seq_k; intro K1 hK1
  refine wp_region_lit ?_
  refine vc_y hF rfl rfl (by decide) _ (y_assign rfl rfl) (fun a hF => ?_)
  refine vc_nil ?_
  refine hK1 _ _ ?_; clear  hK1 K1
  apply wp_seq_k; intro K2 hK2
  apply wp_seq_k; intro K3 hK3
  refine wp_region_lit ?_
  refine vc_y hF rfl rfl (by decide) _ (y_assign rfl rfl) (fun a hF => ?_)
  refine vc_nil ?_
  refine hK3 _ _ ?_; clear  hK3 K3
  apply wp_block
  refine vc_loop (G := Nat) (fun i a x => i ≤ X.length ∧ Fr 20 [(3, .int .i64 (i : Int)), (0, .slice (some ⟨g, 0, none⟩) X.length c)] a ∧ At w [(g, T, dc (mix X i) ++ R)] x) (fun i => X.length - i) 0 ⟨Nat.zero_le _, hF.keep [3, 0] rfl, hA0⟩ ?_
  clear hF
  rintro i a wr ⟨hi, hF, hAr⟩
  by_cases hlt : i < X.length
  · apply wp_seq_k; intro K4 hK4
    apply wp_seq_k; intro K5 hK5
    refine wp_region_lit ?_
    refine vc_y hF rfl rfl (by decide) _ (y_move rfl rfl) (fun a hF => ?_)
    refine vc_y hF rfl rfl (by decide) _ (y_move rfl rfl) (fun a hF => ?_)
    refine vc_y hF rfl rfl (by decide) _ (y_lenSl rfl Tryd.underlying24 rfl rfl) (fun a hF => ?_)
    refine vc_y hF rfl rfl (by decide) _ (y_cmp rfl rfl rfl rfl rfl) (fun a hF => ?_)
    refine vc_nil ?_
    refine hK5 _ _ ?_; clear  hK5 K5
    refine vc_trueB hF rfl (lss_t (by omega)) ?_
    apply wp_skip
    refine hK4 _ _ ?_; clear  hK4 K4
    apply wp_seq_k; intro K6 hK6
    apply wp_block
    refine wp_region_lit ?_
    refine vc_y hF rfl rfl (by decide) _ (y_move rfl rfl) (fun a hF => ?_)
    refine vc_y hF rfl rfl (by decide) _ (y_move rfl rfl) (fun a hF => ?_)
    refine vc_y hF rfl rfl (by decide) _ (y_move rfl rfl) (fun a hF => ?_)
    refine vc_y hF rfl rfl (by decide) _ (y_move rfl rfl) (fun a hF => ?_)
    refine vc_y hF rfl rfl (by decide) _ (y_ixSl rfl Tryd.underlying24 sz5_lm rfl rfl i rfl hlt (ad1 _ _)) (fun a hF => ?_)
    refine vc_y hF rfl rfl (by decide) _ (y_loadAt rfl hAr rfl 0 rfl (mix_get X R i hlt) nr5_lm) (fun a hF => ?_)
    refine vc_y hF rfl rfl (by decide) _ (y_xor rfl rfl rfl (xor_flip _)) (fun a hF => ?_)
    refine vc_y hF rfl rfl (by decide) _ (y_ixSl rfl Tryd.underlying24 sz5_lm rfl rfl i rfl hlt (ad1 _ _)) (fun a hF => ?_)
    refine vc_op rfl (fun K hK => ws_store1 hF rfl rfl hAr rfl rfl 0 rfl (by rw [List.length_append, dc_length, mix_length X i hi]; omega) rfl sz5_lm (fun w1 hA1 => hK _ _ ?_))
    clear hK K
    replace hA1 : At w [(g, T, dc (mix X (i + 1)) ++ R)] w1 := by rw [← mix_set X R i hlt]; exact hA1
    refine vc_nil ?_
    refine hK6 _ _ ?_; clear  hK6 K6
    refine wp_region_lit ?_
    refine vc_y hF rfl rfl (by decide) _ (y_move rfl rfl) (fun a hF => ?_)
    refine vc_y hF rfl rfl (by decide) _ (y_add rfl rfl rfl (IntWalk.i64_in _ (by omega))) (fun a hF => ?_)
    refine vc_y hF rfl rfl (by decide) _ (y_assign rfl rfl) (fun a hF => ?_)
    refine vc_nil ?_
    exact ⟨i + 1, by omega, by omega, hF.keep [3, 0] rfl, hA1⟩
  · obtain rfl : i = X.length := by omega
    rw [mix_end] at hAr
    have hsrc : Src Tryd.prog 1 24 (.slice (some ⟨g, 0, none⟩) X.length c) X.length (dc (X.map flip)) wr := by
      have h := Bts.src (P := Tryd.prog) (c := c) Tryd.underlying24 (bts_front hAr (k := 0) rfl)
      rw [flip_len] at h
      exact h
    apply wp_seq_k; intro K7 hK7
    apply wp_seq_k; intro K8 hK8
    refine wp_region_lit ?_
    refine vc_y hF rfl rfl (by decide) _ (y_move rfl rfl) (fun a hF => ?_)
    refine vc_y hF rfl rfl (by decide) _ (y_move rfl rfl) (fun a hF => ?_)
    refine vc_y hF rfl rfl (by decide) _ (y_lenSl rfl Tryd.underlying24 rfl rfl) (fun a hF => ?_)
    refine vc_y hF rfl rfl (by decide) _ (y_cmp rfl rfl rfl rfl rfl) (fun a hF => ?_)
    refine vc_nil ?_
    refine hK8 _ _ ?_; clear  hK8 K8
    refine vc_falseB hF rfl (lss_f (by omega)) ?_
    apply wp_exit
    refine hK2 _ _ ?_; clear hK7 K7 hK2 K2
    apply wp_seq_k; intro K9 hK9
    refine wp_region_lit ?_
    refine vc_y hF rfl rfl (by decide) _ (y_move rfl rfl) (fun a hF => ?_)
    refine vc_op rfl (fun K hK => ws_own hF rfl (by decide) rfl ([(g, T, dc (X.map flip) ++ R)]) (X := []) (by rw [List.append_nil]; exact hAr) (Own.nil w 5 1) Tryd.underlying24 elem5 rfl rfl hsrc (by rw [Nat.zero_add]; omega) (by decide) (fun vo Y w2 a hO hF hA2 => hK _ _ ?_))
    clear hK K
    rw [List.nil_append, Nat.zero_add] at hO
    refine vc_y hF rfl rfl (by decide) _ (y_assign rfl rfl) (fun a hF => ?_)
    refine vc_nil ?_
    refine hK9 _ _ ?_; clear  hK9 K9
    apply wp_ret
    refine vc_ret1 hF Tryd.results27 rfl ?_
    exact ⟨vo, Y, rfl, hO, hA2⟩
theorem turned_at (w : World) (g : Nat) (T : TypeId) (X : List UInt8) (R : List Value) (c n : Nat) (hn : n = X.length) (hl : n < 140737488355000) (hrow : w.heap[g]? = some (.cells (dc X ++ R).toArray T (0, 0))) :
    Calls Tryd.prog 27 #[.slice (some ⟨g, 0, none⟩) n c] w (Turned2 w g T X R) := by
  subst hn
  exact turned_all w g T X R c hl hrow

def tw (b : UInt8) : UInt8 := b ^^^ 1
theorem xor_tw (b : UInt8) : bits .xor .u8 ((b.toNat : Nat) : Int) 1 = ((tw b).toNat : Int) := by
  rw [show (1 : Int) = ((1 : Nat) : Int) from rfl, u8_xor_nat _ _ b.toNat_lt (by decide)]
  rfl
theorem tw_len (l : List UInt8) : (l.map tw).length = l.length := by simp
theorem roomy_tw (k : List UInt8) : dc ((roomy k 165).map tw) = dc (k.map tw) ++ dc ((List.replicate 80 165).map tw) := by rw [roomy, List.map_append, dc_append]
theorem macL_len (k m : List UInt8) : (macL k m).length = 32 := by unfold macL; exact sha_length _
set_option maxRecDepth 100000 in
set_option maxHeartbeats 2000000 in
theorem law_macs (w : World) (KA MA : Option Addr) (k m : List UInt8) (ck cm : Nat) (hBk : Bts w KA k) (hBm : Bts w MA m) (hk : k.length < 140737488351300) (hm : m.length < 140737488351300) (hT : Tab w) :
    Calls Tryd.prog 6 #[.slice KA k.length ck, .slice MA m.length cm] w fun e w' => e = .returned (.bool true) ∧ At w [] w' := by
  have hA0 := At.refl w
  have hpos : 0 < w.heap.size := hT.lt
  obtain ⟨D, hD⟩ : ∃ D, D = macL (macK k) m := ⟨_, rfl⟩
  have hDl : D.length = 32 := by rw [hD, macL_len]
  obtain ⟨R, hR⟩ : ∃ R, R = dc (List.replicate 80 165) := ⟨_, rfl⟩
  obtain ⟨F0, hF0⟩ : ∃ F0, F0 = roomy k 165 := ⟨_, rfl⟩
  have hF0l : F0.length = k.length + 80 := by rw [hF0, roomy_length]
  obtain ⟨k2, hk2⟩ : ∃ k2, k2 = k.map tw := ⟨_, rfl⟩
  have hk2l : k2.length = k.length := by rw [hk2, tw_len]
  obtain ⟨R2, hR2⟩ : ∃ R2, R2 = dc ((List.replicate 80 165).map tw) := ⟨_, rfl⟩
  obtain ⟨m2, hm2⟩ : ∃ m2, m2 = m.map flip := ⟨_, rfl⟩
  have hm2l : m2.length = m.length := by rw [hm2, flip_len]
  refine vc_enter Tryd.func6 rfl Tryd.ntmps6 (Nat.le_of_ble_eq_true rfl) (fun a hF => ?_)
  apply wp_seq_k; intro K1 hK1
  refine wp_region_lit ?_
  refine vc_y hF rfl rfl (by decide) _ (y_assign rfl rfl) (fun a hF => ?_)
  refine vc_nil ?_
  refine hK1 _ _ ?_; clear  hK1 K1
  apply wp_seq_k; intro K2 hK2
  refine wp_region_lit ?_
  refine vc_y hF rfl rfl (by decide) _ (y_move rfl rfl) (fun a hF => ?_)
  refine vc_op rfl (fun K hK => ws_call hF rfl (by decide) cl20_lm rfl rfl ?_)
  with_reducible refine (roomy_any w KA k 165 ck k.length rfl hBk (by omega) 165 rfl).mono ?_
  rintro e' w1 ⟨gk, rfl, hgk, hA1⟩
  refine ⟨_, rfl, fun a hF => hK _ _ ?_⟩; clear hK K
  rw [roomy_dc, ← hR] at hA1
  refine vc_y hF rfl rfl (by decide) _ (y_assign rfl rfl) (fun a hF => ?_)
  refine vc_nil ?_
  refine hK2 _ _ ?_; clear  hK2 K2
  apply wp_seq_k; intro K3 hK3
  refine wp_region_lit ?_
  refine vc_y hF rfl rfl (by decide) _ (y_move rfl rfl) (fun a hF => ?_)
  refine vc_op rfl (fun K hK => ws_call hF rfl (by decide) cl20_lm rfl rfl ?_)
  with_reducible refine (roomy_any w1 MA m 165 cm m.length rfl (hBm.fresh hA1 (one_new hgk)) (by omega) 165 rfl).mono ?_
  rintro e' w2 ⟨gm, rfl, hgm, hc2⟩
  refine ⟨_, rfl, fun a hF => hK _ _ ?_⟩; clear hK K
  rw [roomy_dc, ← hR] at hc2
  have hA2 : At w [(gm, 5, dc m ++ R), (gk, 5, dc k ++ R)] w2 := hA1.thenNew hc2 (one_new hgm)
  clear hc2
  have qm : w.heap.size ≤ gm := by have := hA1.size; omega
  have hn0 : ∀ r ∈ [(gm, 5, dc m ++ R), (gk, 5, dc k ++ R)], w.heap.size ≤ (r : Row).1 := cons_new qm (one_new hgk)
  refine vc_y hF rfl rfl (by decide) _ (y_assign rfl rfl) (fun a hF => ?_)
  refine vc_nil ?_
  refine hK3 _ _ ?_; clear  hK3 K3
  apply wp_seq_k; intro K4 hK4
  have tail : ∀ (a : Act) (x : World) (b7 : Nat), w.heap.size ≤ b7 → Fr 91 [(0, .slice KA k.length ck), (1, .slice MA m.length cm), (5, .slice (some ⟨gk, 0, none⟩) (k.length + 80) (k.length + 80)), (6, .slice (some ⟨gm, 0, none⟩) (m.length + 80) (m.length + 80)), (7, .pointer (some ⟨b7, 0, none⟩))] a → At w [(b7, 36, dc D), (gm, 5, dc m ++ R), (gk, 5, dc k ++ R)] x → K4 a x := by
    clear hF
    intro a w5 b7 q7 hF hA5
    refine hK4 _ _ ?_; clear  hK4 K4
    apply wp_seq_k; intro K5 hK5
    apply wp_seq_k; intro K6 hK6
    have hn1 : ∀ r ∈ [(b7, 36, dc D), (gm, 5, dc m ++ R), (gk, 5, dc k ++ R)], w.heap.size ≤ (r : Row).1 := cons_new q7 hn0
    refine wp_region_plan 16 [3,8,14,16] [0,1,2,3,4,5,6,7,8,9,10,11,12,13,14,15,16] (At w [(b7, 36, dc D), (gm, 5, dc m ++ R), (gk, 5, dc k ++ R)]) (by kernel_rfl) (by kernel_rfl) (hA5.drew) ?_
    refine vp_y hF rfl rfl rfl rfl (by decide) _ (fun x hx => y_loadRow rfl hx rfl 0 rfl rw36_lm (by rw [dc_length, hDl]; decide) (by rw [List.drop_zero, List.take_of_length_le (by rw [dc_length, hDl]; exact Nat.le_refl _)])) (fun a hF => ?_)
    refine vp_y hF rfl rfl rfl rfl (by decide) _ (fun x hx => y_move rfl rfl) (fun a hF => ?_)
    refine vp_y hF rfl rfl rfl rfl (by decide) _ (fun x hx => y_move rfl rfl) (fun a hF => ?_)
    refine vp_l rfl rfl rfl (fun K hK => ws_call hF rfl (by decide) cl26_lm rfl rfl ?_)
    with_reducible refine (refmac_any _ KA MA k m ck cm (hBk.fresh hA5.drew hn1) (hBm.fresh hA5.drew hn1) (by omega) (by omega)).mono ?_
    rintro e' w6 ⟨rfl, hc6⟩
    refine ⟨_, rfl, fun a hF => hK _ _ (fun _ => hA5.drew.then0 hc6) ?_⟩; clear hK K
    have hA6 := hA5.drew.then0 hc6
    clear hc6
    rw [← hD] at hF
    refine vp_y hF rfl rfl rfl rfl (by decide) _ (fun x hx => y_neB rfl Tryd.underlying36 Tryd.underlying5 bk_size5 (by kernel_rfl) rfl rfl hDl hDl (ndec_f rfl)) (fun a hF => ?_)
    refine vp_y hF rfl rfl rfl rfl (by decide) _ (fun x hx => y_move rfl rfl) (fun a hF => ?_)
    refine vp_yg hF rfl rfl rfl rfl rfl rfl rfl (by decide) _ (fun x hx => y_move rfl rfl) (fun a hF => ?_)
    refine vp_yg hF rfl rfl rfl rfl rfl rfl rfl (by decide) _ (fun x hx => y_move rfl rfl) (fun a hF => ?_)
    refine vp_lg hF rfl rfl rfl rfl rfl rfl (fun K hK => ws_call hF rfl (by decide) cl22_lm rfl rfl ?_)
    with_reducible refine (intact_any w6 (some ⟨gk, 0, none⟩) KA k 165 (k.length + 80) ck k.length (k.length + 80) rfl rfl (Nat.le_refl _) (bts_roomy hA6 (k := 2) rfl hR) (hBk.fresh hA6 hn1) (by omega) 165 rfl).mono ?_
    rintro e' w7 ⟨rfl, hc7⟩
    refine ⟨_, rfl, fun a hF => hK _ _ (fun _ => hA6.then0 hc7) ?_⟩; clear hK K
    have hA7 := hA6.then0 hc7
    clear hc7
    refine vp_yg hF rfl rfl rfl rfl rfl rfl rfl (by decide) _ (fun x hx => y_not rfl rfl rfl) (fun a hF => ?_)
    refine vp_y hF rfl rfl rfl rfl (by decide) _ (fun x hx => y_pick rfl rfl rfl) (fun a hF => ?_)
    refine vp_y hF rfl rfl rfl rfl (by decide) _ (fun x hx => y_move rfl rfl) (fun a hF => ?_)
    refine vp_yg hF rfl rfl rfl rfl rfl rfl rfl (by decide) _ (fun x hx => y_move rfl rfl) (fun a hF => ?_)
    refine vp_yg hF rfl rfl rfl rfl rfl rfl rfl (by decide) _ (fun x hx => y_move rfl rfl) (fun a hF => ?_)
    refine vp_lg hF rfl rfl rfl rfl rfl rfl (fun K hK => ws_call hF rfl (by decide) cl22_lm rfl rfl ?_)
    with_reducible refine (intact_any w7 (some ⟨gm, 0, none⟩) MA m 165 (m.length + 80) cm m.length (m.length + 80) rfl rfl (Nat.le_refl _) (bts_roomy hA7 (k := 1) rfl hR) (hBm.fresh hA7 hn1) (by omega) 165 rfl).mono ?_
    rintro e' w8 ⟨rfl, hc8⟩
    refine ⟨_, rfl, fun a hF => hK _ _ (fun _ => hA7.then0 hc8) ?_⟩; clear hK K
    have hA8 := hA7.then0 hc8
    clear hc8
    refine vp_yg hF rfl rfl rfl rfl rfl rfl rfl (by decide) _ (fun x hx => y_not rfl rfl rfl) (fun a hF => ?_)
    refine vp_ly hF rfl rfl rfl rfl (by decide) _ (y_pick rfl rfl rfl) (fun h => absurd h (by decide)) (fun a hF => ?_)
    refine plan_end ?_
    refine hK6 _ _ ?_; clear  hK6 K6
    refine vc_false hF rfl ?_
    replace hA8 : At w [(b7, 36, dc D), (gm, 5, dc m ++ R), (gk, 5, dc (thru tw F0 0))] w8 := by
      have e : dc (thru tw F0 0) = dc k ++ R := by show dc F0 = _; rw [hF0, roomy_dc, hR]
      rw [e]; exact hA8
    apply wp_skip
    refine hK5 _ _ ?_; clear  hK5 K5
    apply wp_seq_k; intro K7 hK7
    apply wp_seq_k; intro K8 hK8
    refine wp_region_lit ?_
    refine vc_y hF rfl rfl (by decide) _ (y_assign rfl rfl) (fun a hF => ?_)
    refine vc_nil ?_
    refine hK8 _ _ ?_; clear  hK8 K8
    apply wp_block
    refine vc_loop (G := Nat) (fun i a x => i ≤ k.length + 80 ∧ Fr 91 [(8, .int .i64 (i : Int)), (0, .slice KA k.length ck), (1, .slice MA m.length cm), (5, .slice (some ⟨gk, 0, none⟩) (k.length + 80) (k.length + 80)), (6, .slice (some ⟨gm, 0, none⟩) (m.length + 80) (m.length + 80))] a ∧ At w [(b7, 36, dc D), (gm, 5, dc m ++ R), (gk, 5, dc (thru tw F0 i))] x) (fun i => k.length + 80 - i) 0 ⟨Nat.zero_le _, hF.keep [8, 0, 1, 5, 6] rfl, hA8⟩ ?_
    clear hF
    rintro i a wr ⟨hi, hF, hAr⟩
    by_cases hlt : i < k.length + 80
    · apply wp_seq_k; intro K9 hK9
      apply wp_seq_k; intro K10 hK10
      refine wp_region_lit ?_
      refine vc_y hF rfl rfl (by decide) _ (y_move rfl rfl) (fun a hF => ?_)
      refine vc_y hF rfl rfl (by decide) _ (y_move rfl rfl) (fun a hF => ?_)
      refine vc_y hF rfl rfl (by decide) _ (y_lenSl rfl Tryd.underlying24 rfl (show ((k.length + 80 : Nat) : Int) = (k.length : Int) + 80 by omega)) (fun a hF => ?_)
      refine vc_y hF rfl rfl (by decide) _ (y_cmp rfl rfl rfl rfl rfl) (fun a hF => ?_)
      refine vc_nil ?_
      refine hK10 _ _ ?_; clear  hK10 K10
      refine vc_trueB hF rfl (lss_t (by omega)) ?_
      apply wp_skip
      refine hK9 _ _ ?_; clear  hK9 K9
      apply wp_seq_k; intro K11 hK11
      apply wp_block
      refine wp_region_lit ?_
      refine vc_y hF rfl rfl (by decide) _ (y_move rfl rfl) (fun a hF => ?_)
      refine vc_y hF rfl rfl (by decide) _ (y_move rfl rfl) (fun a hF => ?_)
      refine vc_y hF rfl rfl (by decide) _ (y_move rfl rfl) (fun a hF => ?_)
      refine vc_y hF rfl rfl (by decide) _ (y_move rfl rfl) (fun a hF => ?_)
      refine vc_y hF rfl rfl (by decide) _ (y_ixSl rfl Tryd.underlying24 sz5_lm rfl rfl i rfl (by omega) (ad1 _ _)) (fun a hF => ?_)
      refine vc_y hF rfl rfl (by decide) _ (y_loadAt rfl hAr rfl 2 rfl (mget tw F0 i (by omega)) nr5_lm) (fun a hF => ?_)
      refine vc_y hF rfl rfl (by decide) _ (y_xor rfl rfl rfl (xor_tw _)) (fun a hF => ?_)
      refine vc_y hF rfl rfl (by decide) _ (y_ixSl rfl Tryd.underlying24 sz5_lm rfl rfl i rfl (by omega) (ad1 _ _)) (fun a hF => ?_)
      refine vc_op rfl (fun K hK => ws_store1 hF rfl rfl hAr rfl rfl 2 rfl (by rw [dc_length, thru, List.length_append, List.length_take, List.length_map, List.length_drop]; omega) rfl sz5_lm (fun w9 hA9 => hK _ _ ?_))
      clear hK K
      replace hA9 : At w [(b7, 36, dc D), (gm, 5, dc m ++ R), (gk, 5, dc (thru tw F0 (i + 1)))] w9 := by rw [← thru_set tw F0 i (by omega)]; exact hA9
      refine vc_nil ?_
      refine hK11 _ _ ?_; clear  hK11 K11
      refine wp_region_lit ?_
      refine vc_y hF rfl rfl (by decide) _ (y_move rfl rfl) (fun a hF => ?_)
      refine vc_y hF rfl rfl (by decide) _ (y_add rfl rfl rfl (IntWalk.i64_in _ (by omega))) (fun a hF => ?_)
      refine vc_y hF rfl rfl (by decide) _ (y_assign rfl rfl) (fun a hF => ?_)
      refine vc_nil ?_
      exact ⟨i + 1, by omega, by omega, hF.keep [8, 0, 1, 5, 6] rfl, hA9⟩
    · obtain rfl : i = k.length + 80 := by omega
      replace hAr : At w [(b7, 36, dc D), (gm, 5, dc m ++ R), (gk, 5, dc k2 ++ R2)] wr := by
        have e : dc k2 ++ R2 = dc (thru tw F0 (k.length + 80)) := by
          rw [thru, mend tw F0 _ hF0l.symm, hF0, roomy_tw, hk2, hR2]
        rw [e]; exact hAr
      have hsrc : Src Tryd.prog 1 24 (.slice (some ⟨gk, 0, none⟩) k.length (k.length + 80)) k.length (dc k2) wr := by
        have h := Bts.src (P := Tryd.prog) (c := k.length + 80) Tryd.underlying24 (bts_front hAr (k := 2) rfl)
        rw [hk2l] at h
        exact h
      apply wp_seq_k; intro K12 hK12
      apply wp_seq_k; intro K13 hK13
      refine wp_region_lit ?_
      refine vc_y hF rfl rfl (by decide) _ (y_move rfl rfl) (fun a hF => ?_)
      refine vc_y hF rfl rfl (by decide) _ (y_move rfl rfl) (fun a hF => ?_)
      refine vc_y hF rfl rfl (by decide) _ (y_lenSl rfl Tryd.underlying24 rfl (show ((k.length + 80 : Nat) : Int) = (k.length : Int) + 80 by omega)) (fun a hF => ?_)
      refine vc_y hF rfl rfl (by decide) _ (y_cmp rfl rfl rfl rfl rfl) (fun a hF => ?_)
      refine vc_nil ?_
      refine hK13 _ _ ?_; clear  hK13 K13
      refine vc_falseB hF rfl (lss_f (by omega)) ?_
      apply wp_exit
      refine hK7 _ _ ?_; clear hK12 K12 hK7 K7
      apply wp_seq_k; intro K14 hK14
      refine wp_region_lit ?_
      refine vc_y hF rfl rfl (by decide) _ (y_move rfl rfl) (fun a hF => ?_)
      refine vc_y hF rfl rfl (by decide) _ (y_move rfl rfl) (fun a hF => ?_)
      refine vc_y hF rfl rfl (by decide) _ (y_lenSl rfl Tryd.underlying24 rfl rfl) (fun a hF => ?_)
      refine vc_y hF rfl rfl (by decide) _ (y_slice rfl Tryd.underlying24 bk_size5 rfl (.none 0) (.some rfl rfl) (by omega) (by omega) slice_to) (fun a hF => ?_)
      refine vc_op rfl (fun K hK => ws_own hF rfl (by decide) rfl [(b7, 36, dc D), (gm, 5, dc m ++ R), (gk, 5, dc k2 ++ R2)] (X := []) (by rw [List.append_nil]; exact hAr) (Own.nil w 5 1) Tryd.underlying24 elem5 rfl rfl hsrc (by rw [Nat.zero_add]; omega) (by decide) (fun vo X w10 a hO hF hA10 => hK _ _ ?_))
      clear hK K
      rw [List.nil_append, Nat.zero_add] at hO
      have hOX := hO.new
      obtain ⟨_, Ao, co, rfl, hco, hBo⟩ := own_parts hO
      rw [hk2l] at hco hF
      have hn2 : ∀ r ∈ [(b7, 36, dc D), (gm, 5, dc m ++ R), (gk, 5, dc k2 ++ R2)] ++ X, w.heap.size ≤ (r : Row).1 := all_new (cons_new q7 (cons_new qm (one_new hgk))) hOX
      refine vc_y hF rfl rfl (by decide) _ (y_assign rfl rfl) (fun a hF => ?_)
      refine vc_nil ?_
      refine hK14 _ _ ?_; clear  hK14 K14
      apply wp_seq_k; intro K15 hK15
      apply wp_seq_k; intro K16 hK16
      refine wp_region_plan 12 [8,11,12] [0,1,2,3,4,5,6,7,9,10,8,11,12] (At w ([(b7, 36, dc D), (gm, 5, dc m ++ R), (gk, 5, dc k2 ++ R2)] ++ X)) (by kernel_rfl) (by kernel_rfl) (hA10.drew) ?_
      refine vp_y hF rfl rfl rfl rfl (by decide) _ (fun x hx => y_move rfl rfl) (fun a hF => ?_)
      refine vp_y hF rfl rfl rfl rfl (by decide) _ (fun x hx => y_move rfl rfl) (fun a hF => ?_)
      refine vp_y hF rfl rfl rfl rfl (by decide) _ (fun x hx => y_lenSl rfl Tryd.underlying24 rfl rfl) (fun a hF => ?_)
      refine vp_y hF rfl rfl rfl rfl (by decide) _ (fun x hx => y_slice rfl Tryd.underlying24 bk_size5 rfl (.none 0) (.some rfl rfl) (by omega) (by omega) slice_to) (fun a hF => ?_)
      refine vp_y hF rfl rfl rfl rfl (by decide) _ (fun x hx => y_move rfl rfl) (fun a hF => ?_)
      refine vp_y hF rfl rfl rfl rfl (by decide) _ (fun x hx => y_move rfl rfl) (fun a hF => ?_)
      refine vp_y hF rfl rfl rfl rfl (by decide) _ (fun x hx => y_lenSl rfl Tryd.underlying24 rfl rfl) (fun a hF => ?_)
      refine vp_y hF rfl rfl rfl rfl (by decide) _ (fun x hx => y_slice rfl Tryd.underlying24 bk_size5 rfl (.none 0) (.some rfl rfl) (by omega) (by omega) slice_to) (fun a hF => ?_)
      refine vp_y hF rfl rfl rfl rfl (by decide) _ (fun x hx => y_move rfl rfl) (fun a hF => ?_)
      refine vp_y hF rfl rfl rfl rfl (by decide) _ (fun x hx => y_move rfl rfl) (fun a hF => ?_)
      refine vp_l rfl rfl rfl (fun K hK => ws_call hF rfl (by decide) cl25_lm rfl rfl ?_)
      with_reducible refine (mac_at w10.drew (some ⟨gk, 0, none⟩) (some ⟨gm, 0, none⟩) k2 m (k.length + 80) (m.length + 80) k.length m.length (by omega) (by omega) (by omega) (by omega) (bts_front hA10.drew (k := 2) rfl) (in_row hA10.drew (k := 2) rfl) (bts_front hA10.drew (k := 1) rfl) (in_row hA10.drew (k := 1) rfl) (by omega) (by omega) (hT.at_ hA10.drew (not0 hpos hn2))).mono ?_
      rintro e' w11 ⟨rfl, hc11⟩
      refine ⟨_, rfl, fun a hF => hK _ _ (fun _ => hA10.drew.then0 hc11) ?_⟩; clear hK K
      have hA11 : At w ([(b7, 36, dc D), (gm, 5, dc m ++ R), (gk, 5, dc k2 ++ R2)] ++ X) w11 := hA10.drew.then0 hc11
      clear hc11
      refine vp_l rfl rfl rfl (fun K hK => ws_call hF rfl (by decide) cl26_lm rfl rfl ?_)
      with_reducible refine (refmac_at w11 Ao MA k2 m co cm k.length hk2l.symm (hBo _ _ hA11) (hBm.fresh hA11 hn2) (by omega) (by omega)).mono ?_
      rintro e' w12 ⟨rfl, hc12⟩
      refine ⟨_, rfl, fun a hF => hK _ _ (fun _ => hA11.then0 hc12) ?_⟩; clear hK K
      have hA12 : At w ([(b7, 36, dc D), (gm, 5, dc m ++ R), (gk, 5, dc k2 ++ R2)] ++ X) w12 := hA11.then0 hc12
      clear hc12
      refine vp_ly hF rfl rfl rfl rfl (by decide) _ (y_neB rfl Tryd.underlying36 Tryd.underlying5 bk_size5 (by kernel_rfl) rfl rfl (macL_len _ _) (macL_len _ _) (ndec_f rfl)) (fun h => absurd h (by decide)) (fun a hF => ?_)
      refine plan_end ?_
      refine hK16 _ _ ?_; clear  hK16 K16
      refine vc_false hF rfl ?_
      apply wp_skip
      refine hK15 _ _ ?_; clear  hK15 K15
      apply wp_seq_k; intro K17 hK17
      refine wp_region_lit ?_
      refine vc_y hF rfl rfl (by decide) _ (y_move rfl rfl) (fun a hF => ?_)
      refine vc_y hF rfl rfl (by decide) _ (y_move rfl rfl) (fun a hF => ?_)
      refine vc_y hF rfl rfl (by decide) _ (y_lenSl rfl Tryd.underlying24 rfl rfl) (fun a hF => ?_)
      refine vc_y hF rfl rfl (by decide) _ (y_slice rfl Tryd.underlying24 bk_size5 rfl (.none 0) (.some rfl rfl) (by omega) (by omega) slice_to) (fun a hF => ?_)
      refine vc_op rfl (fun K hK => ws_call hF rfl (by decide) cl27_lm rfl rfl ?_)
      with_reducible refine (turned_at w12 gm 5 m R (m.length + 80) m.length rfl (by omega) (hA12.row (k := 1) rfl)).mono ?_
      rintro e' w13 ⟨vl, Y, rfl, hO2, hc13⟩
      refine ⟨_, rfl, fun a hF => hK _ _ ?_⟩; clear hK K
      rw [← hm2] at hO2 hc13
      have hYn := hO2.new
      have hA13 : At w ([(b7, 36, dc D), (gm, 5, dc m2 ++ R), (gk, 5, dc k2 ++ R2)] ++ X ++ Y) w13 := hA12.then1n (k := 1) rfl hc13 hYn
      have hO3 := hO2.weaken hA12.size
      obtain ⟨_, Al, cl, rfl, hcl, hBl⟩ := own_parts hO3
      rw [hm2l] at hcl hF
      refine vc_y hF rfl rfl (by decide) _ (y_assign rfl rfl) (fun a hF => ?_)
      refine vc_nil ?_
      have hn3 : ∀ r ∈ [(b7, 36, dc D), (gm, 5, dc m2 ++ R), (gk, 5, dc k2 ++ R2)] ++ X ++ Y, w.heap.size ≤ (r : Row).1 := all_new (all_new (cons_new q7 (cons_new qm (one_new hgk))) hOX) (fun r hr => Nat.le_trans hA12.size (hYn r hr))
      have hBo2 : ∀ x, At w ([(b7, 36, dc D), (gm, 5, dc m2 ++ R), (gk, 5, dc k2 ++ R2)] ++ X ++ Y) x → Bts x Ao k2 := fun x hx => hBo ([(b7, 36, dc D), (gm, 5, dc m2 ++ R), (gk, 5, dc k2 ++ R2)] ++ Y) x (hx.perm (perm_swap3 _ _ _))
      have hBl2 : ∀ x, At w ([(b7, 36, dc D), (gm, 5, dc m2 ++ R), (gk, 5, dc k2 ++ R2)] ++ X ++ Y) x → Bts x Al m2 := fun x hx => hBl ([(b7, 36, dc D), (gm, 5, dc m2 ++ R), (gk, 5, dc k2 ++ R2)] ++ X) x hx
      refine hK17 _ _ ?_; clear  hK17 K17
      apply wp_seq_k; intro K18 hK18
      refine wp_region_plan 13 [8,11,13] [0,1,2,3,4,5,6,7,9,10,8,11,12,13] (At w ([(b7, 36, dc D), (gm, 5, dc m2 ++ R), (gk, 5, dc k2 ++ R2)] ++ X ++ Y)) (by kernel_rfl) (by kernel_rfl) (hA13.drew) ?_
      refine vp_y hF rfl rfl rfl rfl (by decide) _ (fun x hx => y_move rfl rfl) (fun a hF => ?_)
      refine vp_y hF rfl rfl rfl rfl (by decide) _ (fun x hx => y_move rfl rfl) (fun a hF => ?_)
      refine vp_y hF rfl rfl rfl rfl (by decide) _ (fun x hx => y_lenSl rfl Tryd.underlying24 rfl rfl) (fun a hF => ?_)
      refine vp_y hF rfl rfl rfl rfl (by decide) _ (fun x hx => y_slice rfl Tryd.underlying24 bk_size5 rfl (.none 0) (.some rfl rfl) (by omega) (by omega) slice_to) (fun a hF => ?_)
      refine vp_y hF rfl rfl rfl rfl (by decide) _ (fun x hx => y_move rfl rfl) (fun a hF => ?_)
      refine vp_y hF rfl rfl rfl rfl (by decide) _ (fun x hx => y_move rfl rfl) (fun a hF => ?_)
      refine vp_y hF rfl rfl rfl rfl (by decide) _ (fun x hx => y_lenSl rfl Tryd.underlying24 rfl rfl) (fun a hF => ?_)
      refine vp_y hF rfl rfl rfl rfl (by decide) _ (fun x hx => y_slice rfl Tryd.underlying24 bk_size5 rfl (.none 0) (.some rfl rfl) (by omega) (by omega) slice_to) (fun a hF => ?_)
      refine vp_y hF rfl rfl rfl rfl (by decide) _ (fun x hx => y_move rfl rfl) (fun a hF => ?_)
      refine vp_y hF rfl rfl rfl rfl (by decide) _ (fun x hx => y_move rfl rfl) (fun a hF => ?_)
      refine vp_l rfl rfl rfl (fun K hK => ws_call hF rfl (by decide) cl25_lm rfl rfl ?_)
      with_reducible refine (mac_at w13.drew (some ⟨gk, 0, none⟩) (some ⟨gm, 0, none⟩) k2 m2 (k.length + 80) (m.length + 80) k.length m.length (by omega) (by omega) (by omega) (by omega) (bts_front hA13.drew (k := 2) rfl) (in_row hA13.drew (k := 2) rfl) (bts_front hA13.drew (k := 1) rfl) (in_row hA13.drew (k := 1) rfl) (by omega) (by omega) (hT.at_ hA13.drew (not0 hpos hn3))).mono ?_
      rintro e' w14 ⟨rfl, hc14⟩
      refine ⟨_, rfl, fun a hF => hK _ _ (fun _ => hA13.drew.then0 hc14) ?_⟩; clear hK K
      have hA14 : At w ([(b7, 36, dc D), (gm, 5, dc m2 ++ R), (gk, 5, dc k2 ++ R2)] ++ X ++ Y) w14 := hA13.drew.then0 hc14
      clear hc14
      refine vp_l rfl rfl rfl (fun K hK => ws_call hF rfl (by decide) cl26_lm rfl rfl ?_)
      with_reducible refine (refmac_at2 w14 Ao Al k2 m2 co cl k.length m.length hk2l.symm hm2l.symm (hBo2 _ hA14) (hBl2 _ hA14) (by omega) (by omega)).mono ?_
      rintro e' w15 ⟨rfl, hc15⟩
      refine ⟨_, rfl, fun a hF => hK _ _ (fun _ => hA14.then0 hc15) ?_⟩; clear hK K
      have hA15 : At w ([(b7, 36, dc D), (gm, 5, dc m2 ++ R), (gk, 5, dc k2 ++ R2)] ++ X ++ Y) w15 := hA14.then0 hc15
      clear hc15
      refine vp_y hF rfl rfl rfl rfl (by decide) _ (fun x hx => y_eqB rfl Tryd.underlying36 Tryd.underlying5 bk_size5 (by kernel_rfl) rfl rfl (macL_len _ _) (macL_len _ _) (dec_t rfl)) (fun a hF => ?_)
      refine vp_ly hF rfl rfl rfl rfl (by decide) _ (y_assign rfl rfl) (fun h => absurd h (by decide)) (fun a hF => ?_)
      refine plan_end ?_
      refine hK18 _ _ ?_; clear  hK18 K18
      apply wp_ret
      refine vc_ret1 hF Tryd.results6 rfl ?_
      exact ⟨rfl, hA15.clear hn3⟩
  refine wp_region_fork 10 [8,9,10] (.op 0 (.op 1 (.op 2 (.op 3 (.op 4 (.op 5 (.op 6 (.op 7 (.fork 8 9 (.op 9 (.op 10 .done)) (.op 8 (.op 10 .done))))))))))) (At w [(gm, 5, dc m ++ R), (gk, 5, dc k ++ R)]) (by kernel_rfl) (by kernel_rfl) (hA2.drew) ?_
  refine vt_y hF rfl rfl rfl rfl (by decide) _ (fun x hx => y_move rfl rfl) (fun a hF => ?_)
  refine vt_y hF rfl rfl rfl rfl (by decide) _ (fun x hx => y_move rfl rfl) (fun a hF => ?_)
  refine vt_y hF rfl rfl rfl rfl (by decide) _ (fun x hx => y_lenSl rfl Tryd.underlying24 rfl rfl) (fun a hF => ?_)
  refine vt_y hF rfl rfl rfl rfl (by decide) _ (fun x hx => y_slice rfl Tryd.underlying24 bk_size5 rfl (.none 0) (.some rfl rfl) (by omega) (by omega) slice_to) (fun a hF => ?_)
  refine vt_y hF rfl rfl rfl rfl (by decide) _ (fun x hx => y_move rfl rfl) (fun a hF => ?_)
  refine vt_y hF rfl rfl rfl rfl (by decide) _ (fun x hx => y_move rfl rfl) (fun a hF => ?_)
  refine vt_y hF rfl rfl rfl rfl (by decide) _ (fun x hx => y_lenSl rfl Tryd.underlying24 rfl rfl) (fun a hF => ?_)
  refine vt_y hF rfl rfl rfl rfl (by decide) _ (fun x hx => y_slice rfl Tryd.underlying24 bk_size5 rfl (.none 0) (.some rfl rfl) (by omega) (by omega) slice_to) (fun a hF => ?_)
  refine vt_fork rfl rfl rfl rfl (fun K hK => ?_) (fun K hK => ?_)
  · refine ws_call hF rfl (by decide) cl25_lm rfl rfl ?_
    with_reducible refine (mac_at w2.drew (some ⟨gk, 0, none⟩) (some ⟨gm, 0, none⟩) k m (k.length + 80) (m.length + 80) k.length m.length (by omega) (by omega) (by omega) (by omega) (bts_front hA2.drew (k := 1) rfl) (in_row hA2.drew (k := 1) rfl) (bts_front hA2.drew (k := 0) rfl) (in_row hA2.drew (k := 0) rfl) (by omega) (by omega) (hT.at_ hA2.drew (not0 hpos hn0))).mono ?_
    rintro e' w3 ⟨rfl, hc3⟩
    refine ⟨_, rfl, fun a hF => hK _ _ (hA2.drew.then0 hc3) ?_⟩; clear hK K
    have hA3 := hA2.drew.then0 hc3
    clear hc3
    rw [← hD] at hF
    refine vt_l rfl rfl rfl (fun K hK => ws_alloc hF rfl (by decide) rfl hA3 zero36 (fun b7 w4 a hb7 hF hA4 => hK _ _ (fun _ => hA4.drop (.cons _ (.refl _)) (fun r hr hlt => by rcases List.mem_cons.1 hr with e | h; (subst e; have := hA3.size; simp only at hlt; omega); exact h)) ?_))
    clear hK K
    refine vt_l rfl rfl rfl (fun K hK => ws_storeAll hF rfl rfl hA4 rfl rfl 0 rfl (by rw [dc_length, hDl, dc_length]; rfl) (dc_one _) (by rw [size36]; rfl) (fun w5 hA5 => hK _ _ (fun h => absurd h (by decide)) ?_))
    clear hK K
    refine pt_end ?_
    exact tail _ _ b7 (by have := hA3.size; omega) (hF.keep [0, 1, 5, 6, 7] rfl) hA5
  · refine ws_alloc hF rfl (by decide) rfl hA2.drew zero36 (fun b7 w4 a hb7 hF hA4 => hK _ _ (hA4.drop (.cons _ (.refl _)) (fun r hr hlt => by rcases List.mem_cons.1 hr with e | h; (subst e; have := hA2.drew.size; simp only at hlt; omega); exact h)) ?_)
    clear hK K
    have q7 : w.heap.size ≤ b7 := by have := hA2.drew.size; omega
    refine vt_l rfl rfl rfl (fun K hK => ws_call hF rfl (by decide) cl25_lm rfl rfl ?_)
    with_reducible refine (mac_at w4 (some ⟨gk, 0, none⟩) (some ⟨gm, 0, none⟩) k m (k.length + 80) (m.length + 80) k.length m.length (by omega) (by omega) (by omega) (by omega) (bts_front hA4 (k := 2) rfl) (in_row hA4 (k := 2) rfl) (bts_front hA4 (k := 1) rfl) (in_row hA4 (k := 1) rfl) (by omega) (by omega) (hT.at_ hA4 (not0 hpos (cons_new q7 hn0)))).mono ?_
    rintro e' w3 ⟨rfl, hc3⟩
    refine ⟨_, rfl, fun a hF => hK _ _ (fun _ => (hA4.then0 hc3).drop (.cons _ (.refl _)) (fun r hr hlt => by rcases List.mem_cons.1 hr with e | h; (subst e; simp only at hlt; omega); exact h)) ?_⟩; clear hK K
    have hA3 := hA4.then0 hc3
    clear hc3
    rw [← hD] at hF
    refine vt_l rfl rfl rfl (fun K hK => ws_storeAll hF rfl rfl hA3 rfl rfl 0 rfl (by rw [dc_length, hDl, dc_length]; rfl) (dc_one _) (by rw [size36]; rfl) (fun w5 hA5 => hK _ _ (fun h => absurd h (by decide)) ?_))
    clear hK K
    refine pt_end ?_
    exact tail _ _ b7 (by have := hA2.drew.size; omega) (hF.keep [0, 1, 5, 6, 7] rfl) hA5
end Go.Proofs.YtppmhlkonemebaaDoor
