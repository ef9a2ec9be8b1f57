/- The walks of turned (any slice of one's own), DigestMacs. -/
import Derived.Test.YtppmhlkonemebaaDoorLawSums
import Derived.Test.YtppmhlkonemebaaDoorTwo
namespace Go.Proofs.YtppmhlkonemebaaDoor
open Go.RowKit Go.Dk

/-- turned: the bytes turned where they stand, and a copy of them -/
def Turned2 (w : World) (g : Nat) (T : TypeId) (X : List UInt8) (R : List Value) (e : Ending) (w' : World) : Prop :=
  ∃ v Y, e = .returned v ∧ Own w 5 1 Y v X.length (dc (X.map flip)) ∧ At w ((g, T, dc (X.map flip) ++ R) :: Y) w'
theorem nr5_lm : notRow Tryd.prog 5 = true := by kernel_rfl
theorem sz5_lm : (Tryd.prog.info? 5).map (·.size) = some 1 := by kernel_rfl
set_option maxRecDepth 100000 in
set_option maxHeartbeats 1000000 in
theorem turned_all (w : World) (g : Nat) (T : TypeId) (X : List UInt8) (R : List Value) (c : Nat) (hl : X.length < 140737488355000) (hrow : w.heap[g]? = some (.cells (dc X ++ R).toArray T (0, 0))) :
    Calls Tryd.prog 27 #[.slice (some ⟨g, 0, none⟩) X.length c] w (Turned2 w g T X R) := by
  have hA0 : At w [(g, T, dc (mix X 0) ++ R)] w := At.start1 hrow
  refine vc_enter Tryd.func27 rfl Tryd.ntmps27 (Nat.le_of_ble_eq_true rfl) (fun a hF => ?_)
  apply wp_seq_k; intro K1 hK1
  refine wp_region_lit ?_
  refine vc_y hF rfl rfl (by decide) _ (y_assign rfl rfl) (fun a hF => ?_)
  refine vc_nil ?_
  refine hK1 _ _ ?_; clear  hK1 K1
  apply wp_seq_k; intro K2 hK2
  apply wp_seq_k; intro K3 hK3
  refine wp_region_lit ?_
  refine vc_y hF rfl rfl (by decide) _ (y_assign rfl rfl) (fun a hF => ?_)
  refine vc_nil ?_
  refine hK3 _ _ ?_; clear  hK3 K3
  apply wp_block
  refine vc_loop (G := Nat) (fun i a x => i ≤ X.length ∧ Fr 20 [(3, .int .i64 (i : Int)), (0, .slice (some ⟨g, 0, none⟩) X.length c)] a ∧ At w [(g, T, dc (mix X i) ++ R)] x) (fun i => X.length - i) 0 ⟨Nat.zero_le _, hF.keep [3, 0] rfl, hA0⟩ ?_
  clear hF
  rintro i a wr ⟨hi, hF, hAr⟩
  by_cases hlt : i < X.length
  · apply wp_seq_k; intro K4 hK4
    apply wp_seq_k; intro K5 hK5
    refine wp_region_lit ?_
    refine vc_y hF rfl rfl (by decide) _ (y_move rfl rfl) (fun a hF => ?_)
    refine vc_y hF rfl rfl (by decide) _ (y_move rfl rfl) (fun a hF => ?_)
    refine vc_y hF rfl rfl (by decide) _ (y_lenSl rfl Tryd.underlying24 rfl rfl) (fun a hF => ?_)
    refine vc_y hF rfl rfl (by decide) _ (y_cmp rfl rfl rfl rfl rfl) (fun a hF => ?_)
    refine vc_nil ?_
    refine hK5 _ _ ?_; clear  hK5 K5
    refine vc_trueB hF rfl (lss_t (by omega)) ?_
    apply wp_skip
    refine hK4 _ _ ?_; clear  hK4 K4
    apply wp_seq_k; intro K6 hK6
    apply wp_block
    refine wp_region_lit ?_
    refine vc_y hF rfl rfl (by decide) _ (y_move rfl rfl) (fun a hF => ?_)
    refine vc_y hF rfl rfl (by decide) _ (y_move rfl rfl) (fun a hF => ?_)
    refine vc_y hF rfl rfl (by decide) _ (y_move rfl rfl) (fun a hF => ?_)
    refine vc_y hF rfl rfl (by decide) _ (y_move rfl rfl) (fun a hF => ?_)
    refine vc_y hF rfl rfl (by decide) _ (y_ixSl rfl Tryd.underlying24 sz5_lm rfl rfl i rfl hlt (ad1 _ _)) (fun a hF => ?_)
    refine vc_y hF rfl rfl (by decide) _ (y_loadAt rfl hAr rfl 0 rfl (mix_get X R i hlt) nr5_lm) (fun a hF => ?_)
    refine vc_y hF rfl rfl (by decide) _ (y_xor rfl rfl rfl (xor_flip _)) (fun a hF => ?_)
    refine vc_y hF rfl rfl (by decide) _ (y_ixSl rfl Tryd.underlying24 sz5_lm rfl rfl i rfl hlt (ad1 _ _)) (fun a hF => ?_)
    refine vc_op rfl (fun K hK => ws_store1 hF rfl rfl hAr rfl rfl 0 rfl (by rw [List.length_append, dc_length, mix_length X i hi]; omega) rfl sz5_lm (fun w1 hA1 => hK _ _ ?_))
    clear hK K
    replace hA1 : At w [(g, T, dc (mix X (i + 1)) ++ R)] w1 := by rw [← mix_set X R i hlt]; exact hA1
    refine vc_nil ?_
    refine hK6 _ _ ?_; clear  hK6 K6
    refine wp_region_lit ?_
    refine vc_y hF rfl rfl (by decide) _ (y_move rfl rfl) (fun a hF => ?_)
    refine vc_y hF rfl rfl (by decide) _ (y_add rfl rfl rfl (IntWalk.i64_in _ (by omega))) (fun a hF => ?_)
    refine vc_y hF rfl rfl (by decide) _ (y_assign rfl rfl) (fun a hF => ?_)
    refine vc_nil ?_
    exact ⟨i + 1, by omega, by omega, hF.keep [3, 0] rfl, hA1⟩
  · obtain rfl : i = X.length := by omega
    rw [mix_end] at hAr
    have hsrc : Src Tryd.prog 1 24 (.slice (some ⟨g, 0, none⟩) X.length c) X.length (dc (X.map flip)) wr := by
      have h := Bts.src (P := Tryd.prog) (c := c) Tryd.underlying24 (bts_front hAr (k := 0) rfl)
      rw [flip_len] at h
      exact h
    apply wp_seq_k; intro K7 hK7
    apply wp_seq_k; intro K8 hK8
    refine wp_region_lit ?_
    refine vc_y hF rfl rfl (by decide) _ (y_move rfl rfl) (fun a hF => ?_)
    refine vc_y hF rfl rfl (by decide) _ (y_move rfl rfl) (fun a hF => ?_)
    refine vc_y hF rfl rfl (by decide) _ (y_lenSl rfl Tryd.underlying24 rfl rfl) (fun a hF => ?_)
    refine vc_y hF rfl rfl (by decide) _ (y_cmp rfl rfl rfl rfl rfl) (fun a hF => ?_)
    refine vc_nil ?_
    refine hK8 _ _ ?_; clear  hK8 K8
    refine vc_falseB hF rfl (lss_f (by omega)) ?_
    apply wp_exit
    refine hK2 _ _ ?_; clear hK7 K7 hK2 K2
    apply wp_seq_k; intro K9 hK9
    refine wp_region_lit ?_
    refine vc_y hF rfl rfl (by decide) _ (y_move rfl rfl) (fun a hF => ?_)
    refine vc_op rfl (fun K hK => ws_own hF rfl (by decide) rfl ([(g, T, dc (X.map flip) ++ R)]) (X := []) (by rw [List.append_nil]; exact hAr) (Own.nil w 5 1) Tryd.underlying24 elem5 rfl rfl hsrc (by rw [Nat.zero_add]; omega) (by decide) (fun vo Y w2 a hO hF hA2 => hK _ _ ?_))
    clear hK K
    rw [List.nil_append, Nat.zero_add] at hO
    refine vc_y hF rfl rfl (by decide) _ (y_assign rfl rfl) (fun a hF => ?_)
    refine vc_nil ?_
    refine hK9 _ _ ?_; clear  hK9 K9
    apply wp_ret
    refine vc_ret1 hF Tryd.results27 rfl ?_
    exact ⟨vo, Y, rfl, hO, hA2⟩
end Go.Proofs.YtppmhlkonemebaaDoor
