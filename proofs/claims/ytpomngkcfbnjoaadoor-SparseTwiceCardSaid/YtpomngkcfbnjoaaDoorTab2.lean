/- The digest's table: Entry, Within, Equal, Clone, Clash. -/
import Derived.Test.YtpomngkcfbnjoaaDoorTab
import Derived.Test.YtpomngkcfbnjoaaDoorMap
namespace Go.Proofs.YtpomngkcfbnjoaaDoor
open Go.RowKit Go.Dk

/-- the number's 64 bits -/
def c64 (z : Int) : Nat := (z % 18446744073709551616).toNat
theorem c64_lt (z : Int) : c64 z < 2 ^ 64 := by unfold c64; omega
theorem tb_dkey : Go.Dk.DKey Tryd.prog 23 5 := ⟨⟨Tryd.underlying23, by kernel_rfl, by kernel_rfl, by kernel_rfl⟩, Tryd.underlying5, by kernel_rfl, ⟨Tryd.prog.types.size - 1, by kernel_rfl⟩⟩
theorem tb_formed {D : List UInt8} (h : D.length = 32) : (Value.agg (dc D).toArray).formed Tryd.prog 23 = true := by
  unfold Value.formed
  rw [Tryd.underlying23]
  simp only [List.size_toArray, dc_length, h]
  kernel_rfl
theorem tb_zero3 (w : World) : (zeroValue 3).run Tryd.prog w = .ok (.int .i64 0) w := by kernel_rfl
theorem tb_bs0 (w : World) : (Instr.buildSlice 59 0 #[]).run Tryd.prog w = .ok (.slice (some ⟨w.heap.size, 0, none⟩) 0 0) (w.alloc (.cells #[] 5)) := by kernel_rfl
theorem Wr.drew {w0 : World} {wb : Nat} {R X : List Row} {v : Value} {l : List UInt8} {w : World} (h : Wr w0 wb R X v l w) : Wr w0 wb R X v l w.drew := ⟨h.1, h.2.drew⟩

set_option maxRecDepth 100000 in
set_option maxHeartbeats 1000000 in
theorem equal_any (w : World) (X Y : Option Addr) (l k : List UInt8) (n m ca cb : Nat) (hn : n = l.length) (hm : m = k.length) (hX : Bts w X l) (hY : Bts w Y k) :
    Calls Tryd.prog 59 #[.slice X n ca, .slice Y m cb] w fun e w' => e = .returned (.bool (l == k)) ∧ w = w' := by
  subst hn hm
  refine vc_enter Tryd.func59 rfl Tryd.ntmps59 (Nat.le_of_ble_eq_true rfl) (fun a hF => ?_)
  apply wp_seq_k; intro K1 hK1
  refine wp_region_lit ?_
  refine vc_y hF rfl rfl (by decide) _ (y_assign rfl rfl) (fun a hF => ?_)
  refine vc_nil ?_
  refine hK1 _ _ ?_; clear  hK1 K1
  apply wp_seq_k; intro K2 hK2
  refine wp_region_lit ?_
  refine vc_y hF rfl rfl (by decide) _ (y_move rfl rfl) (fun a hF => ?_)
  refine vc_y hF rfl rfl (by decide) _ (y_convStr rfl Tryd.underlying59 Tryd.underlying5 Tryd.underlying9 rfl rfl hX) (fun a hF => ?_)
  refine vc_y hF rfl rfl (by decide) _ (y_move rfl rfl) (fun a hF => ?_)
  refine vc_y hF rfl rfl (by decide) _ (y_convStr rfl Tryd.underlying59 Tryd.underlying5 Tryd.underlying9 rfl rfl hY) (fun a hF => ?_)
  refine vc_y hF rfl rfl (by decide) _ (y_cmpS (c := l == k) rfl rfl rfl rfl rfl) (fun a hF => ?_)
  refine vc_y hF rfl rfl (by decide) _ (y_assign rfl rfl) (fun a hF => ?_)
  refine vc_nil ?_
  refine hK2 _ _ ?_; clear  hK2 K2
  apply wp_ret
  refine vc_ret1 hF Tryd.results59 rfl ?_
  exact ⟨rfl, rfl⟩

theorem bts_none {w : World} {l : List UInt8} (h : Bts w none l) : l = [] := by
  by_cases hl : l = []
  · exact hl
  · obtain ⟨_, _, h1, _⟩ := h hl; cases h1

end Go.Proofs.YtpomngkcfbnjoaaDoor
