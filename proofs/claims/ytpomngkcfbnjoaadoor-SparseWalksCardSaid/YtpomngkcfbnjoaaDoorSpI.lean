/- The walk of a sparse tree, item by item; a list of its items. -/
import Derived.Test.YtpomngkcfbnjoaaDoorSpQ
import Derived.Test.YtpomngkcfbnjoaaDoorRg
import Derived.Test.YtpomngkcfbnjoaaDoorSp
namespace Go.Proofs.YtpomngkcfbnjoaaDoor
open Go.RowKit Go.Dk

abbrev WalkC (w0 : World) (L : List Itm) (G : List Seg) (q : Bool) (bx : Value) (JS : List Itm → List Seg → Prop) (JX : List Seg → Prop) (t : Rx) : Prop :=
  ∀ pre post, pre ++ (t.items ++ post) = L → ∀ (w : World) (R S : List Seg) (g : Nat), G ⊆ R → JS pre S → Tr w0 G q t g → Hp w0 (S ++ R) w → Calls Tryd.prog 67 #[.pointer (some ⟨g, 0, none⟩), .func (.func 68) #[] #[bx]] w (WRes w0 JS JX R (pre ++ t.items))
/-- what the closure that is handed to walk does with an item -/
abbrev YC (w0 : World) (L : List Itm) (G : List Seg) (bx : Value) (JS : List Itm → List Seg → Prop) (JX : List Seg → Prop) : Prop :=
  ∀ pre i post, pre ++ i :: post = L → ∀ (w : World) (R S : List Seg), G ⊆ R → JS pre S → Hp w0 (S ++ R) w → Calls Tryd.prog 68 #[.agg (dc i.k).toArray, .agg i.ent.toArray, bx] w (WRes w0 JS JX R (pre ++ [i]))
/-- what a round does with an item -/
abbrev YR (w0 : World) (l : Nat) (L : List Itm) (G : List Seg) (JS : List Itm → List Seg → Prop) (JX : List Seg → Prop) : Prop :=
  ∀ pre i post, pre ++ i :: post = L → i.OK → ∀ (w : World) (R S : List Seg), G ⊆ R → JS pre S → Hp w0 (S ++ R) w → Ydl Tryd.prog l #[.agg i.cells.toArray] w (WRes w0 JS JX R (pre ++ [i]))
theorem rg_build {i : Itm} (h : i.OK) (w : World) : (Instr.build 54 #[(0, .agg (dc i.k).toArray), (1, .agg i.ent.toArray)]).run Tryd.prog w = .ok (.agg i.cells.toArray) w := by
  have h1 : ∀ (f g : Nat → UInt8) (c : Int), (Instr.build 54 #[(0, .agg (dc ((List.range 32).map f)).toArray), (1, .agg (.int .i64 c :: dc ((List.range 32).map g)).toArray)]).run Tryd.prog w = .ok (.agg (dc ((List.range 32).map f) ++ (.int .i64 c :: dc ((List.range 32).map g))).toArray) w := fun f g c => by kernel_rfl
  have h2 := h1 (bAt i.k) (bAt i.ch) i.ct
  rw [list32 h.k, list32 h.ch] at h2
  exact h2
theorem y_binR {P : Program} {w : World} {n : Nat} {F : List (Nat × Value)} {o : Oper} {op : BinOp} {t t' : TypeId} {x y : Operand} {u v r : Value} (ho : o.op = .binOp op t x y t') (hx : Dk.ev F x = some u) (hy : Dk.ev F y = some v) (hr : ∀ w : World, (do eqGuard op t x y u v; binOp op t u v : Sem Value).run P w = .ok r w) : Yd P n F o w r := fun a hF => by
  unfold execOp
  have h := hr w
  simp only [ho, hF.ev hx, hF.ev hy]
  rw [Sem.run_bind, h]
  rfl
theorem nr3_s16 : notRow Tryd.prog 3 = true := by kernel_rfl
theorem nr5_s16 : notRow Tryd.prog 5 = true := by kernel_rfl
theorem nr43_s16 : notRow Tryd.prog 43 = true := by kernel_rfl
theorem nr55_s16 : notRow Tryd.prog 55 = true := by kernel_rfl
theorem nr118_s16 : notRow Tryd.prog 118 = true := by kernel_rfl
theorem rw23_s16 : isRow Tryd.prog 23 32 = true := by kernel_rfl
theorem rw25_s16 : isRow Tryd.prog 25 33 = true := by kernel_rfl
theorem rw45_s16 : isRow Tryd.prog 45 2 = true := by kernel_rfl
theorem rw54_s16 : isRow Tryd.prog 54 65 = true := by kernel_rfl
theorem sz3_s16 : (Tryd.prog.info? 3).map (·.size) = some 1 := by kernel_rfl
theorem sz5_s16 : (Tryd.prog.info? 5).map (·.size) = some 1 := by kernel_rfl
theorem sz23_s16 : (Tryd.prog.info? 23).map (·.size) = some 32 := by kernel_rfl
theorem sz25_s16 : (Tryd.prog.info? 25).map (·.size) = some 33 := by kernel_rfl
theorem sz43_s16 : (Tryd.prog.info? 43).map (·.size) = some 1 := by kernel_rfl
theorem sz54_s16 : (Tryd.prog.info? 54).map (·.size) = some 65 := by kernel_rfl
theorem sz55_s16 : (Tryd.prog.info? 55).map (·.size) = some 1 := by kernel_rfl
theorem sz104_s16 : (Tryd.prog.info? 104).map (·.size) = some 2 := by kernel_rfl
theorem cl33_s16 : CallsTo Tryd.prog 33 := ⟨_, Tryd.func33, by kernel_rfl, by kernel_rfl⟩
theorem cl66_s16 : CallsTo Tryd.prog 66 := ⟨_, Tryd.func66, by kernel_rfl, by kernel_rfl⟩
theorem cl67_s16 : CallsTo Tryd.prog 67 := ⟨_, Tryd.func67, by kernel_rfl, by kernel_rfl⟩
theorem cl68_s16 : CallsTo Tryd.prog 68 := ⟨_, Tryd.func68, by kernel_rfl, by kernel_rfl⟩

theorem zr54_s16 : zeroIs Tryd.prog 54 (.agg ([.int .u8 0, .int .u8 0, .int .u8 0, .int .u8 0, .int .u8 0, .int .u8 0, .int .u8 0, .int .u8 0, .int .u8 0, .int .u8 0, .int .u8 0, .int .u8 0, .int .u8 0, .int .u8 0, .int .u8 0, .int .u8 0, .int .u8 0, .int .u8 0, .int .u8 0, .int .u8 0, .int .u8 0, .int .u8 0, .int .u8 0, .int .u8 0, .int .u8 0, .int .u8 0, .int .u8 0, .int .u8 0, .int .u8 0, .int .u8 0, .int .u8 0, .int .u8 0, .int .i64 0, .int .u8 0, .int .u8 0, .int .u8 0, .int .u8 0, .int .u8 0, .int .u8 0, .int .u8 0, .int .u8 0, .int .u8 0, .int .u8 0, .int .u8 0, .int .u8 0, .int .u8 0, .int .u8 0, .int .u8 0, .int .u8 0, .int .u8 0, .int .u8 0, .int .u8 0, .int .u8 0, .int .u8 0, .int .u8 0, .int .u8 0, .int .u8 0, .int .u8 0, .int .u8 0, .int .u8 0, .int .u8 0, .int .u8 0, .int .u8 0, .int .u8 0, .int .u8 0] : List Value).toArray) := by unfold zeroIs; kernel_rfl
theorem zr55_s16 : zeroIs Tryd.prog 55 (.slice none 0 0) := by unfold zeroIs; kernel_rfl

set_option maxRecDepth 100000 in
set_option maxHeartbeats 2000000 in
theorem rt_walkL {w0 : World} {L : List Itm} {G : List Seg} {q : Bool} {bx : Value} {JS : List Itm → List Seg → Prop} {JX : List Seg → Prop} (hY : YC w0 L G bx JS JX) (i : Itm) (hi : i.OK) : WalkC w0 L G q bx JS JX (.leaf i) := by
  intro pre post hL w R S g hG0 hJ hTr hA
  have hG : G ⊆ S ++ R := fun x hx => List.mem_append_right _ (hG0 hx)
  have hL2 := NodeL.leaf hi
  have hN : Rw w0 G g (nodeC i.k i.ent 1 256 (.pointer none) (.pointer none) (List.replicate 64 (.int .u8 0))) := hTr
  refine vc_enter Tryd.func67 rfl Tryd.ntmps67 (Nat.le_of_ble_eq_true rfl) (fun a hF => ?_)
  apply wp_seq_k; intro K1 hK1
  refine wp_region_lit ?_
  refine vc_y hF rfl rfl (by decide) _ (y_assign rfl rfl) (fun a hF => ?_)
  refine vc_nil ?_
  refine hK1 _ _ ?_; clear  hK1 K1
  apply wp_seq_k; intro K2 hK2
  apply wp_seq_k; intro K3 hK3
  refine wp_region_lit ?_
  refine vc_y hF rfl rfl (by decide) _ (y_move rfl rfl) (fun a hF => ?_)
  refine vc_y hF rfl rfl (by decide) _ (y_eqNil rfl (by kernel_rfl) rfl rfl) (fun a hF => ?_)
  refine vc_nil ?_
  refine hK3 _ _ ?_; clear  hK3 K3
  refine vc_false hF rfl ?_
  apply wp_skip
  refine hK2 _ _ ?_; clear  hK2 K2
  apply wp_seq_k; intro K4 hK4
  apply wp_seq_k; intro K5 hK5
  refine wp_region_lit ?_
  refine vc_y hF rfl rfl (by decide) _ (y_move rfl rfl) (fun a hF => ?_)
  refine vc_y hF rfl rfl (by decide) _ (y_nilCheck rfl rfl) (fun a hF => ?_)
  refine vc_y hF rfl rfl (by decide) _ (y_field rfl Tryd.underlying107 rfl sz3_s16 (by decide) rfl (rfl : (⟨_, 0 + _, none⟩ : Addr) = ⟨_, 66, none⟩)) (fun a hF => ?_)
  refine vc_y hF rfl rfl (by decide) _ (y_ldC rfl (Hq.sub hA.q (List.Subset.trans hG (sub0))) rfl hN 66 (by rw [nodeC_len hL2]; decide) rfl (nodeC_bit hL2 _ _ _ _) nr3_s16) (fun a hF => ?_)
  refine vc_y hF rfl rfl (by decide) _ (y_cmp rfl rfl rfl rfl (eql_t (by omega))) (fun a hF => ?_)
  refine vc_nil ?_
  refine hK5 _ _ ?_; clear  hK5 K5
  refine vc_true hF rfl ?_
  apply wp_seq_k; intro K6 hK6
  refine wp_region_plan 9 [9,10] [0,1,2,3,4,5,6,7,8,9,10] (fun x => Hq w0 ((S ++ R)) x) (by kernel_rfl) (by kernel_rfl) (Hq.drew (Hp.qp [] (S ++ R) [] hA)) ?_
  have hA1 := Hl.drew hA
  refine vp_y hF rfl rfl rfl rfl (by decide) _ (fun x hx => y_move rfl rfl) (fun a hF => ?_)
  refine vp_y hF rfl rfl rfl rfl (by decide) _ (fun x hx => y_move rfl rfl) (fun a hF => ?_)
  refine vp_y hF rfl rfl rfl rfl (by decide) _ (fun x hx => y_nilCheck rfl rfl) (fun a hF => ?_)
  refine vp_y hF rfl rfl rfl rfl (by decide) _ (fun x hx => y_field rfl Tryd.underlying107 rfl sz23_s16 (by decide) rfl (rfl : (⟨_, 0 + _, none⟩ : Addr) = ⟨_, 0, none⟩)) (fun a hF => ?_)
  refine vp_y hF rfl rfl rfl rfl (by decide) _ (fun x hx => y_ldRowC rfl (Hq.sub hx (List.Subset.trans hG (sub0))) rfl hN 0 (by rw [nodeC_len hL2]; decide) rfl (nodeC_key hL2 _ _ _ _) rw23_s16) (fun a hF => ?_)
  refine vp_y hF rfl rfl rfl rfl (by decide) _ (fun x hx => y_move rfl rfl) (fun a hF => ?_)
  refine vp_y hF rfl rfl rfl rfl (by decide) _ (fun x hx => y_nilCheck rfl rfl) (fun a hF => ?_)
  refine vp_y hF rfl rfl rfl rfl (by decide) _ (fun x hx => y_field rfl Tryd.underlying107 rfl sz25_s16 (by decide) rfl (rfl : (⟨_, 0 + _, none⟩ : Addr) = ⟨_, 32, none⟩)) (fun a hF => ?_)
  refine vp_y hF rfl rfl rfl rfl (by decide) _ (fun x hx => y_ldRowC rfl (Hq.sub hx (List.Subset.trans hG (sub0))) rfl hN 32 (by rw [nodeC_len hL2]; decide) rfl (nodeC_ent hL2 _ _ _ _) rw25_s16) (fun a hF => ?_)
  refine vp_l rfl rfl rfl (fun K hK => ws_callC hF rfl (by decide) cl68_s16 rfl rfl rfl ?_)
  refine (hY pre i post (by have h := hL; unfold Rx.items at h; rw [List.singleton_append] at h; exact h) _ R S hG0 hJ hA1).mono ?_
  rintro e' w2 ⟨b, rfl, hW⟩
  refine ⟨_, rfl, fun a hF => hK _ _ (fun h => absurd h (by decide)) ?_⟩
  clear hK K
  refine vp_ly hF rfl rfl rfl rfl (by decide) _ (y_assign rfl rfl) (fun h => absurd h (by decide)) (fun a hF => ?_)
  refine plan_end ?_
  refine hK6 _ _ ?_; clear  hK6 K6
  apply wp_ret
  simp only [Exit.then]
  refine vc_ret1 hF Tryd.results67 rfl ?_
  exact ⟨b, rfl, hW⟩

set_option maxRecDepth 100000 in
set_option maxHeartbeats 2000000 in
theorem rt_walkF {w0 : World} {L : List Itm} {G : List Seg} {q : Bool} {bx : Value} {JS : List Itm → List Seg → Prop} {JX : List Seg → Prop} (b : Nat) (l r : Rx) (hg : (Rx.fork b l r).Good) (hl : WalkC w0 L G q bx JS JX l) (hr : WalkC w0 L G q bx JS JX r) : WalkC w0 L G q bx JS JX (.fork b l r) := by
  intro pre post hL w R S g hG0 hJ hTr hA
  have hG : G ⊆ S ++ R := fun x hx => List.mem_append_right _ (hG0 hx)
  have hgl := hg.1
  have hll := Rx.bit_le hgl
  have hbl : b < l.bit := hg.2.2.1
  obtain ⟨hL2, gl, gr, hN, hTl, hTr2⟩ := Tr.viewF hg hTr
  have hL' : pre ++ (l.items ++ (r.items ++ post)) = L := by rw [← hL]; show _ = pre ++ ((l.items ++ r.items) ++ post); rw [List.append_assoc]
  have hL'' : (pre ++ l.items) ++ (r.items ++ post) = L := by rw [← hL', List.append_assoc]
  refine vc_enter Tryd.func67 rfl Tryd.ntmps67 (Nat.le_of_ble_eq_true rfl) (fun a hF => ?_)
  apply wp_seq_k; intro K1 hK1
  refine wp_region_lit ?_
  refine vc_y hF rfl rfl (by decide) _ (y_assign rfl rfl) (fun a hF => ?_)
  refine vc_nil ?_
  refine hK1 _ _ ?_; clear  hK1 K1
  apply wp_seq_k; intro K2 hK2
  apply wp_seq_k; intro K3 hK3
  refine wp_region_lit ?_
  refine vc_y hF rfl rfl (by decide) _ (y_move rfl rfl) (fun a hF => ?_)
  refine vc_y hF rfl rfl (by decide) _ (y_eqNil rfl (by kernel_rfl) rfl rfl) (fun a hF => ?_)
  refine vc_nil ?_
  refine hK3 _ _ ?_; clear  hK3 K3
  refine vc_false hF rfl ?_
  apply wp_skip
  refine hK2 _ _ ?_; clear  hK2 K2
  apply wp_seq_k; intro K4 hK4
  apply wp_seq_k; intro K5 hK5
  refine wp_region_lit ?_
  refine vc_y hF rfl rfl (by decide) _ (y_move rfl rfl) (fun a hF => ?_)
  refine vc_y hF rfl rfl (by decide) _ (y_nilCheck rfl rfl) (fun a hF => ?_)
  refine vc_y hF rfl rfl (by decide) _ (y_field rfl Tryd.underlying107 rfl sz3_s16 (by decide) rfl (rfl : (⟨_, 0 + _, none⟩ : Addr) = ⟨_, 66, none⟩)) (fun a hF => ?_)
  refine vc_y hF rfl rfl (by decide) _ (y_ldC rfl (Hq.sub hA.q (List.Subset.trans hG (sub0))) rfl hN 66 (by rw [nodeC_len hL2]; decide) rfl (nodeC_bit hL2 _ _ _ _) nr3_s16) (fun a hF => ?_)
  refine vc_y hF rfl rfl (by decide) _ (y_cmp rfl rfl rfl rfl (eql_f (by omega))) (fun a hF => ?_)
  refine vc_nil ?_
  refine hK5 _ _ ?_; clear  hK5 K5
  refine vc_false hF rfl ?_
  apply wp_skip
  refine hK4 _ _ ?_; clear  hK4 K4
  apply wp_seq_k; intro K6 hK6
  refine wp_region_lit ?_
  refine vc_y hF rfl rfl (by decide) _ (y_move rfl rfl) (fun a hF => ?_)
  refine vc_y hF rfl rfl (by decide) _ (y_nilCheck rfl rfl) (fun a hF => ?_)
  refine vc_y hF rfl rfl (by decide) _ (y_field rfl Tryd.underlying107 rfl sz104_s16 (by decide) rfl (rfl : (⟨_, 0 + _, none⟩ : Addr) = ⟨_, 67, none⟩)) (fun a hF => ?_)
  refine vc_y hF rfl rfl (by decide) _ (y_ixArr rfl Tryd.underlying104 sz43_s16 rfl rfl 0 rfl (by decide) (rfl : (⟨_, 67 + 0 * 1, none⟩ : Addr) = ⟨_, 67, none⟩) (rfl : (none : Option Nat) = none)) (fun a hF => ?_)
  refine vc_y hF rfl rfl (by decide) _ (y_ldC rfl (Hq.sub hA.q (List.Subset.trans hG (sub0))) rfl hN 67 (by rw [nodeC_len hL2]; decide) rfl (nodeC_kid0 hL2 _ _ _ _) nr43_s16) (fun a hF => ?_)
  refine vc_y hF rfl rfl (by decide) _ (y_move rfl rfl) (fun a hF => ?_)
  refine vc_op rfl (fun K hK => ws_call hF rfl (by decide) cl67_s16 rfl rfl ?_)
  with_reducible refine (hl pre (r.items ++ post) hL' _ R S gl hG0 hJ hTl hA).mono ?_
  rintro e' w2 ⟨b1, rfl, hW⟩
  refine ⟨_, rfl, fun a hF => hK _ _ ?_⟩
  clear hK K
  cases b1
  · refine vc_y hF rfl rfl (by decide) _ (y_move rfl rfl) (fun a hF => ?_)
    refine vc_skip hF rfl rfl rfl rfl rfl rfl (by decide) (fun a hF => ?_)
    refine vc_skip hF rfl rfl rfl rfl rfl rfl (by decide) (fun a hF => ?_)
    refine vc_skip hF rfl rfl rfl rfl rfl rfl (by decide) (fun a hF => ?_)
    refine vc_skip hF rfl rfl rfl rfl rfl rfl (by decide) (fun a hF => ?_)
    refine vc_skip hF rfl rfl rfl rfl rfl rfl (by decide) (fun a hF => ?_)
    refine vc_skip hF rfl rfl rfl rfl rfl rfl (by decide) (fun a hF => ?_)
    refine vc_skip hF rfl rfl rfl rfl rfl rfl (by decide) (fun a hF => ?_)
    refine vc_y hF rfl rfl (by decide) _ (y_pick rfl rfl rfl) (fun a hF => ?_)
    refine vc_y hF rfl rfl (by decide) _ (y_assign rfl rfl) (fun a hF => ?_)
    refine vc_nil ?_
    refine hK6 _ _ ?_; clear  hK6 K6
    apply wp_ret
    refine vc_ret1 hF Tryd.results67 rfl ?_
    exact ⟨false, rfl, hW⟩
  · obtain ⟨S2, hJ2, hA2⟩ := hW
    have hG : G ⊆ S2 ++ R := fun x hx => List.mem_append_right _ (hG0 hx)
    refine vc_y hF rfl rfl (by decide) _ (y_move rfl rfl) (fun a hF => ?_)
    refine vc_yg hF rfl rfl rfl rfl rfl (by decide) _ (y_move rfl rfl) (fun a hF => ?_)
    refine vc_yg hF rfl rfl rfl rfl rfl (by decide) _ (y_nilCheck rfl rfl) (fun a hF => ?_)
    refine vc_yg hF rfl rfl rfl rfl rfl (by decide) _ (y_field rfl Tryd.underlying107 rfl sz104_s16 (by decide) rfl (rfl : (⟨_, 0 + _, none⟩ : Addr) = ⟨_, 67, none⟩)) (fun a hF => ?_)
    refine vc_yg hF rfl rfl rfl rfl rfl (by decide) _ (y_ixArr rfl Tryd.underlying104 sz43_s16 rfl rfl 1 rfl (by decide) (rfl : (⟨_, 67 + 1 * 1, none⟩ : Addr) = ⟨_, 68, none⟩) (rfl : (none : Option Nat) = none)) (fun a hF => ?_)
    refine vc_yg hF rfl rfl rfl rfl rfl (by decide) _ (y_ldC rfl (Hq.sub hA2.q (List.Subset.trans hG (sub0))) rfl hN 68 (by rw [nodeC_len hL2]; decide) rfl (nodeC_kid1 hL2 _ _ _ _) nr43_s16) (fun a hF => ?_)
    refine vc_yg hF rfl rfl rfl rfl rfl (by decide) _ (y_move rfl rfl) (fun a hF => ?_)
    refine vc_opg hF rfl rfl rfl rfl (fun K hK => ws_call hF rfl (by decide) cl67_s16 rfl rfl ?_)
    with_reducible refine (hr (pre ++ l.items) post hL'' _ R S2 gr hG0 hJ2 hTr2 hA2).mono ?_
    rintro e' w3 ⟨b2, rfl, hW⟩
    refine ⟨_, rfl, fun a hF => hK _ _ ?_⟩
    clear hK K
    refine vc_y hF rfl rfl (by decide) _ (y_pick rfl rfl rfl) (fun a hF => ?_)
    refine vc_y hF rfl rfl (by decide) _ (y_assign rfl rfl) (fun a hF => ?_)
    refine vc_nil ?_
    refine hK6 _ _ ?_; clear  hK6 K6
    apply wp_ret
    refine vc_ret1 hF Tryd.results67 rfl ?_
    rw [List.append_assoc] at hW
    exact ⟨b2, rfl, hW⟩

theorem rt_walk {w0 : World} {L : List Itm} {G : List Seg} {q : Bool} {bx : Value} {JS : List Itm → List Seg → Prop} {JX : List Seg → Prop} (hY : YC w0 L G bx JS JX) : ∀ t : Rx, t.Good → WalkC w0 L G q bx JS JX t
  | .leaf i, hg => rt_walkL hY i hg
  | .fork b l r, hg => rt_walkF b l r hg (rt_walk hY l hg.1) (rt_walk hY r hg.2.1)

set_option maxRecDepth 100000 in
set_option maxHeartbeats 2000000 in
theorem rt_walkN (w0 w : World) (R : List Seg) (bx : Value) (hA : Hp w0 R w) : Calls Tryd.prog 67 #[.pointer none, .func (.func 68) #[] #[bx]] w fun e w' => e = .returned (.bool true) ∧ Hp w0 R w' := by
  refine vc_enter Tryd.func67 rfl Tryd.ntmps67 (Nat.le_of_ble_eq_true rfl) (fun a hF => ?_)
  apply wp_seq_k; intro K1 hK1
  refine wp_region_lit ?_
  refine vc_y hF rfl rfl (by decide) _ (y_assign rfl rfl) (fun a hF => ?_)
  refine vc_nil ?_
  refine hK1 _ _ ?_; clear  hK1 K1
  apply wp_seq_k; intro K2 hK2
  apply wp_seq_k; intro K3 hK3
  refine wp_region_lit ?_
  refine vc_y hF rfl rfl (by decide) _ (y_move rfl rfl) (fun a hF => ?_)
  refine vc_y hF rfl rfl (by decide) _ (y_eqNilT rfl (by kernel_rfl) rfl rfl) (fun a hF => ?_)
  refine vc_nil ?_
  refine hK3 _ _ ?_; clear  hK3 K3
  refine vc_true hF rfl ?_
  apply wp_seq_k; intro K4 hK4
  refine wp_region_lit ?_
  refine vc_y hF rfl rfl (by decide) _ (y_assign rfl rfl) (fun a hF => ?_)
  refine vc_nil ?_
  refine hK4 _ _ ?_; clear  hK4 K4
  apply wp_ret
  simp only [Exit.then]
  refine vc_ret1 hF Tryd.results67 rfl ?_
  exact ⟨rfl, hA⟩

theorem hp_under2 {w0 w : World} {X Y : Seg} {S R : List Seg} (h : Hp w0 (X :: Y :: (S ++ R)) w) : Hp w0 (S ++ (X :: Y :: R)) w := by
  refine Hl.perm h ?_
  simp only [List.flatten_cons, List.flatten_append]
  rw [← List.append_assoc, ← List.append_assoc, ← List.append_assoc X Y]
  exact List.Perm.trans (List.Perm.append_right _ List.perm_append_comm) (List.Perm.of_eq (by rw [List.append_assoc]))
theorem YR.mono {w0 : World} {l : Nat} {L : List Itm} {G G2 : List Seg} {JS : List Itm → List Seg → Prop} {JX : List Seg → Prop} (h : YR w0 l L G JS JX) (hs : G ⊆ G2) : YR w0 l L G2 JS JX :=
  fun pre i post hL hi w R S hG => h pre i post hL hi w R S (List.Subset.trans hs hG)

set_option maxRecDepth 100000 in
set_option maxHeartbeats 2000000 in
theorem rt_yc {w0 : World} {L : List Itm} {G : List Seg} {JS : List Itm → List Seg → Prop} {JX : List Seg → Prop} {l bx : Nat} (hI : ∀ i ∈ L, i.OK) (hY : YR w0 l L G JS JX) (hbx : Rw w0 G bx [.func (.yield l) #[] #[]]) : YC w0 L G (.pointer (some ⟨bx, 0, none⟩)) JS JX := by
  intro pre i post hL w R S hG hJ hA
  have hi : i.OK := hI i (by rw [← hL]; exact List.mem_append_right _ (List.mem_cons_self ..))
  have hdk : (dc i.k).length = 32 := by rw [dc_length, hi.k]
  have hde : i.ent.length = 33 := by unfold Itm.ent; rw [List.length_cons, dc_length, hi.ch]
  have hno : ¬ LetsOut (bodyPostM (fc none) 0 Tryd.prog Tryd.f68 (WRes w0 JS JX R (pre ++ [i]))) := (fun ⟨_, _, (⟨_, h, _⟩ : ∃ b, _ = _ ∧ _)⟩ => nomatch h)
  refine vn_enter Tryd.func68 rfl Tryd.ntmps68 (Nat.le_of_ble_eq_true rfl) (fun a hF => ?_)
  apply wq_seq_k; intro K1 hK1
  refine wn_region_lit hno rfl ?_
  refine vc_op rfl (fun K hK => hs_box (cs := dc i.k) hF rfl (by decide) rfl hA rfl (fun b1 w2 a hb1 hF hA3 => hK _ _ ?_))
  clear hK K
  replace hA3 : Hp w0 ([row b1 23 (dc i.k)] :: (S ++ R)) w2 := hA3
  refine vc_op rfl (fun K hK => hs_box (cs := i.ent) hF rfl (by decide) rfl hA3 rfl (fun b4 w5 a hb4 hF hA6 => hK _ _ ?_))
  clear hK K
  replace hA6 : Hp w0 ([row b4 25 i.ent] :: [row b1 23 (dc i.k)] :: (S ++ R)) w5 := hA6
  refine vc_y hF rfl rfl (by decide) _ (y_assign rfl rfl) (fun a hF => ?_)
  refine vc_nil ?_
  refine hK1 _ _ ?_; clear  hK1 K1
  apply wq_seq_k; intro K2 hK2
  have hA7 : Hp w0 ([row b1 23 (dc i.k)] :: [row b4 25 i.ent] :: (S ++ R)) w5 := Hp.ord [[row b4 25 i.ent], [row b1 23 (dc i.k)]] (S ++ R) [1, 0] hA6 rfl
  refine wpIn_region_lit ?_
  refine wl_y hF rfl rfl rfl hno (by decide) _ (y_ldC rfl (Hq.sub hA7.q (show G ⊆ ([row b1 23 (dc i.k)] :: [row b4 25 i.ent] :: (S ++ R)) from fun x hx => List.mem_cons_of_mem _ (List.mem_cons_of_mem _ (List.mem_append_right _ (hG hx))))) rfl (hbx) 0 (by simp) rfl rfl nr118_s16) (fun a hF => ?_)
  refine wl_y hF rfl rfl rfl hno (by decide) _ (y_ldRow (new := dc i.k) rfl hA7.q rfl 0 rfl rw23_s16 (by rw [hdk]; exact Nat.le_refl _) (by rw [List.drop_zero]; exact List.take_of_length_le (by rw [hdk]; exact Nat.le_refl _))) (fun a hF => ?_)
  refine wl_y hF rfl rfl rfl hno (by decide) _ (y_ldRow (new := i.ent) rfl hA7.q rfl 1 rfl rw25_s16 (by rw [hde]; exact Nat.le_refl _) (by rw [List.drop_zero]; exact List.take_of_length_le (by rw [hde]; exact Nat.le_refl _))) (fun a hF => ?_)
  refine wl_y hF rfl rfl rfl hno (by decide) _ (y_build (qs := #[(0, .agg (dc i.k).toArray), (1, .agg i.ent.toArray)]) rfl rfl (by exact rg_build hi)) (fun a hF => ?_)
  refine wl_yield hF rfl rfl (by decide) rfl rfl rfl ?_
  have hA2 : Hp w0 (S ++ ([row b1 23 (dc i.k)] :: [row b4 25 i.ent] :: R)) w5 := hp_under2 hA7
  refine Ydl.mono (hY pre i post hL hi _ _ S (List.subset_cons_of_subset _ (List.subset_cons_of_subset _ hG)) hJ hA2) ?_
  rintro e' w2 ⟨b, rfl, hW⟩
  refine ⟨_, rfl, fun a hF => ?_⟩
  refine wl_y hF rfl rfl rfl hno (by decide) _ (y_assign rfl rfl) (fun a hF => ?_)
  refine wpListIn_nil ?_
  refine hK2 _ _ ?_; clear  hK2 K2
  apply wpIn_ret
  exact vn_ret1 hF Tryd.results68 rfl ⟨b, rfl, hW.drop.drop⟩

theorem cons_sub {X : Seg} {G R : List Seg} (h : G ⊆ R) : (X :: G) ⊆ (X :: R) := fun x hx => by
  rcases List.mem_cons.1 hx with rfl | hx
  · exact List.mem_cons_self ..
  · exact List.mem_cons_of_mem _ (h hx)

set_option maxRecDepth 100000 in
set_option maxHeartbeats 2000000 in
theorem rt_items1S {w0 w : World} {L : List Itm} {G : List Seg} {JS : List Itm → List Seg → Prop} {JX : List Seg → Prop} {l tb : Nat} (hI : ∀ i ∈ L, i.OK) (hY : YR w0 l L G JS JX) (t : Rx) (hg : t.Good) (hLt : t.items = L) (gn : Nat) (sl : Value) (q : Bool) (hTr : Tr w0 G q t gn) (R S : List Seg) (hG : G ⊆ R) (hTb : Rw w0 G tb [.pointer (some ⟨gn, 0, none⟩), sl]) (hJ : JS [] S) (hA : Hp w0 (S ++ R) w) : Calls Tryd.prog 66 #[.func (.yield l) #[] #[], .pointer (some ⟨tb, 0, none⟩)] w fun e w' => (∃ v, e = .returned v) ∧ ∃ b, WB w0 JS JX R L b w' := by
  have hGS : G ⊆ S ++ R := fun x hx => List.mem_append_right _ (hG hx)
  refine vc_enter Tryd.func66 rfl Tryd.ntmps66 (Nat.le_of_ble_eq_true rfl) (fun a hF => ?_)
  apply wp_seq_k; intro K1 hK1
  refine wp_region_lit ?_
  refine vc_op rfl (fun K hK => hs_box1 hF rfl (by decide) rfl hA rfl rfl (fun b1 w2 a hb1 hF hA3 => hK _ _ ?_))
  clear hK K
  replace hA3 : Hp w0 ([row b1 118 [.func (.yield l) #[] #[]]] :: (S ++ R)) w2 := hA3
  refine vc_nil ?_
  refine hK1 _ _ ?_; clear  hK1 K1
  refine wp_region_lit ?_
  refine vc_y hF rfl rfl (by decide) _ (y_field rfl Tryd.underlying45 rfl sz43_s16 (by decide) rfl (rfl : (⟨_, 0 + _, none⟩ : Addr) = ⟨_, 0, none⟩)) (fun a hF => ?_)
  refine vc_y hF rfl rfl (by decide) _ (y_ldC rfl (Hq.sub hA3.q (List.subset_cons_of_subset _ hGS)) rfl hTb 0 (by simp) rfl rfl nr43_s16) (fun a hF => ?_)
  refine vc_y hF rfl rfl (by decide) _ (y_makeFunc rfl rfl) (fun a hF => ?_)
  have hA2 : Hp w0 (S ++ ([row b1 118 [.func (.yield l) #[] #[]]] :: R)) w2 := Hp.under hA3
  have hgs : G ⊆ ([row b1 118 [.func (.yield l) #[] #[]]] :: G) := List.subset_cons_of_subset _ (List.Subset.refl _)
  refine vc_op rfl (fun K hK => ws_call hF rfl (by decide) cl67_s16 rfl rfl ?_)
  with_reducible refine (rt_walk (rt_yc hI (YR.mono hY hgs) (Rw.ofMem (List.mem_cons_self ..) (List.mem_cons_self ..))) t hg [] [] (by rw [List.append_nil, List.nil_append]; exact hLt) _ ([row b1 118 [.func (.yield l) #[] #[]]] :: R) S gn (cons_sub hG) hJ (hTr.mono hgs) hA2).mono ?_
  rintro e' w2 ⟨b, rfl, hW⟩
  refine ⟨_, rfl, fun a hF => hK _ _ ?_⟩
  clear hK K
  refine vc_nil ?_
  refine vc_end0 hF Tryd.results66 ?_
  rw [List.nil_append, hLt] at hW
  exact ⟨⟨_, rfl⟩, b, hW.drop⟩

set_option maxRecDepth 100000 in
set_option maxHeartbeats 2000000 in
theorem rt_items1N {w0 w : World} {G : List Seg} {JS : List Itm → List Seg → Prop} {JX : List Seg → Prop} {l tb : Nat} (sl : Value) (R S : List Seg) (hG : G ⊆ R) (hTb : Rw w0 G tb [.pointer none, sl]) (hJ : JS [] S) (hA : Hp w0 (S ++ R) w) : Calls Tryd.prog 66 #[.func (.yield l) #[] #[], .pointer (some ⟨tb, 0, none⟩)] w fun e w' => (∃ v, e = .returned v) ∧ ∃ b, WB w0 JS JX R [] b w' := by
  have hGS : G ⊆ S ++ R := fun x hx => List.mem_append_right _ (hG hx)
  refine vc_enter Tryd.func66 rfl Tryd.ntmps66 (Nat.le_of_ble_eq_true rfl) (fun a hF => ?_)
  apply wp_seq_k; intro K1 hK1
  refine wp_region_lit ?_
  refine vc_op rfl (fun K hK => hs_box1 hF rfl (by decide) rfl hA rfl rfl (fun b1 w2 a hb1 hF hA3 => hK _ _ ?_))
  clear hK K
  replace hA3 : Hp w0 ([row b1 118 [.func (.yield l) #[] #[]]] :: (S ++ R)) w2 := hA3
  refine vc_nil ?_
  refine hK1 _ _ ?_; clear  hK1 K1
  refine wp_region_lit ?_
  refine vc_y hF rfl rfl (by decide) _ (y_field rfl Tryd.underlying45 rfl sz43_s16 (by decide) rfl (rfl : (⟨_, 0 + _, none⟩ : Addr) = ⟨_, 0, none⟩)) (fun a hF => ?_)
  refine vc_y hF rfl rfl (by decide) _ (y_ldC rfl (Hq.sub hA3.q (List.subset_cons_of_subset _ hGS)) rfl hTb 0 (by simp) rfl rfl nr43_s16) (fun a hF => ?_)
  refine vc_y hF rfl rfl (by decide) _ (y_makeFunc rfl rfl) (fun a hF => ?_)
  refine vc_op rfl (fun K hK => ws_call hF rfl (by decide) cl67_s16 rfl rfl ?_)
  with_reducible refine (rt_walkN w0 _ _ _ hA3).mono ?_
  rintro e' w2 ⟨rfl, hA2⟩
  refine ⟨_, rfl, fun a hF => hK _ _ ?_⟩
  clear hK K
  refine vc_nil ?_
  refine vc_end0 hF Tryd.results66 ?_
  exact ⟨⟨_, rfl⟩, true, S, hJ, hA2.tail⟩

theorem rt_items1 {w0 w : World} {L : List Itm} {G : List Seg} {JS : List Itm → List Seg → Prop} {JX : List Seg → Prop} {l tb : Nat} {top sl : Value} (hTV : TV w0 G L top sl) (hY : YR w0 l L G JS JX) (R S : List Seg) (hG : G ⊆ R) (hTb : Rw w0 G tb [top, sl]) (hJ : JS [] S) (hA : Hp w0 (S ++ R) w) : Calls Tryd.prog 66 #[.func (.yield l) #[] #[], .pointer (some ⟨tb, 0, none⟩)] w fun e w' => (∃ v, e = .returned v) ∧ ∃ b, WB w0 JS JX R L b w' := by
  have hI := hTV.ok
  rcases hTV with ⟨rfl, rfl, rfl⟩ | ⟨t, g, ad, c, hLt, hg, rfl, rfl, hTr, _⟩
  · exact rt_items1N _ R S hG hTb hJ hA
  · exact rt_items1S hI hY t hg hLt g _ true hTr R S hG hTb hJ hA

set_option maxRecDepth 100000 in
set_option maxHeartbeats 2000000 in
theorem rt_items (w0 w : World) (R : List Seg) (top sl : Value) (hA : Hp w0 R w) : Calls Tryd.prog 33 #[.agg ([top, sl] : List Value).toArray] w fun e w' => ∃ tb, e = .returned (.func (.func 66) #[] #[.pointer (some ⟨tb, 0, none⟩)]) ∧ Hp w0 ([row tb 45 [top, sl]] :: R) w' := by
  refine vc_enter Tryd.func33 rfl Tryd.ntmps33 (Nat.le_of_ble_eq_true rfl) (fun a hF => ?_)
  apply wp_seq_k; intro K1 hK1
  refine wp_region_lit ?_
  refine vc_op rfl (fun K hK => hs_box (cs := [top, sl]) hF rfl (by decide) rfl hA rfl (fun b1 w2 a hb1 hF hA3 => hK _ _ ?_))
  clear hK K
  replace hA3 : Hp w0 ([row b1 45 [top, sl]] :: R) w2 := hA3
  refine vc_y hF rfl rfl (by decide) _ (y_assign rfl rfl) (fun a hF => ?_)
  refine vc_nil ?_
  refine hK1 _ _ ?_; clear  hK1 K1
  apply wp_seq_k; intro K2 hK2
  refine wp_region_lit ?_
  refine vc_y hF rfl rfl (by decide) _ (y_makeFunc rfl rfl) (fun a hF => ?_)
  refine vc_y hF rfl rfl (by decide) _ (y_assign rfl rfl) (fun a hF => ?_)
  refine vc_nil ?_
  refine hK2 _ _ ?_; clear  hK2 K2
  apply wp_ret
  refine vc_ret1 hF Tryd.results33 rfl ?_
  exact ⟨b1, rfl, hA3⟩

set_option maxRecDepth 100000 in
set_option maxHeartbeats 2000000 in
theorem rt_listed (w0 w : World) (R G : List Seg) (hG : G ⊆ R) (L : List Itm) (top sl : Value) (hTV : TV w0 G L top sl) (n : Nat) (hn : L.length < n) (hn2 : n ≤ 100000) (hA : Hp w0 R w) : Calls Tryd.prog 31 #[.agg ([top, sl] : List Value).toArray, .int .i64 (n : Int)] w fun e w' => ∃ v X, e = .returned v ∧ Buf 54 65 X v L.length (cel Itm.cells L) ∧ Hp w0 (X :: R) w' := by
  have hI := hTV.ok
  refine vq_enter Tryd.func31 rfl Tryd.ntmps31 (Nat.le_of_ble_eq_true rfl) (fun a hF => ?_)
  apply wq_seq_k; intro K1 hK1
  refine wq_region_lit (fun ⟨_, _, (⟨_, _, h, _⟩ : ∃ v X, _ = _ ∧ _)⟩ => nomatch h) rfl ?_
  refine vc_op rfl (fun K hK => hs_box (cs := [top, sl]) hF rfl (by decide) rfl hA rfl (fun b1 w2 a hb1 hF hA3 => hK _ _ ?_))
  clear hK K
  replace hA3 : Hp w0 ([row b1 45 [top, sl]] :: R) w2 := hA3
  refine vc_op rfl (fun K hK => hs_box1 hF rfl (by decide) rfl hA3 rfl rfl (fun b4 w5 a hb4 hF hA6 => hK _ _ ?_))
  clear hK K
  replace hA6 : Hp w0 ([row b4 3 [.int .i64 ((n : Nat) : Int)]] :: [row b1 45 [top, sl]] :: R) w5 := hA6
  refine vc_y hF rfl rfl (by decide) _ (y_assign rfl rfl) (fun a hF => ?_)
  refine vc_nil ?_
  refine hK1 _ _ ?_; clear  hK1 K1
  apply wq_seq_k; intro K2 hK2
  refine wq_region_lit (fun ⟨_, _, (⟨_, _, h, _⟩ : ∃ v X, _ = _ ∧ _)⟩ => nomatch h) rfl ?_
  refine vc_op rfl (fun K hK => hs_alloc1 hF rfl (by decide) rfl hA6 (zr55_s16) rfl (fun b7 w8 a hb7 hF hA9 => hK _ _ ?_))
  clear hK K
  replace hA9 : Hp w0 ([row b7 55 [.slice none 0 0]] :: [row b4 3 [.int .i64 ((n : Nat) : Int)]] :: [row b1 45 [top, sl]] :: R) w8 := hA9
  refine vc_nil ?_
  refine hK2 _ _ ?_; clear  hK2 K2
  apply wq_seq_k; intro K3 hK3
  refine wq_region_lit (fun ⟨_, _, (⟨_, _, h, _⟩ : ∃ v X, _ = _ ∧ _)⟩ => nomatch h) rfl ?_
  refine vc_y hF rfl rfl (by decide) _ (y_ldRow (new := [top, sl]) rfl hA9.q rfl 2 rfl rw45_s16 (Nat.le_of_ble_eq_true rfl) rfl) (fun a hF => ?_)
  refine vc_op rfl (fun K hK => ws_call hF rfl (by decide) cl33_s16 rfl rfl ?_)
  with_reducible refine (rt_items w0 _ ([row b7 55 [.slice none 0 0]] :: [row b4 3 [.int .i64 ((n : Nat) : Int)]] :: [row b1 45 [top, sl]] :: R) top sl hA9 ).mono ?_
  rintro e' w10 ⟨tb, rfl, hA11⟩
  refine ⟨_, rfl, fun a hF => hK _ _ ?_⟩
  clear hK K
  replace hA11 : Hp w0 ([row tb 45 [top, sl]] :: [row b7 55 [.slice none 0 0]] :: [row b4 3 [.int .i64 ((n : Nat) : Int)]] :: [row b1 45 [top, sl]] :: R) w10 := hA11
  refine vc_y hF rfl rfl (by decide) _ (y_assign rfl rfl) (fun a hF => ?_)
  refine vc_nil ?_
  refine hK3 _ _ ?_; clear  hK3 K3
  apply wq_seq_k; intro K4 hK4
  apply wq_seq_k; intro K5 hK5
  refine wq_region_lit (fun ⟨_, _, (⟨_, _, h, _⟩ : ∃ v X, _ = _ ∧ _)⟩ => nomatch h) rfl ?_
  refine vc_y hF rfl rfl (by decide) _ (y_move rfl rfl) (fun a hF => ?_)
  refine vc_y hF rfl rfl (by decide) _ (y_binR (r := .bool false) rfl rfl rfl (fun w => by kernel_rfl)) (fun a hF => ?_)
  refine vc_nil ?_
  refine hK5 _ _ ?_; clear  hK5 K5
  refine wq_false hF rfl ?_
  apply wpIn_skip
  refine hK4 _ _ ?_; clear  hK4 K4
  apply wq_seq_k; intro K6 hK6
  apply wq_seq_k; intro K7 hK7
  refine wq_region_lit (fun ⟨_, _, (⟨_, _, h, _⟩ : ∃ v X, _ = _ ∧ _)⟩ => nomatch h) rfl ?_
  refine vc_y hF rfl rfl (by decide) _ (y_move rfl rfl) (fun a hF => ?_)
  refine vc_nil ?_
  refine hK7 _ _ ?_; clear  hK7 K7
  apply wpIn_block
  have hA12 : Hp w0 ([row b7 55 [.slice none 0 0]] :: [row b4 3 [.int .i64 ((n : Nat) : Int)]] :: [row tb 45 [top, sl]] :: R) w10 := Hp.sel [[row tb 45 [top, sl]], [row b7 55 [.slice none 0 0]], [row b4 3 [.int .i64 ((n : Nat) : Int)]], [row b1 45 [top, sl]]] R [1, 2, 0] [3] hA11 rfl
  refine wq_range hF rfl cl66_s16 hA12 (fun d l rc w1 hrc hA1 => ?_)
  have hA2 : Hp w0 (([(l, rc .ready none)] :: [row b7 55 [.slice none 0 0]] :: [] :: []) ++ ([row b4 3 [.int .i64 ((n : Nat) : Int)]] :: [row tb 45 [top, sl]] :: [(d, .deferred (some []))] :: R)) w1 := by
    have e := Hp.ord [[(l, rc .ready none)], [(d, .deferred (some []))], [row b7 55 [.slice none 0 0]], [row b4 3 [.int .i64 ((n : Nat) : Int)]], [row tb 45 [top, sl]]] R [0, 2, 3, 4, 1] hA1 rfl
    exact e
  have hGR : ([row b4 3 [.int .i64 ((n : Nat) : Int)]] :: [row tb 45 [top, sl]] :: G) ⊆ ([row b4 3 [.int .i64 ((n : Nat) : Int)]] :: [row tb 45 [top, sl]] :: [(d, .deferred (some []))] :: R) := fun x hx => by
    rcases List.mem_cons.1 hx with rfl | hx
    · exact List.mem_cons_self ..
    rcases List.mem_cons.1 hx with rfl | hx
    · exact List.mem_cons_of_mem _ (List.mem_cons_self ..)
    · exact List.mem_cons_of_mem _ (List.mem_cons_of_mem _ (List.mem_cons_of_mem _ (hG hx)))
  have hG1 : G ⊆ ([row b4 3 [.int .i64 ((n : Nat) : Int)]] :: [row tb 45 [top, sl]] :: G) := List.subset_cons_of_subset _ (List.subset_cons_of_subset _ (List.Subset.refl _))
  have hNB : Rw w0 ([row b4 3 [.int .i64 ((n : Nat) : Int)]] :: [row tb 45 [top, sl]] :: G) b4 [.int .i64 (n : Int)] := Rw.ofMem (List.mem_cons_self ..) (List.mem_cons_self ..)
  refine (rt_items1 (JS := fun pre S => ∃ v X, Buf 54 65 X v pre.length (cel Itm.cells pre) ∧ S = [(l, rc .ready none)] :: [row b7 55 [v]] :: X :: []) (JX := fun _ => False) (G := [row b4 3 [.int .i64 ((n : Nat) : Int)]] :: [row tb 45 [top, sl]] :: G) (hTV.mono hG1) ?_ ([row b4 3 [.int .i64 ((n : Nat) : Int)]] :: [row tb 45 [top, sl]] :: [(d, .deferred (some []))] :: R) _ hGR (Rw.ofMem (List.mem_cons_of_mem _ (List.mem_cons_self ..)) (List.mem_cons_self ..)) ⟨_, _, Buf.nil 54 65, rfl⟩ hA2).mono ?_
  · rintro pre i post hL hi w R S hG3 ⟨v, X, hB, rfl⟩ hA
    have hLp : pre.length < n := by have := congrArg List.length hL; rw [List.length_append, List.length_cons] at this; omega
    clear hA1 hA2
    refine hs_round hrc hF (p := 13) (by decide) hA (fun a hF => ?_)
    refine wq_region_lit (fun ⟨_, _, h⟩ => h) rfl ?_
    refine vc_op rfl (fun K hK => hs_alloc hF rfl (by decide) rfl hA (zr54_s16) (fun b13 w14 a hb13 hF hA15 => hK _ _ ?_))
    clear hK K
    replace hA15 : Hp w0 ([row b13 54 [.int .u8 0, .int .u8 0, .int .u8 0, .int .u8 0, .int .u8 0, .int .u8 0, .int .u8 0, .int .u8 0, .int .u8 0, .int .u8 0, .int .u8 0, .int .u8 0, .int .u8 0, .int .u8 0, .int .u8 0, .int .u8 0, .int .u8 0, .int .u8 0, .int .u8 0, .int .u8 0, .int .u8 0, .int .u8 0, .int .u8 0, .int .u8 0, .int .u8 0, .int .u8 0, .int .u8 0, .int .u8 0, .int .u8 0, .int .u8 0, .int .u8 0, .int .u8 0, .int .i64 0, .int .u8 0, .int .u8 0, .int .u8 0, .int .u8 0, .int .u8 0, .int .u8 0, .int .u8 0, .int .u8 0, .int .u8 0, .int .u8 0, .int .u8 0, .int .u8 0, .int .u8 0, .int .u8 0, .int .u8 0, .int .u8 0, .int .u8 0, .int .u8 0, .int .u8 0, .int .u8 0, .int .u8 0, .int .u8 0, .int .u8 0, .int .u8 0, .int .u8 0, .int .u8 0, .int .u8 0, .int .u8 0, .int .u8 0, .int .u8 0, .int .u8 0, .int .u8 0]] :: [(l, rc .ready none)] :: [row b7 55 [v]] :: X :: R) w14 := hA15
    refine vc_op rfl (fun K hK => hs_storeAll (new := i.cells) hF rfl rfl hA15 rfl rfl 0 rfl (by rw [Itm.len hi]; rfl) (Itm.one i) sz54_s16 (fun w16 hA17 => hK _ _ ?_))
    clear hK K
    replace hA17 : Hp w0 ([row b13 54 i.cells] :: [(l, rc .ready none)] :: [row b7 55 [v]] :: X :: R) w16 := hA17
    refine vc_nil ?_
    have hA18 : Hp w0 ([(l, rc .ready none)] :: [row b7 55 [v]] :: X :: [row b13 54 i.cells] :: R) w16 := Hp.ord [[row b13 54 i.cells], [(l, rc .ready none)], [row b7 55 [v]], X] R [1, 2, 3, 0] hA17 rfl
    refine ⟨[row b7 55 [v]] :: X :: [row b13 54 i.cells] :: R, hA18, fun w19 hA20 => ?_⟩
    replace hA20 : Hp w0 ([(l, rc .busy none)] :: [row b7 55 [v]] :: X :: [row b13 54 i.cells] :: R) w19 := hA20
    have hFn := hF
    obtain ⟨A, c, rfl, hcb, hRc⟩ := hB.rc (w0 := w0) (R := [X]) (List.mem_cons_self ..)
    have hF := hFn
    have hne : ¬ (pre.length : Int) = (n : Int) := by omega
    apply wpIn_block
    apply wq_seq_k; intro K8 hK8
    apply wq_seq_k; intro K9 hK9
    refine wq_region_lit (fun ⟨_, _, h⟩ => h) rfl ?_
    refine vc_y hF rfl rfl (by decide) _ (y_ld rfl hA20.q rfl 1 rfl rfl nr55_s16) (fun a hF => ?_)
    refine vc_y hF rfl rfl (by decide) _ (y_lenSl rfl Tryd.underlying55 rfl rfl) (fun a hF => ?_)
    refine vc_y hF rfl rfl (by decide) _ (y_ldC rfl (Hq.sub hA20.q (List.Subset.trans hG3 (subC (subC (subC (subC (sub0))))))) rfl hNB 0 (by simp) rfl rfl nr3_s16) (fun a hF => ?_)
    refine vc_y hF rfl rfl (by decide) _ (y_cmp rfl rfl rfl rfl (eql_f (by omega))) (fun a hF => ?_)
    refine vc_nil ?_
    refine hK9 _ _ ?_; clear  hK9 K9
    refine wq_false hF rfl ?_
    apply wpIn_skip
    refine hK8 _ _ ?_; clear  hK8 K8
    refine wq_region_lit (fun ⟨_, _, h⟩ => h) rfl ?_
    refine vc_y hF rfl rfl (by decide) _ (y_ld rfl hA20.q rfl 1 rfl rfl nr55_s16) (fun a hF => ?_)
    refine vc_y hF rfl rfl (by decide) _ (y_ldRow (new := i.cells) rfl hA20.q rfl 3 rfl rw54_s16 (by rw [(Itm.len hi)]; exact Nat.le_refl _) (by rw [List.drop_zero]; exact List.take_of_length_le (by rw [(Itm.len hi)]; exact Nat.le_refl _))) (fun a hF => ?_)
    refine vc_op rfl (fun K hK => hs_bs (qs := #[(0, .agg i.cells.toArray)]) (cells := i.cells.toArray) hF rfl (by decide) rfl hA20 rfl (by exact rs_slice hi) (fun b21 w22 a hb21 hF hA23 => hK _ _ ?_))
    clear hK K
    replace hA23 : Hp w0 ([row b21 54 i.cells] :: [(l, rc .busy none)] :: [row b7 55 [.slice A pre.length c]] :: X :: [row b13 54 i.cells] :: R) w22 := hA23
    refine vc_op rfl (fun K hK => hs_append hF rfl (by decide) rfl hA23 3 rfl hB Tryd.underlying55 rt_elemI rfl rfl (Rc.srcC (W := i.cells) (m := 1) (size := 65) (R := [row b21 54 i.cells] :: [(l, rc .busy none)] :: [row b7 55 [.slice A pre.length c]] :: X :: [row b13 54 i.cells] :: R) (Rc.ofRow (i := 0) (off := 0) rfl (by rw [List.drop_zero]; exact List.take_length ..)) hA23.q Tryd.underlying55 (by decide) (by rw [Itm.len hi]) (Itm.one i)) (by omega) (by decide) (fun lv XL w24 a hBL hF hA25 => hK _ _ ?_))
    clear hK K
    replace hA25 : Hp w0 ([row b21 54 i.cells] :: [(l, rc .busy none)] :: [row b7 55 [.slice A pre.length c]] :: XL :: [row b13 54 i.cells] :: R) w24 := hA25
    rw [← cel_snoc, show pre.length + 1 = (pre ++ [i]).length from snoc_len _ _] at hBL
    refine vc_op rfl (fun K hK => hs_store1 hF rfl rfl hA25 rfl rfl 2 rfl (by simp) hBL.one sz55_s16 (fun w26 hA27 => hK _ _ ?_))
    clear hK K
    replace hA27 : Hp w0 ([row b21 54 i.cells] :: [(l, rc .busy none)] :: [row b7 55 [lv]] :: XL :: [row b13 54 i.cells] :: R) w26 := hA27
    refine vc_nil ?_
    have hA28 : Hp w0 ([(l, rc .busy none)] :: [row b7 55 [lv]] :: XL :: R) w26 := Hp.sel [[row b21 54 i.cells], [(l, rc .busy none)], [row b7 55 [lv]], XL, [row b13 54 i.cells]] R [1, 2, 3] [0, 4] hA27 rfl
    simp only [Exit.inBlock]
    exact rp_normal hrc hA28 (fun w' hA' => ⟨true, rfl, _, ⟨_, _, hBL, rfl⟩, hA'⟩)
  · rintro e w3 ⟨hret, b, hW⟩
    cases b
    · obtain ⟨_, hf, _⟩ := hW
      exact hf.elim
    obtain ⟨_, ⟨v, X, hB, rfl⟩, hA3⟩ := hW
    refine ⟨hret, .ready, none, [row b7 55 [v]] :: X :: ([row b4 3 [.int .i64 ((n : Nat) : Int)]] :: [row tb 45 [top, sl]] :: [(d, .deferred (some []))] :: R), by simp, hA3, fun w4 hA4 => ?_⟩
    refine hK6 _ _ ?_; clear  hK6 K6
    apply wq_seq_k; intro K10 hK10
    refine wq_region_lit (fun ⟨_, _, (⟨_, _, h, _⟩ : ∃ v X, _ = _ ∧ _)⟩ => nomatch h) rfl ?_
    refine vc_y hF rfl rfl (by decide) _ (y_ld rfl hA4.q rfl 0 rfl rfl nr55_s16) (fun a hF => ?_)
    refine vc_y hF rfl rfl (by decide) _ (y_assign rfl rfl) (fun a hF => ?_)
    refine vc_nil ?_
    refine hK10 _ _ ?_; clear  hK10 K10
    apply wpIn_ret
    refine vq_leave hF ?_
    have hA29 : Hp w0 ([(d, .deferred (some []))] :: [row b7 55 [v]] :: X :: [row b4 3 [.int .i64 ((n : Nat) : Int)]] :: [row tb 45 [top, sl]] :: R) w4 := Hp.ord [[row b7 55 [v]], X, [row b4 3 [.int .i64 ((n : Nat) : Int)]], [row tb 45 [top, sl]], [(d, .deferred (some []))]] R [4, 0, 1, 2, 3] hA4 rfl
    refine leave_mark hA29 (fun w30 hA31 => ?_)
    replace hA31 : Hp w0 ([(d, .deferred none)] :: [row b7 55 [v]] :: X :: [row b4 3 [.int .i64 ((n : Nat) : Int)]] :: [row tb 45 [top, sl]] :: R) w30 := hA31
    refine leave_ret1 hF Tryd.results31 rfl ?_
    have hA32 : Hp w0 (X :: R) w30 := Hp.sel [[(d, .deferred none)], [row b7 55 [v]], X, [row b4 3 [.int .i64 ((n : Nat) : Int)]], [row tb 45 [top, sl]]] R [2] [0, 1, 3, 4] hA31 rfl
    exact ⟨v, X, rfl, hB, hA32⟩

set_option maxRecDepth 100000 in
set_option maxHeartbeats 2000000 in
theorem rt_rises (w0 w : World) (R : List Seg) (kx ky : List UInt8) (ha : kx.length = 32) (hb : ky.length = 32) (hA : Hp w0 R w) : Calls Tryd.prog 35 #[.agg (dc kx).toArray, .agg (dc ky).toArray] w fun e w' => e = .returned (.bool (decide (nb kx < nb ky))) ∧ Hp w0 R w' := by
  have hda : (dc kx).length = 32 := by rw [dc_length, ha]
  have hdb : (dc ky).length = 32 := by rw [dc_length, hb]
  refine vc_enter Tryd.func35 rfl Tryd.ntmps35 (Nat.le_of_ble_eq_true rfl) (fun a hF => ?_)
  apply wp_seq_k; intro K1 hK1
  refine wp_region_lit ?_
  refine vc_op rfl (fun K hK => hs_box (cs := dc kx) hF rfl (by decide) rfl hA rfl (fun b1 w2 a hb1 hF hA3 => hK _ _ ?_))
  clear hK K
  replace hA3 : Hp w0 ([row b1 23 (dc kx)] :: R) w2 := hA3
  refine vc_op rfl (fun K hK => hs_box (cs := dc ky) hF rfl (by decide) rfl hA3 rfl (fun b4 w5 a hb4 hF hA6 => hK _ _ ?_))
  clear hK K
  replace hA6 : Hp w0 ([row b4 23 (dc ky)] :: [row b1 23 (dc kx)] :: R) w5 := hA6
  refine vc_y hF rfl rfl (by decide) _ (y_assign rfl rfl) (fun a hF => ?_)
  refine vc_nil ?_
  refine hK1 _ _ ?_; clear  hK1 K1
  apply wp_seq_k; intro K2 hK2
  apply wp_seq_k; intro K3 hK3
  refine wp_region_lit ?_
  refine vc_y hF rfl rfl (by decide) _ (y_assign rfl rfl) (fun a hF => ?_)
  refine vc_nil ?_
  refine hK3 _ _ ?_; clear  hK3 K3
  apply wp_block
  refine vc_loop (G := Nat) (fun i a x => i ≤ 32 ∧ (∀ j, j < i → bAt kx j = bAt ky j) ∧ Fr 24 [(5, .int .i64 (i : Int)), (2, .pointer (some ⟨b1, 0, none⟩)), (3, .pointer (some ⟨b4, 0, none⟩))] a ∧ Hp w0 ([row b4 23 (dc ky)] :: [row b1 23 (dc kx)] :: R) x) (fun i => 32 - i) 0 (⟨Nat.zero_le _, (fun j hj => absurd hj (Nat.not_lt_zero _)), hF.keep [5, 2, 3] rfl, hA6⟩) ?_
  clear hF
  rintro i a w8 ⟨hi, hall, hF, hA7⟩
  apply wp_seq_k; intro K4 hK4
  apply wp_seq_k; intro K5 hK5
  refine wp_region_lit ?_
  refine vc_y hF rfl rfl (by decide) _ (y_move rfl rfl) (fun a hF => ?_)
  refine vc_y hF rfl rfl (by decide) _ (y_cmp rfl rfl rfl rfl rfl) (fun a hF => ?_)
  refine vc_nil ?_
  refine hK5 _ _ ?_; clear  hK5 K5
  by_cases hlt : i < 32
  · refine vc_trueB hF rfl (lss_t (by omega)) ?_
    by_cases hne : bAt kx i ≠ bAt ky i
    · have hnn := u8_ne hne
      apply wp_skip
      refine hK4 _ _ ?_; clear  hK4 K4
      apply wp_seq_k; intro K6 hK6
      apply wp_block
      apply wp_seq_k; intro K7 hK7
      refine wp_region_plan 6 [6] [0,1,2,3,4,5,6] (fun x => Hq w0 ([row b4 23 (dc ky)] :: [row b1 23 (dc kx)] :: R) x) (by kernel_rfl) (by kernel_rfl) (Hq.drew (Hp.qp [[row b4 23 (dc ky)], [row b1 23 (dc kx)]] R [0, 1] hA7)) ?_
      have hA9 := Hl.drew hA7
      refine vp_y hF rfl rfl rfl rfl (by decide) _ (fun x hx => y_move rfl rfl) (fun a hF => ?_)
      refine vp_y hF rfl rfl rfl rfl (by decide) _ (fun x hx => y_ixArr rfl Tryd.underlying23 sz5_s16 rfl rfl i rfl hlt (ad1 _ _) (rfl : (none : Option Nat) = none)) (fun a hF => ?_)
      refine vp_y hF rfl rfl rfl rfl (by decide) _ (fun x hx => y_ld rfl hx rfl 1 rfl (dc_at (by rw [ha]; exact hlt)) nr5_s16) (fun a hF => ?_)
      refine vp_y hF rfl rfl rfl rfl (by decide) _ (fun x hx => y_move rfl rfl) (fun a hF => ?_)
      refine vp_y hF rfl rfl rfl rfl (by decide) _ (fun x hx => y_ixArr rfl Tryd.underlying23 sz5_s16 rfl rfl i rfl hlt (ad1 _ _) (rfl : (none : Option Nat) = none)) (fun a hF => ?_)
      refine vp_y hF rfl rfl rfl rfl (by decide) _ (fun x hx => y_ld rfl hx rfl 0 rfl (dc_at (by rw [hb]; exact hlt)) nr5_s16) (fun a hF => ?_)
      refine vp_ly hF rfl rfl rfl rfl (by decide) _ (y_cmp rfl rfl rfl rfl (neq_t (by omega))) (fun h => absurd h (by decide)) (fun a hF => ?_)
      refine plan_end ?_
      refine hK7 _ _ ?_; clear  hK7 K7
      refine vc_true hF rfl ?_
      apply wp_seq_k; intro K8 hK8
      refine wp_region_plan 7 [7] [0,1,2,3,4,5,6,7] (fun x => Hq w0 ([row b4 23 (dc ky)] :: [row b1 23 (dc kx)] :: R) x) (by kernel_rfl) (by kernel_rfl) (Hq.drew (Hp.qp [[row b4 23 (dc ky)], [row b1 23 (dc kx)]] R [0, 1] hA9)) ?_
      have hA10 := Hl.drew hA9
      refine vp_y hF rfl rfl rfl rfl (by decide) _ (fun x hx => y_move rfl rfl) (fun a hF => ?_)
      refine vp_y hF rfl rfl rfl rfl (by decide) _ (fun x hx => y_ixArr rfl Tryd.underlying23 sz5_s16 rfl rfl i rfl hlt (ad1 _ _) (rfl : (none : Option Nat) = none)) (fun a hF => ?_)
      refine vp_y hF rfl rfl rfl rfl (by decide) _ (fun x hx => y_ld rfl hx rfl 1 rfl (dc_at (by rw [ha]; exact hlt)) nr5_s16) (fun a hF => ?_)
      refine vp_y hF rfl rfl rfl rfl (by decide) _ (fun x hx => y_move rfl rfl) (fun a hF => ?_)
      refine vp_y hF rfl rfl rfl rfl (by decide) _ (fun x hx => y_ixArr rfl Tryd.underlying23 sz5_s16 rfl rfl i rfl hlt (ad1 _ _) (rfl : (none : Option Nat) = none)) (fun a hF => ?_)
      refine vp_y hF rfl rfl rfl rfl (by decide) _ (fun x hx => y_ld rfl hx rfl 0 rfl (dc_at (by rw [hb]; exact hlt)) nr5_s16) (fun a hF => ?_)
      refine vp_y hF rfl rfl rfl rfl (by decide) _ (fun x hx => y_cmp rfl rfl rfl rfl (nb_lss ha hb hlt hall hne)) (fun a hF => ?_)
      refine vp_ly hF rfl rfl rfl rfl (by decide) _ (y_assign rfl rfl) (fun h => absurd h (by decide)) (fun a hF => ?_)
      refine plan_end ?_
      refine hK8 _ _ ?_; clear  hK8 K8
      apply wp_ret
      simp only [Exit.then, Exit.inBlock]
      refine vc_ret1 hF Tryd.results35 rfl ?_
      have hA11 : Hp w0 (R) w8.drew.drew := Hp.sel [[row b4 23 (dc ky)], [row b1 23 (dc kx)]] R [] [0, 1] hA10 rfl
      exact ⟨rfl, hA11⟩
    · have hee : ((bAt kx i).toNat : Int) = ((bAt ky i).toNat : Int) := by rw [Decidable.not_not.1 hne]
      apply wp_skip
      refine hK4 _ _ ?_; clear  hK4 K4
      apply wp_seq_k; intro K9 hK9
      apply wp_block
      apply wp_seq_k; intro K10 hK10
      refine wp_region_plan 6 [6] [0,1,2,3,4,5,6] (fun x => Hq w0 ([row b4 23 (dc ky)] :: [row b1 23 (dc kx)] :: R) x) (by kernel_rfl) (by kernel_rfl) (Hq.drew (Hp.qp [[row b4 23 (dc ky)], [row b1 23 (dc kx)]] R [0, 1] hA7)) ?_
      have hA12 := Hl.drew hA7
      refine vp_y hF rfl rfl rfl rfl (by decide) _ (fun x hx => y_move rfl rfl) (fun a hF => ?_)
      refine vp_y hF rfl rfl rfl rfl (by decide) _ (fun x hx => y_ixArr rfl Tryd.underlying23 sz5_s16 rfl rfl i rfl hlt (ad1 _ _) (rfl : (none : Option Nat) = none)) (fun a hF => ?_)
      refine vp_y hF rfl rfl rfl rfl (by decide) _ (fun x hx => y_ld rfl hx rfl 1 rfl (dc_at (by rw [ha]; exact hlt)) nr5_s16) (fun a hF => ?_)
      refine vp_y hF rfl rfl rfl rfl (by decide) _ (fun x hx => y_move rfl rfl) (fun a hF => ?_)
      refine vp_y hF rfl rfl rfl rfl (by decide) _ (fun x hx => y_ixArr rfl Tryd.underlying23 sz5_s16 rfl rfl i rfl hlt (ad1 _ _) (rfl : (none : Option Nat) = none)) (fun a hF => ?_)
      refine vp_y hF rfl rfl rfl rfl (by decide) _ (fun x hx => y_ld rfl hx rfl 0 rfl (dc_at (by rw [hb]; exact hlt)) nr5_s16) (fun a hF => ?_)
      refine vp_ly hF rfl rfl rfl rfl (by decide) _ (y_cmp rfl rfl rfl rfl (neq_f (by omega))) (fun h => absurd h (by decide)) (fun a hF => ?_)
      refine plan_end ?_
      refine hK10 _ _ ?_; clear  hK10 K10
      refine vc_false hF rfl ?_
      apply wp_skip
      refine hK9 _ _ ?_; clear  hK9 K9
      refine wp_region_lit ?_
      refine vc_y hF rfl rfl (by decide) _ (y_move rfl rfl) (fun a hF => ?_)
      refine vc_y hF rfl rfl (by decide) _ (y_add rfl rfl rfl (IntWalk.i64_in _ (by omega))) (fun a hF => ?_)
      refine vc_y hF rfl rfl (by decide) _ (y_assign rfl rfl) (fun a hF => ?_)
      refine vc_nil ?_
      exact ⟨i + 1, by omega, by omega, (fun j hj => by rcases Nat.lt_or_ge j i with h3 | h3; exact hall j h3; obtain rfl : j = i := (by omega); exact Decidable.not_not.1 hne), hF.keep [5, 2, 3] rfl, hA12⟩
  · refine vc_falseB hF rfl (lss_f (by omega)) ?_
    have hee : kx = ky := bytes_ext (ha.trans hb.symm) (fun j hj => hall j (by omega))
    have hdf : decide (nb kx < nb ky) = false := by rw [hee]; exact decide_eq_false (Nat.lt_irrefl _)
    apply wp_exit
    refine hK2 _ _ ?_; clear hK4 K4 hK2 K2
    apply wp_seq_k; intro K11 hK11
    refine wp_region_lit ?_
    refine vc_y hF rfl rfl (by decide) _ (y_assign rfl (show some (Value.bool false) = some (.bool (decide (nb kx < nb ky))) by rw [hdf])) (fun a hF => ?_)
    refine vc_nil ?_
    refine hK11 _ _ ?_; clear  hK11 K11
    apply wp_ret
    refine vc_ret1 hF Tryd.results35 rfl ?_
    have hA13 : Hp w0 (R) w8 := Hp.sel [[row b4 23 (dc ky)], [row b1 23 (dc kx)]] R [] [0, 1] hA7 rfl
    exact ⟨rfl, hA13⟩

theorem rt_within (w0 w : World) (R : List Seg) (n lo hi : Int) (h0 : 0 ≤ lo) (h1 : lo ≤ hi) (h2 : hi < 2305843009213693952) (hA : Hp w0 R w) : Calls Tryd.prog 36 #[.int .i64 n, .int .i64 lo, .int .i64 hi] w fun e w' => e = .returned (.int .i64 (withinI n lo hi)) ∧ Hp w0 R w' := by
  refine (within_any w n lo hi h0 h1 h2).mono ?_
  rintro e w' ⟨rfl, rfl⟩
  exact ⟨rfl, hA⟩
end Go.Proofs.YtpomngkcfbnjoaaDoor
