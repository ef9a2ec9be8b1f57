/- The walk of DigestClash. -/
import Derived.Test.YtppmhlkonemebaaDoorCs
import Derived.Test.YtppmhlkonemebaaDoorKd
import Derived.Test.YtppmhlkonemebaaDoorKm
namespace Go.Proofs.YtppmhlkonemebaaDoor
open Go.RowKit Go.Dk
theorem nr24_lc : notRow Tryd.prog 24 = true := by kernel_rfl
theorem sz24_lc : (Tryd.prog.info? 24).map (·.size) = some 1 := by kernel_rfl
theorem cl20_lc : CallsTo Tryd.prog 20 := ⟨_, Tryd.func20, by kernel_rfl, by kernel_rfl⟩
theorem cl22_lc : CallsTo Tryd.prog 22 := ⟨_, Tryd.func22, by kernel_rfl, by kernel_rfl⟩
theorem cl27_lc : CallsTo Tryd.prog 27 := ⟨_, Tryd.func27, by kernel_rfl, by kernel_rfl⟩
theorem cl28_lc : CallsTo Tryd.prog 28 := ⟨_, Tryd.func28, by kernel_rfl, by kernel_rfl⟩
theorem cl29_lc : CallsTo Tryd.prog 29 := ⟨_, Tryd.func29, by kernel_rfl, by kernel_rfl⟩
theorem cl30_lc : CallsTo Tryd.prog 30 := ⟨_, Tryd.func30, by kernel_rfl, by kernel_rfl⟩
theorem cl31_lc : CallsTo Tryd.prog 31 := ⟨_, Tryd.func31, by kernel_rfl, by kernel_rfl⟩
theorem cl32_lc : CallsTo Tryd.prog 32 := ⟨_, Tryd.func32, by kernel_rfl, by kernel_rfl⟩


def litL (l : List UInt8) (g : Nat) : Seg := [(g, .cells (dc l).toArray 5 ((dc l).toArray.size, (dc l).toArray.size + 1))]
theorem cl_lit {w0 : World} {R : List Seg} {g : Nat} {l : List UInt8} (h : litL l g ∈ R) : Rd w0 R (some ⟨g, 0, none⟩) l := fun _ => ⟨g, 0, rfl, fun x hx => by
  have h1 := hx.mem h (r := (g, .cells (dc l).toArray 5 ((dc l).toArray.size, (dc l).toArray.size + 1))) (List.mem_cons_self ..)
  refine ⟨(Array.getElem?_eq_some_iff.1 h1).1, fun j hj => ?_⟩
  rw [cell_of_row x g (0 + j) _ _ _ h1, Nat.zero_add, List.getElem?_toArray]⟩
theorem cl_mark {P : Program} {Q : Exit → Act → World → Prop} {w w0 : World} {n : Nat} {F : List (Nat × Value)} {a : Act} {o : Oper} {d : Nat} {K : Act → World → Prop} {S : List Seg} {t : TypeId} {x : Operand} {l : List UInt8} (hF : Fr n F a) (hd : o.dst = some d) (hlt : d < n) (ho : o.op = .convert t t x) (hA : Hp w0 S w) (hu : P.underlying t = some (.slice 5)) (he : P.underlying 5 = some (.int .u8)) {m c : Nat} (hx : ev F x = some (.slice (some ⟨w.heap.size, 0, none⟩) m c))
    (h : ∀ g w' a', Fr n ((d, .slice (some ⟨g, 0, none⟩) m c) :: F) a' → Hp w0 (litL l g :: S) w' → K a' w') : o.wp P a (w.alloc (.cells (dc l).toArray 5)) K Q := by
  have hr := Lib.run_convert_bytes_const (P := P) w t 5 (dc l).toArray m c hu he
  have h1 := h w.heap.size _ _ (hF.put hlt) (Hl.obj hA (.cells (dc l).toArray 5 ((dc l).toArray.size, (dc l).toArray.size + 1)))
  unfold Oper.wp execOp
  simp only [ho, hF.ev hx, Sem.run_bind, hr, Result.andThen_ok, Sem.run_pure]
  rw [← hd] at h1
  exact h1
theorem cl_bs1 (z : Int) (w : World) : (Instr.buildSlice 24 1 #[(0, .int .u8 z)]).run Tryd.prog w = .ok (.slice (some ⟨w.heap.size, 0, none⟩) 1 1) (w.alloc (.cells #[.int .u8 z] 5)) := by kernel_rfl
theorem cl_bs3 (a b c : Nat) (w : World) : (Instr.buildSlice 29 3 #[(0, .slice (some ⟨a, 0, none⟩) 1 1), (1, .slice (some ⟨b, 0, none⟩) 1 1), (2, .slice (some ⟨c, 0, none⟩) 1 1)]).run Tryd.prog w = .ok (.slice (some ⟨w.heap.size, 0, none⟩) 3 3) (w.alloc (.cells #[.slice (some ⟨a, 0, none⟩) 1 1, .slice (some ⟨b, 0, none⟩) 1 1, .slice (some ⟨c, 0, none⟩) 1 1] 24)) := by kernel_rfl
theorem cl_bsS (A : Option Addr) (n c : Nat) (w : World) : (Instr.buildSlice 29 1 #[(0, .slice A n c)]).run Tryd.prog w = .ok (.slice (some ⟨w.heap.size, 0, none⟩) 1 1) (w.alloc (.cells #[.slice A n c] 24)) := by kernel_rfl
theorem cl_elemT : elemInfo Tryd.prog 24 1 24 := elemInfo_of (z := .slice none 0 0) (by kernel_rfl) (by kernel_rfl)
theorem cl_grow {n : Nat} (h : n < 1000000) : (n + 1 + (n + 1) / 4 + 192) * 24 ≤ 281474976710656 := by omega
theorem cl_roomyB (w0 w : World) (R : List Seg) (B : Option Addr) (l : List UInt8) (c : Nat) (hB : Rd w0 R B l) (hA : Hp w0 R w) (hl : l.length < 140737488354000) : Calls Tryd.prog 20 #[.slice B l.length c, .int .u8 165] w fun e w' => ∃ g, e = .returned (.slice (some ⟨g, 0, none⟩) (l.length + 80) (l.length + 80)) ∧ Hp w0 ([row g 5 (cel cB (l ++ List.replicate 80 165))] :: R) w' :=
  kb_roomy_byte w0 w R B l c 165 (by rw [← cel_dc]; exact hB) (fun _ _ => rfl) rfl hA hl
theorem cl_intactB (w0 w : World) (R : List Seg) (B B2 : Option Addr) (l : List UInt8) (c c2 : Nat) (hB : Rc w0 R B (cel cB (l ++ List.replicate 80 165))) (hB2 : Rd w0 R B2 l) (hc : l.length + 80 ≤ c) (hA : Hp w0 R w) (hl : l.length < 140737488354000) : Calls Tryd.prog 22 #[.slice B (l.length + 80) c, .slice B2 l.length c2, .int .u8 165] w fun e w' => e = .returned (.bool true) ∧ Hp w0 R w' :=
  kb_intact_byte w0 w R B B2 l c c2 165 hB (by rw [← cel_dc]; exact hB2) (fun _ _ => rfl) rfl hc hA hl
theorem pc_three {w0 : World} {R : List Seg} {A B C : Option Addr} {k l m : UInt8} (h1 : Rd w0 R A [k]) (h2 : Rd w0 R B [l]) (h3 : Rd w0 R C [m]) : ∀ p ∈ ([(A, 1, [k]), (B, 1, [l]), (C, 1, [m])] : List Piece), p.2.2.length ≤ p.2.1 ∧ Rd w0 R p.1 p.2.2 := fun p hp => by
  simp only [List.mem_cons, List.not_mem_nil, or_false] at hp
  rcases hp with rfl | rfl | rfl
  · exact ⟨Nat.le_refl 1, h1⟩
  · exact ⟨Nat.le_refl 1, h2⟩
  · exact ⟨Nat.le_refl 1, h3⟩
theorem cl_ab : cutL (sha [97]) 32 ≠ cutL (sha [98]) 32 := by decide +kernel
theorem cl_63 : cutL (sha [63]) 1 = cutL (sha [161]) 1 := by decide +kernel
theorem cl_63a : cutL (sha [63]) 1 ≠ cutL (sha [97]) 1 := by decide +kernel
theorem cl_32 : ClRes 32 [[97], [98], [97]] false [] [] := by
  refine .inl ⟨rfl, rfl, rfl, fun a b ha hb h => ?_⟩
  have ha : a < 3 := ha
  have hb : b < 3 := hb
  rcases (by omega : a = 0 ∨ a = 1 ∨ a = 2) with rfl | rfl | rfl <;> rcases (by omega : b = 0 ∨ b = 1 ∨ b = 2) with rfl | rfl | rfl <;> first | rfl | exact absurd h cl_ab | exact absurd h.symm cl_ab
theorem cl_1 : ClRes 1 [[63], [97], [161]] true [63] [161] := by
  refine .inr ⟨rfl, 0, 2, ⟨by decide, cl_63, by decide, fun a b ha hb h => ?_, fun a ha => absurd ha (Nat.not_lt_zero _)⟩, by decide, rfl, rfl⟩
  rcases (by omega : a = 0 ∨ a = 1) with rfl | rfl <;> rcases (by omega : b = 0 ∨ b = 1) with rfl | rfl <;> first | rfl | exact absurd h cl_63a | exact absurd h.symm cl_63a

theorem y_neBool {P : Program} {n : Nat} {F : List (Nat × Value)} {o : Oper} {w : World} {t t' : TypeId} {x y : Operand} {p : Bool} (ho : o.op = .binOp .neq t x y t') (hu : P.underlying t = some .bool) (hx : ev F x = some (.bool p)) (hy : ev F y = some (.bool p)) : Yd P n F o w (.bool false) := fun a hF => by
  unfold execOp
  have h1 : (eqGuard .neq t x y (.bool p) (.bool p)).run P w = .ok () w := rfl
  simp only [ho, hF.ev hx, hF.ev hy, Sem.run_bind, h1, Result.andThen_ok]
  rw [run_neq_bool w t p p hu]
  cases p <;> rfl
theorem strB_neq_f (l : List UInt8) : strB .neq l l = false := by simp [strB]
theorem cl_build0 (w : World) : (Instr.build 56 #[]).run Tryd.prog w = .ok (.agg ([.slice none 0 0, .slice none 0 0, .int .i64 0, .bool false] : List Value).toArray) w := by kernel_rfl
/-- a roomy copy, its piece turned -/
def flS (q : Nat × List UInt8) : Seg := [row q.1 5 (dc (q.2.map flip) ++ dc (List.replicate 80 165))]
def pcFl (q : Nat × List UInt8) : Piece := (some ⟨q.1, 0, none⟩, q.2.length + 80, q.2.map flip)
theorem flS_rd {w0 : World} {R : List Seg} {qs : List (Nat × List UInt8)} {q : Nat × List UInt8} (hq : q ∈ qs) (hR : (qs.map flS).flatten ∈ R) : Rd w0 R (some ⟨q.1, 0, none⟩) (q.2.map flip) := by
  have h1 : Rd w0 [flS q] (some ⟨q.1, 0, none⟩) (q.2.map flip) := Rc.ofRow (i := 0) (off := 0) rfl (by rw [List.drop_zero]; exact List.take_left' rfl)
  refine h1.monoF (fun r hr => ?_)
  rw [List.flatten_cons, List.flatten_nil, List.append_nil] at hr
  exact List.mem_flatten.2 ⟨_, hR, List.mem_flatten.2 ⟨_, List.mem_map_of_mem hq, hr⟩⟩
theorem pcs_fl {w0 : World} {R : List Seg} {A : Option Addr} {qs : List (Nat × List UInt8)} (hA : Rc w0 R A (qs.map partV)) (hR : (qs.map flS).flatten ∈ R) : PcS w0 R A (qs.map pcFl) := by
  refine ⟨?_, fun p hp => ?_⟩
  · rw [List.map_map]
    have e : (pieceV ∘ pcFl) = partV := by funext q; simp [pieceV, pcFl, partV]
    rw [e]; exact hA
  · obtain ⟨q, hq, rfl⟩ := List.mem_map.1 hp
    exact ⟨by show (q.2.map flip).length ≤ _; rw [List.length_map]; exact Nat.le_add_right _ _, flS_rd hq hR⟩
theorem pcOf_tx (qs : List (Nat × List UInt8)) : (qs.map pcOf).map (·.2.2) = qs.map (·.2) := by rw [List.map_map]; rfl
theorem pcFl_tx (qs : List (Nat × List UInt8)) : (qs.map pcFl).map (·.2.2) = (qs.map (·.2)).map (·.map flip) := by rw [List.map_map, List.map_map]; rfl
theorem sub2 {X Y : Seg} {R : List Seg} (h1 : X ∈ R) (h2 : Y ∈ R) : [X, Y] ⊆ R := fun x hx => by
  simp only [List.mem_cons, List.not_mem_nil, or_false] at hx
  rcases hx with rfl | rfl
  · exact h1
  · exact h2
theorem pc_nil {w0 : World} {ZL : Seg} {p : Piece} (h : p ∈ ([] : List Piece)) : p.2.2.length ≤ p.2.1 ∧ Rd w0 [ZL] p.1 p.2.2 := by cases h
theorem cl_keepB {n : Nat} (h : n < 140737488354000) : (n + n / 4 + 192) * 1 ≤ 281474976710656 := by omega
theorem cs_turnedN (w0 w : World) (R : List Seg) (g : Nat) (X : List UInt8) (c : Nat) (hl : X.length < 140737488355000) (hA : Hp w0 ([row g 5 (dc X ++ dc (List.replicate 80 165))] :: R) w) : Calls Tryd.prog 27 #[.slice (some ⟨g, 0, none⟩) X.length c] w fun e w' => ∃ A2 c2 Z2, e = .returned (.slice A2 X.length c2) ∧ X.length ≤ c2 ∧ Rd w0 [Z2] A2 (X.map flip) ∧ Hp w0 ([row g 5 (dc (X.map flip) ++ dc (List.replicate 80 165))] :: Z2 :: R) w' := cs_turned w0 w R g X _ c _ rfl hl hA
set_option maxRecDepth 100000 in
set_option maxHeartbeats 4000000 in
theorem law_clash (w0 : World) (width : Int) (pa : Option Addr) (ps : List Piece) (pc : Nat) (hT : Tab w0) (hP : PcS w0 [] pa ps) (hpl : ∀ p ∈ ps, p.2.2.length < 140737488351300) (hn : ps.length ≤ 9223372036854775807) : Calls Tryd.prog 7 #[.int .i64 width, .slice pa ps.length pc] w0 fun e w' => e = .returned (.bool true) ∧ At w0 [] w' := by
  have hA : Hp w0 [] w0 := Hp.start w0
  refine vc_enter Tryd.func7 rfl Tryd.ntmps7 (Nat.le_of_ble_eq_true rfl) (fun a hF => ?_)
  apply wp_seq_k; intro K1 hK1
  refine wp_region_lit ?_
  refine vc_y hF rfl rfl (by decide) _ (y_assign rfl rfl) (fun a hF => ?_)
  refine vc_nil ?_
  refine hK1 _ _ ?_; clear  hK1 K1
  apply wp_seq_k; intro K2 hK2
  refine wp_region_lit ?_
  refine vc_op rfl (fun K hK => ws_bytes hF rfl (by decide) rfl (At.refl _) Tryd.underlying24 bk_byte5 [97] rfl (by decide) (by decide) (by kernel_rfl) (fun gl a _ _ hF => hK _ _ ?_))
  clear hK K
  refine vc_op rfl (fun K hK => cl_mark (l := [97]) hF rfl (by decide) rfl hA Tryd.underlying24 Tryd.underlying5 rfl (fun ga w1 a hF hA2 => hK _ _ ?_))
  clear hK K
  replace hA2 : Hp w0 ((litL [97] ga) :: []) w1 := hA2
  refine vc_op rfl (fun K hK => ws_bytes hF rfl (by decide) rfl (At.refl _) Tryd.underlying24 bk_byte5 [98] rfl (by decide) (by decide) (by kernel_rfl) (fun gl a _ _ hF => hK _ _ ?_))
  clear hK K
  refine vc_op rfl (fun K hK => cl_mark (l := [98]) hF rfl (by decide) rfl hA2 Tryd.underlying24 Tryd.underlying5 rfl (fun gb w3 a hF hA4 => hK _ _ ?_))
  clear hK K
  replace hA4 : Hp w0 ((litL [98] gb) :: (litL [97] ga) :: []) w3 := hA4
  refine vc_op rfl (fun K hK => ws_bytes hF rfl (by decide) rfl (At.refl _) Tryd.underlying24 bk_byte5 [97] rfl (by decide) (by decide) (by kernel_rfl) (fun gl a _ _ hF => hK _ _ ?_))
  clear hK K
  refine vc_op rfl (fun K hK => cl_mark (l := [97]) hF rfl (by decide) rfl hA4 Tryd.underlying24 Tryd.underlying5 rfl (fun gc w5 a hF hA6 => hK _ _ ?_))
  clear hK K
  replace hA6 : Hp w0 ((litL [97] gc) :: (litL [98] gb) :: (litL [97] ga) :: []) w5 := hA6
  refine vc_op rfl (fun K hK => hs_bs (qs := #[(0, .slice (some ⟨ga, 0, none⟩) 1 1), (1, .slice (some ⟨gb, 0, none⟩) 1 1), (2, .slice (some ⟨gc, 0, none⟩) 1 1)]) (cells := #[.slice (some ⟨ga, 0, none⟩) 1 1, .slice (some ⟨gb, 0, none⟩) 1 1, .slice (some ⟨gc, 0, none⟩) 1 1]) hF rfl (by decide) rfl hA6 rfl (cl_bs3 _ _ _) (fun gp w7 a hgp hF hA8 => hK _ _ ?_))
  clear hK K
  replace hA8 : Hp w0 ([row gp 24 [.slice (some ⟨ga, 0, none⟩) 1 1, .slice (some ⟨gb, 0, none⟩) 1 1, .slice (some ⟨gc, 0, none⟩) 1 1]] :: (litL [97] gc) :: (litL [98] gb) :: (litL [97] ga) :: []) w7 := hA8
  have hP1 : PcS w0 ([row gp 24 [.slice (some ⟨ga, 0, none⟩) 1 1, .slice (some ⟨gb, 0, none⟩) 1 1, .slice (some ⟨gc, 0, none⟩) 1 1]] :: (litL [97] gc) :: (litL [98] gb) :: (litL [97] ga) :: []) (some ⟨gp, 0, none⟩) [(some ⟨ga, 0, none⟩, 1, [97]), (some ⟨gb, 0, none⟩, 1, [98]), (some ⟨gc, 0, none⟩, 1, [97])] := ⟨Rc.ofRow (i := 0) (off := 0) rfl rfl, pc_three (cl_lit (List.mem_cons_of_mem _ (List.mem_cons_of_mem _ (List.mem_cons_of_mem _ ((List.mem_cons_self ..)))))) (cl_lit (List.mem_cons_of_mem _ (List.mem_cons_of_mem _ ((List.mem_cons_self ..))))) (cl_lit (List.mem_cons_of_mem _ ((List.mem_cons_self ..))))⟩
  refine vc_op rfl (fun K hK => ws_call hF rfl (by decide) cl28_lc rfl rfl ?_)
  with_reducible refine (cs_clash3 w0 _ _ 32 (some ⟨gp, 0, none⟩) _ _ _ _ _ _ hT hP1 hA8 ).mono ?_
  rintro e' w9 ⟨v1, v2, bb, t1, t2, Z1, Z2, rfl, hcr1, _, _, _, hA10⟩
  refine ⟨_, rfl, fun a hF => hK _ _ ?_⟩
  clear hK K
  replace hA10 : Hp w0 (Z2 :: Z1 :: [row gp 24 [.slice (some ⟨ga, 0, none⟩) 1 1, .slice (some ⟨gb, 0, none⟩) 1 1, .slice (some ⟨gc, 0, none⟩) 1 1]] :: (litL [97] gc) :: (litL [98] gb) :: (litL [97] ga) :: []) w9 := hA10
  obtain rfl : bb = false := (hcr1.one cl_32).1
  have hA11 : Hp w0 ([]) w9 := Hp.sel [Z2, Z1, [row gp 24 [.slice (some ⟨ga, 0, none⟩) 1 1, .slice (some ⟨gb, 0, none⟩) 1 1, .slice (some ⟨gc, 0, none⟩) 1 1]], (litL [97] gc), (litL [98] gb), (litL [97] ga)] [] [] [0, 1, 2, 3, 4, 5] hA10 rfl
  refine vc_y hF rfl rfl (by decide) _ (y_move rfl rfl) (fun a hF => ?_)
  refine vc_y hF rfl rfl (by decide) _ (y_extract (v := v1) rfl rfl rfl) (fun a hF => ?_)
  refine vc_y hF rfl rfl (by decide) _ (y_extract (v := v2) rfl rfl rfl) (fun a hF => ?_)
  refine vc_y hF rfl rfl (by decide) _ (y_extract (v := .bool false) rfl rfl rfl) (fun a hF => ?_)
  refine vc_y hF rfl rfl (by decide) _ (y_assign rfl rfl) (fun a hF => ?_)
  refine vc_y hF rfl rfl (by decide) _ (y_assign rfl rfl) (fun a hF => ?_)
  refine vc_y hF rfl rfl (by decide) _ (y_assign rfl rfl) (fun a hF => ?_)
  refine vc_nil ?_
  refine hK2 _ _ ?_; clear  hK2 K2
  apply wp_seq_k; intro K3 hK3
  refine wp_region_lit ?_
  refine vc_op rfl (fun K hK => hs_bs1 (u1 := .int .u8 63) hF rfl (by decide) rfl hA11 rfl (cl_bs1 63) (fun gd w12 a hgd hF hA13 => hK _ _ ?_))
  clear hK K
  replace hA13 : Hp w0 ([row gd 5 [.int .u8 63]] :: []) w12 := hA13
  refine vc_op rfl (fun K hK => ws_bytes hF rfl (by decide) rfl (At.refl _) Tryd.underlying24 bk_byte5 [97] rfl (by decide) (by decide) (by kernel_rfl) (fun gl a _ _ hF => hK _ _ ?_))
  clear hK K
  refine vc_op rfl (fun K hK => cl_mark (l := [97]) hF rfl (by decide) rfl hA13 Tryd.underlying24 Tryd.underlying5 rfl (fun ge w14 a hF hA15 => hK _ _ ?_))
  clear hK K
  replace hA15 : Hp w0 ((litL [97] ge) :: [row gd 5 [.int .u8 63]] :: []) w14 := hA15
  refine vc_op rfl (fun K hK => hs_bs1 (u1 := .int .u8 161) hF rfl (by decide) rfl hA15 rfl (cl_bs1 161) (fun gf w16 a hgf hF hA17 => hK _ _ ?_))
  clear hK K
  replace hA17 : Hp w0 ([row gf 5 [.int .u8 161]] :: (litL [97] ge) :: [row gd 5 [.int .u8 63]] :: []) w16 := hA17
  refine vc_op rfl (fun K hK => hs_bs (qs := #[(0, .slice (some ⟨gd, 0, none⟩) 1 1), (1, .slice (some ⟨ge, 0, none⟩) 1 1), (2, .slice (some ⟨gf, 0, none⟩) 1 1)]) (cells := #[.slice (some ⟨gd, 0, none⟩) 1 1, .slice (some ⟨ge, 0, none⟩) 1 1, .slice (some ⟨gf, 0, none⟩) 1 1]) hF rfl (by decide) rfl hA17 rfl (cl_bs3 _ _ _) (fun gq w18 a hgq hF hA19 => hK _ _ ?_))
  clear hK K
  replace hA19 : Hp w0 ([row gq 24 [.slice (some ⟨gd, 0, none⟩) 1 1, .slice (some ⟨ge, 0, none⟩) 1 1, .slice (some ⟨gf, 0, none⟩) 1 1]] :: [row gf 5 [.int .u8 161]] :: (litL [97] ge) :: [row gd 5 [.int .u8 63]] :: []) w18 := hA19
  have hP2 : PcS w0 ([row gq 24 [.slice (some ⟨gd, 0, none⟩) 1 1, .slice (some ⟨ge, 0, none⟩) 1 1, .slice (some ⟨gf, 0, none⟩) 1 1]] :: [row gf 5 [.int .u8 161]] :: (litL [97] ge) :: [row gd 5 [.int .u8 63]] :: []) (some ⟨gq, 0, none⟩) [(some ⟨gd, 0, none⟩, 1, [63]), (some ⟨ge, 0, none⟩, 1, [97]), (some ⟨gf, 0, none⟩, 1, [161])] := ⟨Rc.ofRow (i := 0) (off := 0) rfl rfl, pc_three (Rc.ofRow (i := 3) (off := 0) rfl rfl) (cl_lit (List.mem_cons_of_mem _ (List.mem_cons_of_mem _ ((List.mem_cons_self ..))))) (Rc.ofRow (i := 1) (off := 0) rfl rfl)⟩
  refine vc_op rfl (fun K hK => ws_call hF rfl (by decide) cl28_lc rfl rfl ?_)
  with_reducible refine (cs_clash3 w0 _ _ 1 (some ⟨gq, 0, none⟩) _ _ _ _ _ _ hT hP2 hA19 ).mono ?_
  rintro e' w20 ⟨p1, p2, bb, t1, t2, Z1, Z2, rfl, hcr2, hZ1, hZ2, _, hA21⟩
  refine ⟨_, rfl, fun a hF => hK _ _ ?_⟩
  clear hK K
  replace hA21 : Hp w0 (Z2 :: Z1 :: [row gq 24 [.slice (some ⟨gd, 0, none⟩) 1 1, .slice (some ⟨ge, 0, none⟩) 1 1, .slice (some ⟨gf, 0, none⟩) 1 1]] :: [row gf 5 [.int .u8 161]] :: (litL [97] ge) :: [row gd 5 [.int .u8 63]] :: []) w20 := hA21
  obtain ⟨rfl, rfl, rfl⟩ := hcr2.one cl_1
  obtain ⟨_, A1, c1, rfl, _, hR1⟩ := hZ1.rd (w0 := w0) (R := [Z1]) (List.mem_cons_self ..)
  obtain ⟨_, A2, c2, rfl, _, hR2⟩ := hZ2.rd (w0 := w0) (R := [Z2]) (List.mem_cons_self ..)
  have hA22 : Hp w0 (Z1 :: Z2 :: []) w20 := Hp.sel [Z2, Z1, [row gq 24 [.slice (some ⟨gd, 0, none⟩) 1 1, .slice (some ⟨ge, 0, none⟩) 1 1, .slice (some ⟨gf, 0, none⟩) 1 1]], [row gf 5 [.int .u8 161]], (litL [97] ge), [row gd 5 [.int .u8 63]]] [] [1, 0] [2, 3, 4, 5] hA21 rfl
  refine vc_y hF rfl rfl (by decide) _ (y_move rfl rfl) (fun a hF => ?_)
  refine vc_y hF rfl rfl (by decide) _ (y_extract (v := .slice A1 1 c1) rfl rfl rfl) (fun a hF => ?_)
  refine vc_y hF rfl rfl (by decide) _ (y_extract (v := .slice A2 1 c2) rfl rfl rfl) (fun a hF => ?_)
  refine vc_y hF rfl rfl (by decide) _ (y_extract (v := .bool true) rfl rfl rfl) (fun a hF => ?_)
  refine vc_y hF rfl rfl (by decide) _ (y_assign rfl rfl) (fun a hF => ?_)
  refine vc_y hF rfl rfl (by decide) _ (y_assign rfl rfl) (fun a hF => ?_)
  refine vc_y hF rfl rfl (by decide) _ (y_assign rfl rfl) (fun a hF => ?_)
  refine vc_nil ?_
  refine hK3 _ _ ?_; clear  hK3 K3
  apply wp_seq_k; intro K4 hK4
  apply wp_seq_k; intro K5 hK5
  refine wp_region_lit ?_
  refine vc_y hF rfl rfl (by decide) _ (y_move rfl rfl) (fun a hF => ?_)
  refine vc_y hF rfl rfl (by decide) _ (y_move rfl rfl) (fun a hF => ?_)
  refine vc_yg hF rfl rfl rfl rfl rfl (by decide) _ (y_move rfl rfl) (fun a hF => ?_)
  refine vc_yg hF rfl rfl rfl rfl rfl (by decide) _ (y_not rfl rfl rfl) (fun a hF => ?_)
  refine vc_y hF rfl rfl (by decide) _ (y_pick rfl rfl rfl) (fun a hF => ?_)
  refine vc_y hF rfl rfl (by decide) _ (y_move rfl rfl) (fun a hF => ?_)
  refine vc_yg hF rfl rfl rfl rfl rfl (by decide) _ (y_move rfl rfl) (fun a hF => ?_)
  refine vc_yg hF rfl rfl rfl rfl rfl (by decide) _ (y_convStr (l := [63]) rfl Tryd.underlying24 Tryd.underlying5 Tryd.underlying9 rfl rfl (hR1.bts (Hq.sub hA22.q (sub1 ((List.mem_cons_self ..)))))) (fun a hF => ?_)
  refine vc_yg hF rfl rfl rfl rfl rfl (by decide) _ (y_cmpS rfl rfl rfl rfl (strB_neq_f _)) (fun a hF => ?_)
  refine vc_y hF rfl rfl (by decide) _ (y_pick rfl rfl rfl) (fun a hF => ?_)
  refine vc_y hF rfl rfl (by decide) _ (y_move rfl rfl) (fun a hF => ?_)
  refine vc_yg hF rfl rfl rfl rfl rfl (by decide) _ (y_move rfl rfl) (fun a hF => ?_)
  refine vc_yg hF rfl rfl rfl rfl rfl (by decide) _ (y_convStr (l := [161]) rfl Tryd.underlying24 Tryd.underlying5 Tryd.underlying9 rfl rfl (hR2.bts (Hq.sub hA22.q (sub1 (List.mem_cons_of_mem _ ((List.mem_cons_self ..))))))) (fun a hF => ?_)
  refine vc_yg hF rfl rfl rfl rfl rfl (by decide) _ (y_cmpS rfl rfl rfl rfl (strB_neq_f _)) (fun a hF => ?_)
  refine vc_y hF rfl rfl (by decide) _ (y_pick rfl rfl rfl) (fun a hF => ?_)
  refine vc_nil ?_
  refine hK5 _ _ ?_; clear  hK5 K5
  refine vc_false hF rfl ?_
  apply wp_skip
  refine hK4 _ _ ?_; clear  hK4 K4
  apply wp_seq_k; intro K6 hK6
  apply wp_seq_k; intro K7 hK7
  refine wp_region_lit ?_
  refine vc_y hF rfl rfl (by decide) _ (y_move rfl rfl) (fun a hF => ?_)
  refine vc_y hF rfl rfl (by decide) _ (y_lenSl rfl Tryd.underlying29 rfl rfl) (fun a hF => ?_)
  refine vc_y hF rfl rfl (by decide) _ (y_cmp rfl rfl rfl rfl rfl) (fun a hF => ?_)
  refine vc_nil ?_
  refine hK7 _ _ ?_; clear  hK7 K7
  by_cases h2000 : 2000 < (ps.length : Int)
  · refine vc_trueB hF rfl (gtr_t (by omega)) ?_
    apply wp_seq_k; intro K8 hK8
    refine wp_region_lit ?_
    refine vc_y hF rfl rfl (by decide) _ (y_assign rfl rfl) (fun a hF => ?_)
    refine vc_nil ?_
    refine hK8 _ _ ?_; clear  hK8 K8
    apply wp_ret
    simp only [Exit.then]
    refine vc_ret1 hF Tryd.results7 rfl ?_
    exact ⟨rfl, hA22.at0⟩
  · refine vc_falseB hF rfl (gtr_f (by omega)) ?_
    apply wp_skip
    refine hK6 _ _ ?_; clear  hK6 K6
    apply wp_seq_k; intro K9 hK9
    refine wp_region_lit ?_
    refine vc_y hF rfl rfl (by decide) _ (y_assign rfl rfl) (fun a hF => ?_)
    refine vc_y hF rfl rfl (by decide) _ (y_assign rfl rfl) (fun a hF => ?_)
    refine vc_nil ?_
    refine hK9 _ _ ?_; clear  hK9 K9
    apply wp_seq_k; intro K10 hK10
    apply wp_seq_k; intro K11 hK11
    refine wp_region_lit ?_
    refine vc_y hF rfl rfl (by decide) _ (y_assign rfl rfl) (fun a hF => ?_)
    refine vc_nil ?_
    refine hK11 _ _ ?_; clear  hK11 K11
    apply wp_block
    have hA23 : Hp w0 ([]) w20 := Hp.sel [Z1, Z2] [] [] [0, 1] hA22 rfl
    have hA24 : Hp w0 (([] : Seg) :: []) w20 := Hp.nil hA23
    have hA25 : Hp w0 (([] : Seg) :: ([] : Seg) :: []) w20 := Hp.nil hA24
    have hA26 : Hp w0 (([] : Seg) :: ([] : Seg) :: ([] : Seg) :: []) w20 := Hp.nil hA25
    refine vc_loop (G := Nat) (fun i a x => ∃ (qs : List (Nat × List UInt8)) (fv : Value) (pv : Value) (XF : Seg) (XP : Seg), i ≤ ps.length ∧ qs.map (·.2) = (ps.take i).map (·.2.2) ∧ Buf 24 1 XF fv qs.length (qs.map roomV) ∧ Buf 24 1 XP pv qs.length (qs.map partV) ∧ Fr 216 [(13, .int .i64 (i : Int)), (11, fv), (12, pv), (0, .int .i64 width), (1, .slice pa ps.length pc)] a ∧ Hp w0 (XF :: XP :: (qs.map (roomS 5)).flatten :: []) x) (fun i => ps.length - i) 0 (⟨[], .slice none 0 0, .slice none 0 0, [], [], Nat.zero_le _, rfl, Buf.nil _ _, Buf.nil _ _, hF.keep [13, 11, 12, 0, 1] rfl, hA26⟩) ?_
    clear hF
    rintro i a w28 ⟨qs, fv, pv, XF, XP, hi, hqs, hF1, hP1, hF, hA27⟩
    apply wp_seq_k; intro K12 hK12
    apply wp_seq_k; intro K13 hK13
    refine wp_region_lit ?_
    refine vc_y hF rfl rfl (by decide) _ (y_move rfl rfl) (fun a hF => ?_)
    refine vc_y hF rfl rfl (by decide) _ (y_move rfl rfl) (fun a hF => ?_)
    refine vc_y hF rfl rfl (by decide) _ (y_lenSl rfl Tryd.underlying29 rfl rfl) (fun a hF => ?_)
    refine vc_y hF rfl rfl (by decide) _ (y_cmp rfl rfl rfl rfl rfl) (fun a hF => ?_)
    refine vc_nil ?_
    refine hK13 _ _ ?_; clear  hK13 K13
    by_cases hlt : i < ps.length
    · refine vc_trueB hF rfl (lss_t (by omega)) ?_
      obtain ⟨⟨A0, c0, l0⟩, hp⟩ : ∃ q, ps[i]? = some q := ⟨_, List.getElem?_eq_getElem hlt⟩
      have hmem := List.mem_of_getElem? hp
      obtain ⟨hc0, hR0⟩ := hP.2 _ hmem
      have hl0 : l0.length < 140737488351300 := hpl _ hmem
      obtain ⟨b, p, rfl, hc⟩ := hP.1.ne (i := i) (by rw [List.length_map]; exact hlt)
      have hqn : qs.length = i := by
        have h1 := congrArg List.length hqs
        rw [List.length_map, List.length_map, List.length_take] at h1
        omega
      have hq2 : qs.length < 1000000 := by omega
      apply wp_skip
      refine hK12 _ _ ?_; clear  hK12 K12
      apply wp_seq_k; intro K14 hK14
      apply wp_block
      apply wp_seq_k; intro K15 hK15
      refine wp_region_lit ?_
      refine vc_y hF rfl rfl (by decide) _ (y_move rfl rfl) (fun a hF => ?_)
      refine vc_y hF rfl rfl (by decide) _ (y_move rfl rfl) (fun a hF => ?_)
      refine vc_y hF rfl rfl (by decide) _ (y_ixSl rfl Tryd.underlying29 sz24_lc rfl rfl i rfl hlt (ad2 _ _ _)) (fun a hF => ?_)
      refine vc_y hF rfl rfl (by decide) _ (y_ldC (u := .slice A0 l0.length c0) rfl (Hq.sub hA27.q (List.nil_subset _)) rfl hc i (by rw [List.length_map]; exact hlt) rfl (by rw [List.getElem?_map, hp]; rfl) nr24_lc) (fun a hF => ?_)
      refine vc_op rfl (fun K hK => ws_call hF rfl (by decide) cl20_lc rfl rfl ?_)
      with_reducible refine (cl_roomyB w0 _ (XF :: XP :: (qs.map (roomS 5)).flatten :: []) A0 l0 c0 (hR0.mono (List.nil_subset _)) hA27 (by omega) ).mono ?_
      rintro e' w29 ⟨g, rfl, hA30⟩
      refine ⟨_, rfl, fun a hF => hK _ _ ?_⟩
      clear hK K
      replace hA30 : Hp w0 ([row g 5 (cel cB (l0 ++ List.replicate 80 165))] :: XF :: XP :: (qs.map (roomS 5)).flatten :: []) w29 := hA30
      refine vc_y hF rfl rfl (by decide) _ (y_assign rfl rfl) (fun a hF => ?_)
      refine vc_nil ?_
      refine hK15 _ _ ?_; clear  hK15 K15
      apply wp_seq_k; intro K16 hK16
      refine wp_region_lit ?_
      refine vc_y hF rfl rfl (by decide) _ (y_move rfl rfl) (fun a hF => ?_)
      refine vc_y hF rfl rfl (by decide) _ (y_move rfl rfl) (fun a hF => ?_)
      refine vc_op rfl (fun K hK => hs_bs1 (u1 := .slice (some ⟨g, 0, none⟩) (l0.length + 80) (l0.length + 80)) hF rfl (by decide) rfl hA30 rfl (cl_bsS _ _ _) (fun b31 w32 a hb31 hF hA33 => hK _ _ ?_))
      clear hK K
      replace hA33 : Hp w0 ([row b31 24 [.slice (some ⟨g, 0, none⟩) (l0.length + 80) (l0.length + 80)]] :: [row g 5 (cel cB (l0 ++ List.replicate 80 165))] :: XF :: XP :: (qs.map (roomS 5)).flatten :: []) w32 := hA33
      refine vc_op rfl (fun K hK => hs_append hF rfl (by decide) rfl hA33 2 rfl hF1 Tryd.underlying29 cl_elemT rfl rfl (Rc.srcC (W := [.slice (some ⟨g, 0, none⟩) (l0.length + 80) (l0.length + 80)]) (m := 1) (size := 1) (R := [row b31 24 [.slice (some ⟨g, 0, none⟩) (l0.length + 80) (l0.length + 80)]] :: [row g 5 (cel cB (l0 ++ List.replicate 80 165))] :: XF :: XP :: (qs.map (roomS 5)).flatten :: []) (Rc.ofRow (i := 0) (off := 0) rfl rfl) hA33.q Tryd.underlying29 (by decide) rfl (by simp [Value.oneCell'])) (cl_grow hq2) (by decide) (fun fv2 XF2 w34 a hF2 hF hA35 => hK _ _ ?_))
      clear hK K
      replace hA35 : Hp w0 ([row b31 24 [.slice (some ⟨g, 0, none⟩) (l0.length + 80) (l0.length + 80)]] :: [row g 5 (cel cB (l0 ++ List.replicate 80 165))] :: XF2 :: XP :: (qs.map (roomS 5)).flatten :: []) w34 := hA35
      refine vc_y hF rfl rfl (by decide) _ (y_assign rfl rfl) (fun a hF => ?_)
      refine vc_nil ?_
      refine hK16 _ _ ?_; clear  hK16 K16
      refine wp_region_lit ?_
      refine vc_y hF rfl rfl (by decide) _ (y_move rfl rfl) (fun a hF => ?_)
      refine vc_y hF rfl rfl (by decide) _ (y_move rfl rfl) (fun a hF => ?_)
      refine vc_y hF rfl rfl (by decide) _ (y_move rfl rfl) (fun a hF => ?_)
      refine vc_y hF rfl rfl (by decide) _ (y_move rfl rfl) (fun a hF => ?_)
      refine vc_y hF rfl rfl (by decide) _ (y_ixSl rfl Tryd.underlying29 sz24_lc rfl rfl i rfl hlt (ad2 _ _ _)) (fun a hF => ?_)
      refine vc_y hF rfl rfl (by decide) _ (y_ldC (u := .slice A0 l0.length c0) rfl (Hq.sub hA35.q (List.nil_subset _)) rfl hc i (by rw [List.length_map]; exact hlt) rfl (by rw [List.getElem?_map, hp]; rfl) nr24_lc) (fun a hF => ?_)
      refine vc_y hF rfl rfl (by decide) _ (y_lenSl rfl Tryd.underlying24 rfl rfl) (fun a hF => ?_)
      refine vc_y hF rfl rfl (by decide) _ (y_slice rfl Tryd.underlying24 kb_sz_byte rfl (.none 0) (.some rfl rfl) (Nat.zero_le _) (by omega) slice_to) (fun a hF => ?_)
      refine vc_op rfl (fun K hK => hs_bs1 (u1 := .slice (some ⟨g, 0, none⟩) l0.length (l0.length + 80)) hF rfl (by decide) rfl hA35 rfl (cl_bsS _ _ _) (fun b36 w37 a hb36 hF hA38 => hK _ _ ?_))
      clear hK K
      replace hA38 : Hp w0 ([row b36 24 [.slice (some ⟨g, 0, none⟩) l0.length (l0.length + 80)]] :: [row b31 24 [.slice (some ⟨g, 0, none⟩) (l0.length + 80) (l0.length + 80)]] :: [row g 5 (cel cB (l0 ++ List.replicate 80 165))] :: XF2 :: XP :: (qs.map (roomS 5)).flatten :: []) w37 := hA38
      refine vc_op rfl (fun K hK => hs_append hF rfl (by decide) rfl hA38 4 rfl hP1 Tryd.underlying29 cl_elemT rfl rfl (Rc.srcC (W := [.slice (some ⟨g, 0, none⟩) l0.length (l0.length + 80)]) (m := 1) (size := 1) (R := [row b36 24 [.slice (some ⟨g, 0, none⟩) l0.length (l0.length + 80)]] :: [row b31 24 [.slice (some ⟨g, 0, none⟩) (l0.length + 80) (l0.length + 80)]] :: [row g 5 (cel cB (l0 ++ List.replicate 80 165))] :: XF2 :: XP :: (qs.map (roomS 5)).flatten :: []) (Rc.ofRow (i := 0) (off := 0) rfl rfl) hA38.q Tryd.underlying29 (by decide) rfl (by simp [Value.oneCell'])) (cl_grow hq2) (by decide) (fun pv2 XP2 w39 a hP2 hF hA40 => hK _ _ ?_))
      clear hK K
      replace hA40 : Hp w0 ([row b36 24 [.slice (some ⟨g, 0, none⟩) l0.length (l0.length + 80)]] :: [row b31 24 [.slice (some ⟨g, 0, none⟩) (l0.length + 80) (l0.length + 80)]] :: [row g 5 (cel cB (l0 ++ List.replicate 80 165))] :: XF2 :: XP2 :: (qs.map (roomS 5)).flatten :: []) w39 := hA40
      refine vc_y hF rfl rfl (by decide) _ (y_assign rfl rfl) (fun a hF => ?_)
      refine vc_nil ?_
      refine hK14 _ _ ?_; clear  hK14 K14
      refine wp_region_lit ?_
      refine vc_y hF rfl rfl (by decide) _ (y_move rfl rfl) (fun a hF => ?_)
      refine vc_y hF rfl rfl (by decide) _ (y_add rfl rfl rfl (IntWalk.i64_in _ (by omega))) (fun a hF => ?_)
      refine vc_y hF rfl rfl (by decide) _ (y_assign rfl rfl) (fun a hF => ?_)
      refine vc_nil ?_
      have hA41 : Hp w0 (XF2 :: XP2 :: (qs.map (roomS 5)).flatten :: [row g 5 (cel cB (l0 ++ List.replicate 80 165))] :: []) w39 := Hp.sel [[row b36 24 [.slice (some ⟨g, 0, none⟩) l0.length (l0.length + 80)]], [row b31 24 [.slice (some ⟨g, 0, none⟩) (l0.length + 80) (l0.length + 80)]], [row g 5 (cel cB (l0 ++ List.replicate 80 165))], XF2, XP2, (qs.map (roomS 5)).flatten] [] [3, 4, 5, 2] [0, 1] hA40 rfl
      have hA42 : Hp w0 (XF2 :: XP2 :: ((qs ++ [(g, l0)]).map (roomS 5)).flatten :: []) w39 := hA41.cast (by simp [roomS])
      exact ⟨i + 1, by omega, qs ++ [(g, l0)], fv2, pv2, XF2, XP2, by omega, (by rw [List.map_append, hqs, List.take_add_one, hp]; simp), (by rw [List.length_append, List.map_append]; exact hF2), (by rw [List.length_append, List.map_append]; exact hP2), hF.keep [13, 11, 12, 0, 1] rfl, hA42⟩
    · refine vc_falseB hF rfl (lss_f (by omega)) ?_
      have hie : i = ps.length := by omega
      rw [hie, List.take_length] at hqs
      have hqn : qs.length = ps.length := by
        have h1 := congrArg List.length hqs
        rwa [List.length_map, List.length_map] at h1
      obtain ⟨TS, hTS⟩ : ∃ TS, TS = ps.map (·.2.2) := ⟨_, rfl⟩
      have hTq : qs.map (·.2) = TS := hqs.trans hTS.symm
      have hql : ∀ q ∈ qs, q.2.length < 140737488351300 := fun q hq => by
        have h1 : q.2 ∈ ps.map (·.2.2) := by rw [← hqs]; exact List.mem_map_of_mem hq
        obtain ⟨p, hp, e⟩ := List.mem_map.1 h1
        rw [← e]; exact hpl p hp
      obtain ⟨AF, cF, rfl, _⟩ := hF1.slice
      obtain ⟨AP, cP, rfl, _⟩ := hP1.slice
      apply wp_exit
      refine hK10 _ _ ?_; clear hK12 K12 hK10 K10
      apply wp_seq_k; intro K17 hK17
      refine wp_region_lit ?_
      refine vc_y hF rfl rfl (by decide) _ (y_move rfl rfl) (fun a hF => ?_)
      refine vc_y hF rfl rfl (by decide) _ (y_move rfl rfl) (fun a hF => ?_)
      refine vc_op rfl (fun K hK => ws_call hF rfl (by decide) cl29_lc rfl rfl ?_)
      with_reducible refine (cs_rclash w0 _ [] _ (List.nil_subset _) width pa ps pc _ rfl hP (fun p hp => by have := hpl p hp; omega) (by omega) hA27 ).mono ?_
      rintro e' w43 ⟨X1, x1c, X2, x2c, b, t1, t2, rfl, hcr, hX1, hX2, hA44⟩
      refine ⟨_, rfl, fun a hF => hK _ _ ?_⟩
      clear hK K
      replace hA44 : Hp w0 (XF :: XP :: (qs.map (roomS 5)).flatten :: []) w43 := hA44
      rw [← hTS] at hcr
      refine vc_y hF rfl rfl (by decide) _ (y_move rfl rfl) (fun a hF => ?_)
      refine vc_y hF rfl rfl (by decide) _ (y_extract (v := .slice X1 t1.length x1c) rfl rfl rfl) (fun a hF => ?_)
      refine vc_y hF rfl rfl (by decide) _ (y_extract (v := .slice X2 t2.length x2c) rfl rfl rfl) (fun a hF => ?_)
      refine vc_y hF rfl rfl (by decide) _ (y_extract (v := .bool b) rfl rfl rfl) (fun a hF => ?_)
      refine vc_y hF rfl rfl (by decide) _ (y_assign rfl rfl) (fun a hF => ?_)
      refine vc_y hF rfl rfl (by decide) _ (y_assign rfl rfl) (fun a hF => ?_)
      refine vc_y hF rfl rfl (by decide) _ (y_assign rfl rfl) (fun a hF => ?_)
      refine vc_nil ?_
      refine hK17 _ _ ?_; clear  hK17 K17
      apply wp_seq_k; intro K18 hK18
      refine wp_region_lit ?_
      refine vc_y hF rfl rfl (by decide) _ (y_build (qs := #[]) rfl rfl cl_build0) (fun a hF => ?_)
      refine vc_op rfl (fun K hK => hs_box (cs := [.slice none 0 0, .slice none 0 0, .int .i64 0, .bool false]) hF rfl (by decide) rfl hA44 rfl (fun b45 w46 a hb45 hF hA47 => hK _ _ ?_))
      clear hK K
      replace hA47 : Hp w0 ([row b45 56 [.slice none 0 0, .slice none 0 0, .int .i64 0, .bool false]] :: XF :: XP :: (qs.map (roomS 5)).flatten :: []) w46 := hA47
      refine vc_y hF rfl rfl (by decide) _ (y_assign rfl rfl) (fun a hF => ?_)
      refine vc_nil ?_
      refine hK18 _ _ ?_; clear  hK18 K18
      apply wp_seq_k; intro K19 hK19
      apply wp_seq_k; intro K20 hK20
      refine wp_region_lit ?_
      refine vc_y hF rfl rfl (by decide) _ (y_assign rfl rfl) (fun a hF => ?_)
      refine vc_nil ?_
      refine hK20 _ _ ?_; clear  hK20 K20
      apply wp_block
      have hA48 : Hp w0 (([] : Seg) :: [row b45 56 [.slice none 0 0, .slice none 0 0, .int .i64 0, .bool false]] :: XF :: XP :: (qs.map (roomS 5)).flatten :: []) w46 := Hp.nil hA47
      have hA49 : Hp w0 ([row b45 56 [.slice none 0 0, .slice none 0 0, .int .i64 0, .bool false]] :: ([] : Seg) :: XF :: XP :: (qs.map (roomS 5)).flatten :: []) w46 := Hp.ord [([] : Seg), [row b45 56 [.slice none 0 0, .slice none 0 0, .int .i64 0, .bool false]], XF, XP, (qs.map (roomS 5)).flatten] [] [1, 0, 2, 3, 4] hA48 rfl
      refine vc_loop (G := Nat) (fun i a x => ∃ (ks : List (KeptX UInt8)) (lv : Value) (wv : Value) (held : Int) (YB : Seg), i ≤ 2 ∧ BookV cB 24 5 1 ks lv wv YB ∧ Fr 216 [(19, .int .i64 (i : Int)), (0, .int .i64 width), (1, .slice pa ps.length pc), (11, .slice AF qs.length cF), (12, .slice AP qs.length cP), (15, .slice X1 t1.length x1c), (16, .slice X2 t2.length x2c), (17, .bool b), (18, .pointer (some ⟨b45, 0, none⟩))] a ∧ Hp w0 ([row b45 56 [lv, wv, .int .i64 held, .bool false]] :: YB :: XF :: XP :: (qs.map (roomS 5)).flatten :: []) x) (fun i => 2 - i) 0 (⟨[], _, _, 0, _, Nat.zero_le _, BookV.new _ _ _ _, hF.keep [19, 0, 1, 11, 12, 15, 16, 17, 18] rfl, hA49⟩) ?_
      clear hF
      rintro i a w51 ⟨ks, lv, wv, held, YB, hi3, hB, hF, hA50⟩
      apply wp_seq_k; intro K21 hK21
      apply wp_seq_k; intro K22 hK22
      refine wp_region_lit ?_
      refine vc_y hF rfl rfl (by decide) _ (y_move rfl rfl) (fun a hF => ?_)
      refine vc_y hF rfl rfl (by decide) _ (y_cmp rfl rfl rfl rfl rfl) (fun a hF => ?_)
      refine vc_nil ?_
      refine hK22 _ _ ?_; clear  hK22 K22
      by_cases hlt3 : i < 2
      · refine vc_trueB hF rfl (lss_t (by omega)) ?_
        apply wp_skip
        refine hK21 _ _ ?_; clear  hK21 K21
        apply wp_seq_k; intro K23 hK23
        apply wp_block
        apply wp_seq_k; intro K24 hK24
        refine wp_region_lit ?_
        refine vc_y hF rfl rfl (by decide) _ (y_move rfl rfl) (fun a hF => ?_)
        refine vc_y hF rfl rfl (by decide) _ (y_move rfl rfl) (fun a hF => ?_)
        have hPc : PcS w0 ([row b45 56 [lv, wv, .int .i64 held, .bool false]] :: YB :: XF :: XP :: (qs.map (roomS 5)).flatten :: []) AP (qs.map pcOf) := by
          obtain ⟨_, _, e1, _, h1⟩ := hP1.rc (w0 := w0) (R := ([row b45 56 [lv, wv, .int .i64 held, .bool false]] :: YB :: XF :: XP :: (qs.map (roomS 5)).flatten :: [])) (List.mem_cons_of_mem _ (List.mem_cons_of_mem _ (List.mem_cons_of_mem _ ((List.mem_cons_self ..)))))
          injection e1 with e1 _ _
          subst e1
          exact pcs_of (e := 5) h1 (List.mem_cons_of_mem _ (List.mem_cons_of_mem _ (List.mem_cons_of_mem _ (List.mem_cons_of_mem _ ((List.mem_cons_self ..))))))
        refine vc_op rfl (fun K hK => ws_call hF rfl (by decide) cl28_lc rfl rfl ?_)
        with_reducible refine (cs_clash w0 _ _ width AP (qs.map pcOf) cP _ (by rw [List.length_map]) hT hPc (fun p hp => by obtain ⟨q, hq, rfl⟩ := List.mem_map.1 hp; have := hql q hq; simp only [pcOf, List.length_map]; omega) (by rw [List.length_map]; omega) hA50 ).mono ?_
        rintro e' w52 ⟨v1, v2, b', u1, u2, Z1, Z2, rfl, hcr', hZ1, hZ2, hsz12, hA53⟩
        refine ⟨_, rfl, fun a hF => hK _ _ ?_⟩
        clear hK K
        replace hA53 : Hp w0 (Z2 :: Z1 :: [row b45 56 [lv, wv, .int .i64 held, .bool false]] :: YB :: XF :: XP :: (qs.map (roomS 5)).flatten :: []) w52 := hA53
        rw [pcOf_tx, hTq] at hcr'
        obtain ⟨eb, e1, e2⟩ := ClRes.one hcr' hcr
        rw [eb] at hF
        rw [e1] at hZ1 hsz12
        rw [e2] at hZ2 hsz12
        obtain ⟨_, A3, c3, rfl, _, hR3⟩ := hZ1.rd (w0 := w0) (R := [Z1]) (List.mem_cons_self ..)
        obtain ⟨_, A4, c4, rfl, _, hR4⟩ := hZ2.rd (w0 := w0) (R := [Z2]) (List.mem_cons_self ..)
        refine vc_y hF rfl rfl (by decide) _ (y_move rfl rfl) (fun a hF => ?_)
        refine vc_y hF rfl rfl (by decide) _ (y_extract (v := .slice A3 t1.length c3) rfl rfl rfl) (fun a hF => ?_)
        refine vc_y hF rfl rfl (by decide) _ (y_extract (v := .slice A4 t2.length c4) rfl rfl rfl) (fun a hF => ?_)
        refine vc_y hF rfl rfl (by decide) _ (y_extract (v := .bool b) rfl rfl rfl) (fun a hF => ?_)
        refine vc_y hF rfl rfl (by decide) _ (y_assign rfl rfl) (fun a hF => ?_)
        refine vc_y hF rfl rfl (by decide) _ (y_assign rfl rfl) (fun a hF => ?_)
        refine vc_y hF rfl rfl (by decide) _ (y_assign rfl rfl) (fun a hF => ?_)
        refine vc_nil ?_
        refine hK24 _ _ ?_; clear  hK24 K24
        apply wp_seq_k; intro K25 hK25
        apply wp_seq_k; intro K26 hK26
        refine wp_region_lit ?_
        refine vc_y hF rfl rfl (by decide) _ (y_move rfl rfl) (fun a hF => ?_)
        refine vc_y hF rfl rfl (by decide) _ (y_move rfl rfl) (fun a hF => ?_)
        refine vc_y hF rfl rfl (by decide) _ (y_neBool rfl Tryd.underlying4 rfl rfl) (fun a hF => ?_)
        refine vc_y hF rfl rfl (by decide) _ (y_move rfl rfl) (fun a hF => ?_)
        refine vc_yg hF rfl rfl rfl rfl rfl (by decide) _ (y_move rfl rfl) (fun a hF => ?_)
        refine vc_yg hF rfl rfl rfl rfl rfl (by decide) _ (y_convStr (l := t1) rfl Tryd.underlying24 Tryd.underlying5 Tryd.underlying9 rfl rfl (hR3.bts (Hq.sub hA53.q (sub1 (List.mem_cons_of_mem _ ((List.mem_cons_self ..))))))) (fun a hF => ?_)
        refine vc_yg hF rfl rfl rfl rfl rfl (by decide) _ (y_move rfl rfl) (fun a hF => ?_)
        refine vc_yg hF rfl rfl rfl rfl rfl (by decide) _ (y_convStr (l := t1) rfl Tryd.underlying24 Tryd.underlying5 Tryd.underlying9 rfl rfl (hX1.bts (Hq.sub hA53.q (List.nil_subset _)))) (fun a hF => ?_)
        refine vc_yg hF rfl rfl rfl rfl rfl (by decide) _ (y_cmpS rfl rfl rfl rfl (strB_neq_f _)) (fun a hF => ?_)
        refine vc_y hF rfl rfl (by decide) _ (y_pick rfl rfl rfl) (fun a hF => ?_)
        refine vc_y hF rfl rfl (by decide) _ (y_move rfl rfl) (fun a hF => ?_)
        refine vc_yg hF rfl rfl rfl rfl rfl (by decide) _ (y_move rfl rfl) (fun a hF => ?_)
        refine vc_yg hF rfl rfl rfl rfl rfl (by decide) _ (y_convStr (l := t2) rfl Tryd.underlying24 Tryd.underlying5 Tryd.underlying9 rfl rfl (hR4.bts (Hq.sub hA53.q (sub1 ((List.mem_cons_self ..)))))) (fun a hF => ?_)
        refine vc_yg hF rfl rfl rfl rfl rfl (by decide) _ (y_move rfl rfl) (fun a hF => ?_)
        refine vc_yg hF rfl rfl rfl rfl rfl (by decide) _ (y_convStr (l := t2) rfl Tryd.underlying24 Tryd.underlying5 Tryd.underlying9 rfl rfl (hX2.bts (Hq.sub hA53.q (List.nil_subset _)))) (fun a hF => ?_)
        refine vc_yg hF rfl rfl rfl rfl rfl (by decide) _ (y_cmpS rfl rfl rfl rfl (strB_neq_f _)) (fun a hF => ?_)
        refine vc_y hF rfl rfl (by decide) _ (y_pick rfl rfl rfl) (fun a hF => ?_)
        refine vc_nil ?_
        refine hK26 _ _ ?_; clear  hK26 K26
        refine vc_false hF rfl ?_
        apply wp_skip
        refine hK25 _ _ ?_; clear  hK25 K25
        apply wp_seq_k; intro K27 hK27
        refine wp_region_lit ?_
        refine vc_y hF rfl rfl (by decide) _ (y_move rfl rfl) (fun a hF => ?_)
        refine vc_y hF rfl rfl (by decide) _ (y_move rfl rfl) (fun a hF => ?_)
        have hA54 : Hp w0 (Z1 :: [row b45 56 [lv, wv, .int .i64 held, .bool false]] :: YB :: Z2 :: XF :: XP :: (qs.map (roomS 5)).flatten :: []) w52 := Hp.ord [Z2, Z1, [row b45 56 [lv, wv, .int .i64 held, .bool false]], YB, XF, XP, (qs.map (roomS 5)).flatten] [] [1, 2, 3, 0, 4, 5, 6] hA53 rfl
        refine vc_op rfl (fun K hK => ws_call hF rfl (by decide) cl30_lc rfl rfl ?_)
        with_reducible refine (kb_keep_byte w0 _ _ b45 ks YB Z1 _ t1 hB (by rw [← cel_dc]; exact hZ1) (fun _ _ => rfl) (by omega) (cl_keepB hsz12.1) hA54 ).mono ?_
        rintro e' w55 ⟨ks1, lv1, wv1, held1, YB1, rfl, hB1, _, hA56⟩
        refine ⟨_, rfl, fun a hF => hK _ _ ?_⟩
        clear hK K
        replace hA56 : Hp w0 ([row b45 56 [lv1, wv1, .int .i64 held1, .bool false]] :: YB1 :: Z2 :: XF :: XP :: (qs.map (roomS 5)).flatten :: []) w55 := hA56
        refine vc_nil ?_
        refine hK27 _ _ ?_; clear  hK27 K27
        refine wp_region_lit ?_
        refine vc_y hF rfl rfl (by decide) _ (y_move rfl rfl) (fun a hF => ?_)
        refine vc_y hF rfl rfl (by decide) _ (y_move rfl rfl) (fun a hF => ?_)
        have hA57 : Hp w0 (Z2 :: [row b45 56 [lv1, wv1, .int .i64 held1, .bool false]] :: YB1 :: XF :: XP :: (qs.map (roomS 5)).flatten :: []) w55 := Hp.ord [[row b45 56 [lv1, wv1, .int .i64 held1, .bool false]], YB1, Z2, XF, XP, (qs.map (roomS 5)).flatten] [] [2, 0, 1, 3, 4, 5] hA56 rfl
        refine vc_op rfl (fun K hK => ws_call hF rfl (by decide) cl30_lc rfl rfl ?_)
        with_reducible refine (kb_keep_byte w0 _ _ b45 ks1 YB1 Z2 _ t2 hB1 (by rw [← cel_dc]; exact hZ2) (fun _ _ => rfl) (by omega) (cl_keepB hsz12.2) hA57 ).mono ?_
        rintro e' w58 ⟨ks2, lv2, wv2, held2, YB2, rfl, hB2, _, hA59⟩
        refine ⟨_, rfl, fun a hF => hK _ _ ?_⟩
        clear hK K
        replace hA59 : Hp w0 ([row b45 56 [lv2, wv2, .int .i64 held2, .bool false]] :: YB2 :: XF :: XP :: (qs.map (roomS 5)).flatten :: []) w58 := hA59
        refine vc_nil ?_
        refine hK23 _ _ ?_; clear  hK23 K23
        refine wp_region_lit ?_
        refine vc_y hF rfl rfl (by decide) _ (y_move rfl rfl) (fun a hF => ?_)
        refine vc_y hF rfl rfl (by decide) _ (y_add rfl rfl rfl (IntWalk.i64_in _ (by omega))) (fun a hF => ?_)
        refine vc_y hF rfl rfl (by decide) _ (y_assign rfl rfl) (fun a hF => ?_)
        refine vc_nil ?_
        exact ⟨i + 1, by omega, ks2, lv2, wv2, held2, YB2, by omega, hB2, hF.keep [19, 0, 1, 11, 12, 15, 16, 17, 18] rfl, hA59⟩
      · refine vc_falseB hF rfl (lss_f (by omega)) ?_
        apply wp_exit
        refine hK19 _ _ ?_; clear hK21 K21 hK19 K19
        apply wp_seq_k; intro K28 hK28
        refine wp_region_lit ?_
        refine vc_y hF rfl rfl (by decide) _ (y_assign rfl rfl) (fun a hF => ?_)
        refine vc_nil ?_
        refine hK28 _ _ ?_; clear  hK28 K28
        apply wp_seq_k; intro K29 hK29
        apply wp_seq_k; intro K30 hK30
        refine wp_region_lit ?_
        refine vc_y hF rfl rfl (by decide) _ (y_assign rfl rfl) (fun a hF => ?_)
        refine vc_nil ?_
        refine hK30 _ _ ?_; clear  hK30 K30
        apply wp_block
        have hA60 : Hp w0 ([row b45 56 [lv, wv, .int .i64 held, .bool false]] :: YB :: XF :: XP :: (((qs.drop 0).map (roomS 5)).flatten) :: []) w51 := hA50
        have hA61 : Hp w0 ((((qs.take 0).map flS).flatten) :: [row b45 56 [lv, wv, .int .i64 held, .bool false]] :: YB :: XF :: XP :: (((qs.drop 0).map (roomS 5)).flatten) :: []) w51 := Hp.nil hA60
        have hA62 : Hp w0 (([] : Seg) :: (((qs.take 0).map flS).flatten) :: [row b45 56 [lv, wv, .int .i64 held, .bool false]] :: YB :: XF :: XP :: (((qs.drop 0).map (roomS 5)).flatten) :: []) w51 := Hp.nil hA61
        have hA63 : Hp w0 (([] : Seg) :: ([] : Seg) :: (((qs.take 0).map flS).flatten) :: [row b45 56 [lv, wv, .int .i64 held, .bool false]] :: YB :: XF :: XP :: (((qs.drop 0).map (roomS 5)).flatten) :: []) w51 := Hp.nil hA62
        have hA64 : Hp w0 ([row b45 56 [lv, wv, .int .i64 held, .bool false]] :: YB :: XF :: XP :: (((qs.take 0).map flS).flatten) :: (((qs.drop 0).map (roomS 5)).flatten) :: ([] : Seg) :: ([] : Seg) :: []) w51 := Hp.ord [([] : Seg), ([] : Seg), (((qs.take 0).map flS).flatten), [row b45 56 [lv, wv, .int .i64 held, .bool false]], YB, XF, XP, (((qs.drop 0).map (roomS 5)).flatten)] [] [3, 4, 5, 6, 2, 7, 1, 0] hA63 rfl
        refine vc_loop (G := Nat) (fun i a x => ∃ (us : List Piece) (lsv : Value) (XL : Seg) (ZL : Seg), i ≤ qs.length ∧ us.length = i ∧ us.map (·.2.2) = (TS.take i).map (·.map flip) ∧ (∀ p ∈ us, p.2.2.length ≤ p.2.1 ∧ Rd w0 [ZL] p.1 p.2.2) ∧ Buf 24 1 XL lsv us.length (us.map pieceV) ∧ Fr 216 [(24, .int .i64 (i : Int)), (23, lsv), (0, .int .i64 width), (1, .slice pa ps.length pc), (11, .slice AF qs.length cF), (12, .slice AP qs.length cP), (18, .pointer (some ⟨b45, 0, none⟩))] a ∧ Hp w0 ([row b45 56 [lv, wv, .int .i64 held, .bool false]] :: YB :: XF :: XP :: (((qs.take i).map flS).flatten) :: (((qs.drop i).map (roomS 5)).flatten) :: XL :: ZL :: []) x) (fun i => qs.length - i) 0 (⟨[], _, [], [], Nat.zero_le _, rfl, rfl, (fun p h => pc_nil h), Buf.nil _ _, hF.keep [24, 23, 0, 1, 11, 12, 18] rfl, hA64⟩) ?_
        clear hF
        rintro i a w66 ⟨us, lsv, XL, ZL, hi4, hul, hus, hup, hL, hF, hA65⟩
        apply wp_seq_k; intro K31 hK31
        apply wp_seq_k; intro K32 hK32
        refine wp_region_lit ?_
        refine vc_y hF rfl rfl (by decide) _ (y_move rfl rfl) (fun a hF => ?_)
        refine vc_y hF rfl rfl (by decide) _ (y_move rfl rfl) (fun a hF => ?_)
        refine vc_y hF rfl rfl (by decide) _ (y_lenSl rfl Tryd.underlying29 rfl rfl) (fun a hF => ?_)
        refine vc_y hF rfl rfl (by decide) _ (y_cmp rfl rfl rfl rfl rfl) (fun a hF => ?_)
        refine vc_nil ?_
        refine hK32 _ _ ?_; clear  hK32 K32
        by_cases hltq : i < qs.length
        · refine vc_trueB hF rfl (lss_t (by omega)) ?_
          have hlt : i < ps.length := by omega
          obtain ⟨⟨g, l1⟩, hq⟩ : ∃ q, qs[i]? = some q := ⟨_, List.getElem?_eq_getElem hltq⟩
          have hdr : qs.drop i = (g, l1) :: qs.drop (i + 1) := by
            rw [List.drop_eq_getElem_cons hltq]
            rw [List.getElem?_eq_getElem hltq] at hq
            injection hq with hq
            rw [hq]
          have hl1 : l1.length < 140737488351300 := hql _ (List.mem_of_getElem? hq)
          obtain ⟨_, _, eF, _, hF2⟩ := hF1.rc (w0 := w0) (R := [XF]) (List.mem_cons_self ..)
          injection eF with eF _ _
          subst eF
          obtain ⟨bF, pF, rfl, hcF⟩ := hF2.ne (i := i) (by rw [List.length_map]; exact hltq)
          obtain ⟨⟨A0, c0, l0⟩, hp⟩ : ∃ q, ps[i]? = some q := ⟨_, List.getElem?_eq_getElem hlt⟩
          obtain rfl : l1 = l0 := by
            have h1 := congrArg (fun L => L[i]?) hqs
            simp only [List.getElem?_map, hq, hp, Option.map_some, Option.some.injEq] at h1
            exact h1
          obtain ⟨hc0, hR0⟩ := hP.2 _ (List.mem_of_getElem? hp)
          obtain ⟨b1p, p1p, rfl, hc⟩ := hP.1.ne (i := i) (by rw [List.length_map]; exact hlt)
          obtain ⟨_, _, eP, _, hP2⟩ := hP1.rc (w0 := w0) (R := [XP]) (List.mem_cons_self ..)
          injection eP with eP _ _
          subst eP
          obtain ⟨bP, pP, rfl, hcP⟩ := hP2.ne (i := i) (by rw [List.length_map]; exact hltq)
          have htk : qs.take (i + 1) = qs.take i ++ [(g, l1)] := by rw [List.take_add_one, hq]; rfl
          have hTSi : TS[i]? = some l1 := by rw [← hTq, List.getElem?_map, hq]; rfl
          have hTk : TS.take (i + 1) = TS.take i ++ [l1] := by rw [List.take_add_one, hTSi]; rfl
          have hu2 : us.length < 1000000 := by omega
          have hA67 : Hp w0 ((((qs.drop i).map (roomS 5)).flatten) :: [row b45 56 [lv, wv, .int .i64 held, .bool false]] :: YB :: XF :: XP :: (((qs.take i).map flS).flatten) :: XL :: ZL :: []) w66 := Hp.ord [[row b45 56 [lv, wv, .int .i64 held, .bool false]], YB, XF, XP, (((qs.take i).map flS).flatten), (((qs.drop i).map (roomS 5)).flatten), XL, ZL] [] [5, 0, 1, 2, 3, 4, 6, 7] hA65 rfl
          have hA68 : Hp w0 ([row g 5 (cel cB (l1 ++ List.replicate 80 165))] :: (((qs.drop (i + 1)).map (roomS 5)).flatten) :: [row b45 56 [lv, wv, .int .i64 held, .bool false]] :: YB :: XF :: XP :: (((qs.take i).map flS).flatten) :: XL :: ZL :: []) w66 := hA67.cast (by rw [hdr]; simp [roomS])
          apply wp_skip
          refine hK31 _ _ ?_; clear  hK31 K31
          apply wp_seq_k; intro K33 hK33
          apply wp_block
          apply wp_seq_k; intro K34 hK34
          apply wp_seq_k; intro K35 hK35
          refine wp_region_plan 22 [8,22] [0,1,2,3,4,5,6,7,8,9,10,11,12,13,14,15,16,17,18,19,20,21,22] (fun x => Hq w0 ([row g 5 (cel cB (l1 ++ List.replicate 80 165))] :: (((qs.drop (i + 1)).map (roomS 5)).flatten) :: [row b45 56 [lv, wv, .int .i64 held, .bool false]] :: YB :: XF :: XP :: (((qs.take i).map flS).flatten) :: XL :: ZL :: []) x) (by kernel_rfl) (by kernel_rfl) (Hq.drew (Hp.qp [[row g 5 (cel cB (l1 ++ List.replicate 80 165))], (((qs.drop (i + 1)).map (roomS 5)).flatten), [row b45 56 [lv, wv, .int .i64 held, .bool false]], YB, XF, XP, (((qs.take i).map flS).flatten), XL, ZL] [] [0, 1, 2, 3, 4, 5, 6, 7, 8] hA68)) ?_
          have hA69 := Hl.drew hA68
          refine vp_y hF rfl rfl rfl rfl (by decide) _ (fun x hx => y_move rfl rfl) (fun a hF => ?_)
          refine vp_y hF rfl rfl rfl rfl (by decide) _ (fun x hx => y_move rfl rfl) (fun a hF => ?_)
          refine vp_y hF rfl rfl rfl rfl (by decide) _ (fun x hx => y_ixSl rfl Tryd.underlying29 sz24_lc rfl rfl i rfl hltq (ad2 _ _ _)) (fun a hF => ?_)
          refine vp_y hF rfl rfl rfl rfl (by decide) _ (fun x hx => y_ldC (u := .slice (some ⟨g, 0, none⟩) (l1.length + 80) (l1.length + 80)) rfl (Hq.sub hx (sub1 (List.mem_cons_of_mem _ (List.mem_cons_of_mem _ (List.mem_cons_of_mem _ (List.mem_cons_of_mem _ ((List.mem_cons_self ..)))))))) rfl hcF i (by rw [List.length_map]; exact hltq) rfl (by rw [List.getElem?_map, hq]; rfl) nr24_lc) (fun a hF => ?_)
          refine vp_y hF rfl rfl rfl rfl (by decide) _ (fun x hx => y_move rfl rfl) (fun a hF => ?_)
          refine vp_y hF rfl rfl rfl rfl (by decide) _ (fun x hx => y_move rfl rfl) (fun a hF => ?_)
          refine vp_y hF rfl rfl rfl rfl (by decide) _ (fun x hx => y_ixSl rfl Tryd.underlying29 sz24_lc rfl rfl i rfl hlt (ad2 _ _ _)) (fun a hF => ?_)
          refine vp_y hF rfl rfl rfl rfl (by decide) _ (fun x hx => y_ldC (u := .slice A0 l1.length c0) rfl (Hq.sub hx (List.nil_subset _)) rfl hc i (by rw [List.length_map]; exact hlt) rfl (by rw [List.getElem?_map, hp]; rfl) nr24_lc) (fun a hF => ?_)
          refine vp_l rfl rfl rfl (fun K hK => ws_call hF rfl (by decide) cl22_lc rfl rfl ?_)
          with_reducible refine (cl_intactB w0 _ ([row g 5 (cel cB (l1 ++ List.replicate 80 165))] :: (((qs.drop (i + 1)).map (roomS 5)).flatten) :: [row b45 56 [lv, wv, .int .i64 held, .bool false]] :: YB :: XF :: XP :: (((qs.take i).map flS).flatten) :: XL :: ZL :: []) (some ⟨g, 0, none⟩) A0 l1 (l1.length + 80) c0 (Rc.ofRow (i := 0) (off := 0) rfl (by rw [List.drop_zero, List.take_length])) (hR0.mono (List.nil_subset _)) (Nat.le_refl _) hA69 (by omega) ).mono ?_
          rintro e' w70 ⟨rfl, hA71⟩
          refine ⟨_, rfl, fun a hF => hK _ _ (fun _ => ?_) ?_⟩
          · exact Hp.qp [[row g 5 (cel cB (l1 ++ List.replicate 80 165))], (((qs.drop (i + 1)).map (roomS 5)).flatten), [row b45 56 [lv, wv, .int .i64 held, .bool false]], YB, XF, XP, (((qs.take i).map flS).flatten), XL, ZL] [] [0, 1, 2, 3, 4, 5, 6, 7, 8] hA71
          clear hK K
          replace hA71 : Hp w0 ([row g 5 (cel cB (l1 ++ List.replicate 80 165))] :: (((qs.drop (i + 1)).map (roomS 5)).flatten) :: [row b45 56 [lv, wv, .int .i64 held, .bool false]] :: YB :: XF :: XP :: (((qs.take i).map flS).flatten) :: XL :: ZL :: []) w70 := hA71
          refine vp_y hF rfl rfl rfl rfl (by decide) _ (fun x hx => y_not rfl rfl rfl) (fun a hF => ?_)
          refine vp_y hF rfl rfl rfl rfl (by decide) _ (fun x hx => y_move rfl rfl) (fun a hF => ?_)
          refine vp_yg hF rfl rfl rfl rfl rfl rfl rfl (by decide) _ (fun x hx => y_move rfl rfl) (fun a hF => ?_)
          refine vp_yg hF rfl rfl rfl rfl rfl rfl rfl (by decide) _ (fun x hx => y_move rfl rfl) (fun a hF => ?_)
          refine vp_yg hF rfl rfl rfl rfl rfl rfl rfl (by decide) _ (fun x hx => y_ixSl rfl Tryd.underlying29 sz24_lc rfl rfl i rfl hltq (ad2 _ _ _)) (fun a hF => ?_)
          refine vp_yg hF rfl rfl rfl rfl rfl rfl rfl (by decide) _ (fun x hx => y_ldC (u := .slice (some ⟨g, 0, none⟩) l1.length (l1.length + 80)) rfl (Hq.sub hx (sub1 (List.mem_cons_of_mem _ (List.mem_cons_of_mem _ (List.mem_cons_of_mem _ (List.mem_cons_of_mem _ (List.mem_cons_of_mem _ ((List.mem_cons_self ..))))))))) rfl hcP i (by rw [List.length_map]; exact hltq) rfl (by rw [List.getElem?_map, hq]; rfl) nr24_lc) (fun a hF => ?_)
          refine vp_yg hF rfl rfl rfl rfl rfl rfl rfl (by decide) _ (fun x hx => y_lenSl rfl Tryd.underlying24 rfl rfl) (fun a hF => ?_)
          refine vp_yg hF rfl rfl rfl rfl rfl rfl rfl (by decide) _ (fun x hx => y_move rfl rfl) (fun a hF => ?_)
          refine vp_yg hF rfl rfl rfl rfl rfl rfl rfl (by decide) _ (fun x hx => y_move rfl rfl) (fun a hF => ?_)
          refine vp_yg hF rfl rfl rfl rfl rfl rfl rfl (by decide) _ (fun x hx => y_ixSl rfl Tryd.underlying29 sz24_lc rfl rfl i rfl hlt (ad2 _ _ _)) (fun a hF => ?_)
          refine vp_yg hF rfl rfl rfl rfl rfl rfl rfl (by decide) _ (fun x hx => y_ldC (u := .slice A0 l1.length c0) rfl (Hq.sub hx (List.nil_subset _)) rfl hc i (by rw [List.length_map]; exact hlt) rfl (by rw [List.getElem?_map, hp]; rfl) nr24_lc) (fun a hF => ?_)
          refine vp_yg hF rfl rfl rfl rfl rfl rfl rfl (by decide) _ (fun x hx => y_lenSl rfl Tryd.underlying24 rfl rfl) (fun a hF => ?_)
          refine vp_yg hF rfl rfl rfl rfl rfl rfl rfl (by decide) _ (fun x hx => y_cmp rfl rfl rfl rfl (neq_f (by omega))) (fun a hF => ?_)
          refine vp_ly hF rfl rfl rfl rfl (by decide) _ (y_pick rfl rfl rfl) (fun h => absurd h (by decide)) (fun a hF => ?_)
          refine plan_end ?_
          refine hK35 _ _ ?_; clear  hK35 K35
          refine vc_false hF rfl ?_
          have hA72 : Hp w0 ([row g 5 (dc l1 ++ dc (List.replicate 80 165))] :: (((qs.drop (i + 1)).map (roomS 5)).flatten) :: [row b45 56 [lv, wv, .int .i64 held, .bool false]] :: YB :: XF :: XP :: (((qs.take i).map flS).flatten) :: XL :: ZL :: []) w70 := by rw [← dc_append, cel_dc]; exact hA71
          apply wp_skip
          refine hK34 _ _ ?_; clear  hK34 K34
          refine wp_region_lit ?_
          refine vc_y hF rfl rfl (by decide) _ (y_move rfl rfl) (fun a hF => ?_)
          refine vc_y hF rfl rfl (by decide) _ (y_move rfl rfl) (fun a hF => ?_)
          refine vc_y hF rfl rfl (by decide) _ (y_move rfl rfl) (fun a hF => ?_)
          refine vc_y hF rfl rfl (by decide) _ (y_ixSl rfl Tryd.underlying29 sz24_lc rfl rfl i rfl hltq (ad2 _ _ _)) (fun a hF => ?_)
          refine vc_y hF rfl rfl (by decide) _ (y_ldC (u := .slice (some ⟨g, 0, none⟩) l1.length (l1.length + 80)) rfl (Hq.sub hA72.q (sub1 (List.mem_cons_of_mem _ (List.mem_cons_of_mem _ (List.mem_cons_of_mem _ (List.mem_cons_of_mem _ (List.mem_cons_of_mem _ ((List.mem_cons_self ..))))))))) rfl hcP i (by rw [List.length_map]; exact hltq) rfl (by rw [List.getElem?_map, hq]; rfl) nr24_lc) (fun a hF => ?_)
          refine vc_op rfl (fun K hK => ws_call hF rfl (by decide) cl27_lc rfl rfl ?_)
          with_reducible refine (cs_turnedN w0 _ ((((qs.drop (i + 1)).map (roomS 5)).flatten) :: [row b45 56 [lv, wv, .int .i64 held, .bool false]] :: YB :: XF :: XP :: (((qs.take i).map flS).flatten) :: XL :: ZL :: []) g l1 (l1.length + 80) (by omega) hA72 ).mono ?_
          rintro e' w73 ⟨An, cn, Zn, rfl, hcn, hRn, hA74⟩
          refine ⟨_, rfl, fun a hF => hK _ _ ?_⟩
          clear hK K
          replace hA74 : Hp w0 ([row g 5 (dc (l1.map flip) ++ dc (List.replicate 80 165))] :: Zn :: (((qs.drop (i + 1)).map (roomS 5)).flatten) :: [row b45 56 [lv, wv, .int .i64 held, .bool false]] :: YB :: XF :: XP :: (((qs.take i).map flS).flatten) :: XL :: ZL :: []) w73 := hA74
          refine vc_op rfl (fun K hK => hs_bs1 (u1 := .slice An l1.length cn) hF rfl (by decide) rfl hA74 rfl (cl_bsS _ _ _) (fun b75 w76 a hb75 hF hA77 => hK _ _ ?_))
          clear hK K
          replace hA77 : Hp w0 ([row b75 24 [.slice An l1.length cn]] :: [row g 5 (dc (l1.map flip) ++ dc (List.replicate 80 165))] :: Zn :: (((qs.drop (i + 1)).map (roomS 5)).flatten) :: [row b45 56 [lv, wv, .int .i64 held, .bool false]] :: YB :: XF :: XP :: (((qs.take i).map flS).flatten) :: XL :: ZL :: []) w76 := hA77
          refine vc_op rfl (fun K hK => hs_append hF rfl (by decide) rfl hA77 9 rfl hL Tryd.underlying29 cl_elemT rfl rfl (Rc.srcC (W := [.slice An l1.length cn]) (m := 1) (size := 1) (R := [row b75 24 [.slice An l1.length cn]] :: [row g 5 (dc (l1.map flip) ++ dc (List.replicate 80 165))] :: Zn :: (((qs.drop (i + 1)).map (roomS 5)).flatten) :: [row b45 56 [lv, wv, .int .i64 held, .bool false]] :: YB :: XF :: XP :: (((qs.take i).map flS).flatten) :: XL :: ZL :: []) (Rc.ofRow (i := 0) (off := 0) rfl rfl) hA77.q Tryd.underlying29 (by decide) rfl (by simp [Value.oneCell'])) (cl_grow hu2) (by decide) (fun lsv2 XL2 w78 a hL2 hF hA79 => hK _ _ ?_))
          clear hK K
          replace hA79 : Hp w0 ([row b75 24 [.slice An l1.length cn]] :: [row g 5 (dc (l1.map flip) ++ dc (List.replicate 80 165))] :: Zn :: (((qs.drop (i + 1)).map (roomS 5)).flatten) :: [row b45 56 [lv, wv, .int .i64 held, .bool false]] :: YB :: XF :: XP :: (((qs.take i).map flS).flatten) :: XL2 :: ZL :: []) w78 := hA79
          refine vc_y hF rfl rfl (by decide) _ (y_assign rfl rfl) (fun a hF => ?_)
          refine vc_nil ?_
          refine hK33 _ _ ?_; clear  hK33 K33
          refine wp_region_lit ?_
          refine vc_y hF rfl rfl (by decide) _ (y_move rfl rfl) (fun a hF => ?_)
          refine vc_y hF rfl rfl (by decide) _ (y_add rfl rfl rfl (IntWalk.i64_in _ (by omega))) (fun a hF => ?_)
          refine vc_y hF rfl rfl (by decide) _ (y_assign rfl rfl) (fun a hF => ?_)
          refine vc_nil ?_
          have hA80 : Hp w0 ([row b45 56 [lv, wv, .int .i64 held, .bool false]] :: YB :: XF :: XP :: (((qs.take i).map flS).flatten) :: [row g 5 (dc (l1.map flip) ++ dc (List.replicate 80 165))] :: (((qs.drop (i + 1)).map (roomS 5)).flatten) :: XL2 :: ZL :: Zn :: []) w78 := Hp.sel [[row b75 24 [.slice An l1.length cn]], [row g 5 (dc (l1.map flip) ++ dc (List.replicate 80 165))], Zn, (((qs.drop (i + 1)).map (roomS 5)).flatten), [row b45 56 [lv, wv, .int .i64 held, .bool false]], YB, XF, XP, (((qs.take i).map flS).flatten), XL2, ZL] [] [4, 5, 6, 7, 8, 1, 3, 9, 10, 2] [0] hA79 rfl
          have hA81 : Hp w0 ([row b45 56 [lv, wv, .int .i64 held, .bool false]] :: YB :: XF :: XP :: (((qs.take (i + 1)).map flS).flatten) :: (((qs.drop (i + 1)).map (roomS 5)).flatten) :: XL2 :: (ZL ++ Zn) :: []) w78 := hA80.cast (by rw [htk]; simp [flS])
          have hup2 : ∀ p ∈ us ++ [((An, cn, l1.map flip) : Piece)], p.2.2.length ≤ p.2.1 ∧ Rd w0 [ZL ++ Zn] p.1 p.2.2 := fun p hp => by
            rcases List.mem_append.1 hp with h | h
            · exact ⟨(hup p h).1, (hup p h).2.monoF (fun r hr => by
                rw [List.flatten_cons, List.flatten_nil, List.append_nil] at hr ⊢
                exact List.mem_append_left _ hr)⟩
            · rw [List.mem_singleton] at h
              subst h
              exact ⟨by show (l1.map flip).length ≤ cn; rw [List.length_map]; exact hcn, hRn.monoF (fun r hr => by
                rw [List.flatten_cons, List.flatten_nil, List.append_nil] at hr ⊢
                exact List.mem_append_right _ hr)⟩
          have hL3 : Buf 24 1 XL2 lsv2 (us ++ [((An, cn, l1.map flip) : Piece)]).length ((us ++ [((An, cn, l1.map flip) : Piece)]).map pieceV) := by
            rw [List.length_append, List.map_append]
            have e : [((An, cn, l1.map flip) : Piece)].map pieceV = [.slice An l1.length cn] := by simp [pieceV]
            rw [e]; exact hL2
          exact ⟨i + 1, by omega, us ++ [((An, cn, l1.map flip) : Piece)], lsv2, XL2, (ZL ++ Zn), by omega, (by rw [List.length_append, hul]; rfl), (by rw [List.map_append, hus, hTk, List.map_append]; rfl), hup2, hL3, hF.keep [24, 23, 0, 1, 11, 12, 18] rfl, hA81⟩
        · refine vc_falseB hF rfl (lss_f (by omega)) ?_
          have hie4 : i = qs.length := by omega
          have hTl : TS.length = qs.length := by rw [← hTq, List.length_map]
          rw [hie4, ← hTl, List.take_length] at hus
          rw [hie4] at hul
          obtain ⟨AL, cL, rfl, _, hRL⟩ := hL.rc (w0 := w0) (R := [XL]) (List.mem_cons_self ..)
          have hPL : PcS w0 [XL, ZL] AL us := ⟨hRL.mono (sub1 (List.mem_cons_self ..)), fun p hp => ⟨(hup p hp).1, (hup p hp).2.mono (sub1 (List.mem_cons_of_mem _ (List.mem_cons_self ..)))⟩⟩
          have hul2 : ∀ p ∈ us, p.2.2.length < 140737488354000 := fun p hp => by
            have h1 : p.2.2 ∈ TS.map (·.map flip) := by rw [← hus]; exact List.mem_map_of_mem hp
            obtain ⟨t, ht, e⟩ := List.mem_map.1 h1
            rw [← hTq] at ht
            obtain ⟨q, hq, e2⟩ := List.mem_map.1 ht
            have h2 := hql q hq
            have e3 : p.2.2.length = q.2.length := by rw [← e, List.length_map, ← e2]
            omega
          have hA82 : Hp w0 ([row b45 56 [lv, wv, .int .i64 held, .bool false]] :: YB :: XF :: XP :: ((qs.map flS).flatten) :: (((qs.drop qs.length).map (roomS 5)).flatten) :: XL :: ZL :: []) w66 := by
            have h := hA65
            rw [hie4, List.take_length] at h
            exact h
          apply wp_exit
          refine hK29 _ _ ?_; clear hK31 K31 hK29 K29
          apply wp_seq_k; intro K36 hK36
          refine wp_region_lit ?_
          refine vc_y hF rfl rfl (by decide) _ (y_move rfl rfl) (fun a hF => ?_)
          refine vc_y hF rfl rfl (by decide) _ (y_move rfl rfl) (fun a hF => ?_)
          refine vc_op rfl (fun K hK => ws_call hF rfl (by decide) cl29_lc rfl rfl ?_)
          with_reducible refine (cs_rclash w0 _ [XL, ZL] _ (sub2 (List.mem_cons_of_mem _ (List.mem_cons_of_mem _ (List.mem_cons_of_mem _ (List.mem_cons_of_mem _ (List.mem_cons_of_mem _ (List.mem_cons_of_mem _ ((List.mem_cons_self ..)))))))) (List.mem_cons_of_mem _ (List.mem_cons_of_mem _ (List.mem_cons_of_mem _ (List.mem_cons_of_mem _ (List.mem_cons_of_mem _ (List.mem_cons_of_mem _ (List.mem_cons_of_mem _ ((List.mem_cons_self ..)))))))))) width AL us cL _ rfl hPL hul2 (by omega) hA82 ).mono ?_
          rintro e' w83 ⟨X3, x3c, X4, x4c, b3, t3, t4, rfl, hcr3, hX3, hX4, hA84⟩
          refine ⟨_, rfl, fun a hF => hK _ _ ?_⟩
          clear hK K
          replace hA84 : Hp w0 ([row b45 56 [lv, wv, .int .i64 held, .bool false]] :: YB :: XF :: XP :: ((qs.map flS).flatten) :: (((qs.drop qs.length).map (roomS 5)).flatten) :: XL :: ZL :: []) w83 := hA84
          rw [hus] at hcr3
          refine vc_y hF rfl rfl (by decide) _ (y_move rfl rfl) (fun a hF => ?_)
          refine vc_y hF rfl rfl (by decide) _ (y_extract (v := .slice X3 t3.length x3c) rfl rfl rfl) (fun a hF => ?_)
          refine vc_y hF rfl rfl (by decide) _ (y_extract (v := .slice X4 t4.length x4c) rfl rfl rfl) (fun a hF => ?_)
          refine vc_y hF rfl rfl (by decide) _ (y_extract (v := .bool b3) rfl rfl rfl) (fun a hF => ?_)
          refine vc_y hF rfl rfl (by decide) _ (y_assign rfl rfl) (fun a hF => ?_)
          refine vc_y hF rfl rfl (by decide) _ (y_assign rfl rfl) (fun a hF => ?_)
          refine vc_y hF rfl rfl (by decide) _ (y_assign rfl rfl) (fun a hF => ?_)
          refine vc_nil ?_
          refine hK36 _ _ ?_; clear  hK36 K36
          apply wp_seq_k; intro K37 hK37
          refine wp_region_lit ?_
          refine vc_y hF rfl rfl (by decide) _ (y_move rfl rfl) (fun a hF => ?_)
          refine vc_y hF rfl rfl (by decide) _ (y_move rfl rfl) (fun a hF => ?_)
          have hPf : PcS w0 ([row b45 56 [lv, wv, .int .i64 held, .bool false]] :: YB :: XF :: XP :: ((qs.map flS).flatten) :: (((qs.drop qs.length).map (roomS 5)).flatten) :: XL :: ZL :: []) AP (qs.map pcFl) := by
            obtain ⟨_, _, e1, _, h1⟩ := hP1.rc (w0 := w0) (R := ([row b45 56 [lv, wv, .int .i64 held, .bool false]] :: YB :: XF :: XP :: ((qs.map flS).flatten) :: (((qs.drop qs.length).map (roomS 5)).flatten) :: XL :: ZL :: [])) (List.mem_cons_of_mem _ (List.mem_cons_of_mem _ (List.mem_cons_of_mem _ ((List.mem_cons_self ..)))))
            injection e1 with e1 _ _
            subst e1
            exact pcs_fl h1 (List.mem_cons_of_mem _ (List.mem_cons_of_mem _ (List.mem_cons_of_mem _ (List.mem_cons_of_mem _ ((List.mem_cons_self ..))))))
          refine vc_op rfl (fun K hK => ws_call hF rfl (by decide) cl28_lc rfl rfl ?_)
          with_reducible refine (cs_clash w0 _ _ width AP (qs.map pcFl) cP _ (by rw [List.length_map]) hT hPf (fun p hp => by obtain ⟨q, hq, rfl⟩ := List.mem_map.1 hp; have := hql q hq; simp only [pcFl, List.length_map]; omega) (by rw [List.length_map]; omega) hA84 ).mono ?_
          rintro e' w85 ⟨v1, v2, b', u1, u2, Z1, Z2, rfl, hcr', hZ1, hZ2, hsz12, hA86⟩
          refine ⟨_, rfl, fun a hF => hK _ _ ?_⟩
          clear hK K
          replace hA86 : Hp w0 (Z2 :: Z1 :: [row b45 56 [lv, wv, .int .i64 held, .bool false]] :: YB :: XF :: XP :: ((qs.map flS).flatten) :: (((qs.drop qs.length).map (roomS 5)).flatten) :: XL :: ZL :: []) w85 := hA86
          rw [pcFl_tx, hTq] at hcr'
          obtain ⟨eb, e1, e2⟩ := ClRes.one hcr' hcr3
          rw [eb] at hF
          rw [e1] at hZ1 hsz12
          rw [e2] at hZ2 hsz12
          obtain ⟨_, A3, c3, rfl, _, hR3⟩ := hZ1.rd (w0 := w0) (R := [Z1]) (List.mem_cons_self ..)
          obtain ⟨_, A4, c4, rfl, _, hR4⟩ := hZ2.rd (w0 := w0) (R := [Z2]) (List.mem_cons_self ..)
          refine vc_y hF rfl rfl (by decide) _ (y_move rfl rfl) (fun a hF => ?_)
          refine vc_y hF rfl rfl (by decide) _ (y_extract (v := .slice A3 t3.length c3) rfl rfl rfl) (fun a hF => ?_)
          refine vc_y hF rfl rfl (by decide) _ (y_extract (v := .slice A4 t4.length c4) rfl rfl rfl) (fun a hF => ?_)
          refine vc_y hF rfl rfl (by decide) _ (y_extract (v := .bool b3) rfl rfl rfl) (fun a hF => ?_)
          refine vc_y hF rfl rfl (by decide) _ (y_assign rfl rfl) (fun a hF => ?_)
          refine vc_y hF rfl rfl (by decide) _ (y_assign rfl rfl) (fun a hF => ?_)
          refine vc_y hF rfl rfl (by decide) _ (y_assign rfl rfl) (fun a hF => ?_)
          refine vc_nil ?_
          refine hK37 _ _ ?_; clear  hK37 K37
          apply wp_seq_k; intro K38 hK38
          apply wp_seq_k; intro K39 hK39
          refine wp_region_lit ?_
          refine vc_y hF rfl rfl (by decide) _ (y_move rfl rfl) (fun a hF => ?_)
          refine vc_y hF rfl rfl (by decide) _ (y_move rfl rfl) (fun a hF => ?_)
          refine vc_y hF rfl rfl (by decide) _ (y_neBool rfl Tryd.underlying4 rfl rfl) (fun a hF => ?_)
          refine vc_y hF rfl rfl (by decide) _ (y_move rfl rfl) (fun a hF => ?_)
          refine vc_yg hF rfl rfl rfl rfl rfl (by decide) _ (y_move rfl rfl) (fun a hF => ?_)
          refine vc_yg hF rfl rfl rfl rfl rfl (by decide) _ (y_convStr (l := t3) rfl Tryd.underlying24 Tryd.underlying5 Tryd.underlying9 rfl rfl (hR3.bts (Hq.sub hA86.q (sub1 (List.mem_cons_of_mem _ ((List.mem_cons_self ..))))))) (fun a hF => ?_)
          refine vc_yg hF rfl rfl rfl rfl rfl (by decide) _ (y_move rfl rfl) (fun a hF => ?_)
          refine vc_yg hF rfl rfl rfl rfl rfl (by decide) _ (y_convStr (l := t3) rfl Tryd.underlying24 Tryd.underlying5 Tryd.underlying9 rfl rfl ((hX3.mono (sub2 (List.mem_cons_of_mem _ (List.mem_cons_of_mem _ (List.mem_cons_of_mem _ (List.mem_cons_of_mem _ (List.mem_cons_of_mem _ (List.mem_cons_of_mem _ (List.mem_cons_of_mem _ (List.mem_cons_of_mem _ ((List.mem_cons_self ..)))))))))) (List.mem_cons_of_mem _ (List.mem_cons_of_mem _ (List.mem_cons_of_mem _ (List.mem_cons_of_mem _ (List.mem_cons_of_mem _ (List.mem_cons_of_mem _ (List.mem_cons_of_mem _ (List.mem_cons_of_mem _ (List.mem_cons_of_mem _ ((List.mem_cons_self ..))))))))))))).bts hA86.q)) (fun a hF => ?_)
          refine vc_yg hF rfl rfl rfl rfl rfl (by decide) _ (y_cmpS rfl rfl rfl rfl (strB_neq_f _)) (fun a hF => ?_)
          refine vc_y hF rfl rfl (by decide) _ (y_pick rfl rfl rfl) (fun a hF => ?_)
          refine vc_y hF rfl rfl (by decide) _ (y_move rfl rfl) (fun a hF => ?_)
          refine vc_yg hF rfl rfl rfl rfl rfl (by decide) _ (y_move rfl rfl) (fun a hF => ?_)
          refine vc_yg hF rfl rfl rfl rfl rfl (by decide) _ (y_convStr (l := t4) rfl Tryd.underlying24 Tryd.underlying5 Tryd.underlying9 rfl rfl (hR4.bts (Hq.sub hA86.q (sub1 ((List.mem_cons_self ..)))))) (fun a hF => ?_)
          refine vc_yg hF rfl rfl rfl rfl rfl (by decide) _ (y_move rfl rfl) (fun a hF => ?_)
          refine vc_yg hF rfl rfl rfl rfl rfl (by decide) _ (y_convStr (l := t4) rfl Tryd.underlying24 Tryd.underlying5 Tryd.underlying9 rfl rfl ((hX4.mono (sub2 (List.mem_cons_of_mem _ (List.mem_cons_of_mem _ (List.mem_cons_of_mem _ (List.mem_cons_of_mem _ (List.mem_cons_of_mem _ (List.mem_cons_of_mem _ (List.mem_cons_of_mem _ (List.mem_cons_of_mem _ ((List.mem_cons_self ..)))))))))) (List.mem_cons_of_mem _ (List.mem_cons_of_mem _ (List.mem_cons_of_mem _ (List.mem_cons_of_mem _ (List.mem_cons_of_mem _ (List.mem_cons_of_mem _ (List.mem_cons_of_mem _ (List.mem_cons_of_mem _ (List.mem_cons_of_mem _ ((List.mem_cons_self ..))))))))))))).bts hA86.q)) (fun a hF => ?_)
          refine vc_yg hF rfl rfl rfl rfl rfl (by decide) _ (y_cmpS rfl rfl rfl rfl (strB_neq_f _)) (fun a hF => ?_)
          refine vc_y hF rfl rfl (by decide) _ (y_pick rfl rfl rfl) (fun a hF => ?_)
          refine vc_nil ?_
          refine hK39 _ _ ?_; clear  hK39 K39
          refine vc_false hF rfl ?_
          apply wp_skip
          refine hK38 _ _ ?_; clear  hK38 K38
          apply wp_seq_k; intro K40 hK40
          apply wp_seq_k; intro K41 hK41
          refine wp_region_lit ?_
          refine vc_y hF rfl rfl (by decide) _ (y_assign rfl rfl) (fun a hF => ?_)
          refine vc_nil ?_
          refine hK41 _ _ ?_; clear  hK41 K41
          apply wp_block
          have hA87 : Hp w0 ([row b45 56 [lv, wv, .int .i64 held, .bool false]] :: YB :: XF :: ((qs.map flS).flatten) :: []) w85 := Hp.sel [Z2, Z1, [row b45 56 [lv, wv, .int .i64 held, .bool false]], YB, XF, XP, ((qs.map flS).flatten), (((qs.drop qs.length).map (roomS 5)).flatten), XL, ZL] [] [2, 3, 4, 6] [0, 1, 5, 7, 8, 9] hA86 rfl
          have hA88 : Hp w0 ([row b45 56 [lv, wv, .int .i64 held, .bool false]] :: YB :: XF :: (((qs.drop 0).map flS).flatten) :: []) w85 := hA87
          refine vc_loop (G := Nat) (fun i a x => ∃ (ks5 : List (KeptX UInt8)) (lv5 : Value) (wv5 : Value) (held5 : Int) (YB5 : Seg), i ≤ qs.length ∧ BookV cB 24 5 1 ks5 lv5 wv5 YB5 ∧ Fr 216 [(25, .int .i64 (i : Int)), (11, .slice AF qs.length cF), (18, .pointer (some ⟨b45, 0, none⟩))] a ∧ Hp w0 ([row b45 56 [lv5, wv5, .int .i64 held5, .bool false]] :: YB5 :: XF :: (((qs.drop i).map flS).flatten) :: []) x) (fun i => qs.length - i) 0 (⟨_, _, _, _, _, Nat.zero_le _, hB, hF.keep [25, 11, 18] rfl, hA88⟩) ?_
          clear hF
          rintro i a w90 ⟨ks5, lv5, wv5, held5, YB5, hi5, hB5, hF, hA89⟩
          apply wp_seq_k; intro K42 hK42
          apply wp_seq_k; intro K43 hK43
          refine wp_region_lit ?_
          refine vc_y hF rfl rfl (by decide) _ (y_move rfl rfl) (fun a hF => ?_)
          refine vc_y hF rfl rfl (by decide) _ (y_move rfl rfl) (fun a hF => ?_)
          refine vc_y hF rfl rfl (by decide) _ (y_lenSl rfl Tryd.underlying29 rfl rfl) (fun a hF => ?_)
          refine vc_y hF rfl rfl (by decide) _ (y_cmp rfl rfl rfl rfl rfl) (fun a hF => ?_)
          refine vc_nil ?_
          refine hK43 _ _ ?_; clear  hK43 K43
          by_cases hltq : i < qs.length
          · refine vc_trueB hF rfl (lss_t (by omega)) ?_
            obtain ⟨⟨g, l1⟩, hq⟩ : ∃ q, qs[i]? = some q := ⟨_, List.getElem?_eq_getElem hltq⟩
            have hdr : qs.drop i = (g, l1) :: qs.drop (i + 1) := by
              rw [List.drop_eq_getElem_cons hltq]
              rw [List.getElem?_eq_getElem hltq] at hq
              injection hq with hq
              rw [hq]
            have hl1 : l1.length < 140737488351300 := hql _ (List.mem_of_getElem? hq)
            obtain ⟨_, _, eF, _, hF2⟩ := hF1.rc (w0 := w0) (R := [XF]) (List.mem_cons_self ..)
            injection eF with eF _ _
            subst eF
            obtain ⟨bF, pF, rfl, hcF⟩ := hF2.ne (i := i) (by rw [List.length_map]; exact hltq)
            have hA91 : Hp w0 ((((qs.drop i).map flS).flatten) :: [row b45 56 [lv5, wv5, .int .i64 held5, .bool false]] :: YB5 :: XF :: []) w90 := Hp.ord [[row b45 56 [lv5, wv5, .int .i64 held5, .bool false]], YB5, XF, (((qs.drop i).map flS).flatten)] [] [3, 0, 1, 2] hA89 rfl
            have hA92 : Hp w0 ([row g 5 (dc (l1.map flip) ++ dc (List.replicate 80 165))] :: (((qs.drop (i + 1)).map flS).flatten) :: [row b45 56 [lv5, wv5, .int .i64 held5, .bool false]] :: YB5 :: XF :: []) w90 := hA91.cast (by rw [hdr]; simp [flS])
            have hA93 : Hp w0 ([row g 5 (cel cB (l1.map flip ++ List.replicate 80 165))] :: (((qs.drop (i + 1)).map flS).flatten) :: [row b45 56 [lv5, wv5, .int .i64 held5, .bool false]] :: YB5 :: XF :: []) w90 := by rw [← cel_dc, dc_append]; exact hA92
            have hLl : (l1.map flip ++ List.replicate 80 (165 : UInt8)).length = l1.length + 80 := by rw [List.length_append, List.length_map, List.length_replicate]
            have hXk : Buf 5 1 [row g 5 (cel cB (l1.map flip ++ List.replicate 80 165))] (.slice (some ⟨g, 0, none⟩) (l1.length + 80) (l1.length + 80)) (l1.map flip ++ List.replicate 80 (165 : UInt8)).length (cel cB (l1.map flip ++ List.replicate 80 165)) := by
              rw [hLl]
              exact Buf.full (by rw [cel_len (sz := 1) (fun x _ => rfl), hLl]) (by omega)
            apply wp_skip
            refine hK42 _ _ ?_; clear  hK42 K42
            apply wp_seq_k; intro K44 hK44
            apply wp_block
            refine wp_region_lit ?_
            refine vc_y hF rfl rfl (by decide) _ (y_move rfl rfl) (fun a hF => ?_)
            refine vc_y hF rfl rfl (by decide) _ (y_move rfl rfl) (fun a hF => ?_)
            refine vc_y hF rfl rfl (by decide) _ (y_move rfl rfl) (fun a hF => ?_)
            refine vc_y hF rfl rfl (by decide) _ (y_ixSl rfl Tryd.underlying29 sz24_lc rfl rfl i rfl hltq (ad2 _ _ _)) (fun a hF => ?_)
            refine vc_y hF rfl rfl (by decide) _ (y_ldC (u := .slice (some ⟨g, 0, none⟩) (l1.length + 80) (l1.length + 80)) rfl (Hq.sub hA93.q (sub1 (List.mem_cons_of_mem _ (List.mem_cons_of_mem _ (List.mem_cons_of_mem _ (List.mem_cons_of_mem _ ((List.mem_cons_self ..)))))))) rfl hcF i (by rw [List.length_map]; exact hltq) rfl (by rw [List.getElem?_map, hq]; rfl) nr24_lc) (fun a hF => ?_)
            have hA94 : Hp w0 ([row g 5 (cel cB (l1.map flip ++ List.replicate 80 165))] :: [row b45 56 [lv5, wv5, .int .i64 held5, .bool false]] :: YB5 :: (((qs.drop (i + 1)).map flS).flatten) :: XF :: []) w90 := Hp.ord [[row g 5 (cel cB (l1.map flip ++ List.replicate 80 165))], (((qs.drop (i + 1)).map flS).flatten), [row b45 56 [lv5, wv5, .int .i64 held5, .bool false]], YB5, XF] [] [0, 2, 3, 1, 4] hA93 rfl
            refine vc_op rfl (fun K hK => ws_call hF rfl (by decide) cl30_lc rfl rfl ?_)
            with_reducible refine (kb_keep_byte w0 _ _ b45 ks5 YB5 _ _ (l1.map flip ++ List.replicate 80 165) hB5 hXk (fun _ _ => rfl) (by rw [hLl]; omega) (cl_keepB (by rw [hLl]; omega)) hA94 ).mono ?_
            rintro e' w95 ⟨ks6, lv6, wv6, held6, YB6, rfl, hB6, _, hA96⟩
            refine ⟨_, rfl, fun a hF => hK _ _ ?_⟩
            clear hK K
            replace hA96 : Hp w0 ([row b45 56 [lv6, wv6, .int .i64 held6, .bool false]] :: YB6 :: (((qs.drop (i + 1)).map flS).flatten) :: XF :: []) w95 := hA96
            refine vc_nil ?_
            refine hK44 _ _ ?_; clear  hK44 K44
            refine wp_region_lit ?_
            refine vc_y hF rfl rfl (by decide) _ (y_move rfl rfl) (fun a hF => ?_)
            refine vc_y hF rfl rfl (by decide) _ (y_add rfl rfl rfl (IntWalk.i64_in _ (by omega))) (fun a hF => ?_)
            refine vc_y hF rfl rfl (by decide) _ (y_assign rfl rfl) (fun a hF => ?_)
            refine vc_nil ?_
            have hA97 : Hp w0 ([row b45 56 [lv6, wv6, .int .i64 held6, .bool false]] :: YB6 :: XF :: (((qs.drop (i + 1)).map flS).flatten) :: []) w95 := Hp.ord [[row b45 56 [lv6, wv6, .int .i64 held6, .bool false]], YB6, (((qs.drop (i + 1)).map flS).flatten), XF] [] [0, 1, 3, 2] hA96 rfl
            exact ⟨i + 1, by omega, ks6, lv6, wv6, held6, YB6, by omega, hB6, hF.keep [25, 11, 18] rfl, hA97⟩
          · refine vc_falseB hF rfl (lss_f (by omega)) ?_
            apply wp_exit
            refine hK40 _ _ ?_; clear hK42 K42 hK40 K40
            apply wp_seq_k; intro K45 hK45
            refine wp_region_lit ?_
            refine vc_y hF rfl rfl (by decide) _ (y_move rfl rfl) (fun a hF => ?_)
            refine vc_op rfl (fun K hK => ws_call hF rfl (by decide) cl31_lc rfl rfl ?_)
            with_reducible refine (kb_apart_byte w0 _ (XF :: (((qs.drop i).map flS).flatten) :: []) b45 32 ks5 YB5 kb_mb (fun _ _ => rfl) cl32_lc (kb_mark_byte w0) hB5 hA89 ).mono ?_
            rintro e' w98 ⟨rfl, hA99⟩
            refine ⟨_, rfl, fun a hF => hK _ _ ?_⟩
            clear hK K
            replace hA99 : Hp w0 ([row b45 56 [.slice none 0 0, .slice none 0 0, .int .i64 0, .bool false]] :: XF :: (((qs.drop i).map flS).flatten) :: []) w98 := hA99
            refine vc_y hF rfl rfl (by decide) _ (y_assign rfl rfl) (fun a hF => ?_)
            refine vc_nil ?_
            refine hK45 _ _ ?_; clear  hK45 K45
            apply wp_ret
            refine vc_ret1 hF Tryd.results7 rfl ?_
            exact ⟨rfl, hA99.at0⟩
end Go.Proofs.YtppmhlkonemebaaDoor
