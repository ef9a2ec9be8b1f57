/- Clash, the reference's. -/
import Derived.Test.YtppmhlkonemebaaDoorTabR
namespace Go.Proofs.YtppmhlkonemebaaDoor
open Go.RowKit Go.Dk

theorem t7_elem : elemInfo Tryd.prog 36 32 32 := elemInfo_of (z := .agg (dc (List.replicate 32 0)).toArray) (by kernel_rfl) (by kernel_rfl)
theorem t7_build0 (f : Nat → UInt8) (w : World) : (Instr.buildSlice 97 1 #[(0, .agg (dc ((List.range 32).map f)).toArray)]).run Tryd.prog w = .ok (.slice (some ⟨w.heap.size, 0, none⟩) 1 1) (w.alloc (.cells (dc ((List.range 32).map f)).toArray 36)) := by kernel_rfl
theorem t7_build {D : List UInt8} (h : D.length = 32) (w : World) : (Instr.buildSlice 97 1 #[(0, .agg (dc D).toArray)]).run Tryd.prog w = .ok (.slice (some ⟨w.heap.size, 0, none⟩) 1 1) (w.alloc (.cells (dc D).toArray 36)) := by
  have h1 := t7_build0 (bAt D) w
  rw [list32 h] at h1
  exact h1
theorem ws_bsd {n : Nat} {F : List (Nat × Value)} {a : Act} {o : Oper} {w0 w : World} {L : List Row} {t e : TypeId} {x : Operand} {d : Nat} {D : List UInt8} {K : Act → World → Prop} {Q : Exit → Act → World → Prop} (hF : Fr n F a) (hd : o.dst = some d) (hlt : d < n) (ho : o.op = .buildSlice t 1 #[(0, x)]) (hA : At w0 L w) (hx : ev F x = some (.agg (dc D).toArray))
    (hr : ∀ w : World, (Instr.buildSlice t 1 #[(0, .agg (dc D).toArray)]).run Tryd.prog w = .ok (.slice (some ⟨w.heap.size, 0, none⟩) 1 1) (w.alloc (.cells (dc D).toArray e)))
    (h : ∀ g w' a', w.heap.size ≤ g → Fr n ((d, .slice (some ⟨g, 0, none⟩) 1 1) :: F) a' → At w0 ((g, e, dc D) :: L) w' → K a' w') : o.wp Tryd.prog a w K Q :=
  wp_bs ho hA (by simpa [hF.ev hx] using hr w) (fun g w' hg hw => by rw [hd]; exact h g w' _ hg (hF.put hlt) (by simpa using hw))
/-- digests, one behind the other -/
def digs (f : Nat → List UInt8) (n : Nat) : List Value := (List.range n).flatMap fun i => dc (f i)
theorem digs_succ (f : Nat → List UInt8) (n : Nat) : digs f (n + 1) = digs f n ++ dc (f n) := by simp [digs, List.range_succ]
theorem digs_length {f : Nat → List UInt8} (hf : ∀ i, (f i).length = 32) : ∀ n, (digs f n).length = n * 32
  | 0 => rfl
  | n + 1 => by rw [digs_succ, List.length_append, digs_length hf n, dc_length, hf]; omega
theorem digs_at {f : Nat → List UInt8} (hf : ∀ i, (f i).length = 32) (Z : List Value) : ∀ n i, i < n → ((digs f n ++ Z).drop (i * 32)).take 32 = dc (f i)
  | 0, i, h => absurd h (Nat.not_lt_zero i)
  | n + 1, i, h => by
    rw [digs_succ, List.append_assoc]
    rcases Nat.lt_or_ge i n with h1 | h1
    · exact digs_at hf _ n i h1
    · obtain rfl : i = n := by omega
      rw [List.drop_left' (digs_length hf _), List.take_append_of_le_length (by rw [dc_length, hf]; exact Nat.le_refl _), List.take_of_length_le (by rw [dc_length, hf]; exact Nat.le_refl _)]
theorem own_row {w0 : World} {e : TypeId} {s : Nat} {X : List Row} {v : Value} {n : Nat} {W : List Value} (h : Own w0 e s X v n W) (hn : 0 < n) : ∃ g c Z, v = .slice (some ⟨g, 0, none⟩) n c ∧ n ≤ c ∧ w0.heap.size ≤ g ∧ X = [(g, e, W ++ Z)] := by
  rcases h.2 with ⟨_, h2, _⟩ | ⟨g, c, Z, h1, h2, h3, _, h5⟩
  · omega
  · exact ⟨g, c, Z, h1, h2, h3, h5⟩
theorem t7_src {w0 w : World} {L : List Row} {g k : Nat} {t : TypeId} {D : List UInt8} (hD : D.length = 32) (hA : At w0 L w) (hk : L[k]? = some (g, t, dc D)) : Src Tryd.prog 32 97 (.slice (some ⟨g, 0, none⟩) 1 1) 1 (dc D) w :=
  Src.ofSlice w Tryd.underlying97 ⟨g, 0, none⟩ 1 1 (dc D) (by rw [dc_length, hD]) (fun j u hj => by rw [Addr.add_mid, hA.cell hk, Nat.zero_add]; exact hj) (dc_one D)
theorem noClash_step {dig tx : Nat → List UInt8} {j : Nat} (h : NoClash dig tx j) (h2 : ∀ a, a < j → dig a = dig j → tx a = tx j) : NoClash dig tx (j + 1) := by
  intro a b ha hb hab
  rcases Nat.lt_or_ge a j with h3 | h3
  · rcases Nat.lt_or_ge b j with h4 | h4
    · exact h a b h3 h4 hab
    · obtain rfl : b = j := by omega
      exact h2 a h3 hab
  · obtain rfl : a = j := by omega
    rcases Nat.lt_or_ge b a with h4 | h4
    · exact (h2 b h4 hab.symm).symm
    · obtain rfl : b = a := by omega
      rfl
theorem clashAt_of {dig tx : Nat → List UInt8} {i j : Nat} (h : NoClash dig tx j) (hij : i < j) (h2 : ∀ a, a < i → dig a = dig j → tx a = tx j) (hd : dig i = dig j) (hx : tx i ≠ tx j) : ClashAt dig tx i j :=
  ⟨hij, hd, hx, h, fun a ha he => hx ((h i a hij (by omega) (hd.trans he.symm)).trans (h2 a ha he))⟩
theorem t7_ad (b j : Nat) : (⟨b, 0 + j * 32, none⟩ : Addr) = ⟨b, j * 32, none⟩ := by simp
theorem rw36_t7 : isRow Tryd.prog 36 32 = true := by kernel_rfl
theorem sz24_t7 : (Tryd.prog.info? 24).map (·.size) = some 1 := by kernel_rfl
theorem cl19_t7 : CallsTo Tryd.prog 19 := ⟨_, Tryd.func19, by kernel_rfl, by kernel_rfl⟩
theorem cl68_t7 : CallsTo Tryd.prog 68 := ⟨_, Tryd.func68, by kernel_rfl, by kernel_rfl⟩

set_option maxRecDepth 100000 in
set_option maxHeartbeats 1000000 in
theorem rclash_any (w : World) (width : Int) (pa : Option Addr) (ps : List Part) (c n : Nat) (hn : n = ps.length) (hP : Pieces w pa ps) (hl : ∀ A c l, (A, c, l) ∈ ps → l.length < 140737488354000) (hnb : n ≤ 2000) :
    Calls Tryd.prog 29 #[.int .i64 width, .slice pa n c] w fun e w' => (NoClash (digOf width ps) (txOf ps) ps.length ∧ e = .returned (.tuple #[.slice none 0 0, .slice none 0 0, .bool false]) ∧ At w [] w') ∨
      ∃ i j A1 c1 l1 A2 c2 l2, ClashAt (digOf width ps) (txOf ps) i j ∧ j < ps.length ∧ ps[i]? = some (A1, c1, l1) ∧ ps[j]? = some (A2, c2, l2) ∧ e = .returned (.tuple #[.slice A1 l1.length c1, .slice A2 l2.length c2, .bool true]) ∧ At w [] w' := by
  subst hn
  have hA0 := At.refl w
  have hdl := digOf_length width ps
  refine vc_enter Tryd.func29 rfl Tryd.ntmps29 (Nat.le_of_ble_eq_true rfl) (fun a hF => ?_)
  apply wp_seq_k; intro K1 hK1
  refine wp_region_lit ?_
  refine vc_y hF rfl rfl (by decide) _ (y_assign rfl rfl) (fun a hF => ?_)
  refine vc_y hF rfl rfl (by decide) _ (y_assign rfl rfl) (fun a hF => ?_)
  refine vc_y hF rfl rfl (by decide) _ (y_assign rfl rfl) (fun a hF => ?_)
  refine vc_nil ?_
  refine hK1 _ _ ?_; clear  hK1 K1
  apply wp_seq_k; intro K2 hK2
  refine wp_region_lit ?_
  refine vc_y hF rfl rfl (by decide) _ (y_assign rfl rfl) (fun a hF => ?_)
  refine vc_nil ?_
  refine hK2 _ _ ?_; clear  hK2 K2
  apply wp_seq_k; intro K3 hK3
  apply wp_seq_k; intro K4 hK4
  refine wp_region_lit ?_
  refine vc_y hF rfl rfl (by decide) _ (y_assign rfl rfl) (fun a hF => ?_)
  refine vc_nil ?_
  refine hK4 _ _ ?_; clear  hK4 K4
  apply wp_block
  refine vc_loop (G := Nat) (fun j a x => j ≤ ps.length ∧ NoClash (digOf width ps) (txOf ps) j ∧ ∃ (v : Value) (X : List Row), Fr 61 [(8, .int .i64 (j : Int)), (0, .int .i64 width), (1, .slice pa ps.length c), (7, v)] a ∧ Own w 36 32 X v j (digs (digOf width ps) j) ∧ At w X x) (fun j => ps.length - j) 0 ⟨Nat.zero_le _, fun a b ha => absurd ha (Nat.not_lt_zero a), _, [], hF.keep [8, 0, 1, 7] rfl, Own.nil w 36 32, hA0⟩ ?_
  clear hF
  rintro j a wr ⟨hj, hno, v, X, hF, hO, hAr⟩
  by_cases hlt : j < ps.length
  · have hPr := hP.fresh hAr hO.new
    have hne : ps ≠ [] := fun e => by rw [e] at hlt; exact absurd hlt (Nat.not_lt_zero _)
    obtain ⟨b, o, hpe, hbl, hcells⟩ := hPr.1 hne
    subst hpe
    obtain ⟨⟨PA, cA, l⟩, hp⟩ : ∃ q, ps[j]? = some q := ⟨_, List.getElem?_eq_getElem hlt⟩
    have hcell := hcells j PA cA l hp
    obtain ⟨hlc, hBl⟩ := hPr.2 PA cA l (List.mem_of_getElem? hp)
    have hll := hl PA cA l (List.mem_of_getElem? hp)
    have htx := txOf_at hp
    have hD : cutL (sha l) width = digOf width ps j := by rw [digOf, htx]
    apply wp_seq_k; intro K5 hK5
    apply wp_seq_k; intro K6 hK6
    refine wp_region_lit ?_
    refine vc_y hF rfl rfl (by decide) _ (y_move rfl rfl) (fun a hF => ?_)
    refine vc_y hF rfl rfl (by decide) _ (y_move rfl rfl) (fun a hF => ?_)
    refine vc_y hF rfl rfl (by decide) _ (y_lenSl rfl Tryd.underlying29 rfl rfl) (fun a hF => ?_)
    refine vc_y hF rfl rfl (by decide) _ (y_cmp rfl rfl rfl rfl rfl) (fun a hF => ?_)
    refine vc_nil ?_
    refine hK6 _ _ ?_; clear  hK6 K6
    refine vc_trueB hF rfl (lss_t (by omega)) ?_
    apply wp_skip
    refine hK5 _ _ ?_; clear  hK5 K5
    apply wp_seq_k; intro K7 hK7
    apply wp_block
    apply wp_seq_k; intro K8 hK8
    refine wp_region_lit ?_
    refine vc_y hF rfl rfl (by decide) _ (y_move rfl rfl) (fun a hF => ?_)
    refine vc_y hF rfl rfl (by decide) _ (y_move rfl rfl) (fun a hF => ?_)
    refine vc_y hF rfl rfl (by decide) _ (y_move rfl rfl) (fun a hF => ?_)
    refine vc_y hF rfl rfl (by decide) _ (y_ixSl rfl Tryd.underlying29 sz24_t7 rfl rfl j rfl hlt (ad2 _ _ _)) (fun a hF => ?_)
    refine vc_y hF rfl rfl (by decide) _ (y_load1 rfl rfl hcell no24) (fun a hF => ?_)
    refine vc_op rfl (fun K hK => ws_call hF rfl (by decide) cl19_t7 rfl rfl ?_)
    with_reducible refine (refsum_any wr PA l cA _ rfl hBl (by omega)).mono ?_
    rintro e' w2 ⟨rfl, hc2⟩
    refine ⟨_, rfl, fun a hF => hK _ _ ?_⟩; clear hK K
    have hA2 := hAr.then0 hc2
    clear hc2
    refine vc_y hF rfl rfl (by decide) _ (y_move rfl rfl) (fun a hF => ?_)
    refine vc_op rfl (fun K hK => ws_call hF rfl (by decide) cl68_t7 rfl rfl ?_)
    with_reducible refine (rcut_any _ width w2 (sha_length _)).mono ?_
    rintro e' w3 ⟨rfl, hc3⟩
    refine ⟨_, rfl, fun a hF => hK _ _ ?_⟩; clear hK K
    have hA3 := hA2.then0 hc3
    clear hc3
    rw [hD] at hF
    refine vc_op rfl (fun K hK => ws_bsd hF rfl (by decide) rfl hA3 rfl (t7_build (hdl j)) (fun g24 w4 a hg24 hF hA4 => hK _ _ ?_))
    clear hK K
    refine vc_op rfl (fun K hK => ws_own hF rfl (by decide) rfl [(g24, 36, dc (digOf width ps j))] (X := X) hA4 hO Tryd.underlying97 t7_elem rfl rfl (t7_src (hdl j) hA4 (k := 0) rfl) (by omega) (by decide) (fun v5 X5 w5 a hO5 hF hA5 => hK _ _ ?_))
    clear hK K
    rw [← digs_succ] at hO5
    have hA5e : At w X5 w5 := hA5.drop (List.sublist_append_right _ _) (fun r hr hlt => by
      rcases List.mem_append.1 hr with hr | hr
      · simp only [List.mem_cons, List.not_mem_nil, or_false] at hr
        subst hr
        have := hA3.size
        simp only at hlt
        omega
      · exact hr)
    have hn5 := hO5.new
    obtain ⟨g, cg, Zg, rfl, hgc, hgw, rfl⟩ := own_row hO5 (Nat.succ_pos j)
    refine vc_y hF rfl rfl (by decide) _ (y_assign rfl rfl) (fun a hF => ?_)
    refine vc_nil ?_
    refine hK8 _ _ ?_; clear  hK8 K8
    apply wp_seq_k; intro K9 hK9
    refine wp_region_lit ?_
    refine vc_y hF rfl rfl (by decide) _ (y_assign rfl rfl) (fun a hF => ?_)
    refine vc_nil ?_
    refine hK9 _ _ ?_; clear  hK9 K9
    apply wp_block
    refine vc_loop (G := Nat) (fun i a x => i ≤ j ∧ (∀ a, a < i → digOf width ps a = digOf width ps j → txOf ps a = txOf ps j) ∧ Fr 61 [(9, .int .i64 (i : Int)), (8, .int .i64 (j : Int)), (0, .int .i64 width), (1, .slice (some ⟨b, o, none⟩) ps.length c), (7, .slice (some ⟨g, 0, none⟩) (j + 1) cg)] a ∧ At w5 [] x) (fun i => j - i) 0 ⟨Nat.zero_le _, fun a ha => absurd ha (Nat.not_lt_zero a), hF.keep [9, 8, 0, 1, 7] rfl, At.refl w5⟩ ?_
    clear hF
    rintro i a wr ⟨hi, hin, hF, hx5⟩
    have hAw := hA5e.then0 hx5
    by_cases hij : i < j
    · have hP5 := hP.fresh hAw hn5
      obtain ⟨b', o', hpe, _, hcells5⟩ := hP5.1 hne
      cases hpe
      have hcj := hcells5 j PA cA l hp
      have hBj := (hP5.2 PA cA l (List.mem_of_getElem? hp)).2
      have hil : i < ps.length := by omega
      obtain ⟨⟨PB, cB, k⟩, hpi⟩ : ∃ q, ps[i]? = some q := ⟨_, List.getElem?_eq_getElem hil⟩
      have hci := hcells5 i PB cB k hpi
      have hBi := (hP5.2 PB cB k (List.mem_of_getElem? hpi)).2
      have htx2 := txOf_at hpi
      apply wp_seq_k; intro K10 hK10
      apply wp_seq_k; intro K11 hK11
      refine wp_region_lit ?_
      refine vc_y hF rfl rfl (by decide) _ (y_move rfl rfl) (fun a hF => ?_)
      refine vc_y hF rfl rfl (by decide) _ (y_move rfl rfl) (fun a hF => ?_)
      refine vc_y hF rfl rfl (by decide) _ (y_cmp rfl rfl rfl rfl rfl) (fun a hF => ?_)
      refine vc_nil ?_
      refine hK11 _ _ ?_; clear  hK11 K11
      refine vc_trueB hF rfl (lss_t (by omega)) ?_
      apply wp_skip
      refine hK10 _ _ ?_; clear  hK10 K10
      apply wp_seq_k; intro K12 hK12
      apply wp_block
      apply wp_seq_k; intro K13 hK13
      by_cases hdd : digOf width ps i = digOf width ps j
      · refine wp_region_plan 21 [21] [0,1,2,3,4,5,6,7,8,9,10,11,12,13,14,15,16,17,18,19,20,21] (fun x => At w [(g, 36, digs (digOf width ps) (j + 1) ++ Zg)] x ∧ x.cell? ⟨b, o + i, none⟩ = some (.slice PB k.length cB) ∧ x.cell? ⟨b, o + j, none⟩ = some (.slice PA l.length cA) ∧ Bts x PB k ∧ Bts x PA l) (by kernel_rfl) (by kernel_rfl) (⟨hAw.drew, hci, hcj, hBi, hBj⟩) ?_
        refine vp_y hF rfl rfl rfl rfl (by decide) _ (fun x hx => y_move rfl rfl) (fun a hF => ?_)
        refine vp_y hF rfl rfl rfl rfl (by decide) _ (fun x hx => y_move rfl rfl) (fun a hF => ?_)
        refine vp_y hF rfl rfl rfl rfl (by decide) _ (fun x hx => y_ixSl rfl Tryd.underlying97 size36 rfl rfl i rfl (by omega) (t7_ad _ _)) (fun a hF => ?_)
        refine vp_y hF rfl rfl rfl rfl (by decide) _ (fun x hx => y_loadRow rfl hx.1 rfl 0 rfl rw36_t7 (by rw [List.length_append, digs_length hdl]; omega) (new := dc (digOf width ps i)) (digs_at hdl _ (j + 1) i (by omega))) (fun a hF => ?_)
        refine vp_y hF rfl rfl rfl rfl (by decide) _ (fun x hx => y_move rfl rfl) (fun a hF => ?_)
        refine vp_y hF rfl rfl rfl rfl (by decide) _ (fun x hx => y_move rfl rfl) (fun a hF => ?_)
        refine vp_y hF rfl rfl rfl rfl (by decide) _ (fun x hx => y_ixSl rfl Tryd.underlying97 size36 rfl rfl j rfl (by omega) (t7_ad _ _)) (fun a hF => ?_)
        refine vp_y hF rfl rfl rfl rfl (by decide) _ (fun x hx => y_loadRow rfl hx.1 rfl 0 rfl rw36_t7 (by rw [List.length_append, digs_length hdl]; omega) (new := dc (digOf width ps j)) (digs_at hdl _ (j + 1) j (by omega))) (fun a hF => ?_)
        refine vp_y hF rfl rfl rfl rfl (by decide) _ (fun x hx => y_eqB (c := true) rfl Tryd.underlying36 Tryd.underlying5 ow_size5 (by kernel_rfl) rfl rfl (hdl i) (hdl j) (dec_t hdd)) (fun a hF => ?_)
        refine vp_y hF rfl rfl rfl rfl (by decide) _ (fun x hx => y_move rfl rfl) (fun a hF => ?_)
        refine vp_yg hF rfl rfl rfl rfl rfl rfl rfl (by decide) _ (fun x hx => y_move rfl rfl) (fun a hF => ?_)
        refine vp_yg hF rfl rfl rfl rfl rfl rfl rfl (by decide) _ (fun x hx => y_move rfl rfl) (fun a hF => ?_)
        refine vp_yg hF rfl rfl rfl rfl rfl rfl rfl (by decide) _ (fun x hx => y_ixSl rfl Tryd.underlying29 sz24_t7 rfl rfl i rfl hil (ad2 _ _ _)) (fun a hF => ?_)
        refine vp_yg hF rfl rfl rfl rfl rfl rfl rfl (by decide) _ (fun x hx => y_load1 rfl rfl hx.2.1 no24) (fun a hF => ?_)
        refine vp_yg hF rfl rfl rfl rfl rfl rfl rfl (by decide) _ (fun x hx => y_convStr rfl Tryd.underlying24 Tryd.underlying5 Tryd.underlying9 rfl rfl hx.2.2.2.1) (fun a hF => ?_)
        refine vp_yg hF rfl rfl rfl rfl rfl rfl rfl (by decide) _ (fun x hx => y_move rfl rfl) (fun a hF => ?_)
        refine vp_yg hF rfl rfl rfl rfl rfl rfl rfl (by decide) _ (fun x hx => y_move rfl rfl) (fun a hF => ?_)
        refine vp_yg hF rfl rfl rfl rfl rfl rfl rfl (by decide) _ (fun x hx => y_ixSl rfl Tryd.underlying29 sz24_t7 rfl rfl j rfl hlt (ad2 _ _ _)) (fun a hF => ?_)
        refine vp_yg hF rfl rfl rfl rfl rfl rfl rfl (by decide) _ (fun x hx => y_load1 rfl rfl hx.2.2.1 no24) (fun a hF => ?_)
        refine vp_yg hF rfl rfl rfl rfl rfl rfl rfl (by decide) _ (fun x hx => y_convStr rfl Tryd.underlying24 Tryd.underlying5 Tryd.underlying9 rfl rfl hx.2.2.2.2) (fun a hF => ?_)
        refine vp_yg hF rfl rfl rfl rfl rfl rfl rfl (by decide) _ (fun x hx => y_cmpS (c := !(k == l)) rfl rfl rfl rfl rfl) (fun a hF => ?_)
        refine vp_ly hF rfl rfl rfl rfl (by decide) _ (y_pick rfl rfl rfl) (fun h => absurd h (by decide)) (fun a hF => ?_)
        refine plan_end ?_
        refine hK13 _ _ ?_; clear  hK13 K13
        by_cases heq : k = l
        · refine vc_falseB hF rfl (by rw [heq]; simp) ?_
          apply wp_skip
          refine hK12 _ _ ?_; clear  hK12 K12
          refine wp_region_lit ?_
          refine vc_y hF rfl rfl (by decide) _ (y_move rfl rfl) (fun a hF => ?_)
          refine vc_y hF rfl rfl (by decide) _ (y_add rfl rfl rfl (IntWalk.i64_in _ (by omega))) (fun a hF => ?_)
          refine vc_y hF rfl rfl (by decide) _ (y_assign rfl rfl) (fun a hF => ?_)
          refine vc_nil ?_
          exact ⟨i + 1, by omega, by omega, fun a ha he => (by
            rcases Nat.lt_or_ge a i with h1 | h1
            · exact hin a h1 he
            · obtain rfl : a = i := by omega
              rw [htx2, htx, heq]), hF.keep [9, 8, 0, 1, 7] rfl, hx5.drew⟩
        · refine vc_trueB hF rfl (by simp [heq]) ?_
          apply wp_seq_k; intro K14 hK14
          refine wp_region_plan 10 [10] [0,1,2,3,4,5,6,7,8,9,10] (fun x => x.cell? ⟨b, o + i, none⟩ = some (.slice PB k.length cB) ∧ x.cell? ⟨b, o + j, none⟩ = some (.slice PA l.length cA)) (by kernel_rfl) (by kernel_rfl) (⟨hci, hcj⟩) ?_
          refine vp_y hF rfl rfl rfl rfl (by decide) _ (fun x hx => y_move rfl rfl) (fun a hF => ?_)
          refine vp_y hF rfl rfl rfl rfl (by decide) _ (fun x hx => y_move rfl rfl) (fun a hF => ?_)
          refine vp_y hF rfl rfl rfl rfl (by decide) _ (fun x hx => y_ixSl rfl Tryd.underlying29 sz24_t7 rfl rfl i rfl hil (ad2 _ _ _)) (fun a hF => ?_)
          refine vp_y hF rfl rfl rfl rfl (by decide) _ (fun x hx => y_load1 rfl rfl hx.1 no24) (fun a hF => ?_)
          refine vp_y hF rfl rfl rfl rfl (by decide) _ (fun x hx => y_move rfl rfl) (fun a hF => ?_)
          refine vp_y hF rfl rfl rfl rfl (by decide) _ (fun x hx => y_move rfl rfl) (fun a hF => ?_)
          refine vp_y hF rfl rfl rfl rfl (by decide) _ (fun x hx => y_ixSl rfl Tryd.underlying29 sz24_t7 rfl rfl j rfl hlt (ad2 _ _ _)) (fun a hF => ?_)
          refine vp_y hF rfl rfl rfl rfl (by decide) _ (fun x hx => y_load1 rfl rfl hx.2 no24) (fun a hF => ?_)
          refine vp_y hF rfl rfl rfl rfl (by decide) _ (fun x hx => y_assign rfl rfl) (fun a hF => ?_)
          refine vp_y hF rfl rfl rfl rfl (by decide) _ (fun x hx => y_assign rfl rfl) (fun a hF => ?_)
          refine vp_ly hF rfl rfl rfl rfl (by decide) _ (y_assign rfl rfl) (fun h => absurd h (by decide)) (fun a hF => ?_)
          refine plan_end ?_
          refine hK14 _ _ ?_; clear  hK14 K14
          apply wp_ret
          simp only [Exit.then, Exit.inBlock]
          refine vc_ret3 hF Tryd.results29 rfl rfl rfl ?_
          exact .inr ⟨i, j, PB, cB, k, PA, cA, l, clashAt_of hno hij hin hdd (by rw [htx2, htx]; exact heq), hlt, hpi, hp, rfl, (hAw.drew.drew).dropNew (List.nil_sublist _) hn5⟩
      · refine wp_region_plan 21 [21] [0,1,2,3,4,5,6,7,8,9,10,11,12,13,14,15,16,17,18,19,20,21] (fun x => At w [(g, 36, digs (digOf width ps) (j + 1) ++ Zg)] x ∧ x.cell? ⟨b, o + i, none⟩ = some (.slice PB k.length cB) ∧ x.cell? ⟨b, o + j, none⟩ = some (.slice PA l.length cA) ∧ Bts x PB k ∧ Bts x PA l) (by kernel_rfl) (by kernel_rfl) (⟨hAw.drew, hci, hcj, hBi, hBj⟩) ?_
        refine vp_y hF rfl rfl rfl rfl (by decide) _ (fun x hx => y_move rfl rfl) (fun a hF => ?_)
        refine vp_y hF rfl rfl rfl rfl (by decide) _ (fun x hx => y_move rfl rfl) (fun a hF => ?_)
        refine vp_y hF rfl rfl rfl rfl (by decide) _ (fun x hx => y_ixSl rfl Tryd.underlying97 size36 rfl rfl i rfl (by omega) (t7_ad _ _)) (fun a hF => ?_)
        refine vp_y hF rfl rfl rfl rfl (by decide) _ (fun x hx => y_loadRow rfl hx.1 rfl 0 rfl rw36_t7 (by rw [List.length_append, digs_length hdl]; omega) (new := dc (digOf width ps i)) (digs_at hdl _ (j + 1) i (by omega))) (fun a hF => ?_)
        refine vp_y hF rfl rfl rfl rfl (by decide) _ (fun x hx => y_move rfl rfl) (fun a hF => ?_)
        refine vp_y hF rfl rfl rfl rfl (by decide) _ (fun x hx => y_move rfl rfl) (fun a hF => ?_)
        refine vp_y hF rfl rfl rfl rfl (by decide) _ (fun x hx => y_ixSl rfl Tryd.underlying97 size36 rfl rfl j rfl (by omega) (t7_ad _ _)) (fun a hF => ?_)
        refine vp_y hF rfl rfl rfl rfl (by decide) _ (fun x hx => y_loadRow rfl hx.1 rfl 0 rfl rw36_t7 (by rw [List.length_append, digs_length hdl]; omega) (new := dc (digOf width ps j)) (digs_at hdl _ (j + 1) j (by omega))) (fun a hF => ?_)
        refine vp_y hF rfl rfl rfl rfl (by decide) _ (fun x hx => y_eqB (c := false) rfl Tryd.underlying36 Tryd.underlying5 ow_size5 (by kernel_rfl) rfl rfl (hdl i) (hdl j) (dec_f hdd)) (fun a hF => ?_)
        refine vp_y hF rfl rfl rfl rfl (by decide) _ (fun x hx => y_move rfl rfl) (fun a hF => ?_)
        refine vp_skip hF rfl rfl rfl rfl rfl rfl rfl rfl (by decide) (fun a hF => ?_)
        refine vp_skip hF rfl rfl rfl rfl rfl rfl rfl rfl (by decide) (fun a hF => ?_)
        refine vp_skip hF rfl rfl rfl rfl rfl rfl rfl rfl (by decide) (fun a hF => ?_)
        refine vp_skip hF rfl rfl rfl rfl rfl rfl rfl rfl (by decide) (fun a hF => ?_)
        refine vp_skip hF rfl rfl rfl rfl rfl rfl rfl rfl (by decide) (fun a hF => ?_)
        refine vp_skip hF rfl rfl rfl rfl rfl rfl rfl rfl (by decide) (fun a hF => ?_)
        refine vp_skip hF rfl rfl rfl rfl rfl rfl rfl rfl (by decide) (fun a hF => ?_)
        refine vp_skip hF rfl rfl rfl rfl rfl rfl rfl rfl (by decide) (fun a hF => ?_)
        refine vp_skip hF rfl rfl rfl rfl rfl rfl rfl rfl (by decide) (fun a hF => ?_)
        refine vp_skip hF rfl rfl rfl rfl rfl rfl rfl rfl (by decide) (fun a hF => ?_)
        refine vp_skip hF rfl rfl rfl rfl rfl rfl rfl rfl (by decide) (fun a hF => ?_)
        refine vp_ly hF rfl rfl rfl rfl (by decide) _ (y_pick rfl rfl rfl) (fun h => absurd h (by decide)) (fun a hF => ?_)
        refine plan_end ?_
        refine hK13 _ _ ?_; clear  hK13 K13
        refine vc_false hF rfl ?_
        apply wp_skip
        refine hK12 _ _ ?_; clear  hK12 K12
        refine wp_region_lit ?_
        refine vc_y hF rfl rfl (by decide) _ (y_move rfl rfl) (fun a hF => ?_)
        refine vc_y hF rfl rfl (by decide) _ (y_add rfl rfl rfl (IntWalk.i64_in _ (by omega))) (fun a hF => ?_)
        refine vc_y hF rfl rfl (by decide) _ (y_assign rfl rfl) (fun a hF => ?_)
        refine vc_nil ?_
        exact ⟨i + 1, by omega, by omega, fun a ha he => (by
          rcases Nat.lt_or_ge a i with h1 | h1
          · exact hin a h1 he
          · obtain rfl : a = i := by omega
            exact absurd he hdd), hF.keep [9, 8, 0, 1, 7] rfl, hx5.drew⟩
    · obtain rfl : i = j := by omega
      apply wp_seq_k; intro K15 hK15
      apply wp_seq_k; intro K16 hK16
      refine wp_region_lit ?_
      refine vc_y hF rfl rfl (by decide) _ (y_move rfl rfl) (fun a hF => ?_)
      refine vc_y hF rfl rfl (by decide) _ (y_move rfl rfl) (fun a hF => ?_)
      refine vc_y hF rfl rfl (by decide) _ (y_cmp rfl rfl rfl rfl rfl) (fun a hF => ?_)
      refine vc_nil ?_
      refine hK16 _ _ ?_; clear  hK16 K16
      refine vc_falseB hF rfl (lss_f (by omega)) ?_
      apply wp_exit
      refine hK7 _ _ ?_; clear hK15 K15 hK7 K7
      refine wp_region_lit ?_
      refine vc_y hF rfl rfl (by decide) _ (y_move rfl rfl) (fun a hF => ?_)
      refine vc_y hF rfl rfl (by decide) _ (y_add rfl rfl rfl (IntWalk.i64_in _ (by omega))) (fun a hF => ?_)
      refine vc_y hF rfl rfl (by decide) _ (y_assign rfl rfl) (fun a hF => ?_)
      refine vc_nil ?_
      exact ⟨i + 1, by omega, by omega, noClash_step hno hin, _, _, hF.keep [8, 0, 1, 7] rfl, hO5, hAw⟩
  · obtain rfl : j = ps.length := by omega
    apply wp_seq_k; intro K17 hK17
    apply wp_seq_k; intro K18 hK18
    refine wp_region_lit ?_
    refine vc_y hF rfl rfl (by decide) _ (y_move rfl rfl) (fun a hF => ?_)
    refine vc_y hF rfl rfl (by decide) _ (y_move rfl rfl) (fun a hF => ?_)
    refine vc_y hF rfl rfl (by decide) _ (y_lenSl rfl Tryd.underlying29 rfl rfl) (fun a hF => ?_)
    refine vc_y hF rfl rfl (by decide) _ (y_cmp rfl rfl rfl rfl rfl) (fun a hF => ?_)
    refine vc_nil ?_
    refine hK18 _ _ ?_; clear  hK18 K18
    refine vc_falseB hF rfl (lss_f (by omega)) ?_
    apply wp_exit
    refine hK3 _ _ ?_; clear hK17 K17 hK3 K3
    apply wp_seq_k; intro K19 hK19
    refine wp_region_lit ?_
    refine vc_y hF rfl rfl (by decide) _ (y_assign rfl rfl) (fun a hF => ?_)
    refine vc_y hF rfl rfl (by decide) _ (y_assign rfl rfl) (fun a hF => ?_)
    refine vc_y hF rfl rfl (by decide) _ (y_assign rfl rfl) (fun a hF => ?_)
    refine vc_nil ?_
    refine hK19 _ _ ?_; clear  hK19 K19
    apply wp_ret
    refine vc_ret3 hF Tryd.results29 rfl rfl rfl ?_
    exact .inl ⟨hno, rfl, hAr.dropNew (List.nil_sublist _) hO.new⟩
end Go.Proofs.YtppmhlkonemebaaDoor
