/- What a State is: the walk. -/
import Derived.Test.YtepbmdlgdaedpaaGreatDoorSt1
namespace Go.Proofs.YtepbmdlgdaedpaaGreatDoor
open Go.RowKit Go.Dk

theorem nr3_v13 : notRow Tryz.prog 3 = true := by kernel_rfl
theorem nr9_v13 : notRow Tryz.prog 9 = true := by kernel_rfl
theorem nr23_v13 : notRow Tryz.prog 23 = true := by kernel_rfl
theorem rw29_v13 : isRow Tryz.prog 29 32 = true := by kernel_rfl
theorem rw52_v13 : isRow Tryz.prog 52 39 = true := by kernel_rfl
theorem sz3_v13 : (Tryz.prog.info? 3).map (·.size) = some 1 := by kernel_rfl
theorem sz9_v13 : (Tryz.prog.info? 9).map (·.size) = some 1 := by kernel_rfl
theorem sz23_v13 : (Tryz.prog.info? 23).map (·.size) = some 1 := by kernel_rfl
theorem sz29_v13 : (Tryz.prog.info? 29).map (·.size) = some 32 := by kernel_rfl
theorem cl45_v13 : CallsTo Tryz.prog 45 := ⟨_, Tryz.func45, by kernel_rfl, by kernel_rfl⟩
theorem cl48_v13 : CallsTo Tryz.prog 48 := ⟨_, Tryz.func48, by kernel_rfl, by kernel_rfl⟩
theorem cl50_v13 : CallsTo Tryz.prog 50 := ⟨_, Tryz.func50, by kernel_rfl, by kernel_rfl⟩
theorem cl74_v13 : CallsTo Tryz.prog 74 := ⟨_, Tryz.func74, by kernel_rfl, by kernel_rfl⟩
theorem cl75_v13 : CallsTo Tryz.prog 75 := ⟨_, Tryz.func75, by kernel_rfl, by kernel_rfl⟩
theorem cl76_v13 : CallsTo Tryz.prog 76 := ⟨_, Tryz.func76, by kernel_rfl, by kernel_rfl⟩
theorem cl78_v13 : CallsTo Tryz.prog 78 := ⟨_, Tryz.func78, by kernel_rfl, by kernel_rfl⟩
theorem cl87_v13 : CallsTo Tryz.prog 87 := ⟨_, Tryz.func87, by kernel_rfl, by kernel_rfl⟩
theorem cl88_v13 : CallsTo Tryz.prog 88 := ⟨_, Tryz.func88, by kernel_rfl, by kernel_rfl⟩
theorem cl89_v13 : CallsTo Tryz.prog 89 := ⟨_, Tryz.func89, by kernel_rfl, by kernel_rfl⟩
theorem cl90_v13 : CallsTo Tryz.prog 90 := ⟨_, Tryz.func90, by kernel_rfl, by kernel_rfl⟩
theorem cl91_v13 : CallsTo Tryz.prog 91 := ⟨_, Tryz.func91, by kernel_rfl, by kernel_rfl⟩

theorem y_max3 {P : Program} {w : World} {n : Nat} {F : List (Nat × Value)} {o : Oper} {x y z : Operand} {k k' k'' : IntKind} {p q s r : Int} {ts : Array TypeId} (ho : o.op = .call { callee := .builtin .max, args := #[x, y, z], argTypes := ts }) (hx : ev F x = some (.int k p)) (hy : ev F y = some (.int k' q)) (hz : ev F z = some (.int k'' s)) (hr : max (max p q) s = r) : Yd P n F o w (.int k r) := fun a hF => by
  have h : ∀ p q : Int, (if q > p then q else p) = max p q := fun p q => by rw [Int.max_def]; split <;> split <;> omega
  subst hr
  unfold execOp
  simp only [ho, hF.ev hx, hF.ev hy, hF.ev hz, resolve, invoke, builtin, Builtin.max_, List.map_toArray, List.map_cons, List.map_nil, Sem.run_bind, Sem.run_pure, Result.andThen_ok, List.foldlM_cons, List.foldlM_nil, Builtin.max2, h]
theorem max_cast (a b c : Nat) : max (max (a : Int) (b : Int)) (c : Int) = ((max (max a b) c : Nat) : Int) := by omega
theorem firstR_app (a b : List Val) : firstR (a ++ b) = if firstR a = 0 then firstR b else firstR a := by
  induction a with
  | nil => rfl
  | cons v a ih =>
    by_cases hv : v.right = 0
    · simp only [List.cons_append, firstR, if_pos hv]; exact ih
    · simp only [List.cons_append, firstR, if_neg hv]
theorem firstR_at {l : List Val} {i : Nat} {v : Val} (h : firstR (l.take i) = 0) (hi : l[i]? = some v) (hv : ¬ v.right = 0) : firstR l = v.right := by
  obtain ⟨hlt, he⟩ := List.getElem?_eq_some_iff.1 hi
  conv => lhs; rw [← List.take_append_drop i l]
  rw [firstR_app, if_pos h, List.drop_eq_getElem_cons hlt, he, firstR, if_neg hv]
theorem firstR_step {l : List Val} {i : Nat} {v : Val} (h : firstR (l.take i) = 0) (hi : l[i]? = some v) (hv : v.right = 0) : firstR (l.take (i + 1)) = 0 := by
  rw [List.take_add_one, hi, firstR_app, if_pos h, Option.toList_some, firstR, if_pos hv]
  rfl
theorem vals_step {l : List Val} {i : Nat} {v : Val} (h : l[i]? = some v) : (l.take (i + 1)).flatMap Val.put = (l.take i).flatMap Val.put ++ v.put := by
  rw [List.take_add_one, h]; simp
theorem lf_step {l : List Nat} {i : Nat} {v : Nat} (h : l[i]? = some v) : (l.take (i + 1)).flatMap (be 1) = (l.take i).flatMap (be 1) ++ be 1 v := by
  rw [List.take_add_one, h]; simp
theorem mk_step {l : List Bool} {i : Nat} {v : Bool} (h : l[i]? = some v) : (l.take (i + 1)).flatMap flagB = (l.take i).flatMap flagB ++ flagB v := by
  rw [List.take_add_one, h]; simp
theorem fm_len {α : Type} {f : α → List UInt8} {k : Nat} (hk : ∀ x, (f x).length = k) (l : List α) : (l.flatMap f).length = l.length * k := by
  induction l with
  | nil => simp
  | cons x l ih => rw [List.flatMap_cons, List.length_append, hk, ih, List.length_cons, Nat.add_mul]; omega
/-- a State's bytes; none where it is refused -/
def stX (c : CA) (n : Int) (ch : List UInt8) (l1 l2 l3 : List (List UInt8)) : List UInt8 :=
  if stE c.typ (l1.map (heldV c.bind)) l1.length l2.length l3.length = 0 then stB c.typ n ch (l1.map (heldV c.bind)) (l2.map (lifeN c.opn c.clo)) (l3.map fun m => decide (m ∈ c.rea)) else []
theorem stX_no {c : CA} {n : Int} {ch : List UInt8} {l1 l2 l3 : List (List UInt8)} (h : ¬ stE c.typ (l1.map (heldV c.bind)) l1.length l2.length l3.length = 0) : stX c n ch l1 l2 l3 = [] := if_neg h
theorem stX_ok {c : CA} {n : Int} {ch : List UInt8} {l1 l2 l3 : List (List UInt8)} (h : stE c.typ (l1.map (heldV c.bind)) l1.length l2.length l3.length = 0) : stX c n ch l1 l2 l3 = stB c.typ n ch (l1.map (heldV c.bind)) (l2.map (lifeN c.opn c.clo)) (l3.map fun m => decide (m ∈ c.rea)) := if_pos h

set_option maxRecDepth 100000 in
set_option maxHeartbeats 8000000 in
theorem st_state {w0 : World} {R : List Seg} {G : List Seg} (n : Int) (ch : List UInt8) (ca : CA) (A1 : Option Addr) (l1 : List (List UInt8)) (c1 : Nat) (A2 : Option Addr) (l2 : List (List UInt8)) (c2 : Nat) (A3 : Option Addr) (l3 : List (List UInt8)) (c3 : Nat) (w : World) (hT : TabS w0) (hch : ch.length = 32) (hC : ca.Ok w0 G) (h1 : Rc w0 G A1 (l1.map strV)) (h2 : Rc w0 G A2 (l2.map strV)) (h3 : Rc w0 G A3 (l3.map strV)) (hG : G ⊆ R) (hA : Hp w0 R w) : Calls Tryz.prog 24 #[.agg (.int .i64 n :: dc ch : List Value).toArray, .agg ca.cells.toArray, .slice A1 l1.length c1, .slice A2 l2.length c2, .slice A3 l3.length c3] w fun e w' => ∃ v Z, e = .returned (.tuple #[v, .int .i64 (stE ca.typ (l1.map (heldV ca.bind)) l1.length l2.length l3.length : Nat)]) ∧ Buf 5 1 Z v (stX ca n ch l1 l2 l3).length (dc (stX ca n ch l1 l2 l3)) ∧ Hp w0 (Z :: R) w' := by
  have h32 := hC.h32
  obtain ⟨vs, hvs⟩ : ∃ vs, vs = l1.map (heldV ca.bind) := ⟨_, rfl⟩
  obtain ⟨lf, hlf⟩ : ∃ lf, lf = l2.map (lifeN ca.opn ca.clo) := ⟨_, rfl⟩
  obtain ⟨mk, hmk⟩ : ∃ mk : List Bool, mk = l3.map (fun m => decide (m ∈ ca.rea)) := ⟨_, rfl⟩
  have hvl : vs.length = l1.length := by rw [hvs, List.length_map]
  have hll : lf.length = l2.length := by rw [hlf, List.length_map]
  have hml : mk.length = l3.length := by rw [hmk, List.length_map]
  rw [← hvs]
  refine vc_enter Tryz.func24 rfl Tryz.ntmps24 (Nat.le_of_ble_eq_true rfl) (fun a hF => ?_)
  apply wp_seq_k; intro K1 hK1
  refine wp_region_lit ?_
  refine vc_op rfl (fun K hK => hs_box (cs := .int .i64 n :: dc ch) hF rfl (by decide) rfl hA rfl (fun b1 w2 a hb1 hF hA3 => hK _ _ ?_))
  clear hK K
  replace hA3 : Hp w0 ([row b1 49 (.int .i64 n :: dc ch)] :: R) w2 := hA3
  refine vc_op rfl (fun K hK => hs_box (cs := ca.cells) hF rfl (by decide) rfl hA3 rfl (fun b4 w5 a hb4 hF hA6 => hK _ _ ?_))
  clear hK K
  replace hA6 : Hp w0 ([row b4 52 ca.cells] :: [row b1 49 (.int .i64 n :: dc ch)] :: R) w5 := hA6
  refine vc_y hF rfl rfl (by decide) _ (y_assign rfl rfl) (fun a hF => ?_)
  refine vc_y hF rfl rfl (by decide) _ (y_assign rfl rfl) (fun a hF => ?_)
  refine vc_nil ?_
  refine hK1 _ _ ?_; clear  hK1 K1
  apply wp_seq_k; intro K2 hK2
  apply wp_seq_k; intro K3 hK3
  refine wp_region_lit ?_
  refine vc_y hF rfl rfl (by decide) _ (y_field rfl Tryz.underlying52 rfl sz9_v13 (by decide) rfl (rfl : (⟨_, 0 + _, none⟩ : Addr) = ⟨_, 1, none⟩)) (fun a hF => ?_)
  refine vc_y hF rfl rfl (by decide) _ (y_ld (u := strV ca.typ) rfl hA6.q rfl 0 rfl rfl nr9_v13) (fun a hF => ?_)
  refine vc_op rfl (fun K hK => ws_call hF rfl (by decide) cl87_v13 rfl rfl ?_)
  with_reducible refine (ev_legal ca.typ _ hT hA6 ).mono ?_
  rintro e' w9 ⟨rfl, rfl⟩
  refine ⟨_, rfl, fun a hF => hK _ _ ?_⟩
  clear hK K
  refine vc_y hF rfl rfl (by decide) _ (y_not rfl rfl rfl) (fun a hF => ?_)
  refine vc_nil ?_
  refine hK3 _ _ ?_; clear  hK3 K3
  rcases tf (legalN ca.typ) with hl | hl
  · refine vc_trueB hF rfl (by rw [hl]; rfl) ?_
    apply wp_seq_k; intro K4 hK4
    refine wp_region_lit ?_
    refine vc_y hF rfl rfl (by decide) _ (y_assign rfl rfl) (fun a hF => ?_)
    refine vc_y hF rfl rfl (by decide) _ (y_assign rfl rfl) (fun a hF => ?_)
    refine vc_nil ?_
    refine hK4 _ _ ?_; clear  hK4 K4
    apply wp_ret
    simp only [Exit.then]
    refine vc_ret2 hF Tryz.results24 rfl rfl ?_
    have hA10 : Hp w0 (R) w5 := Hp.sel [[row b4 52 ca.cells], [row b1 49 (.int .i64 n :: dc ch)]] R [] [0, 1] hA6 rfl
    have e0 : stE ca.typ vs l1.length l2.length l3.length = 34 := if_pos hl
    rw [e0]
    exact ⟨_, [], rfl, by rw [stX_no (by rw [← hvs, e0]; decide)]; exact Buf.nil _ _, Hp.nil hA10⟩
  · refine vc_falseB hF rfl (by rw [hl]; rfl) ?_
    have htl := legalN_len hl
    apply wp_skip
    refine hK2 _ _ ?_; clear  hK2 K2
    apply wp_seq_k; intro K5 hK5
    apply wp_seq_k; intro K6 hK6
    refine wp_region_lit ?_
    refine vc_y hF rfl rfl (by decide) _ (y_move rfl rfl) (fun a hF => ?_)
    refine vc_y hF rfl rfl (by decide) _ (y_lenSl rfl Tryz.underlying23 rfl rfl) (fun a hF => ?_)
    refine vc_y hF rfl rfl (by decide) _ (y_move rfl rfl) (fun a hF => ?_)
    refine vc_y hF rfl rfl (by decide) _ (y_lenSl rfl Tryz.underlying23 rfl rfl) (fun a hF => ?_)
    refine vc_y hF rfl rfl (by decide) _ (y_move rfl rfl) (fun a hF => ?_)
    refine vc_y hF rfl rfl (by decide) _ (y_lenSl rfl Tryz.underlying23 rfl rfl) (fun a hF => ?_)
    refine vc_y hF rfl rfl (by decide) _ (y_max3 rfl rfl rfl rfl (max_cast _ _ _)) (fun a hF => ?_)
    refine vc_y hF rfl rfl (by decide) _ (y_cmp rfl rfl rfl rfl rfl) (fun a hF => ?_)
    refine vc_nil ?_
    refine hK6 _ _ ?_; clear  hK6 K6
    by_cases hm : 64 < max (max l1.length l2.length) l3.length
    · refine vc_trueB hF rfl (gtr_t (by omega)) ?_
      apply wp_seq_k; intro K7 hK7
      refine wp_region_lit ?_
      refine vc_y hF rfl rfl (by decide) _ (y_assign rfl rfl) (fun a hF => ?_)
      refine vc_y hF rfl rfl (by decide) _ (y_assign rfl rfl) (fun a hF => ?_)
      refine vc_nil ?_
      refine hK7 _ _ ?_; clear  hK7 K7
      apply wp_ret
      simp only [Exit.then]
      refine vc_ret2 hF Tryz.results24 rfl rfl ?_
      have hA11 : Hp w0 (R) w5 := Hp.sel [[row b4 52 ca.cells], [row b1 49 (.int .i64 n :: dc ch)]] R [] [0, 1] hA6 rfl
      have e0 : stE ca.typ vs l1.length l2.length l3.length = 7 := (if_neg (by rw [hl]; decide)).trans (if_pos hm)
      rw [e0]
      exact ⟨_, [], rfl, by rw [stX_no (by rw [← hvs, e0]; decide)]; exact Buf.nil _ _, Hp.nil hA11⟩
    · refine vc_falseB hF rfl (gtr_f (by omega)) ?_
      have hm1 : l1.length ≤ 64 ∧ l2.length ≤ 64 ∧ l3.length ≤ 64 := by omega
      have e1 : stE ca.typ vs l1.length l2.length l3.length = firstR vs := (if_neg (by rw [hl]; decide)).trans (if_neg hm)
      apply wp_skip
      refine hK5 _ _ ?_; clear  hK5 K5
      apply wp_seq_k; intro K8 hK8
      refine wp_region_lit ?_
      refine vc_op rfl (fun K hK => ws_call hF rfl (by decide) cl45_v13 rfl rfl ?_)
      with_reducible refine (hw_new w0 _ _ hA6 ).mono ?_
      rintro e' w12 ⟨wb, Y0, rfl, hY, hA13⟩
      refine ⟨_, rfl, fun a hF => hK _ _ ?_⟩
      clear hK K
      replace hA13 : Hp w0 (Y0 :: [row b4 52 ca.cells] :: [row b1 49 (.int .i64 n :: dc ch)] :: R) w12 := hA13
      refine vc_y hF rfl rfl (by decide) _ (y_assign rfl rfl) (fun a hF => ?_)
      refine vc_nil ?_
      refine hK8 _ _ ?_; clear  hK8 K8
      apply wp_seq_k; intro K9 hK9
      refine wp_region_lit ?_
      refine vc_y hF rfl rfl (by decide) _ (y_move rfl rfl) (fun a hF => ?_)
      refine vc_y hF rfl rfl (by decide) _ (y_field rfl Tryz.underlying52 rfl sz9_v13 (by decide) rfl (rfl : (⟨_, 0 + _, none⟩ : Addr) = ⟨_, 1, none⟩)) (fun a hF => ?_)
      refine vc_y hF rfl rfl (by decide) _ (y_ld (u := strV ca.typ) rfl hA13.q rfl 1 rfl rfl nr9_v13) (fun a hF => ?_)
      refine vc_op rfl (fun K hK => ws_call hF rfl (by decide) cl76_v13 rfl rfl ?_)
      with_reducible refine (hw_text w0 _ ([row b4 52 ca.cells] :: [row b1 49 (.int .i64 n :: dc ch)] :: R) wb _ _ ca.typ 64 hY hA13 (by rw [List.length_nil]; omega) ).mono ?_
      rintro e' w14 ⟨Y1, rfl, hY, hA15⟩
      refine ⟨_, rfl, fun a hF => hK _ _ ?_⟩
      clear hK K
      replace hA15 : Hp w0 (Y1 :: [row b4 52 ca.cells] :: [row b1 49 (.int .i64 n :: dc ch)] :: R) w14 := hA15
      rw [textB_small (by decide) (by decide) (by omega), List.nil_append] at hY
      refine vc_nil ?_
      refine hK9 _ _ ?_; clear  hK9 K9
      apply wp_seq_k; intro K10 hK10
      refine wp_region_lit ?_
      refine vc_y hF rfl rfl (by decide) _ (y_move rfl rfl) (fun a hF => ?_)
      refine vc_y hF rfl rfl (by decide) _ (y_field rfl Tryz.underlying49 rfl sz3_v13 (by decide) rfl (rfl : (⟨_, 0 + _, none⟩ : Addr) = ⟨_, 0, none⟩)) (fun a hF => ?_)
      refine vc_y hF rfl rfl (by decide) _ (y_ld (u := .int .i64 n) rfl hA15.q rfl 2 rfl rfl nr3_v13) (fun a hF => ?_)
      refine vc_y hF rfl rfl (by decide) _ (y_conv rfl Tryz.underlying3 Tryz.underlying135 rfl (u64_wrap _)) (fun a hF => ?_)
      refine vc_op rfl (fun K hK => ws_call hF rfl (by decide) cl75_v13 rfl rfl ?_)
      with_reducible refine (hw_put_uint64 w0 _ ([row b4 52 ca.cells] :: [row b1 49 (.int .i64 n :: dc ch)] :: R) wb _ _ (u64 n) (u64_lt _) _ rfl hY hA15 (by rw [nameB_len]; omega) ).mono ?_
      rintro e' w16 ⟨Y2, rfl, hY, hA17⟩
      refine ⟨_, rfl, fun a hF => hK _ _ ?_⟩
      clear hK K
      replace hA17 : Hp w0 (Y2 :: [row b4 52 ca.cells] :: [row b1 49 (.int .i64 n :: dc ch)] :: R) w16 := hA17
      refine vc_nil ?_
      refine hK10 _ _ ?_; clear  hK10 K10
      apply wp_seq_k; intro K11 hK11
      refine wp_region_lit ?_
      refine vc_y hF rfl rfl (by decide) _ (y_move rfl rfl) (fun a hF => ?_)
      refine vc_y hF rfl rfl (by decide) _ (y_field rfl Tryz.underlying49 rfl sz29_v13 (by decide) rfl (rfl : (⟨_, 0 + _, none⟩ : Addr) = ⟨_, 1, none⟩)) (fun a hF => ?_)
      refine vc_y hF rfl rfl (by decide) _ (y_ldRow (new := dc ch) rfl hA17.q rfl 2 rfl rw29_v13 (by rw [en_len hch]; exact Nat.le_of_ble_eq_true rfl) (by show (dc ch).take 32 = _; exact List.take_of_length_le (by rw [dc_length, hch]; exact Nat.le_refl _))) (fun a hF => ?_)
      refine vc_op rfl (fun K hK => hs_bs (qs := #[(0, .agg (dc ch).toArray)]) (cells := (dc ch).toArray) hF rfl (by decide) rfl hA17 rfl (ev_bsD hch) (fun b18 w19 a hb18 hF hA20 => hK _ _ ?_))
      clear hK K
      replace hA20 : Hp w0 ([row b18 29 (dc ch)] :: Y2 :: [row b4 52 ca.cells] :: [row b1 49 (.int .i64 n :: dc ch)] :: R) w19 := hA20
      have hA21 : Hp w0 (Y2 :: [row b18 29 (dc ch)] :: [row b4 52 ca.cells] :: [row b1 49 (.int .i64 n :: dc ch)] :: R) w19 := Hp.ord [[row b18 29 (dc ch)], Y2, [row b4 52 ca.cells], [row b1 49 (.int .i64 n :: dc ch)]] R [1, 0, 2, 3] hA20 rfl
      refine vc_op rfl (fun K hK => ws_call hF rfl (by decide) cl78_v13 rfl rfl ?_)
      with_reducible refine (ev_digest1 w0 _ ([row b18 29 (dc ch)] :: [row b4 52 ca.cells] :: [row b1 49 (.int .i64 n :: dc ch)] :: R) wb _ _ (some ⟨b18, 0, none⟩) ch hch (ev_digs (Rc.ofRow (i := 0) (off := 0) rfl (by rw [List.drop_zero]; exact List.take_length ..))) hY hA21 (by rw [List.length_append, nameB_len, be_length]; omega) ).mono ?_
      rintro e' w22 ⟨Y3, rfl, hY, hA23⟩
      refine ⟨_, rfl, fun a hF => hK _ _ ?_⟩
      clear hK K
      replace hA23 : Hp w0 (Y3 :: [row b18 29 (dc ch)] :: [row b4 52 ca.cells] :: [row b1 49 (.int .i64 n :: dc ch)] :: R) w22 := hA23
      refine vc_nil ?_
      refine hK11 _ _ ?_; clear  hK11 K11
      apply wp_seq_k; intro K12 hK12
      have hA24 : Hp w0 (Y3 :: [row b4 52 ca.cells] :: R) w22 := Hp.sel [Y3, [row b18 29 (dc ch)], [row b4 52 ca.cells], [row b1 49 (.int .i64 n :: dc ch)]] R [0, 2] [1, 3] hA23 rfl
      obtain ⟨m0, hm0⟩ : ∃ m0, m0 = nameB ca.typ ++ be 8 (u64 n) ++ ch := ⟨_, rfl⟩
      rw [← hm0] at hY
      have hn0 : m0.length ≤ 106 := by rw [hm0, List.length_append, List.length_append, nameB_len, be_length, hch]; omega
      refine wp_region_lit ?_
      refine vc_y hF rfl rfl (by decide) _ (y_move rfl rfl) (fun a hF => ?_)
      refine vc_y hF rfl rfl (by decide) _ (y_move rfl rfl) (fun a hF => ?_)
      refine vc_y hF rfl rfl (by decide) _ (y_lenSl rfl Tryz.underlying23 rfl rfl) (fun a hF => ?_)
      refine vc_y hF rfl rfl (by decide) _ (y_conv rfl Tryz.underlying3 Tryz.underlying81 rfl (show IntKind.u16.wrap ((l1.length : Nat) : Int) = ((l1.length : Nat) : Int) by rw [IntKind.wrap_u16]; omega)) (fun a hF => ?_)
      refine vc_op rfl (fun K hK => ws_call hF rfl (by decide) cl88_v13 rfl rfl ?_)
      with_reducible refine (hw_put_uint16 w0 _ ([row b4 52 ca.cells] :: R) wb _ _ l1.length (by show l1.length < 65536; omega) _ rfl hY hA24 (by omega) ).mono ?_
      rintro e' w25 ⟨Y4, rfl, hY, hA26⟩
      refine ⟨_, rfl, fun a hF => hK _ _ ?_⟩
      clear hK K
      replace hA26 : Hp w0 (Y4 :: [row b4 52 ca.cells] :: R) w25 := hA26
      refine vc_nil ?_
      refine hK12 _ _ ?_; clear  hK12 K12
      apply wp_seq_k; intro K13 hK13
      apply wp_seq_k; intro K14 hK14
      refine wp_region_lit ?_
      refine vc_y hF rfl rfl (by decide) _ (y_move rfl rfl) (fun a hF => ?_)
      refine vc_y hF rfl rfl (by decide) _ (y_lenSl rfl Tryz.underlying23 rfl rfl) (fun a hF => ?_)
      refine vc_y hF rfl rfl (by decide) _ (y_move rfl rfl) (fun a hF => ?_)
      refine vc_nil ?_
      refine hK14 _ _ ?_; clear  hK14 K14
      apply wp_block
      obtain ⟨m1, hm1e⟩ : ∃ m1, m1 = m0 ++ be 2 l1.length := ⟨_, rfl⟩
      rw [← hm1e] at hY
      have hn1 : m1.length ≤ 108 := by rw [hm1e, List.length_append, be_length]; omega
      refine vc_loop (G := Nat) (fun i a x => ∃ (YV : Seg), i ≤ l1.length ∧ firstR (vs.take i) = 0 ∧ WrS wb (m1 ++ (vs.take i).flatMap Val.put) YV ∧ Fr 113 [(55, .int .i64 (i : Int)), (3, .slice A2 l2.length c2), (4, .slice A3 l3.length c3), (6, .pointer (some ⟨b4, 0, none⟩)), (12, .pointer (some ⟨wb, 0, none⟩)), (53, .slice A1 l1.length c1), (54, .int .i64 l1.length)] a ∧ Hp w0 (YV :: [row b4 52 ca.cells] :: R) x) (fun i => l1.length - i) 0 (⟨_, Nat.zero_le _, rfl, (hY.same (List.append_nil _).symm), hF.keep [55, 3, 4, 6, 12, 53, 54] rfl, hA26⟩) ?_
      clear hF
      rintro i a w28 ⟨YV, hi, hfr, hY, hF, hA27⟩
      apply wp_seq_k; intro K15 hK15
      refine wp_region_lit ?_
      refine vc_y hF rfl rfl (by decide) _ (y_cmp rfl rfl rfl rfl rfl) (fun a hF => ?_)
      refine vc_nil ?_
      refine hK15 _ _ ?_; clear  hK15 K15
      apply wp_seq_k; intro K16 hK16
      have hpl : ((vs.take i).flatMap Val.put).length ≤ 4202688 := by
        have q1 := puts_len (firstR_zero hfr)
        rw [List.length_take] at q1
        omega
      by_cases hlt : i < l1.length
      · refine vc_trueB hF rfl (lss_t (by omega)) ?_
        obtain ⟨q, hpq⟩ : ∃ q, l1[i]? = some q := ⟨_, List.getElem?_eq_getElem hlt⟩
        obtain ⟨bq, oq, hsq, hcq⟩ := h1.ne (i := i) (by rw [List.length_map]; exact hlt)
        rw [hsq] at hF
        apply wp_skip
        refine hK16 _ _ ?_; clear  hK16 K16
        apply wp_seq_k; intro K17 hK17
        apply wp_block
        apply wp_seq_k; intro K18 hK18
        refine wp_region_lit ?_
        refine vc_y hF rfl rfl (by decide) _ (y_ixSl rfl Tryz.underlying23 sz9_v13 rfl rfl i rfl hlt (ad2 _ _ _)) (fun a hF => ?_)
        refine vc_y hF rfl rfl (by decide) _ (y_ldC (u := strV q) rfl (Hq.sub hA27.q (List.Subset.trans hG (subC (subC (sub0))))) rfl hcq i (by rw [List.length_map]; exact hlt) rfl (by rw [List.getElem?_map, hpq]; rfl) nr9_v13) (fun a hF => ?_)
        refine vc_y hF rfl rfl (by decide) _ (y_assign rfl rfl) (fun a hF => ?_)
        refine vc_nil ?_
        refine hK18 _ _ ?_; clear  hK18 K18
        apply wp_seq_k; intro K19 hK19
        refine wp_region_lit ?_
        refine vc_y hF rfl rfl (by decide) _ (y_move rfl rfl) (fun a hF => ?_)
        refine vc_y hF rfl rfl (by decide) _ (y_ldRow (new := ca.cells) rfl hA27.q rfl 1 rfl rw52_v13 (by rw [ca_len h32]; exact Nat.le_refl _) (by rw [List.drop_zero]; exact List.take_of_length_le (by rw [ca_len h32]; exact Nat.le_refl _))) (fun a hF => ?_)
        refine vc_y hF rfl rfl (by decide) _ (y_move rfl rfl) (fun a hF => ?_)
        refine vc_op rfl (fun K hK => ws_call hF rfl (by decide) cl89_v13 rfl rfl ?_)
        with_reducible refine (st_held ca q _ hC (List.Subset.trans hG (subC (subC (sub0)))) hA27 ).mono ?_
        rintro e' w29 ⟨va, rfl, hva, hvo, hA30⟩
        refine ⟨_, rfl, fun a hF => hK _ _ ?_⟩
        clear hK K
        replace hA30 : Hp w0 (YV :: [row b4 52 ca.cells] :: R) w29 := hA30
        have hvi : vs[i]? = some va.v := by rw [hvs, List.getElem?_map, hpq, hva]; rfl
        refine vc_op rfl (fun K hK => ws_call hF rfl (by decide) cl48_v13 rfl rfl ?_)
        with_reducible refine (ev_put wb _ _ va _ hvo (List.Subset.trans hG (subC (sub0))) hY hA30 (by rw [List.length_append]; omega) ).mono ?_
        rintro e' w31 ⟨YW, rfl, hY, hA32⟩
        refine ⟨_, rfl, fun a hF => hK _ _ ?_⟩
        clear hK K
        replace hA32 : Hp w0 (YW :: [row b4 52 ca.cells] :: R) w31 := hA32
        refine vc_y hF rfl rfl (by decide) _ (y_assign rfl rfl) (fun a hF => ?_)
        refine vc_nil ?_
        refine hK19 _ _ ?_; clear  hK19 K19
        apply wp_seq_k; intro K20 hK20
        refine wp_region_lit ?_
        refine vc_y hF rfl rfl (by decide) _ (y_move rfl rfl) (fun a hF => ?_)
        refine vc_y hF rfl rfl (by decide) _ (y_cmp rfl rfl rfl rfl rfl) (fun a hF => ?_)
        refine vc_nil ?_
        refine hK20 _ _ ?_; clear  hK20 K20
        by_cases hr0 : va.v.right = 0
        · refine vc_falseB hF rfl (neq_f (by omega)) ?_
          apply wp_skip
          refine hK17 _ _ ?_; clear  hK17 K17
          refine wp_region_lit ?_
          refine vc_y hF rfl rfl (by decide) _ (y_add rfl rfl rfl (IntWalk.i64_in _ (by omega))) (fun a hF => ?_)
          refine vc_y hF rfl rfl (by decide) _ (y_move rfl rfl) (fun a hF => ?_)
          refine vc_nil ?_
          rw [← hsq] at hF
          exact ⟨i + 1, by omega, YW, by omega, firstR_step hfr hvi hr0, hY.same (by rw [List.append_assoc, ← vals_step hvi]), hF.keep [55, 3, 4, 6, 12, 53, 54] rfl, hA32⟩
        · refine vc_trueB hF rfl (neq_t (by omega)) ?_
          apply wp_seq_k; intro K21 hK21
          refine wp_region_lit ?_
          refine vc_y hF rfl rfl (by decide) _ (y_move rfl rfl) (fun a hF => ?_)
          refine vc_y hF rfl rfl (by decide) _ (y_assign rfl rfl) (fun a hF => ?_)
          refine vc_y hF rfl rfl (by decide) _ (y_assign rfl rfl) (fun a hF => ?_)
          refine vc_nil ?_
          refine hK21 _ _ ?_; clear  hK21 K21
          apply wp_ret
          simp only [Exit.then, Exit.inBlock]
          refine vc_ret2 hF Tryz.results24 rfl rfl ?_
          have hA33 : Hp w0 (R) w31 := Hp.sel [YW, [row b4 52 ca.cells]] R [] [0, 1] hA32 rfl
          have e0 : stE ca.typ vs l1.length l2.length l3.length = va.v.right := e1.trans (firstR_at hfr hvi hr0)
          rw [e0]
          exact ⟨_, [], rfl, by rw [stX_no (by rw [← hvs, e0]; exact hr0)]; exact Buf.nil _ _, Hp.nil hA33⟩
      · refine vc_falseB hF rfl (lss_f (by omega)) ?_
        obtain rfl : i = l1.length := by omega
        rw [← hvl, List.take_length] at hfr hY
        clear hpl
        have hpl : (vs.flatMap Val.put).length ≤ 4202688 := by
          have q1 := puts_len (firstR_zero hfr)
          omega
        obtain ⟨m2, hm2⟩ : ∃ m2, m2 = m1 ++ vs.flatMap Val.put := ⟨_, rfl⟩
        rw [← hm2] at hY
        have hn2 : m2.length ≤ 4202796 := by rw [hm2, List.length_append]; omega
        apply wp_exit
        refine hK13 _ _ ?_; clear hK16 K16 hK13 K13
        apply wp_seq_k; intro K22 hK22
        refine wp_region_lit ?_
        refine vc_y hF rfl rfl (by decide) _ (y_move rfl rfl) (fun a hF => ?_)
        refine vc_y hF rfl rfl (by decide) _ (y_move rfl rfl) (fun a hF => ?_)
        refine vc_y hF rfl rfl (by decide) _ (y_lenSl rfl Tryz.underlying23 rfl rfl) (fun a hF => ?_)
        refine vc_y hF rfl rfl (by decide) _ (y_conv rfl Tryz.underlying3 Tryz.underlying81 rfl (show IntKind.u16.wrap ((l2.length : Nat) : Int) = ((l2.length : Nat) : Int) by rw [IntKind.wrap_u16]; omega)) (fun a hF => ?_)
        refine vc_op rfl (fun K hK => ws_call hF rfl (by decide) cl88_v13 rfl rfl ?_)
        with_reducible refine (hw_put_uint16 w0 _ ([row b4 52 ca.cells] :: R) wb _ _ l2.length (by show l2.length < 65536; omega) _ rfl hY hA27 (by omega) ).mono ?_
        rintro e' w34 ⟨Y5, rfl, hY, hA35⟩
        refine ⟨_, rfl, fun a hF => hK _ _ ?_⟩
        clear hK K
        replace hA35 : Hp w0 (Y5 :: [row b4 52 ca.cells] :: R) w34 := hA35
        refine vc_nil ?_
        refine hK22 _ _ ?_; clear  hK22 K22
        apply wp_seq_k; intro K23 hK23
        apply wp_seq_k; intro K24 hK24
        refine wp_region_lit ?_
        refine vc_y hF rfl rfl (by decide) _ (y_move rfl rfl) (fun a hF => ?_)
        refine vc_y hF rfl rfl (by decide) _ (y_lenSl rfl Tryz.underlying23 rfl rfl) (fun a hF => ?_)
        refine vc_y hF rfl rfl (by decide) _ (y_move rfl rfl) (fun a hF => ?_)
        refine vc_nil ?_
        refine hK24 _ _ ?_; clear  hK24 K24
        apply wp_block
        obtain ⟨m3, hm3⟩ : ∃ m3, m3 = m2 ++ be 2 l2.length := ⟨_, rfl⟩
        rw [← hm3] at hY
        have hn3 : m3.length ≤ 4202798 := by rw [hm3, List.length_append, be_length]; omega
        refine vc_loop (G := Nat) (fun i a x => ∃ (YV : Seg), i ≤ l2.length ∧ WrS wb (m3 ++ (lf.take i).flatMap (be 1)) YV ∧ Fr 113 [(75, .int .i64 (i : Int)), (4, .slice A3 l3.length c3), (6, .pointer (some ⟨b4, 0, none⟩)), (12, .pointer (some ⟨wb, 0, none⟩)), (73, .slice A2 l2.length c2), (74, .int .i64 l2.length)] a ∧ Hp w0 (YV :: [row b4 52 ca.cells] :: R) x) (fun i => l2.length - i) 0 (⟨_, Nat.zero_le _, (hY.same (List.append_nil _).symm), hF.keep [75, 4, 6, 12, 73, 74] rfl, hA35⟩) ?_
        clear hF
        rintro i a w37 ⟨YV, hi, hY, hF, hA36⟩
        apply wp_seq_k; intro K25 hK25
        refine wp_region_lit ?_
        refine vc_y hF rfl rfl (by decide) _ (y_cmp rfl rfl rfl rfl rfl) (fun a hF => ?_)
        refine vc_nil ?_
        refine hK25 _ _ ?_; clear  hK25 K25
        apply wp_seq_k; intro K26 hK26
        have hpl2 : ((lf.take i).flatMap (be 1)).length ≤ 64 := by rw [fm_len (k := 1) (fun x => be_length 1 x), List.length_take]; omega
        by_cases hlt : i < l2.length
        · refine vc_trueB hF rfl (lss_t (by omega)) ?_
          obtain ⟨q, hpq⟩ : ∃ q, l2[i]? = some q := ⟨_, List.getElem?_eq_getElem hlt⟩
          obtain ⟨bq, oq, hsq, hcq⟩ := h2.ne (i := i) (by rw [List.length_map]; exact hlt)
          rw [hsq] at hF
          have hvi : lf[i]? = some (lifeN ca.opn ca.clo q) := by rw [hlf, List.getElem?_map, hpq]; rfl
          apply wp_skip
          refine hK26 _ _ ?_; clear  hK26 K26
          apply wp_seq_k; intro K27 hK27
          apply wp_block
          apply wp_seq_k; intro K28 hK28
          refine wp_region_lit ?_
          refine vc_y hF rfl rfl (by decide) _ (y_ixSl rfl Tryz.underlying23 sz9_v13 rfl rfl i rfl hlt (ad2 _ _ _)) (fun a hF => ?_)
          refine vc_y hF rfl rfl (by decide) _ (y_ldC (u := strV q) rfl (Hq.sub hA36.q (List.Subset.trans hG (subC (subC (sub0))))) rfl hcq i (by rw [List.length_map]; exact hlt) rfl (by rw [List.getElem?_map, hpq]; rfl) nr9_v13) (fun a hF => ?_)
          refine vc_y hF rfl rfl (by decide) _ (y_assign rfl rfl) (fun a hF => ?_)
          refine vc_nil ?_
          refine hK28 _ _ ?_; clear  hK28 K28
          apply wp_seq_k; intro K29 hK29
          refine wp_region_lit ?_
          refine vc_y hF rfl rfl (by decide) _ (y_assign rfl rfl) (fun a hF => ?_)
          refine vc_nil ?_
          refine hK29 _ _ ?_; clear  hK29 K29
          apply wp_seq_k; intro K30 hK30
          apply wp_block
          apply wp_seq_k; intro K31 hK31
          refine wp_region_lit ?_
          refine vc_y hF rfl rfl (by decide) _ (y_field rfl Tryz.underlying52 rfl sz23_v13 (by decide) rfl (rfl : (⟨_, 0 + _, none⟩ : Addr) = ⟨_, 36, none⟩)) (fun a hF => ?_)
          refine vc_y hF rfl rfl (by decide) _ (y_ld (u := .slice ca.oA ca.opn.length ca.oC) rfl hA36.q rfl 1 rfl (ca_at h32 1) nr23_v13) (fun a hF => ?_)
          refine vc_y hF rfl rfl (by decide) _ (y_move rfl rfl) (fun a hF => ?_)
          refine vc_op rfl (fun K hK => ws_call hF rfl (by decide) cl90_v13 rfl rfl ?_)
          with_reducible refine (st_contains ca.oA ca.opn ca.oC q _ hC.opr (List.Subset.trans hG (subC (subC (sub0)))) hC.opl hA36 ).mono ?_
          rintro e' w38 ⟨rfl, hA39⟩
          refine ⟨_, rfl, fun a hF => hK _ _ ?_⟩
          clear hK K
          replace hA39 : Hp w0 (YV :: [row b4 52 ca.cells] :: R) w38 := hA39
          refine vc_y hF rfl rfl (by decide) _ (y_assign rfl rfl) (fun a hF => ?_)
          refine vc_nil ?_
          refine hK31 _ _ ?_; clear  hK31 K31
          by_cases m1_ : q ∈ ca.opn
          · refine vc_trueB hF rfl (decide_eq_true m1_) ?_
            refine wp_region_lit ?_
            refine vc_y hF rfl rfl (by decide) _ (y_assign rfl rfl) (fun a hF => ?_)
            refine vc_nil ?_
            refine hK30 _ _ ?_; clear  hK30 K30
            refine wp_region_lit ?_
            refine vc_y hF rfl rfl (by decide) _ (y_move rfl rfl) (fun a hF => ?_)
            refine vc_y hF rfl rfl (by decide) _ (y_move rfl rfl) (fun a hF => ?_)
            refine vc_op rfl (fun K hK => ws_call hF rfl (by decide) cl74_v13 rfl rfl ?_)
            with_reducible refine (hw_put_uint8 w0 _ ([row b4 52 ca.cells] :: R) wb _ _ 1 (by decide) 1 rfl hY hA39 (by rw [List.length_append]; omega) ).mono ?_
            rintro e' w40 ⟨YW, rfl, hY, hA41⟩
            refine ⟨_, rfl, fun a hF => hK _ _ ?_⟩
            clear hK K
            replace hA41 : Hp w0 (YW :: [row b4 52 ca.cells] :: R) w40 := hA41
            refine vc_nil ?_
            refine hK27 _ _ ?_; clear  hK27 K27
            refine wp_region_lit ?_
            refine vc_y hF rfl rfl (by decide) _ (y_add rfl rfl rfl (IntWalk.i64_in _ (by omega))) (fun a hF => ?_)
            refine vc_y hF rfl rfl (by decide) _ (y_move rfl rfl) (fun a hF => ?_)
            refine vc_nil ?_
            rw [← hsq] at hF
            rw [show lifeN ca.opn ca.clo q = 1 from if_pos m1_] at hvi
            exact ⟨i + 1, by omega, YW, by omega, hY.same (by rw [List.append_assoc, ← lf_step hvi]), hF.keep [75, 4, 6, 12, 73, 74] rfl, hA41⟩
          · refine vc_falseB hF rfl (decide_eq_false m1_) ?_
            apply wp_seq_k; intro K32 hK32
            refine wp_region_lit ?_
            refine vc_y hF rfl rfl (by decide) _ (y_field rfl Tryz.underlying52 rfl sz23_v13 (by decide) rfl (rfl : (⟨_, 0 + _, none⟩ : Addr) = ⟨_, 37, none⟩)) (fun a hF => ?_)
            refine vc_y hF rfl rfl (by decide) _ (y_ld (u := .slice ca.cA ca.clo.length ca.cC) rfl hA39.q rfl 1 rfl (ca_at h32 2) nr23_v13) (fun a hF => ?_)
            refine vc_y hF rfl rfl (by decide) _ (y_move rfl rfl) (fun a hF => ?_)
            refine vc_op rfl (fun K hK => ws_call hF rfl (by decide) cl90_v13 rfl rfl ?_)
            with_reducible refine (st_contains ca.cA ca.clo ca.cC q _ hC.clr (List.Subset.trans hG (subC (subC (sub0)))) hC.cll hA39 ).mono ?_
            rintro e' w42 ⟨rfl, hA43⟩
            refine ⟨_, rfl, fun a hF => hK _ _ ?_⟩
            clear hK K
            replace hA43 : Hp w0 (YV :: [row b4 52 ca.cells] :: R) w42 := hA43
            refine vc_y hF rfl rfl (by decide) _ (y_assign rfl rfl) (fun a hF => ?_)
            refine vc_nil ?_
            refine hK32 _ _ ?_; clear  hK32 K32
            by_cases m2_ : q ∈ ca.clo
            · refine vc_trueB hF rfl (decide_eq_true m2_) ?_
              refine wp_region_lit ?_
              refine vc_y hF rfl rfl (by decide) _ (y_assign rfl rfl) (fun a hF => ?_)
              refine vc_nil ?_
              refine hK30 _ _ ?_; clear  hK30 K30
              refine wp_region_lit ?_
              refine vc_y hF rfl rfl (by decide) _ (y_move rfl rfl) (fun a hF => ?_)
              refine vc_y hF rfl rfl (by decide) _ (y_move rfl rfl) (fun a hF => ?_)
              refine vc_op rfl (fun K hK => ws_call hF rfl (by decide) cl74_v13 rfl rfl ?_)
              with_reducible refine (hw_put_uint8 w0 _ ([row b4 52 ca.cells] :: R) wb _ _ 2 (by decide) 2 rfl hY hA43 (by rw [List.length_append]; omega) ).mono ?_
              rintro e' w44 ⟨YW, rfl, hY, hA45⟩
              refine ⟨_, rfl, fun a hF => hK _ _ ?_⟩
              clear hK K
              replace hA45 : Hp w0 (YW :: [row b4 52 ca.cells] :: R) w44 := hA45
              refine vc_nil ?_
              refine hK27 _ _ ?_; clear  hK27 K27
              refine wp_region_lit ?_
              refine vc_y hF rfl rfl (by decide) _ (y_add rfl rfl rfl (IntWalk.i64_in _ (by omega))) (fun a hF => ?_)
              refine vc_y hF rfl rfl (by decide) _ (y_move rfl rfl) (fun a hF => ?_)
              refine vc_nil ?_
              rw [← hsq] at hF
              rw [show lifeN ca.opn ca.clo q = 2 from (if_neg m1_).trans (if_pos m2_)] at hvi
              exact ⟨i + 1, by omega, YW, by omega, hY.same (by rw [List.append_assoc, ← lf_step hvi]), hF.keep [75, 4, 6, 12, 73, 74] rfl, hA45⟩
            · refine vc_falseB hF rfl (decide_eq_false m2_) ?_
              apply wp_skip
              refine hK30 _ _ ?_; clear  hK30 K30
              refine wp_region_lit ?_
              refine vc_y hF rfl rfl (by decide) _ (y_move rfl rfl) (fun a hF => ?_)
              refine vc_y hF rfl rfl (by decide) _ (y_move rfl rfl) (fun a hF => ?_)
              refine vc_op rfl (fun K hK => ws_call hF rfl (by decide) cl74_v13 rfl rfl ?_)
              with_reducible refine (hw_put_uint8 w0 _ ([row b4 52 ca.cells] :: R) wb _ _ 0 (by decide) 0 rfl hY hA43 (by rw [List.length_append]; omega) ).mono ?_
              rintro e' w46 ⟨YW, rfl, hY, hA47⟩
              refine ⟨_, rfl, fun a hF => hK _ _ ?_⟩
              clear hK K
              replace hA47 : Hp w0 (YW :: [row b4 52 ca.cells] :: R) w46 := hA47
              refine vc_nil ?_
              refine hK27 _ _ ?_; clear  hK27 K27
              refine wp_region_lit ?_
              refine vc_y hF rfl rfl (by decide) _ (y_add rfl rfl rfl (IntWalk.i64_in _ (by omega))) (fun a hF => ?_)
              refine vc_y hF rfl rfl (by decide) _ (y_move rfl rfl) (fun a hF => ?_)
              refine vc_nil ?_
              rw [← hsq] at hF
              rw [show lifeN ca.opn ca.clo q = 0 from (if_neg m1_).trans (if_neg m2_)] at hvi
              exact ⟨i + 1, by omega, YW, by omega, hY.same (by rw [List.append_assoc, ← lf_step hvi]), hF.keep [75, 4, 6, 12, 73, 74] rfl, hA47⟩
        · refine vc_falseB hF rfl (lss_f (by omega)) ?_
          obtain rfl : i = l2.length := by omega
          rw [← hll, List.take_length] at hY
          clear hpl2
          have hpl2 : (lf.flatMap (be 1)).length ≤ 64 := by rw [fm_len (k := 1) (fun x => be_length 1 x)]; omega
          obtain ⟨m4, hm4⟩ : ∃ m4, m4 = m3 ++ lf.flatMap (be 1) := ⟨_, rfl⟩
          rw [← hm4] at hY
          have hn4 : m4.length ≤ 4202862 := by rw [hm4, List.length_append]; omega
          apply wp_exit
          refine hK23 _ _ ?_; clear hK26 K26 hK23 K23
          apply wp_seq_k; intro K33 hK33
          refine wp_region_lit ?_
          refine vc_y hF rfl rfl (by decide) _ (y_move rfl rfl) (fun a hF => ?_)
          refine vc_y hF rfl rfl (by decide) _ (y_move rfl rfl) (fun a hF => ?_)
          refine vc_y hF rfl rfl (by decide) _ (y_lenSl rfl Tryz.underlying23 rfl rfl) (fun a hF => ?_)
          refine vc_y hF rfl rfl (by decide) _ (y_conv rfl Tryz.underlying3 Tryz.underlying81 rfl (show IntKind.u16.wrap ((l3.length : Nat) : Int) = ((l3.length : Nat) : Int) by rw [IntKind.wrap_u16]; omega)) (fun a hF => ?_)
          refine vc_op rfl (fun K hK => ws_call hF rfl (by decide) cl88_v13 rfl rfl ?_)
          with_reducible refine (hw_put_uint16 w0 _ ([row b4 52 ca.cells] :: R) wb _ _ l3.length (by show l3.length < 65536; omega) _ rfl hY hA36 (by omega) ).mono ?_
          rintro e' w48 ⟨Y6, rfl, hY, hA49⟩
          refine ⟨_, rfl, fun a hF => hK _ _ ?_⟩
          clear hK K
          replace hA49 : Hp w0 (Y6 :: [row b4 52 ca.cells] :: R) w48 := hA49
          refine vc_nil ?_
          refine hK33 _ _ ?_; clear  hK33 K33
          apply wp_seq_k; intro K34 hK34
          apply wp_seq_k; intro K35 hK35
          refine wp_region_lit ?_
          refine vc_y hF rfl rfl (by decide) _ (y_move rfl rfl) (fun a hF => ?_)
          refine vc_y hF rfl rfl (by decide) _ (y_lenSl rfl Tryz.underlying23 rfl rfl) (fun a hF => ?_)
          refine vc_y hF rfl rfl (by decide) _ (y_move rfl rfl) (fun a hF => ?_)
          refine vc_nil ?_
          refine hK35 _ _ ?_; clear  hK35 K35
          apply wp_block
          obtain ⟨m5, hm5⟩ : ∃ m5, m5 = m4 ++ be 2 l3.length := ⟨_, rfl⟩
          rw [← hm5] at hY
          have hn5 : m5.length ≤ 4202864 := by rw [hm5, List.length_append, be_length]; omega
          refine vc_loop (G := Nat) (fun i a x => ∃ (YV : Seg), i ≤ l3.length ∧ WrS wb (m5 ++ (mk.take i).flatMap flagB) YV ∧ Fr 113 [(100, .int .i64 (i : Int)), (6, .pointer (some ⟨b4, 0, none⟩)), (12, .pointer (some ⟨wb, 0, none⟩)), (98, .slice A3 l3.length c3), (99, .int .i64 l3.length)] a ∧ Hp w0 (YV :: [row b4 52 ca.cells] :: R) x) (fun i => l3.length - i) 0 (⟨_, Nat.zero_le _, (hY.same (List.append_nil _).symm), hF.keep [100, 6, 12, 98, 99] rfl, hA49⟩) ?_
          clear hF
          rintro i a w51 ⟨YV, hi, hY, hF, hA50⟩
          apply wp_seq_k; intro K36 hK36
          refine wp_region_lit ?_
          refine vc_y hF rfl rfl (by decide) _ (y_cmp rfl rfl rfl rfl rfl) (fun a hF => ?_)
          refine vc_nil ?_
          refine hK36 _ _ ?_; clear  hK36 K36
          apply wp_seq_k; intro K37 hK37
          have hpl3 : ((mk.take i).flatMap flagB).length ≤ 64 := by rw [fm_len (k := 1) (fun _ => rfl), List.length_take]; omega
          by_cases hlt : i < l3.length
          · refine vc_trueB hF rfl (lss_t (by omega)) ?_
            obtain ⟨q, hpq⟩ : ∃ q, l3[i]? = some q := ⟨_, List.getElem?_eq_getElem hlt⟩
            obtain ⟨bq, oq, hsq, hcq⟩ := h3.ne (i := i) (by rw [List.length_map]; exact hlt)
            rw [hsq] at hF
            have hvi : mk[i]? = some (decide (q ∈ ca.rea)) := by rw [hmk, List.getElem?_map, hpq]; rfl
            apply wp_skip
            refine hK37 _ _ ?_; clear  hK37 K37
            apply wp_seq_k; intro K38 hK38
            apply wp_block
            apply wp_seq_k; intro K39 hK39
            refine wp_region_lit ?_
            refine vc_y hF rfl rfl (by decide) _ (y_ixSl rfl Tryz.underlying23 sz9_v13 rfl rfl i rfl hlt (ad2 _ _ _)) (fun a hF => ?_)
            refine vc_y hF rfl rfl (by decide) _ (y_ldC (u := strV q) rfl (Hq.sub hA50.q (List.Subset.trans hG (subC (subC (sub0))))) rfl hcq i (by rw [List.length_map]; exact hlt) rfl (by rw [List.getElem?_map, hpq]; rfl) nr9_v13) (fun a hF => ?_)
            refine vc_y hF rfl rfl (by decide) _ (y_assign rfl rfl) (fun a hF => ?_)
            refine vc_nil ?_
            refine hK39 _ _ ?_; clear  hK39 K39
            refine wp_region_lit ?_
            refine vc_y hF rfl rfl (by decide) _ (y_move rfl rfl) (fun a hF => ?_)
            refine vc_y hF rfl rfl (by decide) _ (y_field rfl Tryz.underlying52 rfl sz23_v13 (by decide) rfl (rfl : (⟨_, 0 + _, none⟩ : Addr) = ⟨_, 38, none⟩)) (fun a hF => ?_)
            refine vc_y hF rfl rfl (by decide) _ (y_ld (u := .slice ca.rA ca.rea.length ca.rC) rfl hA50.q rfl 1 rfl (ca_at h32 3) nr23_v13) (fun a hF => ?_)
            refine vc_y hF rfl rfl (by decide) _ (y_move rfl rfl) (fun a hF => ?_)
            refine vc_op rfl (fun K hK => ws_call hF rfl (by decide) cl90_v13 rfl rfl ?_)
            with_reducible refine (st_contains ca.rA ca.rea ca.rC q _ hC.rer (List.Subset.trans hG (subC (subC (sub0)))) hC.rel hA50 ).mono ?_
            rintro e' w52 ⟨rfl, hA53⟩
            refine ⟨_, rfl, fun a hF => hK _ _ ?_⟩
            clear hK K
            replace hA53 : Hp w0 (YV :: [row b4 52 ca.cells] :: R) w52 := hA53
            refine vc_op rfl (fun K hK => ws_call hF rfl (by decide) cl91_v13 rfl rfl ?_)
            with_reducible refine (hw_flag w0 _ ([row b4 52 ca.cells] :: R) wb _ _ (decide (q ∈ ca.rea)) hY hA53 (by rw [List.length_append]; omega) ).mono ?_
            rintro e' w54 ⟨YW, rfl, hY, hA55⟩
            refine ⟨_, rfl, fun a hF => hK _ _ ?_⟩
            clear hK K
            replace hA55 : Hp w0 (YW :: [row b4 52 ca.cells] :: R) w54 := hA55
            refine vc_nil ?_
            refine hK38 _ _ ?_; clear  hK38 K38
            refine wp_region_lit ?_
            refine vc_y hF rfl rfl (by decide) _ (y_add rfl rfl rfl (IntWalk.i64_in _ (by omega))) (fun a hF => ?_)
            refine vc_y hF rfl rfl (by decide) _ (y_move rfl rfl) (fun a hF => ?_)
            refine vc_nil ?_
            rw [← hsq] at hF
            exact ⟨i + 1, by omega, YW, by omega, hY.same (by rw [List.append_assoc, mk_step hvi]; rfl), hF.keep [100, 6, 12, 98, 99] rfl, hA55⟩
          · refine vc_falseB hF rfl (lss_f (by omega)) ?_
            obtain rfl : i = l3.length := by omega
            rw [← hml, List.take_length] at hY
            clear hpl3
            have hpl3 : (mk.flatMap flagB).length ≤ 64 := by rw [fm_len (k := 1) (fun _ => rfl)]; omega
            apply wp_exit
            refine hK34 _ _ ?_; clear hK37 K37 hK34 K34
            apply wp_seq_k; intro K40 hK40
            refine wp_region_lit ?_
            refine vc_y hF rfl rfl (by decide) _ (y_move rfl rfl) (fun a hF => ?_)
            refine vc_op rfl (fun K hK => ws_call hF rfl (by decide) cl50_v13 rfl rfl ?_)
            with_reducible refine (hw_all w0 _ ([row b4 52 ca.cells] :: R) wb _ _ hY hA50 (by rw [List.length_append]; omega) ).mono ?_
            rintro e' w56 ⟨vA, ZA, YE, rfl, hZ, hY, hA57⟩
            refine ⟨_, rfl, fun a hF => hK _ _ ?_⟩
            clear hK K
            replace hA57 : Hp w0 (ZA :: YE :: [row b4 52 ca.cells] :: R) w56 := hA57
            refine vc_y hF rfl rfl (by decide) _ (y_assign rfl rfl) (fun a hF => ?_)
            refine vc_y hF rfl rfl (by decide) _ (y_assign rfl rfl) (fun a hF => ?_)
            refine vc_nil ?_
            refine hK40 _ _ ?_; clear  hK40 K40
            apply wp_ret
            refine vc_ret2 hF Tryz.results24 rfl rfl ?_
            have hA58 : Hp w0 (ZA :: R) w56 := Hp.sel [ZA, YE, [row b4 52 ca.cells]] R [0] [1, 2] hA57 rfl
            have e0 : stE ca.typ vs l1.length l2.length l3.length = 0 := e1.trans hfr
            rw [e0]
            refine ⟨_, ZA, rfl, ?_, hA58⟩
            rw [stX_ok (by rw [← hvs, e0]), ← hvs, ← hlf, ← hmk]
            rw [show stB ca.typ n ch vs lf mk = m5 ++ mk.flatMap flagB by rw [hm5, hm4, hm3, hm2, hm1e, hm0, ← hvl, ← hll, ← hml]; rfl]
            exact hZ
end Go.Proofs.YtepbmdlgdaedpaaGreatDoor
