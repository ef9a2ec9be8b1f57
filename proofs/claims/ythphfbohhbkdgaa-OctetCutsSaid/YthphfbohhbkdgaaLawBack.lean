/- The walk of OctetBack. -/
import Derived.Test.YthphfbohhbkdgaaOpsLaw
namespace Go.Proofs.Ythphfbohhbkdgaa
open Go.RowKit Go.Dk
theorem nr3_ob : notRow Try.prog 3 = true := by kernel_rfl
theorem nr34_ob : notRow Try.prog 34 = true := by kernel_rfl
theorem nr35_ob : notRow Try.prog 35 = true := by kernel_rfl
theorem rw38_ob : isRow Try.prog 38 12 = true := by kernel_rfl
theorem sz3_ob : (Try.prog.info? 3).map (·.size) = some 1 := by kernel_rfl
theorem sz34_ob : (Try.prog.info? 34).map (·.size) = some 1 := by kernel_rfl
theorem sz35_ob : (Try.prog.info? 35).map (·.size) = some 1 := by kernel_rfl
theorem sz38_ob : (Try.prog.info? 38).map (·.size) = some 12 := by kernel_rfl
theorem cl12_ob : CallsTo Try.prog 12 := ⟨_, Try.func12, by kernel_rfl, by kernel_rfl⟩
theorem cl21_ob : CallsTo Try.prog 21 := ⟨_, Try.func21, by kernel_rfl, by kernel_rfl⟩
theorem cl23_ob : CallsTo Try.prog 23 := ⟨_, Try.func23, by kernel_rfl, by kernel_rfl⟩
theorem cl26_ob : CallsTo Try.prog 26 := ⟨_, Try.func26, by kernel_rfl, by kernel_rfl⟩
theorem cl29_ob : CallsTo Try.prog 29 := ⟨_, Try.func29, by kernel_rfl, by kernel_rfl⟩
theorem cl30_ob : CallsTo Try.prog 30 := ⟨_, Try.func30, by kernel_rfl, by kernel_rfl⟩
theorem cl31_ob : CallsTo Try.prog 31 := ⟨_, Try.func31, by kernel_rfl, by kernel_rfl⟩
theorem cl39_ob : CallsTo Try.prog 39 := ⟨_, Try.func39, by kernel_rfl, by kernel_rfl⟩
theorem cl40_ob : CallsTo Try.prog 40 := ⟨_, Try.func40, by kernel_rfl, by kernel_rfl⟩
theorem cl41_ob : CallsTo Try.prog 41 := ⟨_, Try.func41, by kernel_rfl, by kernel_rfl⟩

theorem zr38_ob : zeroIs Try.prog 38 (.agg ([.int .i64 0, .int .i64 0, .int .u64 0, .int .i64 0, .bool false, .slice none 0 0, .slice none 0 0, .slice none 0 0, .string (⟨#[]⟩), .slice none 0 0, .int .i64 0, .int .i64 0] : List Value).toArray) := by unfold zeroIs; kernel_rfl

/-- the form that goes first -/
def opAB : OpX := { kind := 8, at_ := 0, many := 0, most := 2, each := 0, v := vS [97, 98], ps := [], dA := none, dC := 0, qA := none, qC := 0, pA := none, pC := 0, sA := none, sC := 0 }
theorem opAB_ok {w0 : World} {R : List Seg} : OpOK w0 R opAB := ⟨op_z2, by decide, (fun d hd => by cases hd), Rc.nil, Rc.nil, Nat.le_refl 0, Rc.nil, op_z, op_z, op_z, by decide⟩
theorem ob_buildAB (w : World) : (Instr.build 38 #[(0, .int .i64 8), (8, strV [97, 98]), (10, .int .i64 2)]).run Try.prog w = .ok (.agg (opC opAB).toArray) w := by kernel_rfl
theorem ob_bsO (o : OpX) (w : World) : (Instr.buildSlice 23 1 #[(0, .agg (opC o).toArray)]).run Try.prog w = .ok (.slice (some ⟨w.heap.size, 0, none⟩) 1 1) (w.alloc (.cells (opC o).toArray 38)) := by kernel_rfl
theorem ob_one (o : OpX) : ∀ v ∈ opC o, v.oneCell' = true := by
  intro v hv
  simp only [opC, List.mem_cons, List.not_mem_nil, or_false] at hv
  rcases hv with rfl | rfl | rfl | rfl | rfl | rfl | rfl | rfl | rfl | rfl | rfl | rfl <;> rfl
theorem ob_elem : elemInfo Try.prog 38 12 168 := elemInfo_of (z := .agg (opC { opAB with kind := 0, most := 0, v := vals0 }).toArray) (by kernel_rfl) (by kernel_rfl)
def laidOf (os : List OpX) : List OpX := opAB :: (os.map manyX).filter (fun o => decide (laysE o = 0))
theorem laidOf_take {os : List OpX} {i : Nat} {o : OpX} (h : os[i]? = some o) : laidOf (os.take (i + 1)) = laidOf (os.take i) ++ (if laysE (manyX o) = 0 then [manyX o] else []) := by
  unfold laidOf
  rw [List.take_add_one, h, List.map_append, List.filter_append, List.cons_append]
  congr 2
  by_cases hE : laysE (manyX o) = 0
  · simp [hE]
  · simp [hE]
theorem manyX_ok {w0 : World} {R : List Seg} {o : OpX} (h : OpOK w0 R o) : OpOK w0 R (manyX o) := by
  have h1 := h.dsl
  have h2 := h.pl
  refine ⟨h.n, ?_, h.d32, h.ds, h.p, h.pc, h.ss, h.dsl, h.ssl, h.pl, h.sl⟩
  show _ ≤ (if o.kind = 6 then (o.v.ds.length : Int) else (o.v.p.length : Int)) ∧ (if o.kind = 6 then (o.v.ds.length : Int) else (o.v.p.length : Int)) ≤ _
  split <;> omega
theorem cost_le {os : List OpX} {i : Nat} {o : OpX} (h : os[i]? = some o) : opCost o ≤ (os.map opCost).sum := by
  have h1 := sum_take_le opCost os (i + 1)
  rw [List.take_add_one, h, List.map_append, List.sum_append] at h1
  simp only [Option.toList_some, List.map_cons, List.map_nil, List.sum_cons, List.sum_nil] at h1
  omega
theorem laysL_many (o : OpX) : laysL (manyX o) = laysL o := rfl
theorem laid_le (os : List OpX) (h : ∀ o ∈ os, ∀ d ∈ o.v.ds, d.length = 32) : (((os.map manyX).filter (fun o => decide (laysE o = 0))).flatMap laysL).length ≤ 2 * (os.map opCost).sum := by
  induction os with
  | nil => exact Nat.le_refl _
  | cons o os ih =>
    have ih := ih (fun o ho => h o (List.mem_cons_of_mem _ ho))
    have h1 := (lays_size o (h o (List.mem_cons_self ..))).2
    rw [List.map_cons, List.map_cons, List.sum_cons, List.filter_cons]
    split
    · rw [List.flatMap_cons, List.length_append, laysL_many]; omega
    · omega
theorem laid_bytes (os : List OpX) (i : Nat) (h : ∀ o ∈ os, ∀ d ∈ o.v.ds, d.length = 32) : ((laidOf (os.take i)).flatMap laysL).length ≤ 4 + 2 * (os.map opCost).sum := by
  have h1 := laid_le (os.take i) (fun o ho => h o (List.mem_of_mem_take ho))
  have h2 := sum_take_le opCost os i
  have h3 : (laysL opAB).length = 4 := by decide
  unfold laidOf
  rw [List.flatMap_cons, List.length_append, h3]; omega
theorem laid_count (os : List OpX) (i : Nat) : (laidOf (os.take i)).length ≤ i + 1 := by
  unfold laidOf
  have h1 := List.length_filter_le (fun o => decide (laysE o = 0)) ((os.take i).map manyX)
  rw [List.length_map, List.length_take] at h1
  rw [List.length_cons]; omega
theorem laid_facts {w0 : World} (os : List OpX) (h : ∀ o ∈ os, OpOK w0 [] o) : ∀ o ∈ laidOf os, OpOK w0 [] o ∧ (o.many = if o.kind = 6 then (o.v.ds.length : Int) else (o.v.p.length : Int)) ∧ laysE o = 0 := by
  intro o ho
  rcases List.mem_cons.1 ho with rfl | ho
  · exact ⟨opAB_ok, rfl, by decide⟩
  · obtain ⟨h1, h2⟩ := List.mem_filter.1 ho
    obtain ⟨u, hu, rfl⟩ := List.mem_map.1 h1
    exact ⟨manyX_ok (h u hu), rfl, of_decide_eq_true h2⟩
theorem flat_le_all (L : List OpX) (i : Nat) : ((L.take i).flatMap laysL).length ≤ (L.flatMap laysL).length := by
  have h : L.flatMap laysL = (L.take i).flatMap laysL ++ (L.drop i).flatMap laysL := by rw [← List.flatMap_append, List.take_append_drop]
  rw [h, List.length_append]; omega
theorem flat_drop {L : List OpX} {i : Nat} {o : OpX} (ho : L[i]? = some o) : (L.flatMap laysL).drop ((L.take i).flatMap laysL).length = laysL o ++ (L.drop (i + 1)).flatMap laysL := by
  have h : L.flatMap laysL = (L.take i).flatMap laysL ++ (L.drop i).flatMap laysL := by rw [← List.flatMap_append, List.take_append_drop]
  have hd : L.drop i = o :: L.drop (i + 1) := by
    have hi := (List.getElem?_eq_some_iff.1 ho)
    rw [List.drop_eq_getElem_cons hi.1, hi.2]
  rw [h, List.drop_left, hd, List.flatMap_cons]

set_option maxRecDepth 100000 in
set_option maxHeartbeats 2000000 in
theorem law_back (w0 : World) (sA : Option Addr) (sC : Nat) (os : List OpX) (hOs : ∀ o ∈ os, OpOK w0 [] o ∧ OpMore w0 [] o) (hS : Rc w0 [] sA (os.map opC).flatten) (hn : os.length ≤ 9223372036854775807) : Calls Try.prog 7 #[.slice sA os.length sC] w0 fun e w' => e = .returned (.bool true) ∧ At w0 [] w' := by
  have hA : Hp w0 [] w0 := Hp.start w0
  refine vc_enter Try.func7 rfl Try.ntmps7 (Nat.le_of_ble_eq_true rfl) (fun a hF => ?_)
  apply wp_seq_k; intro K1 hK1
  refine wp_region_lit ?_
  refine vc_y hF rfl rfl (by decide) _ (y_assign rfl rfl) (fun a hF => ?_)
  refine vc_nil ?_
  refine hK1 _ _ ?_; clear  hK1 K1
  apply wp_seq_k; intro K2 hK2
  apply wp_seq_k; intro K3 hK3
  refine wp_region_lit ?_
  refine vc_y hF rfl rfl (by decide) _ (y_move rfl rfl) (fun a hF => ?_)
  refine vc_op rfl (fun K hK => ws_call hF rfl (by decide) cl12_ob rfl rfl ?_)
  with_reducible refine (op_beyond w0 _ _ sA sC os hOs hS hA hn ).mono ?_
  rintro e' w1 ⟨b0, rfl, hb0, hA2⟩
  refine ⟨_, rfl, fun a hF => hK _ _ ?_⟩
  clear hK K
  replace hA2 : Hp w0 ([]) w1 := hA2
  refine vc_nil ?_
  refine hK3 _ _ ?_; clear  hK3 K3
  by_cases hbb : b0 = true
  · subst hbb
    refine vc_trueB hF rfl rfl ?_
    apply wp_seq_k; intro K4 hK4
    refine wp_region_lit ?_
    refine vc_y hF rfl rfl (by decide) _ (y_assign rfl rfl) (fun a hF => ?_)
    refine vc_nil ?_
    refine hK4 _ _ ?_; clear  hK4 K4
    apply wp_ret
    simp only [Exit.then]
    refine vc_ret1 hF Try.results7 rfl ?_
    exact ⟨rfl, hA2.at0⟩
  · obtain rfl : b0 = false := by simpa using hbb
    have hsum := hb0 rfl
    have h100 := sum_100 os
    refine vc_falseB hF rfl rfl ?_
    apply wp_skip
    refine hK2 _ _ ?_; clear  hK2 K2
    apply wp_seq_k; intro K5 hK5
    refine wp_region_lit ?_
    refine vc_op rfl (fun K hK => ws_call hF rfl (by decide) cl21_ob rfl rfl ?_)
    with_reducible refine (hw_new w0 _ _ hA2 ).mono ?_
    rintro e' w3 ⟨wb, Y, rfl, hY, hA4⟩
    refine ⟨_, rfl, fun a hF => hK _ _ ?_⟩
    clear hK K
    replace hA4 : Hp w0 (Y :: []) w3 := hA4
    refine vc_y hF rfl rfl (by decide) _ (y_assign rfl rfl) (fun a hF => ?_)
    refine vc_nil ?_
    refine hK5 _ _ ?_; clear  hK5 K5
    apply wp_seq_k; intro K6 hK6
    apply wp_seq_k; intro K7 hK7
    refine wp_region_lit ?_
    refine vc_y hF rfl rfl (by decide) _ (y_move rfl rfl) (fun a hF => ?_)
    refine vc_y hF rfl rfl (by decide) _ (y_eqNil rfl (by kernel_rfl) rfl rfl) (fun a hF => ?_)
    refine vc_y hF rfl rfl (by decide) _ (y_move rfl rfl) (fun a hF => ?_)
    refine vc_yg hF rfl rfl rfl rfl rfl (by decide) _ (y_move rfl rfl) (fun a hF => ?_)
    refine vc_yg hF rfl rfl rfl rfl rfl (by decide) _ (y_build (qs := #[(0, .int .i64 8), (8, strV [97, 98]), (10, .int .i64 2)]) rfl rfl ob_buildAB) (fun a hF => ?_)
    refine vc_opg hF rfl rfl rfl rfl (fun K hK => ws_call hF rfl (by decide) cl39_ob rfl rfl ?_)
    with_reducible refine (op_lays w0 _ [] wb [] Y opAB opAB_ok hY hA4 (by decide) ).mono ?_
    rintro e' w5 ⟨Y1, rfl, hY, hA6⟩
    refine ⟨_, rfl, fun a hF => hK _ _ ?_⟩
    clear hK K
    replace hA6 : Hp w0 (Y1 :: []) w5 := hA6
    rw [show decide (laysE opAB = 0) = true from by decide] at hF
    rw [List.nil_append] at hY
    refine vc_yg hF rfl rfl rfl rfl rfl (by decide) _ (y_not rfl rfl rfl) (fun a hF => ?_)
    refine vc_y hF rfl rfl (by decide) _ (y_pick rfl rfl rfl) (fun a hF => ?_)
    refine vc_nil ?_
    refine hK7 _ _ ?_; clear  hK7 K7
    refine vc_false hF rfl ?_
    apply wp_skip
    refine hK6 _ _ ?_; clear  hK6 K6
    apply wp_seq_k; intro K8 hK8
    refine wp_region_lit ?_
    refine vc_y hF rfl rfl (by decide) _ (y_build (qs := #[(0, .int .i64 8), (8, strV [97, 98]), (10, .int .i64 2)]) rfl rfl ob_buildAB) (fun a hF => ?_)
    refine vc_op rfl (fun K hK => hs_bs (qs := #[(0, .agg (opC opAB).toArray)]) (cells := (opC opAB).toArray) hF rfl (by decide) rfl hA6 rfl (ob_bsO opAB) (fun b7 w8 a hb7 hF hA9 => hK _ _ ?_))
    clear hK K
    replace hA9 : Hp w0 ([row b7 38 (opC opAB)] :: Y1 :: []) w8 := hA9
    refine vc_y hF rfl rfl (by decide) _ (y_assign rfl rfl) (fun a hF => ?_)
    refine vc_nil ?_
    refine hK8 _ _ ?_; clear  hK8 K8
    apply wp_seq_k; intro K9 hK9
    apply wp_seq_k; intro K10 hK10
    refine wp_region_lit ?_
    refine vc_y hF rfl rfl (by decide) _ (y_assign rfl rfl) (fun a hF => ?_)
    refine vc_nil ?_
    refine hK10 _ _ ?_; clear  hK10 K10
    apply wp_block
    have hZ0 : Buf 38 12 [row b7 38 (opC opAB)] (.slice (some ⟨b7, 0, none⟩) 1 1) (laidOf (os.take 0)).length ((laidOf (os.take 0)).map opC).flatten := by
      rw [List.take_zero]
      exact Buf.full (W := opC opAB) rfl
    refine vc_loop (G := Nat) (fun i a x => ∃ (vL : Value) (ZL : Seg) (YW : Seg), i ≤ os.length ∧ Buf 38 12 ZL vL (laidOf (os.take i)).length ((laidOf (os.take i)).map opC).flatten ∧ WrS wb ((laidOf (os.take i)).flatMap laysL) YW ∧ Fr 86 [(5, .int .i64 (i : Int)), (4, vL), (0, .slice sA os.length sC), (3, .pointer (some ⟨wb, 0, none⟩))] a ∧ Hp w0 (ZL :: YW :: []) x) (fun i => os.length - i) 0 (⟨_, _, _, Nat.zero_le _, hZ0, (by rw [List.take_zero]; exact hY), hF.keep [5, 4, 0, 3] rfl, hA9⟩) ?_
    clear hF
    rintro i a w11 ⟨vL, ZL, YW, hi, hZ, hY, hF, hA10⟩
    apply wp_seq_k; intro K11 hK11
    apply wp_seq_k; intro K12 hK12
    refine wp_region_lit ?_
    refine vc_y hF rfl rfl (by decide) _ (y_move rfl rfl) (fun a hF => ?_)
    refine vc_y hF rfl rfl (by decide) _ (y_move rfl rfl) (fun a hF => ?_)
    refine vc_y hF rfl rfl (by decide) _ (y_lenSl rfl Try.underlying23 rfl rfl) (fun a hF => ?_)
    refine vc_y hF rfl rfl (by decide) _ (y_cmp rfl rfl rfl rfl rfl) (fun a hF => ?_)
    refine vc_nil ?_
    refine hK12 _ _ ?_; clear  hK12 K12
    by_cases hlt : i < os.length
    · refine vc_trueB hF rfl (lss_t (by omega)) ?_
      obtain ⟨o, ho⟩ : ∃ o, os[i]? = some o := ⟨_, List.getElem?_eq_getElem hlt⟩
      obtain ⟨hok, _⟩ := hOs o (List.mem_of_getElem? ho)
      obtain ⟨hat, hle⟩ := flat_at (z := 12) (Ws := os.map opC) (V := opC o) (i := i) (fun V hV => by obtain ⟨u, _, rfl⟩ := List.mem_map.1 hV; rfl) (by rw [List.getElem?_map, ho]; rfl)
      obtain ⟨b, q, rfl, hc⟩ := hS.ne (i := i * 12) (by omega)
      have hT := laidOf_take ho
      have hszs := lays_size o hok.d32
      have hcost : opCost o ≤ (os.map opCost).sum := cost_le ho
      have hll : ((laidOf (os.take i)).flatMap laysL).length ≤ 4 + 2 * (os.map opCost).sum := laid_bytes os i (fun o ho => (hOs o ho).1.d32)
      have hcnt : (laidOf (os.take i)).length ≤ i + 1 := laid_count os i
      apply wp_skip
      refine hK11 _ _ ?_; clear  hK11 K11
      apply wp_seq_k; intro K13 hK13
      apply wp_block
      apply wp_seq_k; intro K14 hK14
      refine wp_region_lit ?_
      refine vc_y hF rfl rfl (by decide) _ (y_move rfl rfl) (fun a hF => ?_)
      refine vc_y hF rfl rfl (by decide) _ (y_move rfl rfl) (fun a hF => ?_)
      refine vc_y hF rfl rfl (by decide) _ (y_ixSl rfl Try.underlying23 sz38_ob rfl rfl i rfl hlt rfl) (fun a hF => ?_)
      refine vc_y hF rfl rfl (by decide) _ (y_ldRowC (new := opC o) rfl (Hq.sub hA10.q (List.nil_subset _)) rfl hc (i * 12) hle rfl hat rw38_ob) (fun a hF => ?_)
      refine vc_op rfl (fun K hK => hs_alloc hF rfl (by decide) rfl hA10 (zr38_ob) (fun b12 w13 a hb12 hF hA14 => hK _ _ ?_))
      clear hK K
      replace hA14 : Hp w0 ([row b12 38 [.int .i64 0, .int .i64 0, .int .u64 0, .int .i64 0, .bool false, .slice none 0 0, .slice none 0 0, .slice none 0 0, .string (⟨#[]⟩), .slice none 0 0, .int .i64 0, .int .i64 0]] :: ZL :: YW :: []) w13 := hA14
      refine vc_op rfl (fun K hK => hs_storeAll (new := [.int .i64 o.kind, .int .i64 o.at_, .int .u64 (o.v.n : Int), .int .i64 o.many, .bool o.v.b, .slice o.dA o.v.ds.length o.dC, .slice o.qA o.ps.length o.qC, .slice o.pA o.v.p.length o.pC, strV o.v.s, .slice o.sA o.v.ss.length o.sC, .int .i64 o.most, .int .i64 o.each]) hF rfl rfl hA14 rfl rfl 0 rfl rfl (by simp [Value.oneCell']) sz38_ob (fun w15 hA16 => hK _ _ ?_))
      clear hK K
      replace hA16 : Hp w0 ([row b12 38 [.int .i64 o.kind, .int .i64 o.at_, .int .u64 (o.v.n : Int), .int .i64 o.many, .bool o.v.b, .slice o.dA o.v.ds.length o.dC, .slice o.qA o.ps.length o.qC, .slice o.pA o.v.p.length o.pC, strV o.v.s, .slice o.sA o.v.ss.length o.sC, .int .i64 o.most, .int .i64 o.each]] :: ZL :: YW :: []) w15 := hA16
      refine vc_nil ?_
      refine hK14 _ _ ?_; clear  hK14 K14
      apply wp_seq_k; intro K15 hK15
      refine wp_region_lit ?_
      refine vc_y hF rfl rfl (by decide) _ (y_field rfl Try.underlying38 rfl sz35_ob (by decide) rfl (rfl : (⟨_, 0 + _, none⟩ : Addr) = ⟨_, 7, none⟩)) (fun a hF => ?_)
      refine vc_y hF rfl rfl (by decide) _ (y_ld rfl hA16.q rfl 0 rfl rfl nr35_ob) (fun a hF => ?_)
      refine vc_y hF rfl rfl (by decide) _ (y_lenSl rfl Try.underlying35 rfl rfl) (fun a hF => ?_)
      refine vc_y hF rfl rfl (by decide) _ (y_field rfl Try.underlying38 rfl sz3_ob (by decide) rfl (rfl : (⟨_, 0 + _, none⟩ : Addr) = ⟨_, 3, none⟩)) (fun a hF => ?_)
      refine vc_op rfl (fun K hK => hs_store1 hF rfl rfl hA16 rfl rfl 0 rfl (by simp) rfl sz3_ob (fun w17 hA18 => hK _ _ ?_))
      clear hK K
      replace hA18 : Hp w0 ([row b12 38 [.int .i64 o.kind, .int .i64 o.at_, .int .u64 (o.v.n : Int), .int .i64 o.v.p.length, .bool o.v.b, .slice o.dA o.v.ds.length o.dC, .slice o.qA o.ps.length o.qC, .slice o.pA o.v.p.length o.pC, strV o.v.s, .slice o.sA o.v.ss.length o.sC, .int .i64 o.most, .int .i64 o.each]] :: ZL :: YW :: []) w17 := hA18
      refine vc_nil ?_
      refine hK15 _ _ ?_; clear  hK15 K15
      apply wp_seq_k; intro K16 hK16
      apply wp_seq_k; intro K17 hK17
      refine wp_region_lit ?_
      refine vc_y hF rfl rfl (by decide) _ (y_field rfl Try.underlying38 rfl sz3_ob (by decide) rfl (rfl : (⟨_, 0 + _, none⟩ : Addr) = ⟨_, 0, none⟩)) (fun a hF => ?_)
      refine vc_y hF rfl rfl (by decide) _ (y_ld rfl hA18.q rfl 0 rfl rfl nr3_ob) (fun a hF => ?_)
      refine vc_y hF rfl rfl (by decide) _ (y_cmp rfl rfl rfl rfl rfl) (fun a hF => ?_)
      refine vc_nil ?_
      refine hK17 _ _ ?_; clear  hK17 K17
      by_cases h6 : o.kind = 6
      · refine vc_trueB hF rfl (eql_t (by omega)) ?_
        refine wp_region_lit ?_
        refine vc_y hF rfl rfl (by decide) _ (y_field rfl Try.underlying38 rfl sz34_ob (by decide) rfl (rfl : (⟨_, 0 + _, none⟩ : Addr) = ⟨_, 5, none⟩)) (fun a hF => ?_)
        refine vc_y hF rfl rfl (by decide) _ (y_ld rfl hA18.q rfl 0 rfl rfl nr34_ob) (fun a hF => ?_)
        refine vc_y hF rfl rfl (by decide) _ (y_lenSl rfl Try.underlying34 rfl rfl) (fun a hF => ?_)
        refine vc_y hF rfl rfl (by decide) _ (y_field rfl Try.underlying38 rfl sz3_ob (by decide) rfl (rfl : (⟨_, 0 + _, none⟩ : Addr) = ⟨_, 3, none⟩)) (fun a hF => ?_)
        refine vc_op rfl (fun K hK => hs_store1 hF rfl rfl hA18 rfl rfl 0 rfl (by simp) rfl sz3_ob (fun w19 hA20 => hK _ _ ?_))
        clear hK K
        replace hA20 : Hp w0 ([row b12 38 [.int .i64 o.kind, .int .i64 o.at_, .int .u64 (o.v.n : Int), .int .i64 o.v.ds.length, .bool o.v.b, .slice o.dA o.v.ds.length o.dC, .slice o.qA o.ps.length o.qC, .slice o.pA o.v.p.length o.pC, strV o.v.s, .slice o.sA o.v.ss.length o.sC, .int .i64 o.most, .int .i64 o.each]] :: ZL :: YW :: []) w19 := hA20
        refine vc_nil ?_
        refine hK16 _ _ ?_; clear  hK16 K16
        apply wp_seq_k; intro K18 hK18
        obtain ⟨o1, ho1⟩ : ∃ o1, o1 = manyX o := ⟨_, rfl⟩
        have e1 : o1 = { o with many := (o.v.ds.length : Int) } := by rw [ho1, manyX, if_pos h6]
        have hv1 : o1.v = o.v := by rw [e1]
        have hok1 : OpOK w0 [] o1 := ho1 ▸ manyX_ok hok
        rw [← ho1] at hT
        have hA21 : Hp w0 ([row b12 38 (opC o1)] :: ZL :: YW :: []) w19 := by rw [e1]; exact hA20
        refine wp_region_lit ?_
        refine vc_y hF rfl rfl (by decide) _ (y_move rfl rfl) (fun a hF => ?_)
        refine vc_y hF rfl rfl (by decide) _ (y_ldRow (new := opC o1) rfl hA21.q rfl 0 rfl rw38_ob (by rw [show (opC o1).length = 12 from rfl]; exact Nat.le_refl _) (by rw [List.drop_zero]; exact List.take_of_length_le (by rw [show (opC o1).length = 12 from rfl]; exact Nat.le_refl _))) (fun a hF => ?_)
        have hA22 : Hp w0 (YW :: [row b12 38 (opC o1)] :: ZL :: []) w19 := Hp.ord [[row b12 38 (opC o1)], ZL, YW] [] [2, 0, 1] hA21 rfl
        refine vc_op rfl (fun K hK => ws_call hF rfl (by decide) cl39_ob rfl rfl ?_)
        with_reducible refine (op_lays w0 _ ([row b12 38 (opC o1)] :: ZL :: []) wb _ YW o1 (hok1.mono (List.nil_subset _)) hY hA22 (by rw [hv1]; omega) ).mono ?_
        rintro e' w23 ⟨Y2, rfl, hY, hA24⟩
        refine ⟨_, rfl, fun a hF => hK _ _ ?_⟩
        clear hK K
        replace hA24 : Hp w0 (Y2 :: [row b12 38 (opC o1)] :: ZL :: []) w23 := hA24
        refine vc_nil ?_
        refine hK18 _ _ ?_; clear  hK18 K18
        by_cases hE : laysE o1 = 0
        · rw [if_pos hE] at hT
          refine vc_trueB hF rfl (decide_eq_true hE) ?_
          refine wp_region_lit ?_
          refine vc_y hF rfl rfl (by decide) _ (y_move rfl rfl) (fun a hF => ?_)
          refine vc_y hF rfl rfl (by decide) _ (y_ldRow (new := opC o1) rfl hA24.q rfl 1 rfl rw38_ob (by rw [show (opC o1).length = 12 from rfl]; exact Nat.le_refl _) (by rw [List.drop_zero]; exact List.take_of_length_le (by rw [show (opC o1).length = 12 from rfl]; exact Nat.le_refl _))) (fun a hF => ?_)
          refine vc_op rfl (fun K hK => hs_bs (qs := #[(0, .agg (opC o1).toArray)]) (cells := (opC o1).toArray) hF rfl (by decide) rfl hA24 rfl (ob_bsO o1) (fun b25 w26 a hb25 hF hA27 => hK _ _ ?_))
          clear hK K
          replace hA27 : Hp w0 ([row b25 38 (opC o1)] :: Y2 :: [row b12 38 (opC o1)] :: ZL :: []) w26 := hA27
          refine vc_op rfl (fun K hK => hs_append hF rfl (by decide) rfl hA27 3 rfl hZ Try.underlying23 ob_elem rfl rfl (Rc.srcC (W := opC o1) (m := 1) (size := 12) (R := [row b25 38 (opC o1)] :: Y2 :: [row b12 38 (opC o1)] :: ZL :: []) (Rc.ofRow (i := 0) (off := 0) rfl rfl) hA27.q Try.underlying23 (by decide) rfl (ob_one o1)) (by omega) (by decide) (fun v2 Z2 w28 a hZ2 hF hA29 => hK _ _ ?_))
          clear hK K
          replace hA29 : Hp w0 ([row b25 38 (opC o1)] :: Y2 :: [row b12 38 (opC o1)] :: Z2 :: []) w28 := hA29
          replace hZ2 : Buf 38 12 Z2 v2 (laidOf (os.take (i + 1))).length ((laidOf (os.take (i + 1))).map opC).flatten := by
            rw [hT, List.length_append, List.map_append, List.flatten_append]
            simpa using hZ2
          rw [show (laidOf (os.take i)).flatMap laysL ++ laysL o1 = (laidOf (os.take (i + 1))).flatMap laysL by rw [hT, List.flatMap_append]; simp] at hY
          refine vc_y hF rfl rfl (by decide) _ (y_assign rfl rfl) (fun a hF => ?_)
          refine vc_nil ?_
          refine hK13 _ _ ?_; clear  hK13 K13
          refine wp_region_lit ?_
          refine vc_y hF rfl rfl (by decide) _ (y_move rfl rfl) (fun a hF => ?_)
          refine vc_y hF rfl rfl (by decide) _ (y_add rfl rfl rfl (IntWalk.i64_in _ (by omega))) (fun a hF => ?_)
          refine vc_y hF rfl rfl (by decide) _ (y_assign rfl rfl) (fun a hF => ?_)
          refine vc_nil ?_
          have hA30 : Hp w0 (Z2 :: Y2 :: []) w28 := Hp.sel [[row b25 38 (opC o1)], Y2, [row b12 38 (opC o1)], Z2] [] [3, 1] [0, 2] hA29 rfl
          exact ⟨i + 1, by omega, v2, Z2, Y2, by omega, hZ2, hY, hF.keep [5, 4, 0, 3] rfl, hA30⟩
        · rw [if_neg hE, List.append_nil] at hT
          rw [lays_none hE, List.append_nil, ← hT] at hY
          rw [← hT] at hZ
          refine vc_falseB hF rfl (decide_eq_false hE) ?_
          apply wp_skip
          refine hK13 _ _ ?_; clear  hK13 K13
          refine wp_region_lit ?_
          refine vc_y hF rfl rfl (by decide) _ (y_move rfl rfl) (fun a hF => ?_)
          refine vc_y hF rfl rfl (by decide) _ (y_add rfl rfl rfl (IntWalk.i64_in _ (by omega))) (fun a hF => ?_)
          refine vc_y hF rfl rfl (by decide) _ (y_assign rfl rfl) (fun a hF => ?_)
          refine vc_nil ?_
          have hA31 : Hp w0 (ZL :: Y2 :: []) w23 := Hp.sel [Y2, [row b12 38 (opC o1)], ZL] [] [2, 0] [1] hA24 rfl
          exact ⟨i + 1, by omega, vL, ZL, Y2, by omega, hZ, hY, hF.keep [5, 4, 0, 3] rfl, hA31⟩
      · refine vc_falseB hF rfl (eql_f (by omega)) ?_
        apply wp_skip
        refine hK16 _ _ ?_; clear  hK16 K16
        apply wp_seq_k; intro K19 hK19
        obtain ⟨o1, ho1⟩ : ∃ o1, o1 = manyX o := ⟨_, rfl⟩
        have e1 : o1 = { o with many := (o.v.p.length : Int) } := by rw [ho1, manyX, if_neg h6]
        have hv1 : o1.v = o.v := by rw [e1]
        have hok1 : OpOK w0 [] o1 := ho1 ▸ manyX_ok hok
        rw [← ho1] at hT
        have hA32 : Hp w0 ([row b12 38 (opC o1)] :: ZL :: YW :: []) w17 := by rw [e1]; exact hA18
        refine wp_region_lit ?_
        refine vc_y hF rfl rfl (by decide) _ (y_move rfl rfl) (fun a hF => ?_)
        refine vc_y hF rfl rfl (by decide) _ (y_ldRow (new := opC o1) rfl hA32.q rfl 0 rfl rw38_ob (by rw [show (opC o1).length = 12 from rfl]; exact Nat.le_refl _) (by rw [List.drop_zero]; exact List.take_of_length_le (by rw [show (opC o1).length = 12 from rfl]; exact Nat.le_refl _))) (fun a hF => ?_)
        have hA33 : Hp w0 (YW :: [row b12 38 (opC o1)] :: ZL :: []) w17 := Hp.ord [[row b12 38 (opC o1)], ZL, YW] [] [2, 0, 1] hA32 rfl
        refine vc_op rfl (fun K hK => ws_call hF rfl (by decide) cl39_ob rfl rfl ?_)
        with_reducible refine (op_lays w0 _ ([row b12 38 (opC o1)] :: ZL :: []) wb _ YW o1 (hok1.mono (List.nil_subset _)) hY hA33 (by rw [hv1]; omega) ).mono ?_
        rintro e' w34 ⟨Y2, rfl, hY, hA35⟩
        refine ⟨_, rfl, fun a hF => hK _ _ ?_⟩
        clear hK K
        replace hA35 : Hp w0 (Y2 :: [row b12 38 (opC o1)] :: ZL :: []) w34 := hA35
        refine vc_nil ?_
        refine hK19 _ _ ?_; clear  hK19 K19
        by_cases hE : laysE o1 = 0
        · rw [if_pos hE] at hT
          refine vc_trueB hF rfl (decide_eq_true hE) ?_
          refine wp_region_lit ?_
          refine vc_y hF rfl rfl (by decide) _ (y_move rfl rfl) (fun a hF => ?_)
          refine vc_y hF rfl rfl (by decide) _ (y_ldRow (new := opC o1) rfl hA35.q rfl 1 rfl rw38_ob (by rw [show (opC o1).length = 12 from rfl]; exact Nat.le_refl _) (by rw [List.drop_zero]; exact List.take_of_length_le (by rw [show (opC o1).length = 12 from rfl]; exact Nat.le_refl _))) (fun a hF => ?_)
          refine vc_op rfl (fun K hK => hs_bs (qs := #[(0, .agg (opC o1).toArray)]) (cells := (opC o1).toArray) hF rfl (by decide) rfl hA35 rfl (ob_bsO o1) (fun b36 w37 a hb36 hF hA38 => hK _ _ ?_))
          clear hK K
          replace hA38 : Hp w0 ([row b36 38 (opC o1)] :: Y2 :: [row b12 38 (opC o1)] :: ZL :: []) w37 := hA38
          refine vc_op rfl (fun K hK => hs_append hF rfl (by decide) rfl hA38 3 rfl hZ Try.underlying23 ob_elem rfl rfl (Rc.srcC (W := opC o1) (m := 1) (size := 12) (R := [row b36 38 (opC o1)] :: Y2 :: [row b12 38 (opC o1)] :: ZL :: []) (Rc.ofRow (i := 0) (off := 0) rfl rfl) hA38.q Try.underlying23 (by decide) rfl (ob_one o1)) (by omega) (by decide) (fun v2 Z2 w39 a hZ2 hF hA40 => hK _ _ ?_))
          clear hK K
          replace hA40 : Hp w0 ([row b36 38 (opC o1)] :: Y2 :: [row b12 38 (opC o1)] :: Z2 :: []) w39 := hA40
          replace hZ2 : Buf 38 12 Z2 v2 (laidOf (os.take (i + 1))).length ((laidOf (os.take (i + 1))).map opC).flatten := by
            rw [hT, List.length_append, List.map_append, List.flatten_append]
            simpa using hZ2
          rw [show (laidOf (os.take i)).flatMap laysL ++ laysL o1 = (laidOf (os.take (i + 1))).flatMap laysL by rw [hT, List.flatMap_append]; simp] at hY
          refine vc_y hF rfl rfl (by decide) _ (y_assign rfl rfl) (fun a hF => ?_)
          refine vc_nil ?_
          refine hK13 _ _ ?_; clear  hK13 K13
          refine wp_region_lit ?_
          refine vc_y hF rfl rfl (by decide) _ (y_move rfl rfl) (fun a hF => ?_)
          refine vc_y hF rfl rfl (by decide) _ (y_add rfl rfl rfl (IntWalk.i64_in _ (by omega))) (fun a hF => ?_)
          refine vc_y hF rfl rfl (by decide) _ (y_assign rfl rfl) (fun a hF => ?_)
          refine vc_nil ?_
          have hA41 : Hp w0 (Z2 :: Y2 :: []) w39 := Hp.sel [[row b36 38 (opC o1)], Y2, [row b12 38 (opC o1)], Z2] [] [3, 1] [0, 2] hA40 rfl
          exact ⟨i + 1, by omega, v2, Z2, Y2, by omega, hZ2, hY, hF.keep [5, 4, 0, 3] rfl, hA41⟩
        · rw [if_neg hE, List.append_nil] at hT
          rw [lays_none hE, List.append_nil, ← hT] at hY
          rw [← hT] at hZ
          refine vc_falseB hF rfl (decide_eq_false hE) ?_
          apply wp_skip
          refine hK13 _ _ ?_; clear  hK13 K13
          refine wp_region_lit ?_
          refine vc_y hF rfl rfl (by decide) _ (y_move rfl rfl) (fun a hF => ?_)
          refine vc_y hF rfl rfl (by decide) _ (y_add rfl rfl rfl (IntWalk.i64_in _ (by omega))) (fun a hF => ?_)
          refine vc_y hF rfl rfl (by decide) _ (y_assign rfl rfl) (fun a hF => ?_)
          refine vc_nil ?_
          have hA42 : Hp w0 (ZL :: Y2 :: []) w34 := Hp.sel [Y2, [row b12 38 (opC o1)], ZL] [] [2, 0] [1] hA35 rfl
          exact ⟨i + 1, by omega, vL, ZL, Y2, by omega, hZ, hY, hF.keep [5, 4, 0, 3] rfl, hA42⟩
    · refine vc_falseB hF rfl (lss_f (by omega)) ?_
      obtain rfl : i = os.length := by omega
      rw [List.take_length] at hZ hY
      have hll : ((laidOf os).flatMap laysL).length ≤ 4 + 2 * (os.map opCost).sum := by
        have h1 := laid_bytes os os.length (fun o ho => (hOs o ho).1.d32)
        rwa [List.take_length] at h1
      have hlaid := laid_facts os (fun o ho => (hOs o ho).1)
      have hcnt := laid_count os os.length
      rw [List.take_length] at hcnt
      obtain ⟨L, hL⟩ : ∃ L, L = laidOf os := ⟨_, rfl⟩
      rw [← hL] at hZ hY hll hlaid hcnt
      obtain ⟨l, hl⟩ : ∃ l, l = L.flatMap laysL := ⟨_, rfl⟩
      rw [← hl] at hY hll
      apply wp_exit
      refine hK9 _ _ ?_; clear hK11 K11 hK9 K9
      apply wp_seq_k; intro K20 hK20
      refine wp_region_lit ?_
      refine vc_y hF rfl rfl (by decide) _ (y_move rfl rfl) (fun a hF => ?_)
      have hA43 : Hp w0 (YW :: ZL :: []) w11 := Hp.ord [ZL, YW] [] [1, 0] hA10 rfl
      refine vc_op rfl (fun K hK => ws_call hF rfl (by decide) cl23_ob rfl rfl ?_)
      with_reducible refine (hw_all w0 _ _ wb l YW hY hA43 (by omega) ).mono ?_
      rintro e' w44 ⟨va, ZA, Y3, rfl, hZA, hY, hA45⟩
      refine ⟨_, rfl, fun a hF => hK _ _ ?_⟩
      clear hK K
      replace hA45 : Hp w0 (ZA :: Y3 :: ZL :: []) w44 := hA45
      obtain ⟨_, A0, c0, rfl, _, hR0⟩ := hZA.rd (w0 := w0) (R := [ZA]) (List.mem_cons_self ..)
      refine vc_op rfl (fun K hK => ws_call hF rfl (by decide) cl26_ob rfl rfl ?_)
      with_reducible refine (hr_read w0 _ _ A0 l c0 (hR0.mono (by simp)) hA45 (by omega) ).mono ?_
      rintro e' w46 ⟨rb, A, c, X, rfl, hO, hA47⟩
      refine ⟨_, rfl, fun a hF => hK _ _ ?_⟩
      clear hK K
      replace hA47 : Hp w0 ([row rb 95 [.slice A l.length c, .int .i64 ((0 : Nat) : Int), .int .i64 ((0 : Nat) : Int)]] :: X :: ZA :: Y3 :: ZL :: []) w46 := hA47
      refine vc_y hF rfl rfl (by decide) _ (y_assign rfl rfl) (fun a hF => ?_)
      refine vc_nil ?_
      refine hK20 _ _ ?_; clear  hK20 K20
      apply wp_seq_k; intro K21 hK21
      apply wp_seq_k; intro K22 hK22
      refine wp_region_lit ?_
      refine vc_y hF rfl rfl (by decide) _ (y_move rfl rfl) (fun a hF => ?_)
      refine vc_y hF rfl rfl (by decide) _ (y_eqNil rfl (by kernel_rfl) rfl rfl) (fun a hF => ?_)
      refine vc_nil ?_
      refine hK22 _ _ ?_; clear  hK22 K22
      refine vc_false hF rfl ?_
      apply wp_skip
      refine hK21 _ _ ?_; clear  hK21 K21
      apply wp_seq_k; intro K23 hK23
      apply wp_seq_k; intro K24 hK24
      refine wp_region_lit ?_
      refine vc_y hF rfl rfl (by decide) _ (y_assign rfl rfl) (fun a hF => ?_)
      refine vc_nil ?_
      refine hK24 _ _ ?_; clear  hK24 K24
      apply wp_block
      obtain ⟨AL, cL, rfl, hcL, hRL⟩ := hZ.rc (w0 := w0) (R := [ZL]) (List.mem_cons_self ..)
      have hA48 : Hp w0 ([row rb 95 [.slice A l.length c, .int .i64 ((0 : Nat) : Int), .int .i64 ((0 : Nat) : Int)]] :: X :: ZL :: []) w46 := Hp.sel [[row rb 95 [.slice A l.length c, .int .i64 ((0 : Nat) : Int), .int .i64 ((0 : Nat) : Int)]], X, ZA, Y3, ZL] [] [0, 1, 4] [2, 3] hA47 rfl
      refine vc_loop (G := Nat) (fun i a x => ∃ (p : Nat), i ≤ L.length ∧ p = ((L.take i).flatMap laysL).length ∧ Fr 86 [(8, .int .i64 (i : Int)), (4, .slice AL L.length cL), (7, .pointer (some ⟨rb, 0, none⟩))] a ∧ Hp w0 ([row rb 95 [.slice A l.length c, .int .i64 (p : Int), .int .i64 ((0 : Nat) : Int)]] :: X :: ZL :: []) x) (fun i => L.length - i) 0 (⟨0, Nat.zero_le _, rfl, hF.keep [8, 4, 7] rfl, hA48⟩) ?_
      clear hF
      rintro i a w50 ⟨p, hi, hp, hF, hA49⟩
      apply wp_seq_k; intro K25 hK25
      apply wp_seq_k; intro K26 hK26
      refine wp_region_lit ?_
      refine vc_y hF rfl rfl (by decide) _ (y_move rfl rfl) (fun a hF => ?_)
      refine vc_y hF rfl rfl (by decide) _ (y_move rfl rfl) (fun a hF => ?_)
      refine vc_y hF rfl rfl (by decide) _ (y_lenSl rfl Try.underlying23 rfl rfl) (fun a hF => ?_)
      refine vc_y hF rfl rfl (by decide) _ (y_cmp rfl rfl rfl rfl rfl) (fun a hF => ?_)
      refine vc_nil ?_
      refine hK26 _ _ ?_; clear  hK26 K26
      by_cases hlt : i < L.length
      · refine vc_trueB hF rfl (lss_t (by omega)) ?_
        obtain ⟨o, ho⟩ : ∃ o, L[i]? = some o := ⟨_, List.getElem?_eq_getElem hlt⟩
        obtain ⟨hok, hm, hE⟩ := hlaid o (List.mem_of_getElem? ho)
        obtain ⟨hat, hle⟩ := flat_at (z := 12) (Ws := L.map opC) (V := opC o) (i := i) (fun V hV => by obtain ⟨u, _, rfl⟩ := List.mem_map.1 hV; rfl) (by rw [List.getElem?_map, ho]; rfl)
        obtain ⟨b, q, rfl, hc⟩ := hRL.ne (i := i * 12) (by omega)
        have hpl : p ≤ l.length := by rw [hp, hl]; exact flat_le_all L i
        have hdrop : l.drop p = laysL o ++ (L.drop (i + 1)).flatMap laysL := by rw [hp, hl]; exact flat_drop ho
        have hp1 : ((L.take (i + 1)).flatMap laysL).length = p + (laysL o).length := by rw [hp, List.take_add_one, ho, List.flatMap_append, List.length_append]; simp
        obtain ⟨v', hag, hal⟩ := back1 o hok.n hok.d32 hm hE ((L.drop (i + 1)).flatMap laysL)
        rw [← hdrop] at hag
        apply wp_skip
        refine hK25 _ _ ?_; clear  hK25 K25
        apply wp_seq_k; intro K27 hK27
        apply wp_block
        apply wp_seq_k; intro K28 hK28
        refine wp_region_plan 16 [9,10,14,16] [0,1,2,3,4,5,6,7,8,9,10,11,12,13,14,15,16] (fun x => Hq w0 (ZL :: []) x) (by kernel_rfl) (by kernel_rfl) (Hq.drew (Hp.qp [[row rb 95 [.slice A l.length c, .int .i64 (p : Int), .int .i64 ((0 : Nat) : Int)]], X, ZL] [] [2] hA49)) ?_
        have hA51 := Hl.drew hA49
        refine vp_y hF rfl rfl rfl rfl (by decide) _ (fun x hx => y_move rfl rfl) (fun a hF => ?_)
        refine vp_y hF rfl rfl rfl rfl (by decide) _ (fun x hx => y_move rfl rfl) (fun a hF => ?_)
        refine vp_y hF rfl rfl rfl rfl (by decide) _ (fun x hx => y_ixSl rfl Try.underlying23 sz38_ob rfl rfl i rfl hlt rfl) (fun a hF => ?_)
        refine vp_y hF rfl rfl rfl rfl (by decide) _ (fun x hx => y_ldRowC (new := opC o) rfl hx rfl hc (i * 12) hle rfl hat rw38_ob) (fun a hF => ?_)
        refine vp_y hF rfl rfl rfl rfl (by decide) _ (fun x hx => y_move rfl rfl) (fun a hF => ?_)
        refine vp_y hF rfl rfl rfl rfl (by decide) _ (fun x hx => y_move rfl rfl) (fun a hF => ?_)
        refine vp_y hF rfl rfl rfl rfl (by decide) _ (fun x hx => y_move rfl rfl) (fun a hF => ?_)
        refine vp_y hF rfl rfl rfl rfl (by decide) _ (fun x hx => y_ixSl rfl Try.underlying23 sz38_ob rfl rfl i rfl hlt rfl) (fun a hF => ?_)
        refine vp_y hF rfl rfl rfl rfl (by decide) _ (fun x hx => y_ldRowC (new := opC o) rfl hx rfl hc (i * 12) hle rfl hat rw38_ob) (fun a hF => ?_)
        refine vp_l rfl rfl rfl (fun K hK => ws_call hF rfl (by decide) cl41_ob rfl rfl ?_)
        with_reducible refine (op_again w0 _ (ZL :: []) rb A l c p 0 X o [] hok hO hA51 hpl (by omega) ).mono ?_
        rintro e' w52 ⟨o', G, rfl, hk', hm', hmo', hea', hv', hok', hA53⟩
        refine ⟨_, rfl, fun a hF => hK _ _ (fun _ => ?_) ?_⟩
        · exact Hp.qp [G, [row rb 95 [.slice A l.length c, .int .i64 ((agR o (l.drop p)).pl p 0 : Nat), .int .i64 ((agR o (l.drop p)).why 0 : Nat)]], X, ZL] [] [3] hA53
        clear hK K
        replace hA53 : Hp w0 (G :: [row rb 95 [.slice A l.length c, .int .i64 ((agR o (l.drop p)).pl p 0 : Nat), .int .i64 ((agR o (l.drop p)).why 0 : Nat)]] :: X :: ZL :: []) w52 := hA53
        rw [hag] at hA53 hv'
        replace hA53 : Hp w0 (G :: [row rb 95 [.slice A l.length c, .int .i64 ((p + (laysL o).length : Nat) : Int), .int .i64 ((0 : Nat) : Int)]] :: X :: ZL :: []) w52 := hA53
        refine vp_l rfl rfl rfl (fun K hK => ws_call hF rfl (by decide) cl40_ob rfl rfl ?_)
        with_reducible refine (op_alike w0 _ _ o o' (hok.mono (List.nil_subset _)) (hok' _ (by simp)) hA53 ).mono ?_
        rintro e' w54 ⟨rfl, hA55⟩
        refine ⟨_, rfl, fun a hF => hK _ _ (fun _ => ?_) ?_⟩
        · exact Hp.qp [G, [row rb 95 [.slice A l.length c, .int .i64 ((p + (laysL o).length : Nat) : Int), .int .i64 ((0 : Nat) : Int)]], X, ZL] [] [3] hA55
        clear hK K
        replace hA55 : Hp w0 (G :: [row rb 95 [.slice A l.length c, .int .i64 ((p + (laysL o).length : Nat) : Int), .int .i64 ((0 : Nat) : Int)]] :: X :: ZL :: []) w54 := hA55
        rw [hal o' hv'] at hF
        refine vp_y hF rfl rfl rfl rfl (by decide) _ (fun x hx => y_not rfl rfl rfl) (fun a hF => ?_)
        refine vp_y hF rfl rfl rfl rfl (by decide) _ (fun x hx => y_move rfl rfl) (fun a hF => ?_)
        refine vp_yg hF rfl rfl rfl rfl rfl rfl rfl (by decide) _ (fun x hx => y_move rfl rfl) (fun a hF => ?_)
        have hA56 : Hp w0 ([row rb 95 [.slice A l.length c, .int .i64 ((p + (laysL o).length : Nat) : Int), .int .i64 ((0 : Nat) : Int)]] :: X :: G :: ZL :: []) w54 := Hp.ord [G, [row rb 95 [.slice A l.length c, .int .i64 ((p + (laysL o).length : Nat) : Int), .int .i64 ((0 : Nat) : Int)]], X, ZL] [] [1, 2, 0, 3] hA55 rfl
        refine vp_lg hF rfl rfl rfl rfl rfl rfl (fun K hK => ws_call hF rfl (by decide) cl31_ob rfl rfl ?_)
        with_reducible refine (hr_why w0 _ _ rb A l c (p + (laysL o).length) 0 X hO hA56 ).mono ?_
        rintro e' w57 ⟨rfl, hA58⟩
        refine ⟨_, rfl, fun a hF => hK _ _ (fun _ => ?_) ?_⟩
        · exact Hp.qp [[row rb 95 [.slice A l.length c, .int .i64 ((p + (laysL o).length : Nat) : Int), .int .i64 ((0 : Nat) : Int)]], X, G, ZL] [] [3] hA58
        clear hK K
        replace hA58 : Hp w0 ([row rb 95 [.slice A l.length c, .int .i64 ((p + (laysL o).length : Nat) : Int), .int .i64 ((0 : Nat) : Int)]] :: X :: G :: ZL :: []) w57 := hA58
        refine vp_yg hF rfl rfl rfl rfl rfl rfl rfl (by decide) _ (fun x hx => y_cmp rfl rfl rfl rfl (neq_f rfl)) (fun a hF => ?_)
        refine vp_ly hF rfl rfl rfl rfl (by decide) _ (y_pick rfl rfl rfl) (fun h => absurd h (by decide)) (fun a hF => ?_)
        refine plan_end ?_
        refine hK28 _ _ ?_; clear  hK28 K28
        refine vc_false hF rfl ?_
        apply wp_skip
        refine hK27 _ _ ?_; clear  hK27 K27
        refine wp_region_lit ?_
        refine vc_y hF rfl rfl (by decide) _ (y_move rfl rfl) (fun a hF => ?_)
        refine vc_y hF rfl rfl (by decide) _ (y_add rfl rfl rfl (IntWalk.i64_in _ (by omega))) (fun a hF => ?_)
        refine vc_y hF rfl rfl (by decide) _ (y_assign rfl rfl) (fun a hF => ?_)
        refine vc_nil ?_
        have hA59 : Hp w0 ([row rb 95 [.slice A l.length c, .int .i64 ((p + (laysL o).length : Nat) : Int), .int .i64 ((0 : Nat) : Int)]] :: X :: ZL :: []) w57 := Hp.sel [[row rb 95 [.slice A l.length c, .int .i64 ((p + (laysL o).length : Nat) : Int), .int .i64 ((0 : Nat) : Int)]], X, G, ZL] [] [0, 1, 3] [2] hA58 rfl
        exact ⟨i + 1, by omega, p + (laysL o).length, by omega, hp1.symm, hF.keep [8, 4, 7] rfl, hA59⟩
      · refine vc_falseB hF rfl (lss_f (by omega)) ?_
        obtain rfl : i = L.length := by omega
        rw [List.take_length, ← hl] at hp
        subst hp
        apply wp_exit
        refine hK23 _ _ ?_; clear hK25 K25 hK23 K23
        apply wp_seq_k; intro K29 hK29
        refine wp_region_lit ?_
        refine vc_y hF rfl rfl (by decide) _ (y_move rfl rfl) (fun a hF => ?_)
        refine vc_op rfl (fun K hK => ws_call hF rfl (by decide) cl30_ob rfl rfl ?_)
        with_reducible refine (hr_done w0 _ _ rb A l c l.length 0 X hO hA49 (Nat.le_refl _) (by omega) ).mono ?_
        rintro e' w60 ⟨rfl, hA61⟩
        refine ⟨_, rfl, fun a hF => hK _ _ ?_⟩
        clear hK K
        replace hA61 : Hp w0 ([row rb 95 [.slice A l.length c, .int .i64 (l.length : Int), .int .i64 ((0 : Nat) : Int)]] :: X :: ZL :: []) w60 := hA61
        rw [if_neg (show ¬ (0 = 0 ∧ l.length < l.length) by omega)] at hF
        refine vc_y hF rfl rfl (by decide) _ (y_cmp rfl rfl rfl rfl (eql_t rfl)) (fun a hF => ?_)
        refine vc_y hF rfl rfl (by decide) _ (y_move rfl rfl) (fun a hF => ?_)
        refine vc_yg hF rfl rfl rfl rfl rfl (by decide) _ (y_move rfl rfl) (fun a hF => ?_)
        refine vc_opg hF rfl rfl rfl rfl (fun K hK => ws_call hF rfl (by decide) cl29_ob rfl rfl ?_)
        with_reducible refine (hr_left w0 _ _ rb A l c l.length 0 X hO hA61 (Nat.le_refl _) (by omega) ).mono ?_
        rintro e' w62 ⟨rfl, hA63⟩
        refine ⟨_, rfl, fun a hF => hK _ _ ?_⟩
        clear hK K
        replace hA63 : Hp w0 ([row rb 95 [.slice A l.length c, .int .i64 (l.length : Int), .int .i64 ((0 : Nat) : Int)]] :: X :: ZL :: []) w62 := hA63
        rw [Nat.sub_self] at hF
        refine vc_yg hF rfl rfl rfl rfl rfl (by decide) _ (y_cmp rfl rfl rfl rfl (eql_t rfl)) (fun a hF => ?_)
        refine vc_y hF rfl rfl (by decide) _ (y_pick rfl rfl rfl) (fun a hF => ?_)
        refine vc_y hF rfl rfl (by decide) _ (y_assign rfl rfl) (fun a hF => ?_)
        refine vc_nil ?_
        refine hK29 _ _ ?_; clear  hK29 K29
        apply wp_ret
        refine vc_ret1 hF Try.results7 rfl ?_
        exact ⟨rfl, hA63.at0⟩
end Go.Proofs.Ythphfbohhbkdgaa
