/- The statements' steps: what one lays, what one takes. -/
import Derived.Test.YthphfbohhbkdgaaOctetH
import Derived.Test.YthphfbohhbkdgaaBk
import Derived.Test.YthphfbohhbkdgaaHs
namespace Go.Proofs.Ythphfbohhbkdgaa
open Go.RowKit Go.Dk

/-- what a step bears -/
structure Vals where
  n : Nat
  b : Bool
  ds : List (List UInt8)
  p : List UInt8
  s : List UInt8
  ss : List (List UInt8)
def vals0 : Vals := ⟨0, false, [], [], [], []⟩
structure OpX where
  kind : Int
  at_ : Int
  many : Int
  most : Int
  each : Int
  v : Vals
  ps : List Piece
  dA : Option Addr
  dC : Nat
  qA : Option Addr
  qC : Nat
  pA : Option Addr
  pC : Nat
  sA : Option Addr
  sC : Nat
def opC (o : OpX) : List Value := [.int .i64 o.kind, .int .i64 o.at_, .int .u64 (o.v.n : Int), .int .i64 o.many, .bool o.v.b, .slice o.dA o.v.ds.length o.dC, .slice o.qA o.ps.length o.qC, .slice o.pA o.v.p.length o.pC, strV o.v.s, .slice o.sA o.v.ss.length o.sC, .int .i64 o.most, .int .i64 o.each]
/-- what a step bears is of a size -/
def vSz (v : Vals) : Nat := 8 + v.p.length + v.s.length + v.ds.flatten.length + (tflat v.ss).length
structure OpOK (w0 : World) (R : List Seg) (o : OpX) : Prop where
  n : o.v.n < 18446744073709551616
  many : -9223372036854775808 ≤ o.many ∧ o.many ≤ 9223372036854775807
  d32 : ∀ d ∈ o.v.ds, d.length = 32
  ds : Rc w0 R o.dA (digV o.v.ds)
  p : Rd w0 R o.pA o.v.p
  pc : o.v.p.length ≤ o.pC
  ss : Rc w0 R o.sA (o.v.ss.map strV)
  dsl : o.v.ds.length ≤ 9223372036854775807
  ssl : o.v.ss.length ≤ 9223372036854775807
  pl : o.v.p.length ≤ 9223372036854775807
  sl : o.v.s.length ≤ 9223372036854775807
theorem OpOK.mono {w0 : World} {R R' : List Seg} {o : OpX} (h : OpOK w0 R o) (hs : R ⊆ R') : OpOK w0 R' o :=
  ⟨h.n, h.many, h.d32, h.ds.mono hs, h.p.mono hs, h.pc, h.ss.mono hs, h.dsl, h.ssl, h.pl, h.sl⟩
/-- what a step lays, and why not -/
def laysE (o : OpX) : Nat := if o.kind = 8 then textE o.v.s o.most else if o.kind = 9 then bytesE o.v.p o.most else if o.kind = 10 then textsE o.v.ss o.most o.each else 0
def laysL (o : OpX) : List UInt8 :=
  if o.kind = 1 then be 1 (o.v.n % 256) else if o.kind = 2 then be 2 (o.v.n % 65536) else if o.kind = 3 then be 4 (o.v.n % 4294967296) else if o.kind = 4 then be 8 o.v.n
  else if o.kind = 5 then [if o.v.b then 1 else 0] else if o.kind = 6 then o.v.ds.flatten else if o.kind = 7 then o.v.p else if o.kind = 8 then textB o.v.s o.most else if o.kind = 9 then bytesB o.v.p o.most else if o.kind = 10 then textsB o.v.ss o.most o.each else []
theorem cmp0 (n : Nat) : cmpB .eql (n : Int) 0 = decide (n = 0) := by
  by_cases h : n = 0
  · subst h; rfl
  · rw [decide_eq_false h]; exact eql_f (by omega)
theorem op_no (t : TypeId) (h : notRow Try.prog t = true) : notRow Try.prog t = true := h
theorem op_z : (0 : Nat) ≤ 9223372036854775807 := by decide
theorem op_z2 : (0 : Nat) < 18446744073709551616 := by decide
theorem nr9_op : notRow Try.prog 9 = true := by kernel_rfl
theorem nr27_op : notRow Try.prog 27 = true := by kernel_rfl
theorem nr34_op : notRow Try.prog 34 = true := by kernel_rfl
theorem nr35_op : notRow Try.prog 35 = true := by kernel_rfl
theorem nr36_op : notRow Try.prog 36 = true := by kernel_rfl
theorem sz9_op : (Try.prog.info? 9).map (·.size) = some 1 := by kernel_rfl
theorem sz27_op : (Try.prog.info? 27).map (·.size) = some 1 := by kernel_rfl
theorem sz34_op : (Try.prog.info? 34).map (·.size) = some 1 := by kernel_rfl
theorem sz35_op : (Try.prog.info? 35).map (·.size) = some 1 := by kernel_rfl
theorem sz36_op : (Try.prog.info? 36).map (·.size) = some 1 := by kernel_rfl
theorem sz38_op : (Try.prog.info? 38).map (·.size) = some 12 := by kernel_rfl
theorem cl44_op : CallsTo Try.prog 44 := ⟨_, Try.func44, by kernel_rfl, by kernel_rfl⟩
theorem cl45_op : CallsTo Try.prog 45 := ⟨_, Try.func45, by kernel_rfl, by kernel_rfl⟩
theorem cl46_op : CallsTo Try.prog 46 := ⟨_, Try.func46, by kernel_rfl, by kernel_rfl⟩


/-- what a script hands in, as beyond counts it -/
def opCost (o : OpX) : Nat := 100 + o.v.p.length + o.v.s.length + 32 * o.v.ds.length + (o.ps.map (fun p : Piece => p.2.2.length + 1)).sum + (o.v.ss.map (fun p : List UInt8 => p.length + 1)).sum
def OpMore (w0 : World) (R : List Seg) (o : OpX) : Prop := Rc w0 R o.qA (o.ps.map pieceV) ∧ (∀ q ∈ o.ps, q.2.2.length ≤ 9223372036854775807) ∧ o.ps.length ≤ 9223372036854775807 ∧ (∀ q ∈ o.v.ss, q.length ≤ 9223372036854775807)

set_option maxRecDepth 100000 in
set_option maxHeartbeats 1000000 in
theorem op_beyond (w0 w : World) (R : List Seg) (sA : Option Addr) (sC : Nat) (os : List OpX) (hOs : ∀ o ∈ os, OpOK w0 R o ∧ OpMore w0 R o) (hS : Rc w0 R sA (os.map opC).flatten) (hA : Hp w0 R w) (hn : os.length ≤ 9223372036854775807) : Calls Try.prog 12 #[.slice sA os.length sC] w fun e w' => ∃ b, e = .returned (.bool b) ∧ (b = false → (os.map opCost).sum ≤ 2147483647) ∧ Hp w0 R w' := by
  refine vc_enter Try.func12 rfl Try.ntmps12 (Nat.le_of_ble_eq_true rfl) (fun a hF => ?_)
  apply wp_seq_k; intro K1 hK1
  refine wp_region_lit ?_
  refine vc_y hF rfl rfl (by decide) _ (y_assign rfl rfl) (fun a hF => ?_)
  refine vc_nil ?_
  refine hK1 _ _ ?_; clear  hK1 K1
  apply wp_seq_k; intro K2 hK2
  refine wp_region_lit ?_
  refine vc_y hF rfl rfl (by decide) _ (y_assign rfl rfl) (fun a hF => ?_)
  refine vc_nil ?_
  refine hK2 _ _ ?_; clear  hK2 K2
  apply wp_seq_k; intro K3 hK3
  apply wp_seq_k; intro K4 hK4
  refine wp_region_lit ?_
  refine vc_y hF rfl rfl (by decide) _ (y_assign rfl rfl) (fun a hF => ?_)
  refine vc_nil ?_
  refine hK4 _ _ ?_; clear  hK4 K4
  apply wp_block
  refine vc_loop (G := Nat) (fun i a x => ∃ (z : Int), i ≤ os.length ∧ (-1 ≤ z ∧ z ≤ 2147483647) ∧ (0 ≤ z → z = 2147483647 - ((os.take i).map opCost).sum) ∧ Fr 65 [(4, .int .i64 (i : Int)), (3, .int .i64 z), (0, .slice sA os.length sC)] a ∧ Hp w0 (R) x) (fun i => os.length - i) 0 (⟨2147483647, Nat.zero_le _, by decide, fun _ => by simp, hF.keep [4, 3, 0] rfl, hA⟩) ?_
  clear hF
  rintro i a w2 ⟨z, hi, hz, hzs, hF, hA1⟩
  by_cases hlt : i < os.length
  · by_cases hz0 : 0 ≤ z
    · obtain ⟨o, ho⟩ : ∃ o, os[i]? = some o := ⟨_, List.getElem?_eq_getElem hlt⟩
      obtain ⟨hok1, hokP, hokl, hokn, hoke⟩ := hOs o (List.mem_of_getElem? ho)
      have hs1 := hok1.pl
      have hs2 := hok1.sl
      have hs3 := hok1.dsl
      obtain ⟨hat, hle⟩ := flat_at (z := 12) (Ws := os.map opC) (V := opC o) (i := i) (fun V hV => by obtain ⟨u, _, rfl⟩ := List.mem_map.1 hV; rfl) (by rw [List.getElem?_map, ho]; rfl)
      obtain ⟨b, q, rfl, hc⟩ := hS.ne (i := i * 12) (by omega)
      have hcell : ∀ j u, (opC o)[j]? = some u → (os.map opC).flatten[i * 12 + j]? = some u := fun j u hj => by
        have hj12 : j < 12 := (List.getElem?_eq_some_iff.1 hj).1
        rw [← hat, List.getElem?_take, if_pos hj12, List.getElem?_drop] at hj
        exact hj
      have hsum : ((os.take (i + 1)).map opCost).sum = ((os.take i).map opCost).sum + opCost o := by rw [List.take_add_one, ho]; simp
      apply wp_seq_k; intro K5 hK5
      apply wp_seq_k; intro K6 hK6
      refine wp_region_lit ?_
      refine vc_y hF rfl rfl (by decide) _ (y_move rfl rfl) (fun a hF => ?_)
      refine vc_y hF rfl rfl (by decide) _ (y_move rfl rfl) (fun a hF => ?_)
      refine vc_y hF rfl rfl (by decide) _ (y_lenSl rfl Try.underlying23 rfl rfl) (fun a hF => ?_)
      refine vc_y hF rfl rfl (by decide) _ (y_cmp rfl rfl rfl rfl (lss_t (by omega))) (fun a hF => ?_)
      refine vc_y hF rfl rfl (by decide) _ (y_move rfl rfl) (fun a hF => ?_)
      refine vc_yg hF rfl rfl rfl rfl rfl (by decide) _ (y_move rfl rfl) (fun a hF => ?_)
      refine vc_yg hF rfl rfl rfl rfl rfl (by decide) _ (y_cmp rfl rfl rfl rfl (geq_t (by omega))) (fun a hF => ?_)
      refine vc_y hF rfl rfl (by decide) _ (y_pick rfl rfl rfl) (fun a hF => ?_)
      refine vc_nil ?_
      refine hK6 _ _ ?_; clear  hK6 K6
      refine vc_true hF rfl ?_
      apply wp_skip
      refine hK5 _ _ ?_; clear  hK5 K5
      apply wp_seq_k; intro K7 hK7
      apply wp_block
      apply wp_seq_k; intro K8 hK8
      refine wp_region_lit ?_
      refine vc_y hF rfl rfl (by decide) _ (y_move rfl rfl) (fun a hF => ?_)
      refine vc_op rfl (fun K hK => ws_call hF rfl (by decide) cl44_op rfl rfl ?_)
      with_reducible refine (bk_room w2 z 100 (by omega) (by omega) ).mono ?_
      rintro e' w6 ⟨rfl, rfl⟩
      refine ⟨_, rfl, fun a hF => hK _ _ ?_⟩
      clear hK K
      have hz3 := roomI_ge (left := z) (n := 100) (by omega) (by omega)
      generalize hz3e : roomI z 100 = z3 at hF hz3
      refine vc_y hF rfl rfl (by decide) _ (y_assign rfl rfl) (fun a hF => ?_)
      refine vc_nil ?_
      refine hK8 _ _ ?_; clear  hK8 K8
      apply wp_seq_k; intro K9 hK9
      refine wp_region_lit ?_
      refine vc_y hF rfl rfl (by decide) _ (y_move rfl rfl) (fun a hF => ?_)
      refine vc_y hF rfl rfl (by decide) _ (y_move rfl rfl) (fun a hF => ?_)
      refine vc_y hF rfl rfl (by decide) _ (y_move rfl rfl) (fun a hF => ?_)
      refine vc_y hF rfl rfl (by decide) _ (y_ixSl rfl Try.underlying23 sz38_op rfl rfl i rfl hlt rfl) (fun a hF => ?_)
      refine vc_y hF rfl rfl (by decide) _ (y_field rfl Try.underlying38 rfl sz35_op (by decide) rfl rfl) (fun a hF => ?_)
      refine vc_y hF rfl rfl (by decide) _ (y_ldC (u := .slice o.pA o.v.p.length o.pC) rfl hA1.q rfl hc (i * 12 + 7) (by omega) (Nat.add_assoc _ _ _) (hcell 7 _ rfl) nr35_op) (fun a hF => ?_)
      refine vc_y hF rfl rfl (by decide) _ (y_lenSl rfl Try.underlying35 rfl rfl) (fun a hF => ?_)
      refine vc_op rfl (fun K hK => ws_call hF rfl (by decide) cl44_op rfl rfl ?_)
      with_reducible refine (bk_room w2 z3 o.v.p.length (by omega) (by omega) ).mono ?_
      rintro e' w10 ⟨rfl, rfl⟩
      refine ⟨_, rfl, fun a hF => hK _ _ ?_⟩
      clear hK K
      have hz7 := roomI_ge (left := z3) (n := o.v.p.length) (by omega) (by omega)
      generalize hz7e : roomI z3 o.v.p.length = z7 at hF hz7
      refine vc_y hF rfl rfl (by decide) _ (y_assign rfl rfl) (fun a hF => ?_)
      refine vc_nil ?_
      refine hK9 _ _ ?_; clear  hK9 K9
      apply wp_seq_k; intro K10 hK10
      refine wp_region_lit ?_
      refine vc_y hF rfl rfl (by decide) _ (y_move rfl rfl) (fun a hF => ?_)
      refine vc_y hF rfl rfl (by decide) _ (y_move rfl rfl) (fun a hF => ?_)
      refine vc_y hF rfl rfl (by decide) _ (y_move rfl rfl) (fun a hF => ?_)
      refine vc_y hF rfl rfl (by decide) _ (y_ixSl rfl Try.underlying23 sz38_op rfl rfl i rfl hlt rfl) (fun a hF => ?_)
      refine vc_y hF rfl rfl (by decide) _ (y_field rfl Try.underlying38 rfl sz9_op (by decide) rfl rfl) (fun a hF => ?_)
      refine vc_y hF rfl rfl (by decide) _ (y_ldC (u := strV o.v.s) rfl hA1.q rfl hc (i * 12 + 8) (by omega) (Nat.add_assoc _ _ _) (hcell 8 _ rfl) nr9_op) (fun a hF => ?_)
      refine vc_y hF rfl rfl (by decide) _ (y_lenStr rfl Try.underlying9 rfl (show ((ByteArray.mk o.v.s.toArray).size : Int) = (o.v.s.length : Int) from rfl)) (fun a hF => ?_)
      refine vc_op rfl (fun K hK => ws_call hF rfl (by decide) cl44_op rfl rfl ?_)
      with_reducible refine (bk_room w2 z7 (o.v.s.length : Int) (by omega) (by omega) ).mono ?_
      rintro e' w14 ⟨rfl, rfl⟩
      refine ⟨_, rfl, fun a hF => hK _ _ ?_⟩
      clear hK K
      have hz11 := roomI_ge (left := z7) (n := (o.v.s.length : Int)) (by omega) (by omega)
      generalize hz11e : roomI z7 (o.v.s.length : Int) = z11 at hF hz11
      refine vc_y hF rfl rfl (by decide) _ (y_assign rfl rfl) (fun a hF => ?_)
      refine vc_nil ?_
      refine hK10 _ _ ?_; clear  hK10 K10
      apply wp_seq_k; intro K11 hK11
      apply wp_seq_k; intro K12 hK12
      refine wp_region_lit ?_
      refine vc_y hF rfl rfl (by decide) _ (y_move rfl rfl) (fun a hF => ?_)
      refine vc_y hF rfl rfl (by decide) _ (y_move rfl rfl) (fun a hF => ?_)
      refine vc_y hF rfl rfl (by decide) _ (y_ixSl rfl Try.underlying23 sz38_op rfl rfl i rfl hlt rfl) (fun a hF => ?_)
      refine vc_y hF rfl rfl (by decide) _ (y_field rfl Try.underlying38 rfl sz34_op (by decide) rfl rfl) (fun a hF => ?_)
      refine vc_y hF rfl rfl (by decide) _ (y_ldC (u := .slice o.dA o.v.ds.length o.dC) rfl hA1.q rfl hc (i * 12 + 5) (by omega) (Nat.add_assoc _ _ _) (hcell 5 _ rfl) nr34_op) (fun a hF => ?_)
      refine vc_y hF rfl rfl (by decide) _ (y_lenSl rfl Try.underlying34 rfl rfl) (fun a hF => ?_)
      refine vc_y hF rfl rfl (by decide) _ (y_cmp rfl rfl rfl rfl rfl) (fun a hF => ?_)
      refine vc_nil ?_
      refine hK12 _ _ ?_; clear  hK12 K12
      by_cases hmany : 67108863 < (o.v.ds.length : Int)
      · refine vc_trueB hF rfl (gtr_t (by omega)) ?_
        apply wp_seq_k; intro K13 hK13
        refine wp_region_lit ?_
        refine vc_y hF rfl rfl (by decide) _ (y_assign rfl rfl) (fun a hF => ?_)
        refine vc_nil ?_
        refine hK13 _ _ ?_; clear  hK13 K13
        apply wp_ret
        simp only [Exit.then, Exit.inBlock]
        refine vc_ret1 hF Try.results12 rfl ?_
        exact ⟨true, rfl, fun h => (by cases h), hA1⟩
      · refine vc_falseB hF rfl (gtr_f (by omega)) ?_
        apply wp_skip
        refine hK11 _ _ ?_; clear  hK11 K11
        apply wp_seq_k; intro K14 hK14
        refine wp_region_lit ?_
        refine vc_y hF rfl rfl (by decide) _ (y_move rfl rfl) (fun a hF => ?_)
        refine vc_y hF rfl rfl (by decide) _ (y_move rfl rfl) (fun a hF => ?_)
        refine vc_y hF rfl rfl (by decide) _ (y_move rfl rfl) (fun a hF => ?_)
        refine vc_y hF rfl rfl (by decide) _ (y_ixSl rfl Try.underlying23 sz38_op rfl rfl i rfl hlt rfl) (fun a hF => ?_)
        refine vc_y hF rfl rfl (by decide) _ (y_field rfl Try.underlying38 rfl sz34_op (by decide) rfl rfl) (fun a hF => ?_)
        refine vc_y hF rfl rfl (by decide) _ (y_ldC (u := .slice o.dA o.v.ds.length o.dC) rfl hA1.q rfl hc (i * 12 + 5) (by omega) (Nat.add_assoc _ _ _) (hcell 5 _ rfl) nr34_op) (fun a hF => ?_)
        refine vc_y hF rfl rfl (by decide) _ (y_lenSl rfl Try.underlying34 rfl rfl) (fun a hF => ?_)
        refine vc_y hF rfl rfl (by decide) _ (y_mul rfl rfl rfl (IntWalk.i64_in _ (by omega))) (fun a hF => ?_)
        refine vc_op rfl (fun K hK => ws_call hF rfl (by decide) cl44_op rfl rfl ?_)
        with_reducible refine (bk_room w2 z11 ((32) * (o.v.ds.length)) (by omega) (by omega) ).mono ?_
        rintro e' w18 ⟨rfl, rfl⟩
        refine ⟨_, rfl, fun a hF => hK _ _ ?_⟩
        clear hK K
        have hz15 := roomI_ge (left := z11) (n := (32) * (o.v.ds.length)) (by omega) (by omega)
        generalize hz15e : roomI z11 ((32) * (o.v.ds.length)) = z15 at hF hz15
        refine vc_y hF rfl rfl (by decide) _ (y_assign rfl rfl) (fun a hF => ?_)
        refine vc_nil ?_
        refine hK14 _ _ ?_; clear  hK14 K14
        apply wp_seq_k; intro K15 hK15
        refine wp_region_lit ?_
        refine vc_y hF rfl rfl (by decide) _ (y_move rfl rfl) (fun a hF => ?_)
        refine vc_y hF rfl rfl (by decide) _ (y_move rfl rfl) (fun a hF => ?_)
        refine vc_y hF rfl rfl (by decide) _ (y_move rfl rfl) (fun a hF => ?_)
        refine vc_y hF rfl rfl (by decide) _ (y_ixSl rfl Try.underlying23 sz38_op rfl rfl i rfl hlt rfl) (fun a hF => ?_)
        refine vc_y hF rfl rfl (by decide) _ (y_field rfl Try.underlying38 rfl sz27_op (by decide) rfl rfl) (fun a hF => ?_)
        refine vc_y hF rfl rfl (by decide) _ (y_ldC (u := .slice o.qA o.ps.length o.qC) rfl hA1.q rfl hc (i * 12 + 6) (by omega) (Nat.add_assoc _ _ _) (hcell 6 _ rfl) nr27_op) (fun a hF => ?_)
        refine vc_op rfl (fun K hK => ws_call hF rfl (by decide) cl45_op rfl rfl ?_)
        with_reducible refine (bk_lists w0 _ _ z15 o.qA o.ps o.qC hokP hA1 (by omega) hokl hokn ).mono ?_
        rintro e' w22 ⟨z19, rfl, hz19a, hz19, rfl⟩
        refine ⟨_, rfl, fun a hF => hK _ _ ?_⟩
        clear hK K
        refine vc_y hF rfl rfl (by decide) _ (y_assign rfl rfl) (fun a hF => ?_)
        refine vc_nil ?_
        refine hK15 _ _ ?_; clear  hK15 K15
        refine wp_region_lit ?_
        refine vc_y hF rfl rfl (by decide) _ (y_move rfl rfl) (fun a hF => ?_)
        refine vc_y hF rfl rfl (by decide) _ (y_move rfl rfl) (fun a hF => ?_)
        refine vc_y hF rfl rfl (by decide) _ (y_move rfl rfl) (fun a hF => ?_)
        refine vc_y hF rfl rfl (by decide) _ (y_ixSl rfl Try.underlying23 sz38_op rfl rfl i rfl hlt rfl) (fun a hF => ?_)
        refine vc_y hF rfl rfl (by decide) _ (y_field rfl Try.underlying38 rfl sz36_op (by decide) rfl rfl) (fun a hF => ?_)
        refine vc_y hF rfl rfl (by decide) _ (y_ldC (u := .slice o.sA o.v.ss.length o.sC) rfl hA1.q rfl hc (i * 12 + 9) (by omega) (Nat.add_assoc _ _ _) (hcell 9 _ rfl) nr36_op) (fun a hF => ?_)
        refine vc_op rfl (fun K hK => ws_call hF rfl (by decide) cl46_op rfl rfl ?_)
        with_reducible refine (bk_texts w0 _ _ z19 o.sA o.v.ss o.sC hok1.ss hA1 (by omega) hoke hok1.ssl ).mono ?_
        rintro e' w26 ⟨z23, rfl, hz23a, hz23, rfl⟩
        refine ⟨_, rfl, fun a hF => hK _ _ ?_⟩
        clear hK K
        refine vc_y hF rfl rfl (by decide) _ (y_assign rfl rfl) (fun a hF => ?_)
        refine vc_nil ?_
        refine hK7 _ _ ?_; clear  hK7 K7
        refine wp_region_lit ?_
        refine vc_y hF rfl rfl (by decide) _ (y_move rfl rfl) (fun a hF => ?_)
        refine vc_y hF rfl rfl (by decide) _ (y_add rfl rfl rfl (IntWalk.i64_in _ (by omega))) (fun a hF => ?_)
        refine vc_y hF rfl rfl (by decide) _ (y_assign rfl rfl) (fun a hF => ?_)
        refine vc_nil ?_
        have hco : opCost o = 100 + o.v.p.length + o.v.s.length + 32 * o.v.ds.length + (o.ps.map (fun p : Piece => p.2.2.length + 1)).sum + (o.v.ss.map (fun p : List UInt8 => p.length + 1)).sum := rfl
        exact ⟨i + 1, by omega, _, by omega, by omega, fun h => by rw [hsum]; omega, hF.keep [4, 3, 0] rfl, hA1⟩
    · apply wp_seq_k; intro K16 hK16
      apply wp_seq_k; intro K17 hK17
      refine wp_region_lit ?_
      refine vc_y hF rfl rfl (by decide) _ (y_move rfl rfl) (fun a hF => ?_)
      refine vc_y hF rfl rfl (by decide) _ (y_move rfl rfl) (fun a hF => ?_)
      refine vc_y hF rfl rfl (by decide) _ (y_lenSl rfl Try.underlying23 rfl rfl) (fun a hF => ?_)
      refine vc_y hF rfl rfl (by decide) _ (y_cmp rfl rfl rfl rfl (lss_t (by omega))) (fun a hF => ?_)
      refine vc_y hF rfl rfl (by decide) _ (y_move rfl rfl) (fun a hF => ?_)
      refine vc_yg hF rfl rfl rfl rfl rfl (by decide) _ (y_move rfl rfl) (fun a hF => ?_)
      refine vc_yg hF rfl rfl rfl rfl rfl (by decide) _ (y_cmp rfl rfl rfl rfl (geq_f (by omega))) (fun a hF => ?_)
      refine vc_y hF rfl rfl (by decide) _ (y_pick rfl rfl rfl) (fun a hF => ?_)
      refine vc_nil ?_
      refine hK17 _ _ ?_; clear  hK17 K17
      refine vc_false hF rfl ?_
      apply wp_exit
      refine hK3 _ _ ?_; clear hK16 K16 hK3 K3
      apply wp_seq_k; intro K18 hK18
      refine wp_region_lit ?_
      refine vc_y hF rfl rfl (by decide) _ (y_move rfl rfl) (fun a hF => ?_)
      refine vc_y hF rfl rfl (by decide) _ (y_cmp rfl rfl rfl rfl rfl) (fun a hF => ?_)
      refine vc_y hF rfl rfl (by decide) _ (y_assign rfl rfl) (fun a hF => ?_)
      refine vc_nil ?_
      refine hK18 _ _ ?_; clear  hK18 K18
      apply wp_ret
      refine vc_ret1 hF Try.results12 rfl ?_
      exact ⟨true, by rw [show cmpB .lss z 0 = true from lss_t (by omega)], fun h => (by cases h), hA1⟩
  · obtain rfl : i = os.length := by omega
    rw [List.take_length] at hzs
    apply wp_seq_k; intro K19 hK19
    apply wp_seq_k; intro K20 hK20
    refine wp_region_lit ?_
    refine vc_y hF rfl rfl (by decide) _ (y_move rfl rfl) (fun a hF => ?_)
    refine vc_y hF rfl rfl (by decide) _ (y_move rfl rfl) (fun a hF => ?_)
    refine vc_y hF rfl rfl (by decide) _ (y_lenSl rfl Try.underlying23 rfl rfl) (fun a hF => ?_)
    refine vc_y hF rfl rfl (by decide) _ (y_cmp rfl rfl rfl rfl (lss_f (by omega))) (fun a hF => ?_)
    refine vc_y hF rfl rfl (by decide) _ (y_move rfl rfl) (fun a hF => ?_)
    refine vc_skip hF rfl rfl rfl rfl rfl rfl (by decide) (fun a hF => ?_)
    refine vc_skip hF rfl rfl rfl rfl rfl rfl (by decide) (fun a hF => ?_)
    refine vc_y hF rfl rfl (by decide) _ (y_pick rfl rfl rfl) (fun a hF => ?_)
    refine vc_nil ?_
    refine hK20 _ _ ?_; clear  hK20 K20
    refine vc_false hF rfl ?_
    apply wp_exit
    refine hK3 _ _ ?_; clear hK19 K19 hK3 K3
    apply wp_seq_k; intro K21 hK21
    refine wp_region_lit ?_
    refine vc_y hF rfl rfl (by decide) _ (y_move rfl rfl) (fun a hF => ?_)
    refine vc_y hF rfl rfl (by decide) _ (y_cmp rfl rfl rfl rfl rfl) (fun a hF => ?_)
    refine vc_y hF rfl rfl (by decide) _ (y_assign rfl rfl) (fun a hF => ?_)
    refine vc_nil ?_
    refine hK21 _ _ ?_; clear  hK21 K21
    apply wp_ret
    refine vc_ret1 hF Try.results12 rfl ?_
    by_cases hz0 : z < 0
    · exact ⟨true, by rw [show cmpB .lss z 0 = true from lss_t hz0], fun h => (by cases h), hA1⟩
    · exact ⟨false, by rw [show cmpB .lss z 0 = false from lss_f (by omega)], fun _ => by have := hzs (by omega); omega, hA1⟩
end Go.Proofs.Ythphfbohhbkdgaa
