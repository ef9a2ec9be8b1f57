/- The statements' steps: what one lays, what one takes. -/
import Derived.Test.YthphfbohhbkdgaaOctetS
import Derived.Test.YthphfbohhbkdgaaBk
import Derived.Test.YthphfbohhbkdgaaHs
namespace Go.Proofs.Ythphfbohhbkdgaa
open Go.RowKit Go.Dk

/-- what a step bears -/
structure Vals where
  n : Nat
  b : Bool
  ds : List (List UInt8)
  p : List UInt8
  s : List UInt8
  ss : List (List UInt8)
def vals0 : Vals := ⟨0, false, [], [], [], []⟩
structure OpX where
  kind : Int
  at_ : Int
  many : Int
  most : Int
  each : Int
  v : Vals
  ps : List Piece
  dA : Option Addr
  dC : Nat
  qA : Option Addr
  qC : Nat
  pA : Option Addr
  pC : Nat
  sA : Option Addr
  sC : Nat
def opC (o : OpX) : List Value := [.int .i64 o.kind, .int .i64 o.at_, .int .u64 (o.v.n : Int), .int .i64 o.many, .bool o.v.b, .slice o.dA o.v.ds.length o.dC, .slice o.qA o.ps.length o.qC, .slice o.pA o.v.p.length o.pC, strV o.v.s, .slice o.sA o.v.ss.length o.sC, .int .i64 o.most, .int .i64 o.each]
/-- what a step bears is of a size -/
def vSz (v : Vals) : Nat := 8 + v.p.length + v.s.length + v.ds.flatten.length + (tflat v.ss).length
structure OpOK (w0 : World) (R : List Seg) (o : OpX) : Prop where
  n : o.v.n < 18446744073709551616
  many : -9223372036854775808 ≤ o.many ∧ o.many ≤ 9223372036854775807
  d32 : ∀ d ∈ o.v.ds, d.length = 32
  ds : Rc w0 R o.dA (digV o.v.ds)
  p : Rd w0 R o.pA o.v.p
  pc : o.v.p.length ≤ o.pC
  ss : Rc w0 R o.sA (o.v.ss.map strV)
  dsl : o.v.ds.length ≤ 9223372036854775807
  ssl : o.v.ss.length ≤ 9223372036854775807
  pl : o.v.p.length ≤ 9223372036854775807
  sl : o.v.s.length ≤ 9223372036854775807
theorem OpOK.mono {w0 : World} {R R' : List Seg} {o : OpX} (h : OpOK w0 R o) (hs : R ⊆ R') : OpOK w0 R' o :=
  ⟨h.n, h.many, h.d32, h.ds.mono hs, h.p.mono hs, h.pc, h.ss.mono hs, h.dsl, h.ssl, h.pl, h.sl⟩
/-- what a step lays, and why not -/
def laysE (o : OpX) : Nat := if o.kind = 8 then textE o.v.s o.most else if o.kind = 9 then bytesE o.v.p o.most else if o.kind = 10 then textsE o.v.ss o.most o.each else 0
def laysL (o : OpX) : List UInt8 :=
  if o.kind = 1 then be 1 (o.v.n % 256) else if o.kind = 2 then be 2 (o.v.n % 65536) else if o.kind = 3 then be 4 (o.v.n % 4294967296) else if o.kind = 4 then be 8 o.v.n
  else if o.kind = 5 then [if o.v.b then 1 else 0] else if o.kind = 6 then o.v.ds.flatten else if o.kind = 7 then o.v.p else if o.kind = 8 then textB o.v.s o.most else if o.kind = 9 then bytesB o.v.p o.most else if o.kind = 10 then textsB o.v.ss o.most o.each else []
theorem cmp0 (n : Nat) : cmpB .eql (n : Int) 0 = decide (n = 0) := by
  by_cases h : n = 0
  · subst h; rfl
  · rw [decide_eq_false h]; exact eql_f (by omega)
theorem op_no (t : TypeId) (h : notRow Try.prog t = true) : notRow Try.prog t = true := h
def Res.map {α β : Type} (f : α → β) : Res α → Res β
  | .ok v k => .ok (f v) k
  | .no e => .no e
theorem Res.val_map {α β : Type} (f : α → β) (r : Res α) (d : α) (y : Nat) : (r.map f).val (f d) y = f (r.val d y) := by
  unfold Res.val; split
  · cases r <;> rfl
  · rfl
theorem Res.pl_map {α β : Type} (f : α → β) (r : Res α) (p y : Nat) : (r.map f).pl p y = r.pl p y := by
  unfold Res.pl; split
  · cases r <;> rfl
  · rfl
theorem Res.why_map {α β : Type} (f : α → β) (r : Res α) (y : Nat) : (r.map f).why y = r.why y := by
  unfold Res.why; split
  · cases r <;> rfl
  · rfl
def vN (n : Nat) : Vals := ⟨n, false, [], [], [], []⟩
def vB (b : Bool) : Vals := ⟨0, b, [], [], [], []⟩
def vD (ds : List (List UInt8)) : Vals := ⟨0, false, ds, [], [], []⟩
def vP (p : List UInt8) : Vals := ⟨0, false, [], p, [], []⟩
def vS (s : List UInt8) : Vals := ⟨0, false, [], [], s, []⟩
def vSS (ss : List (List UInt8)) : Vals := ⟨0, false, [], [], [], ss⟩
theorem op_z : (0 : Nat) ≤ 9223372036854775807 := by decide
theorem op_z2 : (0 : Nat) < 18446744073709551616 := by decide
theorem Res.ok0 (p y : Nat) : (Res.ok vals0 0 : Res Vals).pl p y = p ∧ (Res.ok vals0 0 : Res Vals).why y = y ∧ vals0 = (Res.ok vals0 0 : Res Vals).val vals0 y := by
  refine ⟨?_, ?_, ?_⟩
  · unfold Res.pl; split <;> rfl
  · unfold Res.why; split
    · rename_i h; exact h.symm
    · rfl
  · unfold Res.val; split <;> rfl
/-- what a step takes off the front -/
def agR (o : OpX) (r : List UInt8) : Res Vals :=
  if o.kind = 1 then (numR 1 r).map vN else if o.kind = 2 then (numR 2 r).map vN else if o.kind = 3 then (numR 4 r).map vN else if o.kind = 4 then (numR 8 r).map vN
  else if o.kind = 5 then (flagR r).map vB else if o.kind = 6 then (digestsR r o.many).map vD else if o.kind = 7 then (rawR r o.many).map vP else if o.kind = 8 then (textR r o.most).map vS
  else if o.kind = 9 then (bytesR r o.most).map vP else if o.kind = 10 then (textsR r o.most o.each).map vSS else .ok vals0 0
theorem num_bound (K : Nat) (r : List UInt8) (y : Nat) : (numR K r).val 0 y < 256 ^ K := by
  unfold Res.val numR
  have h1 := num_lt (r.take K)
  have h2 : (r.take K).length ≤ K := by rw [List.length_take]; omega
  have h3 := Nat.pow_le_pow_right (show 0 < 256 by decide) h2
  have h4 : 0 < 256 ^ K := Nat.pow_pos (by decide)
  split
  · split
    · rename_i h5; split at h5
      · cases h5
      · injection h5 with h5; omega
    · exact h4
  · exact h4
/-- what is taken is of a size -/
theorem raw_small (r : List UInt8) (n : Int) (y : Nat) : ((rawR r n).val [] y).length ≤ r.length := by
  unfold Res.val rawR
  split
  · split
    · rename_i h5; split at h5
      · cases h5
      · injection h5 with h5; rw [← h5, List.length_take]; omega
    · exact Nat.zero_le _
  · exact Nat.zero_le _
theorem sized_small (K e : Nat) (r : List UInt8) (b : Int) (y : Nat) : ((sizedR K e r b).val [] y).length ≤ r.length := by
  unfold Res.val
  split
  · split
    · rename_i h5
      have := sized_le h5; omega
    · exact Nat.zero_le _
  · exact Nat.zero_le _
theorem digests_32 (r : List UInt8) (n : Int) (y : Nat) : (∀ d ∈ (digestsR r n).val [] y, d.length = 32) ∧ ((digestsR r n).val [] y).length ≤ r.length := by
  unfold Res.val digestsR
  split
  · split
    · rename_i h5; split at h5
      · cases h5
      · rename_i h6
        injection h5 with h5
        subst h5
        exact ⟨fun d hd => chunks_32 hd (by omega), by rw [chunks_length]; omega⟩
    · exact ⟨(fun d hd => by cases hd), Nat.zero_le _⟩
  · exact ⟨(fun d hd => by cases hd), Nat.zero_le _⟩
theorem textsGo_len (each : Int) (k : Nat) (acc : List (List UInt8)) (at_ : Nat) (r : List UInt8) {ss : List (List UInt8)} {j : Nat} (h : textsGo each k acc at_ r = .ok ss j) : ss.length = acc.length + k := by
  induction k generalizing acc at_ r with
  | zero => rw [textsGo] at h; injection h with h _; rw [← h]; rfl
  | succ k ih =>
    rw [textsGo] at h
    split at h
    · cases h
    · split at h
      · cases h
      · have := ih _ _ _ h
        rw [this, List.length_append, List.length_cons, List.length_nil]; omega
theorem texts_small (r : List UInt8) (most each : Int) (y : Nat) : ((textsR r most each).val [] y).length ≤ 65535 := by
  unfold Res.val textsR
  split
  · split
    · rename_i h5; split at h5
      · cases h5
      · split at h5
        · cases h5
        · have h6 := textsGo_len _ _ _ _ _ h5
          have h7 := num_two r
          rw [h6, List.length_nil]; omega
    · exact Nat.zero_le _
  · exact Nat.zero_le _
theorem nr3_op : notRow Try.prog 3 = true := by kernel_rfl
theorem nr4_op : notRow Try.prog 4 = true := by kernel_rfl
theorem nr9_op : notRow Try.prog 9 = true := by kernel_rfl
theorem nr27_op : notRow Try.prog 27 = true := by kernel_rfl
theorem nr33_op : notRow Try.prog 33 = true := by kernel_rfl
theorem nr34_op : notRow Try.prog 34 = true := by kernel_rfl
theorem nr35_op : notRow Try.prog 35 = true := by kernel_rfl
theorem nr36_op : notRow Try.prog 36 = true := by kernel_rfl
theorem rw38_op : isRow Try.prog 38 12 = true := by kernel_rfl
theorem sz3_op : (Try.prog.info? 3).map (·.size) = some 1 := by kernel_rfl
theorem sz4_op : (Try.prog.info? 4).map (·.size) = some 1 := by kernel_rfl
theorem sz9_op : (Try.prog.info? 9).map (·.size) = some 1 := by kernel_rfl
theorem sz27_op : (Try.prog.info? 27).map (·.size) = some 1 := by kernel_rfl
theorem sz33_op : (Try.prog.info? 33).map (·.size) = some 1 := by kernel_rfl
theorem sz34_op : (Try.prog.info? 34).map (·.size) = some 1 := by kernel_rfl
theorem sz35_op : (Try.prog.info? 35).map (·.size) = some 1 := by kernel_rfl
theorem sz36_op : (Try.prog.info? 36).map (·.size) = some 1 := by kernel_rfl
theorem sz38_op : (Try.prog.info? 38).map (·.size) = some 12 := by kernel_rfl
theorem cl17_op : CallsTo Try.prog 17 := ⟨_, Try.func17, by kernel_rfl, by kernel_rfl⟩
theorem cl18_op : CallsTo Try.prog 18 := ⟨_, Try.func18, by kernel_rfl, by kernel_rfl⟩
theorem cl19_op : CallsTo Try.prog 19 := ⟨_, Try.func19, by kernel_rfl, by kernel_rfl⟩
theorem cl20_op : CallsTo Try.prog 20 := ⟨_, Try.func20, by kernel_rfl, by kernel_rfl⟩
theorem cl24_op : CallsTo Try.prog 24 := ⟨_, Try.func24, by kernel_rfl, by kernel_rfl⟩
theorem cl25_op : CallsTo Try.prog 25 := ⟨_, Try.func25, by kernel_rfl, by kernel_rfl⟩
theorem cl27_op : CallsTo Try.prog 27 := ⟨_, Try.func27, by kernel_rfl, by kernel_rfl⟩
theorem cl28_op : CallsTo Try.prog 28 := ⟨_, Try.func28, by kernel_rfl, by kernel_rfl⟩
theorem cl44_op : CallsTo Try.prog 44 := ⟨_, Try.func44, by kernel_rfl, by kernel_rfl⟩
theorem cl45_op : CallsTo Try.prog 45 := ⟨_, Try.func45, by kernel_rfl, by kernel_rfl⟩
theorem cl46_op : CallsTo Try.prog 46 := ⟨_, Try.func46, by kernel_rfl, by kernel_rfl⟩
theorem cl65_op : CallsTo Try.prog 65 := ⟨_, Try.func65, by kernel_rfl, by kernel_rfl⟩
theorem cl66_op : CallsTo Try.prog 66 := ⟨_, Try.func66, by kernel_rfl, by kernel_rfl⟩
theorem cl67_op : CallsTo Try.prog 67 := ⟨_, Try.func67, by kernel_rfl, by kernel_rfl⟩
theorem cl68_op : CallsTo Try.prog 68 := ⟨_, Try.func68, by kernel_rfl, by kernel_rfl⟩
theorem cl69_op : CallsTo Try.prog 69 := ⟨_, Try.func69, by kernel_rfl, by kernel_rfl⟩
theorem cl70_op : CallsTo Try.prog 70 := ⟨_, Try.func70, by kernel_rfl, by kernel_rfl⟩
theorem cl71_op : CallsTo Try.prog 71 := ⟨_, Try.func71, by kernel_rfl, by kernel_rfl⟩
theorem cl72_op : CallsTo Try.prog 72 := ⟨_, Try.func72, by kernel_rfl, by kernel_rfl⟩
theorem cl73_op : CallsTo Try.prog 73 := ⟨_, Try.func73, by kernel_rfl, by kernel_rfl⟩
theorem cl74_op : CallsTo Try.prog 74 := ⟨_, Try.func74, by kernel_rfl, by kernel_rfl⟩
theorem cl75_op : CallsTo Try.prog 75 := ⟨_, Try.func75, by kernel_rfl, by kernel_rfl⟩
theorem cl76_op : CallsTo Try.prog 76 := ⟨_, Try.func76, by kernel_rfl, by kernel_rfl⟩
theorem cl77_op : CallsTo Try.prog 77 := ⟨_, Try.func77, by kernel_rfl, by kernel_rfl⟩
theorem cl78_op : CallsTo Try.prog 78 := ⟨_, Try.func78, by kernel_rfl, by kernel_rfl⟩

theorem zr38_op : zeroIs Try.prog 38 (.agg ([.int .i64 0, .int .i64 0, .int .u64 0, .int .i64 0, .bool false, .slice none 0 0, .slice none 0 0, .slice none 0 0, .string (⟨#[]⟩), .slice none 0 0, .int .i64 0, .int .i64 0] : List Value).toArray) := by unfold zeroIs; kernel_rfl

theorem op_bsP (A : Option Addr) (n c : Nat) (w : World) : (Instr.buildSlice 27 1 #[(0, .slice A n c)]).run Try.prog w = .ok (.slice (some ⟨w.heap.size, 0, none⟩) 1 1) (w.alloc (.cells #[.slice A n c] 35)) := by kernel_rfl

set_option maxRecDepth 100000 in
set_option maxHeartbeats 1000000 in
theorem op_lays (w0 w : World) (R : List Seg) (wb : Nat) (l : List UInt8) (Y : Seg) (o : OpX) (hok : OpOK w0 R o) (hY : WrS wb l Y) (hA : Hp w0 (Y :: R) w) (hl : l.length + vSz o.v < 140737488353000) : Calls Try.prog 39 #[.pointer (some ⟨wb, 0, none⟩), .agg (opC o).toArray] w fun e w' => ∃ Y', e = .returned (.bool (decide (laysE o = 0))) ∧ WrS wb (l ++ laysL o) Y' ∧ Hp w0 (Y' :: R) w' := by
  have hsz : l.length + (8 + o.v.p.length + o.v.s.length + o.v.ds.flatten.length + (tflat o.v.ss).length) < 140737488353000 := hl
  have hOn := hok.n
  refine vc_enter Try.func39 rfl Try.ntmps39 (Nat.le_of_ble_eq_true rfl) (fun a hF => ?_)
  apply wp_seq_k; intro K1 hK1
  refine wp_region_lit ?_
  refine vc_op rfl (fun K hK => hs_box (cs := [.int .i64 o.kind, .int .i64 o.at_, .int .u64 (o.v.n : Int), .int .i64 o.many, .bool o.v.b, .slice o.dA o.v.ds.length o.dC, .slice o.qA o.ps.length o.qC, .slice o.pA o.v.p.length o.pC, strV o.v.s, .slice o.sA o.v.ss.length o.sC, .int .i64 o.most, .int .i64 o.each]) hF rfl (by decide) rfl hA rfl (fun b1 w2 a hb1 hF hA3 => hK _ _ ?_))
  clear hK K
  replace hA3 : Hp w0 ([row b1 38 [.int .i64 o.kind, .int .i64 o.at_, .int .u64 (o.v.n : Int), .int .i64 o.many, .bool o.v.b, .slice o.dA o.v.ds.length o.dC, .slice o.qA o.ps.length o.qC, .slice o.pA o.v.p.length o.pC, strV o.v.s, .slice o.sA o.v.ss.length o.sC, .int .i64 o.most, .int .i64 o.each]] :: Y :: R) w2 := hA3
  refine vc_y hF rfl rfl (by decide) _ (y_assign rfl rfl) (fun a hF => ?_)
  refine vc_nil ?_
  refine hK1 _ _ ?_; clear  hK1 K1
  apply wp_seq_k; intro K2 hK2
  apply wp_seq_k; intro K3 hK3
  refine wp_region_lit ?_
  refine vc_y hF rfl rfl (by decide) _ (y_field rfl Try.underlying38 rfl sz3_op (by decide) rfl (rfl : (⟨_, 0 + _, none⟩ : Addr) = ⟨_, 0, none⟩)) (fun a hF => ?_)
  refine vc_y hF rfl rfl (by decide) _ (y_ld rfl hA3.q rfl 0 rfl rfl nr3_op) (fun a hF => ?_)
  refine vc_nil ?_
  refine hK3 _ _ ?_; clear  hK3 K3
  apply wp_block
  apply wp_seq_k; intro K4 hK4
  refine wp_region_lit ?_
  refine vc_y hF rfl rfl (by decide) _ (y_cmp rfl rfl rfl rfl rfl) (fun a hF => ?_)
  refine vc_y hF rfl rfl (by decide) _ (y_assign rfl rfl) (fun a hF => ?_)
  refine vc_nil ?_
  refine hK4 _ _ ?_; clear  hK4 K4
  by_cases k1 : o.kind = 1
  · refine vc_trueB hF rfl (eql_t (by omega)) ?_
    refine wp_region_lit ?_
    refine vc_y hF rfl rfl (by decide) _ (y_move rfl rfl) (fun a hF => ?_)
    refine vc_y hF rfl rfl (by decide) _ (y_field rfl Try.underlying38 rfl sz33_op (by decide) rfl (rfl : (⟨_, 0 + _, none⟩ : Addr) = ⟨_, 2, none⟩)) (fun a hF => ?_)
    refine vc_y hF rfl rfl (by decide) _ (y_ld rfl hA3.q rfl 0 rfl rfl nr33_op) (fun a hF => ?_)
    refine vc_y hF rfl rfl (by decide) _ (y_conv rfl Try.underlying33 Try.underlying5 rfl (show IntKind.u8.wrap (o.v.n : Int) = ((o.v.n % 256 : Nat) : Int) by rw [IntKind.wrap_u8]; omega)) (fun a hF => ?_)
    have hA4 : Hp w0 (Y :: [row b1 38 [.int .i64 o.kind, .int .i64 o.at_, .int .u64 (o.v.n : Int), .int .i64 o.many, .bool o.v.b, .slice o.dA o.v.ds.length o.dC, .slice o.qA o.ps.length o.qC, .slice o.pA o.v.p.length o.pC, strV o.v.s, .slice o.sA o.v.ss.length o.sC, .int .i64 o.most, .int .i64 o.each]] :: R) w2 := Hp.ord [[row b1 38 [.int .i64 o.kind, .int .i64 o.at_, .int .u64 (o.v.n : Int), .int .i64 o.many, .bool o.v.b, .slice o.dA o.v.ds.length o.dC, .slice o.qA o.ps.length o.qC, .slice o.pA o.v.p.length o.pC, strV o.v.s, .slice o.sA o.v.ss.length o.sC, .int .i64 o.most, .int .i64 o.each]], Y] R [1, 0] hA3 rfl
    refine vc_op rfl (fun K hK => ws_call hF rfl (by decide) cl17_op rfl rfl ?_)
    with_reducible refine (hw_put_uint8 w0 _ _ wb l Y (o.v.n % 256) (Nat.mod_lt _ (by decide)) _ rfl hY hA4 (by omega) ).mono ?_
    rintro e' w5 ⟨Y', rfl, hY', hA6⟩
    refine ⟨_, rfl, fun a hF => hK _ _ ?_⟩
    clear hK K
    replace hA6 : Hp w0 (Y' :: [row b1 38 [.int .i64 o.kind, .int .i64 o.at_, .int .u64 (o.v.n : Int), .int .i64 o.many, .bool o.v.b, .slice o.dA o.v.ds.length o.dC, .slice o.qA o.ps.length o.qC, .slice o.pA o.v.p.length o.pC, strV o.v.s, .slice o.sA o.v.ss.length o.sC, .int .i64 o.most, .int .i64 o.each]] :: R) w5 := hA6
    refine vc_nil ?_
    refine hK2 _ _ ?_; clear  hK2 K2
    apply wp_seq_k; intro K5 hK5
    refine wp_region_lit ?_
    refine vc_y hF rfl rfl (by decide) _ (y_assign rfl rfl) (fun a hF => ?_)
    refine vc_nil ?_
    refine hK5 _ _ ?_; clear  hK5 K5
    apply wp_ret
    refine vc_ret1 hF Try.results39 rfl ?_
    have hA7 : Hp w0 (Y' :: R) w5 := Hp.sel [Y', [row b1 38 [.int .i64 o.kind, .int .i64 o.at_, .int .u64 (o.v.n : Int), .int .i64 o.many, .bool o.v.b, .slice o.dA o.v.ds.length o.dC, .slice o.qA o.ps.length o.qC, .slice o.pA o.v.p.length o.pC, strV o.v.s, .slice o.sA o.v.ss.length o.sC, .int .i64 o.most, .int .i64 o.each]]] R [0] [1] hA6 rfl
    rw [laysE, if_neg (show ¬ o.kind = 8 by omega), if_neg (show ¬ o.kind = 9 by omega), if_neg (show ¬ o.kind = 10 by omega), laysL, if_pos k1]
    exact ⟨_, rfl, hY', hA7⟩
  · refine vc_falseB hF rfl (eql_f (by omega)) ?_
    apply wp_seq_k; intro K6 hK6
    refine wp_region_lit ?_
    refine vc_y hF rfl rfl (by decide) _ (y_cmp rfl rfl rfl rfl rfl) (fun a hF => ?_)
    refine vc_y hF rfl rfl (by decide) _ (y_assign rfl rfl) (fun a hF => ?_)
    refine vc_nil ?_
    refine hK6 _ _ ?_; clear  hK6 K6
    by_cases k2 : o.kind = 2
    · refine vc_trueB hF rfl (eql_t (by omega)) ?_
      refine wp_region_lit ?_
      refine vc_y hF rfl rfl (by decide) _ (y_move rfl rfl) (fun a hF => ?_)
      refine vc_y hF rfl rfl (by decide) _ (y_field rfl Try.underlying38 rfl sz33_op (by decide) rfl (rfl : (⟨_, 0 + _, none⟩ : Addr) = ⟨_, 2, none⟩)) (fun a hF => ?_)
      refine vc_y hF rfl rfl (by decide) _ (y_ld rfl hA3.q rfl 0 rfl rfl nr33_op) (fun a hF => ?_)
      refine vc_y hF rfl rfl (by decide) _ (y_conv rfl Try.underlying33 Try.underlying51 rfl (show IntKind.u16.wrap (o.v.n : Int) = ((o.v.n % 65536 : Nat) : Int) by rw [IntKind.wrap_u16]; omega)) (fun a hF => ?_)
      have hA8 : Hp w0 (Y :: [row b1 38 [.int .i64 o.kind, .int .i64 o.at_, .int .u64 (o.v.n : Int), .int .i64 o.many, .bool o.v.b, .slice o.dA o.v.ds.length o.dC, .slice o.qA o.ps.length o.qC, .slice o.pA o.v.p.length o.pC, strV o.v.s, .slice o.sA o.v.ss.length o.sC, .int .i64 o.most, .int .i64 o.each]] :: R) w2 := Hp.ord [[row b1 38 [.int .i64 o.kind, .int .i64 o.at_, .int .u64 (o.v.n : Int), .int .i64 o.many, .bool o.v.b, .slice o.dA o.v.ds.length o.dC, .slice o.qA o.ps.length o.qC, .slice o.pA o.v.p.length o.pC, strV o.v.s, .slice o.sA o.v.ss.length o.sC, .int .i64 o.most, .int .i64 o.each]], Y] R [1, 0] hA3 rfl
      refine vc_op rfl (fun K hK => ws_call hF rfl (by decide) cl24_op rfl rfl ?_)
      with_reducible refine (hw_put_uint16 w0 _ _ wb l Y (o.v.n % 65536) (Nat.mod_lt _ (by decide)) _ rfl hY hA8 (by omega) ).mono ?_
      rintro e' w9 ⟨Y', rfl, hY', hA10⟩
      refine ⟨_, rfl, fun a hF => hK _ _ ?_⟩
      clear hK K
      replace hA10 : Hp w0 (Y' :: [row b1 38 [.int .i64 o.kind, .int .i64 o.at_, .int .u64 (o.v.n : Int), .int .i64 o.many, .bool o.v.b, .slice o.dA o.v.ds.length o.dC, .slice o.qA o.ps.length o.qC, .slice o.pA o.v.p.length o.pC, strV o.v.s, .slice o.sA o.v.ss.length o.sC, .int .i64 o.most, .int .i64 o.each]] :: R) w9 := hA10
      refine vc_nil ?_
      refine hK2 _ _ ?_; clear  hK2 K2
      apply wp_seq_k; intro K7 hK7
      refine wp_region_lit ?_
      refine vc_y hF rfl rfl (by decide) _ (y_assign rfl rfl) (fun a hF => ?_)
      refine vc_nil ?_
      refine hK7 _ _ ?_; clear  hK7 K7
      apply wp_ret
      refine vc_ret1 hF Try.results39 rfl ?_
      have hA11 : Hp w0 (Y' :: R) w9 := Hp.sel [Y', [row b1 38 [.int .i64 o.kind, .int .i64 o.at_, .int .u64 (o.v.n : Int), .int .i64 o.many, .bool o.v.b, .slice o.dA o.v.ds.length o.dC, .slice o.qA o.ps.length o.qC, .slice o.pA o.v.p.length o.pC, strV o.v.s, .slice o.sA o.v.ss.length o.sC, .int .i64 o.most, .int .i64 o.each]]] R [0] [1] hA10 rfl
      rw [laysE, if_neg (show ¬ o.kind = 8 by omega), if_neg (show ¬ o.kind = 9 by omega), if_neg (show ¬ o.kind = 10 by omega), laysL, if_neg k1, if_pos k2]
      exact ⟨_, rfl, hY', hA11⟩
    · refine vc_falseB hF rfl (eql_f (by omega)) ?_
      apply wp_seq_k; intro K8 hK8
      refine wp_region_lit ?_
      refine vc_y hF rfl rfl (by decide) _ (y_cmp rfl rfl rfl rfl rfl) (fun a hF => ?_)
      refine vc_y hF rfl rfl (by decide) _ (y_assign rfl rfl) (fun a hF => ?_)
      refine vc_nil ?_
      refine hK8 _ _ ?_; clear  hK8 K8
      by_cases k3 : o.kind = 3
      · refine vc_trueB hF rfl (eql_t (by omega)) ?_
        refine wp_region_lit ?_
        refine vc_y hF rfl rfl (by decide) _ (y_move rfl rfl) (fun a hF => ?_)
        refine vc_y hF rfl rfl (by decide) _ (y_field rfl Try.underlying38 rfl sz33_op (by decide) rfl (rfl : (⟨_, 0 + _, none⟩ : Addr) = ⟨_, 2, none⟩)) (fun a hF => ?_)
        refine vc_y hF rfl rfl (by decide) _ (y_ld rfl hA3.q rfl 0 rfl rfl nr33_op) (fun a hF => ?_)
        refine vc_y hF rfl rfl (by decide) _ (y_conv rfl Try.underlying33 Try.underlying114 rfl (show IntKind.u32.wrap (o.v.n : Int) = ((o.v.n % 4294967296 : Nat) : Int) by rw [IntKind.wrap_u32]; omega)) (fun a hF => ?_)
        have hA12 : Hp w0 (Y :: [row b1 38 [.int .i64 o.kind, .int .i64 o.at_, .int .u64 (o.v.n : Int), .int .i64 o.many, .bool o.v.b, .slice o.dA o.v.ds.length o.dC, .slice o.qA o.ps.length o.qC, .slice o.pA o.v.p.length o.pC, strV o.v.s, .slice o.sA o.v.ss.length o.sC, .int .i64 o.most, .int .i64 o.each]] :: R) w2 := Hp.ord [[row b1 38 [.int .i64 o.kind, .int .i64 o.at_, .int .u64 (o.v.n : Int), .int .i64 o.many, .bool o.v.b, .slice o.dA o.v.ds.length o.dC, .slice o.qA o.ps.length o.qC, .slice o.pA o.v.p.length o.pC, strV o.v.s, .slice o.sA o.v.ss.length o.sC, .int .i64 o.most, .int .i64 o.each]], Y] R [1, 0] hA3 rfl
        refine vc_op rfl (fun K hK => ws_call hF rfl (by decide) cl65_op rfl rfl ?_)
        with_reducible refine (hw_put_uint32 w0 _ _ wb l Y (o.v.n % 4294967296) (Nat.mod_lt _ (by decide)) _ rfl hY hA12 (by omega) ).mono ?_
        rintro e' w13 ⟨Y', rfl, hY', hA14⟩
        refine ⟨_, rfl, fun a hF => hK _ _ ?_⟩
        clear hK K
        replace hA14 : Hp w0 (Y' :: [row b1 38 [.int .i64 o.kind, .int .i64 o.at_, .int .u64 (o.v.n : Int), .int .i64 o.many, .bool o.v.b, .slice o.dA o.v.ds.length o.dC, .slice o.qA o.ps.length o.qC, .slice o.pA o.v.p.length o.pC, strV o.v.s, .slice o.sA o.v.ss.length o.sC, .int .i64 o.most, .int .i64 o.each]] :: R) w13 := hA14
        refine vc_nil ?_
        refine hK2 _ _ ?_; clear  hK2 K2
        apply wp_seq_k; intro K9 hK9
        refine wp_region_lit ?_
        refine vc_y hF rfl rfl (by decide) _ (y_assign rfl rfl) (fun a hF => ?_)
        refine vc_nil ?_
        refine hK9 _ _ ?_; clear  hK9 K9
        apply wp_ret
        refine vc_ret1 hF Try.results39 rfl ?_
        have hA15 : Hp w0 (Y' :: R) w13 := Hp.sel [Y', [row b1 38 [.int .i64 o.kind, .int .i64 o.at_, .int .u64 (o.v.n : Int), .int .i64 o.many, .bool o.v.b, .slice o.dA o.v.ds.length o.dC, .slice o.qA o.ps.length o.qC, .slice o.pA o.v.p.length o.pC, strV o.v.s, .slice o.sA o.v.ss.length o.sC, .int .i64 o.most, .int .i64 o.each]]] R [0] [1] hA14 rfl
        rw [laysE, if_neg (show ¬ o.kind = 8 by omega), if_neg (show ¬ o.kind = 9 by omega), if_neg (show ¬ o.kind = 10 by omega), laysL, if_neg k1, if_neg k2, if_pos k3]
        exact ⟨_, rfl, hY', hA15⟩
      · refine vc_falseB hF rfl (eql_f (by omega)) ?_
        apply wp_seq_k; intro K10 hK10
        refine wp_region_lit ?_
        refine vc_y hF rfl rfl (by decide) _ (y_cmp rfl rfl rfl rfl rfl) (fun a hF => ?_)
        refine vc_y hF rfl rfl (by decide) _ (y_assign rfl rfl) (fun a hF => ?_)
        refine vc_nil ?_
        refine hK10 _ _ ?_; clear  hK10 K10
        by_cases k4 : o.kind = 4
        · refine vc_trueB hF rfl (eql_t (by omega)) ?_
          refine wp_region_lit ?_
          refine vc_y hF rfl rfl (by decide) _ (y_move rfl rfl) (fun a hF => ?_)
          refine vc_y hF rfl rfl (by decide) _ (y_field rfl Try.underlying38 rfl sz33_op (by decide) rfl (rfl : (⟨_, 0 + _, none⟩ : Addr) = ⟨_, 2, none⟩)) (fun a hF => ?_)
          refine vc_y hF rfl rfl (by decide) _ (y_ld rfl hA3.q rfl 0 rfl rfl nr33_op) (fun a hF => ?_)
          have hA16 : Hp w0 (Y :: [row b1 38 [.int .i64 o.kind, .int .i64 o.at_, .int .u64 (o.v.n : Int), .int .i64 o.many, .bool o.v.b, .slice o.dA o.v.ds.length o.dC, .slice o.qA o.ps.length o.qC, .slice o.pA o.v.p.length o.pC, strV o.v.s, .slice o.sA o.v.ss.length o.sC, .int .i64 o.most, .int .i64 o.each]] :: R) w2 := Hp.ord [[row b1 38 [.int .i64 o.kind, .int .i64 o.at_, .int .u64 (o.v.n : Int), .int .i64 o.many, .bool o.v.b, .slice o.dA o.v.ds.length o.dC, .slice o.qA o.ps.length o.qC, .slice o.pA o.v.p.length o.pC, strV o.v.s, .slice o.sA o.v.ss.length o.sC, .int .i64 o.most, .int .i64 o.each]], Y] R [1, 0] hA3 rfl
          refine vc_op rfl (fun K hK => ws_call hF rfl (by decide) cl18_op rfl rfl ?_)
          with_reducible refine (hw_put_uint64 w0 _ _ wb l Y o.v.n (by omega) _ rfl hY hA16 (by omega) ).mono ?_
          rintro e' w17 ⟨Y', rfl, hY', hA18⟩
          refine ⟨_, rfl, fun a hF => hK _ _ ?_⟩
          clear hK K
          replace hA18 : Hp w0 (Y' :: [row b1 38 [.int .i64 o.kind, .int .i64 o.at_, .int .u64 (o.v.n : Int), .int .i64 o.many, .bool o.v.b, .slice o.dA o.v.ds.length o.dC, .slice o.qA o.ps.length o.qC, .slice o.pA o.v.p.length o.pC, strV o.v.s, .slice o.sA o.v.ss.length o.sC, .int .i64 o.most, .int .i64 o.each]] :: R) w17 := hA18
          refine vc_nil ?_
          refine hK2 _ _ ?_; clear  hK2 K2
          apply wp_seq_k; intro K11 hK11
          refine wp_region_lit ?_
          refine vc_y hF rfl rfl (by decide) _ (y_assign rfl rfl) (fun a hF => ?_)
          refine vc_nil ?_
          refine hK11 _ _ ?_; clear  hK11 K11
          apply wp_ret
          refine vc_ret1 hF Try.results39 rfl ?_
          have hA19 : Hp w0 (Y' :: R) w17 := Hp.sel [Y', [row b1 38 [.int .i64 o.kind, .int .i64 o.at_, .int .u64 (o.v.n : Int), .int .i64 o.many, .bool o.v.b, .slice o.dA o.v.ds.length o.dC, .slice o.qA o.ps.length o.qC, .slice o.pA o.v.p.length o.pC, strV o.v.s, .slice o.sA o.v.ss.length o.sC, .int .i64 o.most, .int .i64 o.each]]] R [0] [1] hA18 rfl
          rw [laysE, if_neg (show ¬ o.kind = 8 by omega), if_neg (show ¬ o.kind = 9 by omega), if_neg (show ¬ o.kind = 10 by omega), laysL, if_neg k1, if_neg k2, if_neg k3, if_pos k4]
          exact ⟨_, rfl, hY', hA19⟩
        · refine vc_falseB hF rfl (eql_f (by omega)) ?_
          apply wp_seq_k; intro K12 hK12
          refine wp_region_lit ?_
          refine vc_y hF rfl rfl (by decide) _ (y_cmp rfl rfl rfl rfl rfl) (fun a hF => ?_)
          refine vc_y hF rfl rfl (by decide) _ (y_assign rfl rfl) (fun a hF => ?_)
          refine vc_nil ?_
          refine hK12 _ _ ?_; clear  hK12 K12
          by_cases k5 : o.kind = 5
          · refine vc_trueB hF rfl (eql_t (by omega)) ?_
            refine wp_region_lit ?_
            refine vc_y hF rfl rfl (by decide) _ (y_move rfl rfl) (fun a hF => ?_)
            refine vc_y hF rfl rfl (by decide) _ (y_field rfl Try.underlying38 rfl sz4_op (by decide) rfl (rfl : (⟨_, 0 + _, none⟩ : Addr) = ⟨_, 4, none⟩)) (fun a hF => ?_)
            refine vc_y hF rfl rfl (by decide) _ (y_ld rfl hA3.q rfl 0 rfl rfl nr4_op) (fun a hF => ?_)
            have hA20 : Hp w0 (Y :: [row b1 38 [.int .i64 o.kind, .int .i64 o.at_, .int .u64 (o.v.n : Int), .int .i64 o.many, .bool o.v.b, .slice o.dA o.v.ds.length o.dC, .slice o.qA o.ps.length o.qC, .slice o.pA o.v.p.length o.pC, strV o.v.s, .slice o.sA o.v.ss.length o.sC, .int .i64 o.most, .int .i64 o.each]] :: R) w2 := Hp.ord [[row b1 38 [.int .i64 o.kind, .int .i64 o.at_, .int .u64 (o.v.n : Int), .int .i64 o.many, .bool o.v.b, .slice o.dA o.v.ds.length o.dC, .slice o.qA o.ps.length o.qC, .slice o.pA o.v.p.length o.pC, strV o.v.s, .slice o.sA o.v.ss.length o.sC, .int .i64 o.most, .int .i64 o.each]], Y] R [1, 0] hA3 rfl
            refine vc_op rfl (fun K hK => ws_call hF rfl (by decide) cl25_op rfl rfl ?_)
            with_reducible refine (hw_flag w0 _ _ wb l Y o.v.b hY hA20 (by omega) ).mono ?_
            rintro e' w21 ⟨Y', rfl, hY', hA22⟩
            refine ⟨_, rfl, fun a hF => hK _ _ ?_⟩
            clear hK K
            replace hA22 : Hp w0 (Y' :: [row b1 38 [.int .i64 o.kind, .int .i64 o.at_, .int .u64 (o.v.n : Int), .int .i64 o.many, .bool o.v.b, .slice o.dA o.v.ds.length o.dC, .slice o.qA o.ps.length o.qC, .slice o.pA o.v.p.length o.pC, strV o.v.s, .slice o.sA o.v.ss.length o.sC, .int .i64 o.most, .int .i64 o.each]] :: R) w21 := hA22
            refine vc_nil ?_
            refine hK2 _ _ ?_; clear  hK2 K2
            apply wp_seq_k; intro K13 hK13
            refine wp_region_lit ?_
            refine vc_y hF rfl rfl (by decide) _ (y_assign rfl rfl) (fun a hF => ?_)
            refine vc_nil ?_
            refine hK13 _ _ ?_; clear  hK13 K13
            apply wp_ret
            refine vc_ret1 hF Try.results39 rfl ?_
            have hA23 : Hp w0 (Y' :: R) w21 := Hp.sel [Y', [row b1 38 [.int .i64 o.kind, .int .i64 o.at_, .int .u64 (o.v.n : Int), .int .i64 o.many, .bool o.v.b, .slice o.dA o.v.ds.length o.dC, .slice o.qA o.ps.length o.qC, .slice o.pA o.v.p.length o.pC, strV o.v.s, .slice o.sA o.v.ss.length o.sC, .int .i64 o.most, .int .i64 o.each]]] R [0] [1] hA22 rfl
            rw [laysE, if_neg (show ¬ o.kind = 8 by omega), if_neg (show ¬ o.kind = 9 by omega), if_neg (show ¬ o.kind = 10 by omega), laysL, if_neg k1, if_neg k2, if_neg k3, if_neg k4, if_pos k5]
            exact ⟨_, rfl, hY', hA23⟩
          · refine vc_falseB hF rfl (eql_f (by omega)) ?_
            apply wp_seq_k; intro K14 hK14
            refine wp_region_lit ?_
            refine vc_y hF rfl rfl (by decide) _ (y_cmp rfl rfl rfl rfl rfl) (fun a hF => ?_)
            refine vc_y hF rfl rfl (by decide) _ (y_assign rfl rfl) (fun a hF => ?_)
            refine vc_nil ?_
            refine hK14 _ _ ?_; clear  hK14 K14
            by_cases k6 : o.kind = 6
            · refine vc_trueB hF rfl (eql_t (by omega)) ?_
              refine wp_region_lit ?_
              refine vc_y hF rfl rfl (by decide) _ (y_move rfl rfl) (fun a hF => ?_)
              refine vc_y hF rfl rfl (by decide) _ (y_field rfl Try.underlying38 rfl sz34_op (by decide) rfl (rfl : (⟨_, 0 + _, none⟩ : Addr) = ⟨_, 5, none⟩)) (fun a hF => ?_)
              refine vc_y hF rfl rfl (by decide) _ (y_ld rfl hA3.q rfl 0 rfl rfl nr34_op) (fun a hF => ?_)
              have hA24 : Hp w0 (Y :: [row b1 38 [.int .i64 o.kind, .int .i64 o.at_, .int .u64 (o.v.n : Int), .int .i64 o.many, .bool o.v.b, .slice o.dA o.v.ds.length o.dC, .slice o.qA o.ps.length o.qC, .slice o.pA o.v.p.length o.pC, strV o.v.s, .slice o.sA o.v.ss.length o.sC, .int .i64 o.most, .int .i64 o.each]] :: R) w2 := Hp.ord [[row b1 38 [.int .i64 o.kind, .int .i64 o.at_, .int .u64 (o.v.n : Int), .int .i64 o.many, .bool o.v.b, .slice o.dA o.v.ds.length o.dC, .slice o.qA o.ps.length o.qC, .slice o.pA o.v.p.length o.pC, strV o.v.s, .slice o.sA o.v.ss.length o.sC, .int .i64 o.most, .int .i64 o.each]], Y] R [1, 0] hA3 rfl
              refine vc_op rfl (fun K hK => ws_call hF rfl (by decide) cl66_op rfl rfl ?_)
              with_reducible refine (hw_digests w0 _ ([row b1 38 [.int .i64 o.kind, .int .i64 o.at_, .int .u64 (o.v.n : Int), .int .i64 o.many, .bool o.v.b, .slice o.dA o.v.ds.length o.dC, .slice o.qA o.ps.length o.qC, .slice o.pA o.v.p.length o.pC, strV o.v.s, .slice o.sA o.v.ss.length o.sC, .int .i64 o.most, .int .i64 o.each]] :: R) wb l Y o.dA o.v.ds o.dC (hok.ds.mono (subC (sub0))) hok.d32 hY hA24 (by omega) hok.dsl ).mono ?_
              rintro e' w25 ⟨Y', rfl, hY', hA26⟩
              refine ⟨_, rfl, fun a hF => hK _ _ ?_⟩
              clear hK K
              replace hA26 : Hp w0 (Y' :: [row b1 38 [.int .i64 o.kind, .int .i64 o.at_, .int .u64 (o.v.n : Int), .int .i64 o.many, .bool o.v.b, .slice o.dA o.v.ds.length o.dC, .slice o.qA o.ps.length o.qC, .slice o.pA o.v.p.length o.pC, strV o.v.s, .slice o.sA o.v.ss.length o.sC, .int .i64 o.most, .int .i64 o.each]] :: R) w25 := hA26
              refine vc_nil ?_
              refine hK2 _ _ ?_; clear  hK2 K2
              apply wp_seq_k; intro K15 hK15
              refine wp_region_lit ?_
              refine vc_y hF rfl rfl (by decide) _ (y_assign rfl rfl) (fun a hF => ?_)
              refine vc_nil ?_
              refine hK15 _ _ ?_; clear  hK15 K15
              apply wp_ret
              refine vc_ret1 hF Try.results39 rfl ?_
              have hA27 : Hp w0 (Y' :: R) w25 := Hp.sel [Y', [row b1 38 [.int .i64 o.kind, .int .i64 o.at_, .int .u64 (o.v.n : Int), .int .i64 o.many, .bool o.v.b, .slice o.dA o.v.ds.length o.dC, .slice o.qA o.ps.length o.qC, .slice o.pA o.v.p.length o.pC, strV o.v.s, .slice o.sA o.v.ss.length o.sC, .int .i64 o.most, .int .i64 o.each]]] R [0] [1] hA26 rfl
              rw [laysE, if_neg (show ¬ o.kind = 8 by omega), if_neg (show ¬ o.kind = 9 by omega), if_neg (show ¬ o.kind = 10 by omega), laysL, if_neg k1, if_neg k2, if_neg k3, if_neg k4, if_neg k5, if_pos k6]
              exact ⟨_, rfl, hY', hA27⟩
            · refine vc_falseB hF rfl (eql_f (by omega)) ?_
              apply wp_seq_k; intro K16 hK16
              refine wp_region_lit ?_
              refine vc_y hF rfl rfl (by decide) _ (y_cmp rfl rfl rfl rfl rfl) (fun a hF => ?_)
              refine vc_y hF rfl rfl (by decide) _ (y_assign rfl rfl) (fun a hF => ?_)
              refine vc_nil ?_
              refine hK16 _ _ ?_; clear  hK16 K16
              by_cases k7 : o.kind = 7
              · refine vc_trueB hF rfl (eql_t (by omega)) ?_
                refine wp_region_lit ?_
                refine vc_y hF rfl rfl (by decide) _ (y_move rfl rfl) (fun a hF => ?_)
                refine vc_y hF rfl rfl (by decide) _ (y_field rfl Try.underlying38 rfl sz35_op (by decide) rfl (rfl : (⟨_, 0 + _, none⟩ : Addr) = ⟨_, 7, none⟩)) (fun a hF => ?_)
                refine vc_y hF rfl rfl (by decide) _ (y_ld rfl hA3.q rfl 0 rfl rfl nr35_op) (fun a hF => ?_)
                refine vc_op rfl (fun K hK => hs_bs1 hF rfl (by decide) rfl hA3 rfl (op_bsP o.pA o.v.p.length o.pC) (fun b28 w29 a hb28 hF hA30 => hK _ _ ?_))
                clear hK K
                replace hA30 : Hp w0 ([row b28 35 [.slice o.pA o.v.p.length o.pC]] :: [row b1 38 [.int .i64 o.kind, .int .i64 o.at_, .int .u64 (o.v.n : Int), .int .i64 o.many, .bool o.v.b, .slice o.dA o.v.ds.length o.dC, .slice o.qA o.ps.length o.qC, .slice o.pA o.v.p.length o.pC, strV o.v.s, .slice o.sA o.v.ss.length o.sC, .int .i64 o.most, .int .i64 o.each]] :: Y :: R) w29 := hA30
                have hA31 : Hp w0 (Y :: [row b28 35 [.slice o.pA o.v.p.length o.pC]] :: [row b1 38 [.int .i64 o.kind, .int .i64 o.at_, .int .u64 (o.v.n : Int), .int .i64 o.many, .bool o.v.b, .slice o.dA o.v.ds.length o.dC, .slice o.qA o.ps.length o.qC, .slice o.pA o.v.p.length o.pC, strV o.v.s, .slice o.sA o.v.ss.length o.sC, .int .i64 o.most, .int .i64 o.each]] :: R) w29 := Hp.ord [[row b28 35 [.slice o.pA o.v.p.length o.pC]], [row b1 38 [.int .i64 o.kind, .int .i64 o.at_, .int .u64 (o.v.n : Int), .int .i64 o.many, .bool o.v.b, .slice o.dA o.v.ds.length o.dC, .slice o.qA o.ps.length o.qC, .slice o.pA o.v.p.length o.pC, strV o.v.s, .slice o.sA o.v.ss.length o.sC, .int .i64 o.most, .int .i64 o.each]], Y] R [2, 0, 1] hA30 rfl
                have hP : PcS w0 ([row b28 35 [.slice o.pA o.v.p.length o.pC]] :: [row b1 38 [.int .i64 o.kind, .int .i64 o.at_, .int .u64 (o.v.n : Int), .int .i64 o.many, .bool o.v.b, .slice o.dA o.v.ds.length o.dC, .slice o.qA o.ps.length o.qC, .slice o.pA o.v.p.length o.pC, strV o.v.s, .slice o.sA o.v.ss.length o.sC, .int .i64 o.most, .int .i64 o.each]] :: R) (some ⟨b28, 0, none⟩) [(o.pA, o.pC, o.v.p)] := ⟨Rc.ofRow (i := 0) (off := 0) rfl rfl, fun q hq => by rw [List.mem_singleton] at hq; subst hq; exact ⟨hok.pc, hok.p.mono (fun x hx => by simp [hx])⟩⟩
                have hpf : pflat [((o.pA, o.pC, o.v.p) : Piece)] = o.v.p := by simp [pflat]
                have hcall : Calls Try.prog 67 #[.pointer (some ⟨wb, 0, none⟩), .slice (some ⟨b28, 0, none⟩) 1 1] w29 _ := hw_raw w0 _ _ wb l Y (some ⟨b28, 0, none⟩) [(o.pA, o.pC, o.v.p)] 1 hP hY hA31 (by rw [hpf]; omega) (by simp)
                refine vc_op rfl (fun K hK => ws_call hF rfl (by decide) cl67_op rfl rfl ?_)
                with_reducible refine (hcall ).mono ?_
                rintro e' w32 ⟨Y', rfl, hY', hA33⟩
                refine ⟨_, rfl, fun a hF => hK _ _ ?_⟩
                clear hK K
                replace hA33 : Hp w0 (Y' :: [row b28 35 [.slice o.pA o.v.p.length o.pC]] :: [row b1 38 [.int .i64 o.kind, .int .i64 o.at_, .int .u64 (o.v.n : Int), .int .i64 o.many, .bool o.v.b, .slice o.dA o.v.ds.length o.dC, .slice o.qA o.ps.length o.qC, .slice o.pA o.v.p.length o.pC, strV o.v.s, .slice o.sA o.v.ss.length o.sC, .int .i64 o.most, .int .i64 o.each]] :: R) w32 := hA33
                rw [hpf] at hY'
                refine vc_nil ?_
                refine hK2 _ _ ?_; clear  hK2 K2
                apply wp_seq_k; intro K17 hK17
                refine wp_region_lit ?_
                refine vc_y hF rfl rfl (by decide) _ (y_assign rfl rfl) (fun a hF => ?_)
                refine vc_nil ?_
                refine hK17 _ _ ?_; clear  hK17 K17
                apply wp_ret
                refine vc_ret1 hF Try.results39 rfl ?_
                have hA34 : Hp w0 (Y' :: R) w32 := Hp.sel [Y', [row b28 35 [.slice o.pA o.v.p.length o.pC]], [row b1 38 [.int .i64 o.kind, .int .i64 o.at_, .int .u64 (o.v.n : Int), .int .i64 o.many, .bool o.v.b, .slice o.dA o.v.ds.length o.dC, .slice o.qA o.ps.length o.qC, .slice o.pA o.v.p.length o.pC, strV o.v.s, .slice o.sA o.v.ss.length o.sC, .int .i64 o.most, .int .i64 o.each]]] R [0] [1, 2] hA33 rfl
                rw [laysE, if_neg (show ¬ o.kind = 8 by omega), if_neg (show ¬ o.kind = 9 by omega), if_neg (show ¬ o.kind = 10 by omega), laysL, if_neg k1, if_neg k2, if_neg k3, if_neg k4, if_neg k5, if_neg k6, if_pos k7]
                exact ⟨_, rfl, hY', hA34⟩
              · refine vc_falseB hF rfl (eql_f (by omega)) ?_
                apply wp_seq_k; intro K18 hK18
                refine wp_region_lit ?_
                refine vc_y hF rfl rfl (by decide) _ (y_cmp rfl rfl rfl rfl rfl) (fun a hF => ?_)
                refine vc_y hF rfl rfl (by decide) _ (y_assign rfl rfl) (fun a hF => ?_)
                refine vc_nil ?_
                refine hK18 _ _ ?_; clear  hK18 K18
                by_cases k8 : o.kind = 8
                · refine vc_trueB hF rfl (eql_t (by omega)) ?_
                  apply wp_seq_k; intro K19 hK19
                  refine wp_region_lit ?_
                  refine vc_y hF rfl rfl (by decide) _ (y_move rfl rfl) (fun a hF => ?_)
                  refine vc_y hF rfl rfl (by decide) _ (y_field rfl Try.underlying38 rfl sz9_op (by decide) rfl (rfl : (⟨_, 0 + _, none⟩ : Addr) = ⟨_, 8, none⟩)) (fun a hF => ?_)
                  refine vc_y hF rfl rfl (by decide) _ (y_ld rfl hA3.q rfl 0 rfl rfl nr9_op) (fun a hF => ?_)
                  refine vc_y hF rfl rfl (by decide) _ (y_field rfl Try.underlying38 rfl sz3_op (by decide) rfl (rfl : (⟨_, 0 + _, none⟩ : Addr) = ⟨_, 10, none⟩)) (fun a hF => ?_)
                  refine vc_y hF rfl rfl (by decide) _ (y_ld rfl hA3.q rfl 0 rfl rfl nr3_op) (fun a hF => ?_)
                  have hA35 : Hp w0 (Y :: [row b1 38 [.int .i64 o.kind, .int .i64 o.at_, .int .u64 (o.v.n : Int), .int .i64 o.many, .bool o.v.b, .slice o.dA o.v.ds.length o.dC, .slice o.qA o.ps.length o.qC, .slice o.pA o.v.p.length o.pC, strV o.v.s, .slice o.sA o.v.ss.length o.sC, .int .i64 o.most, .int .i64 o.each]] :: R) w2 := Hp.ord [[row b1 38 [.int .i64 o.kind, .int .i64 o.at_, .int .u64 (o.v.n : Int), .int .i64 o.many, .bool o.v.b, .slice o.dA o.v.ds.length o.dC, .slice o.qA o.ps.length o.qC, .slice o.pA o.v.p.length o.pC, strV o.v.s, .slice o.sA o.v.ss.length o.sC, .int .i64 o.most, .int .i64 o.each]], Y] R [1, 0] hA3 rfl
                  refine vc_op rfl (fun K hK => ws_call hF rfl (by decide) cl68_op rfl rfl ?_)
                  with_reducible refine (hw_text w0 _ _ wb l Y o.v.s o.most hY hA35 (by omega) ).mono ?_
                  rintro e' w36 ⟨Y', rfl, hY', hA37⟩
                  refine ⟨_, rfl, fun a hF => hK _ _ ?_⟩
                  clear hK K
                  replace hA37 : Hp w0 (Y' :: [row b1 38 [.int .i64 o.kind, .int .i64 o.at_, .int .u64 (o.v.n : Int), .int .i64 o.many, .bool o.v.b, .slice o.dA o.v.ds.length o.dC, .slice o.qA o.ps.length o.qC, .slice o.pA o.v.p.length o.pC, strV o.v.s, .slice o.sA o.v.ss.length o.sC, .int .i64 o.most, .int .i64 o.each]] :: R) w36 := hA37
                  refine vc_y hF rfl rfl (by decide) _ (y_cmp rfl rfl rfl rfl rfl) (fun a hF => ?_)
                  refine vc_y hF rfl rfl (by decide) _ (y_assign rfl rfl) (fun a hF => ?_)
                  refine vc_nil ?_
                  refine hK19 _ _ ?_; clear  hK19 K19
                  apply wp_ret
                  simp only [Exit.then, Exit.inBlock]
                  refine vc_ret1 hF Try.results39 rfl ?_
                  have hA38 : Hp w0 (Y' :: R) w36 := Hp.sel [Y', [row b1 38 [.int .i64 o.kind, .int .i64 o.at_, .int .u64 (o.v.n : Int), .int .i64 o.many, .bool o.v.b, .slice o.dA o.v.ds.length o.dC, .slice o.qA o.ps.length o.qC, .slice o.pA o.v.p.length o.pC, strV o.v.s, .slice o.sA o.v.ss.length o.sC, .int .i64 o.most, .int .i64 o.each]]] R [0] [1] hA37 rfl
                  rw [laysE, if_pos k8, laysL, if_neg k1, if_neg k2, if_neg k3, if_neg k4, if_neg k5, if_neg k6, if_neg k7, if_pos k8]
                  exact ⟨_, by rw [cmp0], hY', hA38⟩
                · refine vc_falseB hF rfl (eql_f (by omega)) ?_
                  apply wp_seq_k; intro K20 hK20
                  refine wp_region_lit ?_
                  refine vc_y hF rfl rfl (by decide) _ (y_cmp rfl rfl rfl rfl rfl) (fun a hF => ?_)
                  refine vc_y hF rfl rfl (by decide) _ (y_assign rfl rfl) (fun a hF => ?_)
                  refine vc_nil ?_
                  refine hK20 _ _ ?_; clear  hK20 K20
                  by_cases k9 : o.kind = 9
                  · refine vc_trueB hF rfl (eql_t (by omega)) ?_
                    apply wp_seq_k; intro K21 hK21
                    refine wp_region_lit ?_
                    refine vc_y hF rfl rfl (by decide) _ (y_move rfl rfl) (fun a hF => ?_)
                    refine vc_y hF rfl rfl (by decide) _ (y_field rfl Try.underlying38 rfl sz35_op (by decide) rfl (rfl : (⟨_, 0 + _, none⟩ : Addr) = ⟨_, 7, none⟩)) (fun a hF => ?_)
                    refine vc_y hF rfl rfl (by decide) _ (y_ld rfl hA3.q rfl 0 rfl rfl nr35_op) (fun a hF => ?_)
                    refine vc_y hF rfl rfl (by decide) _ (y_field rfl Try.underlying38 rfl sz3_op (by decide) rfl (rfl : (⟨_, 0 + _, none⟩ : Addr) = ⟨_, 10, none⟩)) (fun a hF => ?_)
                    refine vc_y hF rfl rfl (by decide) _ (y_ld rfl hA3.q rfl 0 rfl rfl nr3_op) (fun a hF => ?_)
                    have hA39 : Hp w0 (Y :: [row b1 38 [.int .i64 o.kind, .int .i64 o.at_, .int .u64 (o.v.n : Int), .int .i64 o.many, .bool o.v.b, .slice o.dA o.v.ds.length o.dC, .slice o.qA o.ps.length o.qC, .slice o.pA o.v.p.length o.pC, strV o.v.s, .slice o.sA o.v.ss.length o.sC, .int .i64 o.most, .int .i64 o.each]] :: R) w2 := Hp.ord [[row b1 38 [.int .i64 o.kind, .int .i64 o.at_, .int .u64 (o.v.n : Int), .int .i64 o.many, .bool o.v.b, .slice o.dA o.v.ds.length o.dC, .slice o.qA o.ps.length o.qC, .slice o.pA o.v.p.length o.pC, strV o.v.s, .slice o.sA o.v.ss.length o.sC, .int .i64 o.most, .int .i64 o.each]], Y] R [1, 0] hA3 rfl
                    refine vc_op rfl (fun K hK => ws_call hF rfl (by decide) cl69_op rfl rfl ?_)
                    with_reducible refine (hw_bytes w0 _ ([row b1 38 [.int .i64 o.kind, .int .i64 o.at_, .int .u64 (o.v.n : Int), .int .i64 o.many, .bool o.v.b, .slice o.dA o.v.ds.length o.dC, .slice o.qA o.ps.length o.qC, .slice o.pA o.v.p.length o.pC, strV o.v.s, .slice o.sA o.v.ss.length o.sC, .int .i64 o.most, .int .i64 o.each]] :: R) wb l Y o.v.p o.pA o.pC (hok.p.mono (subC (sub0))) o.most hY hA39 (by omega) ).mono ?_
                    rintro e' w40 ⟨Y', rfl, hY', hA41⟩
                    refine ⟨_, rfl, fun a hF => hK _ _ ?_⟩
                    clear hK K
                    replace hA41 : Hp w0 (Y' :: [row b1 38 [.int .i64 o.kind, .int .i64 o.at_, .int .u64 (o.v.n : Int), .int .i64 o.many, .bool o.v.b, .slice o.dA o.v.ds.length o.dC, .slice o.qA o.ps.length o.qC, .slice o.pA o.v.p.length o.pC, strV o.v.s, .slice o.sA o.v.ss.length o.sC, .int .i64 o.most, .int .i64 o.each]] :: R) w40 := hA41
                    refine vc_y hF rfl rfl (by decide) _ (y_cmp rfl rfl rfl rfl rfl) (fun a hF => ?_)
                    refine vc_y hF rfl rfl (by decide) _ (y_assign rfl rfl) (fun a hF => ?_)
                    refine vc_nil ?_
                    refine hK21 _ _ ?_; clear  hK21 K21
                    apply wp_ret
                    simp only [Exit.then, Exit.inBlock]
                    refine vc_ret1 hF Try.results39 rfl ?_
                    have hA42 : Hp w0 (Y' :: R) w40 := Hp.sel [Y', [row b1 38 [.int .i64 o.kind, .int .i64 o.at_, .int .u64 (o.v.n : Int), .int .i64 o.many, .bool o.v.b, .slice o.dA o.v.ds.length o.dC, .slice o.qA o.ps.length o.qC, .slice o.pA o.v.p.length o.pC, strV o.v.s, .slice o.sA o.v.ss.length o.sC, .int .i64 o.most, .int .i64 o.each]]] R [0] [1] hA41 rfl
                    rw [laysE, if_neg k8, if_pos k9, laysL, if_neg k1, if_neg k2, if_neg k3, if_neg k4, if_neg k5, if_neg k6, if_neg k7, if_neg k8, if_pos k9]
                    exact ⟨_, by rw [cmp0], hY', hA42⟩
                  · refine vc_falseB hF rfl (eql_f (by omega)) ?_
                    apply wp_seq_k; intro K22 hK22
                    refine wp_region_lit ?_
                    refine vc_y hF rfl rfl (by decide) _ (y_cmp rfl rfl rfl rfl rfl) (fun a hF => ?_)
                    refine vc_y hF rfl rfl (by decide) _ (y_assign rfl rfl) (fun a hF => ?_)
                    refine vc_nil ?_
                    refine hK22 _ _ ?_; clear  hK22 K22
                    by_cases k10 : o.kind = 10
                    · refine vc_trueB hF rfl (eql_t (by omega)) ?_
                      apply wp_seq_k; intro K23 hK23
                      refine wp_region_lit ?_
                      refine vc_y hF rfl rfl (by decide) _ (y_move rfl rfl) (fun a hF => ?_)
                      refine vc_y hF rfl rfl (by decide) _ (y_field rfl Try.underlying38 rfl sz36_op (by decide) rfl (rfl : (⟨_, 0 + _, none⟩ : Addr) = ⟨_, 9, none⟩)) (fun a hF => ?_)
                      refine vc_y hF rfl rfl (by decide) _ (y_ld rfl hA3.q rfl 0 rfl rfl nr36_op) (fun a hF => ?_)
                      refine vc_y hF rfl rfl (by decide) _ (y_field rfl Try.underlying38 rfl sz3_op (by decide) rfl (rfl : (⟨_, 0 + _, none⟩ : Addr) = ⟨_, 10, none⟩)) (fun a hF => ?_)
                      refine vc_y hF rfl rfl (by decide) _ (y_ld rfl hA3.q rfl 0 rfl rfl nr3_op) (fun a hF => ?_)
                      refine vc_y hF rfl rfl (by decide) _ (y_field rfl Try.underlying38 rfl sz3_op (by decide) rfl (rfl : (⟨_, 0 + _, none⟩ : Addr) = ⟨_, 11, none⟩)) (fun a hF => ?_)
                      refine vc_y hF rfl rfl (by decide) _ (y_ld rfl hA3.q rfl 0 rfl rfl nr3_op) (fun a hF => ?_)
                      have hA43 : Hp w0 (Y :: [row b1 38 [.int .i64 o.kind, .int .i64 o.at_, .int .u64 (o.v.n : Int), .int .i64 o.many, .bool o.v.b, .slice o.dA o.v.ds.length o.dC, .slice o.qA o.ps.length o.qC, .slice o.pA o.v.p.length o.pC, strV o.v.s, .slice o.sA o.v.ss.length o.sC, .int .i64 o.most, .int .i64 o.each]] :: R) w2 := Hp.ord [[row b1 38 [.int .i64 o.kind, .int .i64 o.at_, .int .u64 (o.v.n : Int), .int .i64 o.many, .bool o.v.b, .slice o.dA o.v.ds.length o.dC, .slice o.qA o.ps.length o.qC, .slice o.pA o.v.p.length o.pC, strV o.v.s, .slice o.sA o.v.ss.length o.sC, .int .i64 o.most, .int .i64 o.each]], Y] R [1, 0] hA3 rfl
                      refine vc_op rfl (fun K hK => ws_call hF rfl (by decide) cl70_op rfl rfl ?_)
                      with_reducible refine (hw_texts w0 _ ([row b1 38 [.int .i64 o.kind, .int .i64 o.at_, .int .u64 (o.v.n : Int), .int .i64 o.many, .bool o.v.b, .slice o.dA o.v.ds.length o.dC, .slice o.qA o.ps.length o.qC, .slice o.pA o.v.p.length o.pC, strV o.v.s, .slice o.sA o.v.ss.length o.sC, .int .i64 o.most, .int .i64 o.each]] :: R) wb l Y o.sA o.v.ss o.sC (hok.ss.mono (subC (sub0))) o.most o.each hY hA43 (by omega) hok.ssl ).mono ?_
                      rintro e' w44 ⟨Y', rfl, hY', hA45⟩
                      refine ⟨_, rfl, fun a hF => hK _ _ ?_⟩
                      clear hK K
                      replace hA45 : Hp w0 (Y' :: [row b1 38 [.int .i64 o.kind, .int .i64 o.at_, .int .u64 (o.v.n : Int), .int .i64 o.many, .bool o.v.b, .slice o.dA o.v.ds.length o.dC, .slice o.qA o.ps.length o.qC, .slice o.pA o.v.p.length o.pC, strV o.v.s, .slice o.sA o.v.ss.length o.sC, .int .i64 o.most, .int .i64 o.each]] :: R) w44 := hA45
                      refine vc_y hF rfl rfl (by decide) _ (y_cmp rfl rfl rfl rfl rfl) (fun a hF => ?_)
                      refine vc_y hF rfl rfl (by decide) _ (y_assign rfl rfl) (fun a hF => ?_)
                      refine vc_nil ?_
                      refine hK23 _ _ ?_; clear  hK23 K23
                      apply wp_ret
                      simp only [Exit.then, Exit.inBlock]
                      refine vc_ret1 hF Try.results39 rfl ?_
                      have hA46 : Hp w0 (Y' :: R) w44 := Hp.sel [Y', [row b1 38 [.int .i64 o.kind, .int .i64 o.at_, .int .u64 (o.v.n : Int), .int .i64 o.many, .bool o.v.b, .slice o.dA o.v.ds.length o.dC, .slice o.qA o.ps.length o.qC, .slice o.pA o.v.p.length o.pC, strV o.v.s, .slice o.sA o.v.ss.length o.sC, .int .i64 o.most, .int .i64 o.each]]] R [0] [1] hA45 rfl
                      rw [laysE, if_neg k8, if_neg k9, if_pos k10, laysL, if_neg k1, if_neg k2, if_neg k3, if_neg k4, if_neg k5, if_neg k6, if_neg k7, if_neg k8, if_neg k9, if_pos k10]
                      exact ⟨_, by rw [cmp0], hY', hA46⟩
                    · refine vc_falseB hF rfl (eql_f (by omega)) ?_
                      apply wp_skip
                      refine hK2 _ _ ?_; clear  hK2 K2
                      apply wp_seq_k; intro K24 hK24
                      refine wp_region_lit ?_
                      refine vc_y hF rfl rfl (by decide) _ (y_assign rfl rfl) (fun a hF => ?_)
                      refine vc_nil ?_
                      refine hK24 _ _ ?_; clear  hK24 K24
                      apply wp_ret
                      refine vc_ret1 hF Try.results39 rfl ?_
                      have hA47 : Hp w0 (Y :: R) w2 := Hp.sel [[row b1 38 [.int .i64 o.kind, .int .i64 o.at_, .int .u64 (o.v.n : Int), .int .i64 o.many, .bool o.v.b, .slice o.dA o.v.ds.length o.dC, .slice o.qA o.ps.length o.qC, .slice o.pA o.v.p.length o.pC, strV o.v.s, .slice o.sA o.v.ss.length o.sC, .int .i64 o.most, .int .i64 o.each]], Y] R [1] [0] hA3 rfl
                      rw [laysE, if_neg k8, if_neg k9, if_neg k10, laysL, if_neg k1, if_neg k2, if_neg k3, if_neg k4, if_neg k5, if_neg k6, if_neg k7, if_neg k8, if_neg k9, if_neg k10, List.append_nil]
                      exact ⟨Y, rfl, hY, hA47⟩

theorem op_build (k m e n : Int) (w : World) : (Instr.build 38 #[(0, .int .i64 k), (10, .int .i64 m), (11, .int .i64 e), (3, .int .i64 n)]).run Try.prog w = .ok (.agg #[.int .i64 k, .int .i64 0, .int .u64 0, .int .i64 n, .bool false, .slice none 0 0, .slice none 0 0, .slice none 0 0, .string ⟨#[]⟩, .slice none 0 0, .int .i64 m, .int .i64 e]) w := by kernel_rfl

set_option maxRecDepth 100000 in
set_option maxHeartbeats 1000000 in
theorem op_again (w0 w : World) (R : List Seg) (rb : Nat) (A : Option Addr) (l : List UInt8) (c p y : Nat) (X : Seg) (o : OpX) (R0 : List Seg) (hok : OpOK w0 R0 o) (hO : Buf 5 1 X (.slice A l.length c) l.length (dc l)) (hA : Hp w0 ([row rb 95 [.slice A l.length c, .int .i64 (p : Nat), .int .i64 (y : Nat)]] :: X :: R) w) (hp : p ≤ l.length) (hl : l.length < 140737488354000) : Calls Try.prog 41 #[.pointer (some ⟨rb, 0, none⟩), .agg (opC o).toArray] w fun e w' => ∃ o' G, e = .returned (.agg (opC o').toArray) ∧ o'.kind = o.kind ∧ o'.many = o.many ∧ o'.most = o.most ∧ o'.each = o.each ∧ o'.v = (agR o (l.drop p)).val vals0 y ∧ (∀ R', G ∈ R' → OpOK w0 R' o') ∧ Hp w0 (G :: [row rb 95 [.slice A l.length c, .int .i64 ((agR o (l.drop p)).pl p y : Nat), .int .i64 ((agR o (l.drop p)).why y : Nat)]] :: X :: R) w' := by
  have hm := hok.many
  refine vc_enter Try.func41 rfl Try.ntmps41 (Nat.le_of_ble_eq_true rfl) (fun a hF => ?_)
  apply wp_seq_k; intro K1 hK1
  refine wp_region_lit ?_
  refine vc_op rfl (fun K hK => hs_box (cs := [.int .i64 o.kind, .int .i64 o.at_, .int .u64 (o.v.n : Int), .int .i64 o.many, .bool o.v.b, .slice o.dA o.v.ds.length o.dC, .slice o.qA o.ps.length o.qC, .slice o.pA o.v.p.length o.pC, strV o.v.s, .slice o.sA o.v.ss.length o.sC, .int .i64 o.most, .int .i64 o.each]) hF rfl (by decide) rfl hA rfl (fun b1 w2 a hb1 hF hA3 => hK _ _ ?_))
  clear hK K
  replace hA3 : Hp w0 ([row b1 38 [.int .i64 o.kind, .int .i64 o.at_, .int .u64 (o.v.n : Int), .int .i64 o.many, .bool o.v.b, .slice o.dA o.v.ds.length o.dC, .slice o.qA o.ps.length o.qC, .slice o.pA o.v.p.length o.pC, strV o.v.s, .slice o.sA o.v.ss.length o.sC, .int .i64 o.most, .int .i64 o.each]] :: [row rb 95 [.slice A l.length c, .int .i64 (p : Int), .int .i64 (y : Int)]] :: X :: R) w2 := hA3
  refine vc_op rfl (fun K hK => hs_alloc hF rfl (by decide) rfl hA3 (zr38_op) (fun b4 w5 a hb4 hF hA6 => hK _ _ ?_))
  clear hK K
  replace hA6 : Hp w0 ([row b4 38 [.int .i64 0, .int .i64 0, .int .u64 0, .int .i64 0, .bool false, .slice none 0 0, .slice none 0 0, .slice none 0 0, .string (⟨#[]⟩), .slice none 0 0, .int .i64 0, .int .i64 0]] :: [row b1 38 [.int .i64 o.kind, .int .i64 o.at_, .int .u64 (o.v.n : Int), .int .i64 o.many, .bool o.v.b, .slice o.dA o.v.ds.length o.dC, .slice o.qA o.ps.length o.qC, .slice o.pA o.v.p.length o.pC, strV o.v.s, .slice o.sA o.v.ss.length o.sC, .int .i64 o.most, .int .i64 o.each]] :: [row rb 95 [.slice A l.length c, .int .i64 (p : Int), .int .i64 (y : Int)]] :: X :: R) w5 := hA6
  refine vc_nil ?_
  refine hK1 _ _ ?_; clear  hK1 K1
  apply wp_seq_k; intro K2 hK2
  refine wp_region_lit ?_
  refine vc_y hF rfl rfl (by decide) _ (y_field rfl Try.underlying38 rfl sz3_op (by decide) rfl (rfl : (⟨_, 0 + _, none⟩ : Addr) = ⟨_, 0, none⟩)) (fun a hF => ?_)
  refine vc_y hF rfl rfl (by decide) _ (y_ld rfl hA6.q rfl 1 rfl rfl nr3_op) (fun a hF => ?_)
  refine vc_y hF rfl rfl (by decide) _ (y_field rfl Try.underlying38 rfl sz3_op (by decide) rfl (rfl : (⟨_, 0 + _, none⟩ : Addr) = ⟨_, 10, none⟩)) (fun a hF => ?_)
  refine vc_y hF rfl rfl (by decide) _ (y_ld rfl hA6.q rfl 1 rfl rfl nr3_op) (fun a hF => ?_)
  refine vc_y hF rfl rfl (by decide) _ (y_field rfl Try.underlying38 rfl sz3_op (by decide) rfl (rfl : (⟨_, 0 + _, none⟩ : Addr) = ⟨_, 11, none⟩)) (fun a hF => ?_)
  refine vc_y hF rfl rfl (by decide) _ (y_ld rfl hA6.q rfl 1 rfl rfl nr3_op) (fun a hF => ?_)
  refine vc_y hF rfl rfl (by decide) _ (y_field rfl Try.underlying38 rfl sz3_op (by decide) rfl (rfl : (⟨_, 0 + _, none⟩ : Addr) = ⟨_, 3, none⟩)) (fun a hF => ?_)
  refine vc_y hF rfl rfl (by decide) _ (y_ld rfl hA6.q rfl 1 rfl rfl nr3_op) (fun a hF => ?_)
  refine vc_y hF rfl rfl (by decide) _ (y_build (qs := #[(0, .int .i64 o.kind), (10, .int .i64 o.most), (11, .int .i64 o.each), (3, .int .i64 o.many)]) rfl rfl (op_build o.kind o.most o.each o.many)) (fun a hF => ?_)
  refine vc_op rfl (fun K hK => hs_alloc hF rfl (by decide) rfl hA6 (zr38_op) (fun b7 w8 a hb7 hF hA9 => hK _ _ ?_))
  clear hK K
  replace hA9 : Hp w0 ([row b7 38 [.int .i64 0, .int .i64 0, .int .u64 0, .int .i64 0, .bool false, .slice none 0 0, .slice none 0 0, .slice none 0 0, .string (⟨#[]⟩), .slice none 0 0, .int .i64 0, .int .i64 0]] :: [row b4 38 [.int .i64 0, .int .i64 0, .int .u64 0, .int .i64 0, .bool false, .slice none 0 0, .slice none 0 0, .slice none 0 0, .string (⟨#[]⟩), .slice none 0 0, .int .i64 0, .int .i64 0]] :: [row b1 38 [.int .i64 o.kind, .int .i64 o.at_, .int .u64 (o.v.n : Int), .int .i64 o.many, .bool o.v.b, .slice o.dA o.v.ds.length o.dC, .slice o.qA o.ps.length o.qC, .slice o.pA o.v.p.length o.pC, strV o.v.s, .slice o.sA o.v.ss.length o.sC, .int .i64 o.most, .int .i64 o.each]] :: [row rb 95 [.slice A l.length c, .int .i64 (p : Int), .int .i64 (y : Int)]] :: X :: R) w8 := hA9
  refine vc_op rfl (fun K hK => hs_storeAll (new := [.int .i64 o.kind, .int .i64 0, .int .u64 0, .int .i64 o.many, .bool false, .slice none 0 0, .slice none 0 0, .slice none 0 0, .string (⟨#[]⟩), .slice none 0 0, .int .i64 o.most, .int .i64 o.each]) hF rfl rfl hA9 rfl rfl 0 rfl rfl (by simp [Value.oneCell']) sz38_op (fun w10 hA11 => hK _ _ ?_))
  clear hK K
  replace hA11 : Hp w0 ([row b7 38 [.int .i64 o.kind, .int .i64 0, .int .u64 0, .int .i64 o.many, .bool false, .slice none 0 0, .slice none 0 0, .slice none 0 0, .string (⟨#[]⟩), .slice none 0 0, .int .i64 o.most, .int .i64 o.each]] :: [row b4 38 [.int .i64 0, .int .i64 0, .int .u64 0, .int .i64 0, .bool false, .slice none 0 0, .slice none 0 0, .slice none 0 0, .string (⟨#[]⟩), .slice none 0 0, .int .i64 0, .int .i64 0]] :: [row b1 38 [.int .i64 o.kind, .int .i64 o.at_, .int .u64 (o.v.n : Int), .int .i64 o.many, .bool o.v.b, .slice o.dA o.v.ds.length o.dC, .slice o.qA o.ps.length o.qC, .slice o.pA o.v.p.length o.pC, strV o.v.s, .slice o.sA o.v.ss.length o.sC, .int .i64 o.most, .int .i64 o.each]] :: [row rb 95 [.slice A l.length c, .int .i64 (p : Int), .int .i64 (y : Int)]] :: X :: R) w10 := hA11
  refine vc_nil ?_
  refine hK2 _ _ ?_; clear  hK2 K2
  apply wp_seq_k; intro K3 hK3
  apply wp_seq_k; intro K4 hK4
  refine wp_region_lit ?_
  refine vc_y hF rfl rfl (by decide) _ (y_field rfl Try.underlying38 rfl sz3_op (by decide) rfl (rfl : (⟨_, 0 + _, none⟩ : Addr) = ⟨_, 0, none⟩)) (fun a hF => ?_)
  refine vc_y hF rfl rfl (by decide) _ (y_ld rfl hA11.q rfl 2 rfl rfl nr3_op) (fun a hF => ?_)
  refine vc_nil ?_
  refine hK4 _ _ ?_; clear  hK4 K4
  apply wp_block
  apply wp_seq_k; intro K5 hK5
  refine wp_region_lit ?_
  refine vc_y hF rfl rfl (by decide) _ (y_cmp rfl rfl rfl rfl rfl) (fun a hF => ?_)
  refine vc_y hF rfl rfl (by decide) _ (y_assign rfl rfl) (fun a hF => ?_)
  refine vc_nil ?_
  refine hK5 _ _ ?_; clear  hK5 K5
  by_cases k1 : o.kind = 1
  · refine vc_trueB hF rfl (eql_t (by omega)) ?_
    have hb := num_bound 1 (l.drop p) y
    refine wp_region_lit ?_
    refine vc_y hF rfl rfl (by decide) _ (y_move rfl rfl) (fun a hF => ?_)
    have hA12 : Hp w0 ([row rb 95 [.slice A l.length c, .int .i64 (p : Int), .int .i64 (y : Int)]] :: X :: [row b7 38 [.int .i64 o.kind, .int .i64 0, .int .u64 0, .int .i64 o.many, .bool false, .slice none 0 0, .slice none 0 0, .slice none 0 0, .string (⟨#[]⟩), .slice none 0 0, .int .i64 o.most, .int .i64 o.each]] :: [row b4 38 [.int .i64 0, .int .i64 0, .int .u64 0, .int .i64 0, .bool false, .slice none 0 0, .slice none 0 0, .slice none 0 0, .string (⟨#[]⟩), .slice none 0 0, .int .i64 0, .int .i64 0]] :: [row b1 38 [.int .i64 o.kind, .int .i64 o.at_, .int .u64 (o.v.n : Int), .int .i64 o.many, .bool o.v.b, .slice o.dA o.v.ds.length o.dC, .slice o.qA o.ps.length o.qC, .slice o.pA o.v.p.length o.pC, strV o.v.s, .slice o.sA o.v.ss.length o.sC, .int .i64 o.most, .int .i64 o.each]] :: R) w10 := Hp.ord [[row b7 38 [.int .i64 o.kind, .int .i64 0, .int .u64 0, .int .i64 o.many, .bool false, .slice none 0 0, .slice none 0 0, .slice none 0 0, .string (⟨#[]⟩), .slice none 0 0, .int .i64 o.most, .int .i64 o.each]], [row b4 38 [.int .i64 0, .int .i64 0, .int .u64 0, .int .i64 0, .bool false, .slice none 0 0, .slice none 0 0, .slice none 0 0, .string (⟨#[]⟩), .slice none 0 0, .int .i64 0, .int .i64 0]], [row b1 38 [.int .i64 o.kind, .int .i64 o.at_, .int .u64 (o.v.n : Int), .int .i64 o.many, .bool o.v.b, .slice o.dA o.v.ds.length o.dC, .slice o.qA o.ps.length o.qC, .slice o.pA o.v.p.length o.pC, strV o.v.s, .slice o.sA o.v.ss.length o.sC, .int .i64 o.most, .int .i64 o.each]], [row rb 95 [.slice A l.length c, .int .i64 (p : Int), .int .i64 (y : Int)]], X] R [3, 4, 0, 1, 2] hA11 rfl
    refine vc_op rfl (fun K hK => ws_call hF rfl (by decide) cl19_op rfl rfl ?_)
    with_reducible refine (hr_take_uint8 w0 _ _ rb A l c p y X hO hA12 hp hl ).mono ?_
    rintro e' w13 ⟨rfl, hA14⟩
    refine ⟨_, rfl, fun a hF => hK _ _ ?_⟩
    clear hK K
    replace hA14 : Hp w0 ([row rb 95 [.slice A l.length c, .int .i64 ((numR 1 (l.drop p)).pl p y : Nat), .int .i64 ((numR 1 (l.drop p)).why y : Nat)]] :: X :: [row b7 38 [.int .i64 o.kind, .int .i64 0, .int .u64 0, .int .i64 o.many, .bool false, .slice none 0 0, .slice none 0 0, .slice none 0 0, .string (⟨#[]⟩), .slice none 0 0, .int .i64 o.most, .int .i64 o.each]] :: [row b4 38 [.int .i64 0, .int .i64 0, .int .u64 0, .int .i64 0, .bool false, .slice none 0 0, .slice none 0 0, .slice none 0 0, .string (⟨#[]⟩), .slice none 0 0, .int .i64 0, .int .i64 0]] :: [row b1 38 [.int .i64 o.kind, .int .i64 o.at_, .int .u64 (o.v.n : Int), .int .i64 o.many, .bool o.v.b, .slice o.dA o.v.ds.length o.dC, .slice o.qA o.ps.length o.qC, .slice o.pA o.v.p.length o.pC, strV o.v.s, .slice o.sA o.v.ss.length o.sC, .int .i64 o.most, .int .i64 o.each]] :: R) w13 := hA14
    refine vc_y hF rfl rfl (by decide) _ (y_conv rfl Try.underlying5 Try.underlying33 rfl (show IntKind.u64.wrap (((numR 1 (l.drop p)).val 0 y : Nat)) = ((numR 1 (l.drop p)).val 0 y : Nat) by rw [IntKind.wrap_u64]; omega)) (fun a hF => ?_)
    refine vc_y hF rfl rfl (by decide) _ (y_field rfl Try.underlying38 rfl sz33_op (by decide) rfl (rfl : (⟨_, 0 + _, none⟩ : Addr) = ⟨_, 2, none⟩)) (fun a hF => ?_)
    refine vc_op rfl (fun K hK => hs_store1 hF rfl rfl hA14 rfl rfl 2 rfl (by simp) rfl sz33_op (fun w15 hA16 => hK _ _ ?_))
    clear hK K
    replace hA16 : Hp w0 ([row rb 95 [.slice A l.length c, .int .i64 ((numR 1 (l.drop p)).pl p y : Nat), .int .i64 ((numR 1 (l.drop p)).why y : Nat)]] :: X :: [row b7 38 [.int .i64 o.kind, .int .i64 0, .int .u64 ((numR 1 (l.drop p)).val 0 y : Nat), .int .i64 o.many, .bool false, .slice none 0 0, .slice none 0 0, .slice none 0 0, .string (⟨#[]⟩), .slice none 0 0, .int .i64 o.most, .int .i64 o.each]] :: [row b4 38 [.int .i64 0, .int .i64 0, .int .u64 0, .int .i64 0, .bool false, .slice none 0 0, .slice none 0 0, .slice none 0 0, .string (⟨#[]⟩), .slice none 0 0, .int .i64 0, .int .i64 0]] :: [row b1 38 [.int .i64 o.kind, .int .i64 o.at_, .int .u64 (o.v.n : Int), .int .i64 o.many, .bool o.v.b, .slice o.dA o.v.ds.length o.dC, .slice o.qA o.ps.length o.qC, .slice o.pA o.v.p.length o.pC, strV o.v.s, .slice o.sA o.v.ss.length o.sC, .int .i64 o.most, .int .i64 o.each]] :: R) w15 := hA16
    refine vc_nil ?_
    refine hK3 _ _ ?_; clear  hK3 K3
    apply wp_seq_k; intro K6 hK6
    refine wp_region_lit ?_
    refine vc_y hF rfl rfl (by decide) _ (y_ldRow rfl hA16.q rfl 2 rfl rw38_op (Nat.le_of_ble_eq_true rfl) rfl) (fun a hF => ?_)
    refine vc_op rfl (fun K hK => hs_storeAll (new := [.int .i64 o.kind, .int .i64 0, .int .u64 ((numR 1 (l.drop p)).val 0 y : Nat), .int .i64 o.many, .bool false, .slice none 0 0, .slice none 0 0, .slice none 0 0, .string (⟨#[]⟩), .slice none 0 0, .int .i64 o.most, .int .i64 o.each]) hF rfl rfl hA16 rfl rfl 3 rfl rfl (by simp [Value.oneCell']) sz38_op (fun w17 hA18 => hK _ _ ?_))
    clear hK K
    replace hA18 : Hp w0 ([row rb 95 [.slice A l.length c, .int .i64 ((numR 1 (l.drop p)).pl p y : Nat), .int .i64 ((numR 1 (l.drop p)).why y : Nat)]] :: X :: [row b7 38 [.int .i64 o.kind, .int .i64 0, .int .u64 ((numR 1 (l.drop p)).val 0 y : Nat), .int .i64 o.many, .bool false, .slice none 0 0, .slice none 0 0, .slice none 0 0, .string (⟨#[]⟩), .slice none 0 0, .int .i64 o.most, .int .i64 o.each]] :: [row b4 38 [.int .i64 o.kind, .int .i64 0, .int .u64 ((numR 1 (l.drop p)).val 0 y : Nat), .int .i64 o.many, .bool false, .slice none 0 0, .slice none 0 0, .slice none 0 0, .string (⟨#[]⟩), .slice none 0 0, .int .i64 o.most, .int .i64 o.each]] :: [row b1 38 [.int .i64 o.kind, .int .i64 o.at_, .int .u64 (o.v.n : Int), .int .i64 o.many, .bool o.v.b, .slice o.dA o.v.ds.length o.dC, .slice o.qA o.ps.length o.qC, .slice o.pA o.v.p.length o.pC, strV o.v.s, .slice o.sA o.v.ss.length o.sC, .int .i64 o.most, .int .i64 o.each]] :: R) w17 := hA18
    refine vc_nil ?_
    refine hK6 _ _ ?_; clear  hK6 K6
    apply wp_ret
    refine vc_retR hF Try.results41 hA18.q rfl 3 rfl (by exact rw38_op) ?_
    have hA19 : Hp w0 ([row rb 95 [.slice A l.length c, .int .i64 ((numR 1 (l.drop p)).pl p y : Nat), .int .i64 ((numR 1 (l.drop p)).why y : Nat)]] :: X :: R) w17 := Hp.sel [[row rb 95 [.slice A l.length c, .int .i64 ((numR 1 (l.drop p)).pl p y : Nat), .int .i64 ((numR 1 (l.drop p)).why y : Nat)]], X, [row b7 38 [.int .i64 o.kind, .int .i64 0, .int .u64 ((numR 1 (l.drop p)).val 0 y : Nat), .int .i64 o.many, .bool false, .slice none 0 0, .slice none 0 0, .slice none 0 0, .string (⟨#[]⟩), .slice none 0 0, .int .i64 o.most, .int .i64 o.each]], [row b4 38 [.int .i64 o.kind, .int .i64 0, .int .u64 ((numR 1 (l.drop p)).val 0 y : Nat), .int .i64 o.many, .bool false, .slice none 0 0, .slice none 0 0, .slice none 0 0, .string (⟨#[]⟩), .slice none 0 0, .int .i64 o.most, .int .i64 o.each]], [row b1 38 [.int .i64 o.kind, .int .i64 o.at_, .int .u64 (o.v.n : Int), .int .i64 o.many, .bool o.v.b, .slice o.dA o.v.ds.length o.dC, .slice o.qA o.ps.length o.qC, .slice o.pA o.v.p.length o.pC, strV o.v.s, .slice o.sA o.v.ss.length o.sC, .int .i64 o.most, .int .i64 o.each]]] R [0, 1] [2, 3, 4] hA18 rfl
    have hA20 := Hp.nil hA19
    have eR : agR o (l.drop p) = (numR 1 (l.drop p)).map vN := by rw [agR, if_pos k1]
    rw [eR, Res.pl_map, Res.why_map]
    refine ⟨{ kind := o.kind, at_ := 0, many := o.many, most := o.most, each := o.each, v := vN ((numR 1 (l.drop p)).val 0 y), ps := [], dA := none, dC := 0, qA := none, qC := 0, pA := none, pC := 0, sA := none, sC := 0 }, [], rfl, rfl, rfl, rfl, rfl, (Res.val_map vN _ 0 y).symm, fun R' hG => ?_, hA20⟩
    exact ⟨(show (numR 1 (l.drop p)).val 0 y < 18446744073709551616 by omega), hm, (fun d hd => by cases hd), Rc.nil, Rc.nil, (Nat.le_refl 0), Rc.nil, op_z, op_z, op_z, op_z⟩
  · refine vc_falseB hF rfl (eql_f (by omega)) ?_
    apply wp_seq_k; intro K7 hK7
    refine wp_region_lit ?_
    refine vc_y hF rfl rfl (by decide) _ (y_cmp rfl rfl rfl rfl rfl) (fun a hF => ?_)
    refine vc_y hF rfl rfl (by decide) _ (y_assign rfl rfl) (fun a hF => ?_)
    refine vc_nil ?_
    refine hK7 _ _ ?_; clear  hK7 K7
    by_cases k2 : o.kind = 2
    · refine vc_trueB hF rfl (eql_t (by omega)) ?_
      have hb := num_bound 2 (l.drop p) y
      refine wp_region_lit ?_
      refine vc_y hF rfl rfl (by decide) _ (y_move rfl rfl) (fun a hF => ?_)
      have hA21 : Hp w0 ([row rb 95 [.slice A l.length c, .int .i64 (p : Int), .int .i64 (y : Int)]] :: X :: [row b7 38 [.int .i64 o.kind, .int .i64 0, .int .u64 0, .int .i64 o.many, .bool false, .slice none 0 0, .slice none 0 0, .slice none 0 0, .string (⟨#[]⟩), .slice none 0 0, .int .i64 o.most, .int .i64 o.each]] :: [row b4 38 [.int .i64 0, .int .i64 0, .int .u64 0, .int .i64 0, .bool false, .slice none 0 0, .slice none 0 0, .slice none 0 0, .string (⟨#[]⟩), .slice none 0 0, .int .i64 0, .int .i64 0]] :: [row b1 38 [.int .i64 o.kind, .int .i64 o.at_, .int .u64 (o.v.n : Int), .int .i64 o.many, .bool o.v.b, .slice o.dA o.v.ds.length o.dC, .slice o.qA o.ps.length o.qC, .slice o.pA o.v.p.length o.pC, strV o.v.s, .slice o.sA o.v.ss.length o.sC, .int .i64 o.most, .int .i64 o.each]] :: R) w10 := Hp.ord [[row b7 38 [.int .i64 o.kind, .int .i64 0, .int .u64 0, .int .i64 o.many, .bool false, .slice none 0 0, .slice none 0 0, .slice none 0 0, .string (⟨#[]⟩), .slice none 0 0, .int .i64 o.most, .int .i64 o.each]], [row b4 38 [.int .i64 0, .int .i64 0, .int .u64 0, .int .i64 0, .bool false, .slice none 0 0, .slice none 0 0, .slice none 0 0, .string (⟨#[]⟩), .slice none 0 0, .int .i64 0, .int .i64 0]], [row b1 38 [.int .i64 o.kind, .int .i64 o.at_, .int .u64 (o.v.n : Int), .int .i64 o.many, .bool o.v.b, .slice o.dA o.v.ds.length o.dC, .slice o.qA o.ps.length o.qC, .slice o.pA o.v.p.length o.pC, strV o.v.s, .slice o.sA o.v.ss.length o.sC, .int .i64 o.most, .int .i64 o.each]], [row rb 95 [.slice A l.length c, .int .i64 (p : Int), .int .i64 (y : Int)]], X] R [3, 4, 0, 1, 2] hA11 rfl
      refine vc_op rfl (fun K hK => ws_call hF rfl (by decide) cl27_op rfl rfl ?_)
      with_reducible refine (hr_take_uint16 w0 _ _ rb A l c p y X hO hA21 hp hl ).mono ?_
      rintro e' w22 ⟨rfl, hA23⟩
      refine ⟨_, rfl, fun a hF => hK _ _ ?_⟩
      clear hK K
      replace hA23 : Hp w0 ([row rb 95 [.slice A l.length c, .int .i64 ((numR 2 (l.drop p)).pl p y : Nat), .int .i64 ((numR 2 (l.drop p)).why y : Nat)]] :: X :: [row b7 38 [.int .i64 o.kind, .int .i64 0, .int .u64 0, .int .i64 o.many, .bool false, .slice none 0 0, .slice none 0 0, .slice none 0 0, .string (⟨#[]⟩), .slice none 0 0, .int .i64 o.most, .int .i64 o.each]] :: [row b4 38 [.int .i64 0, .int .i64 0, .int .u64 0, .int .i64 0, .bool false, .slice none 0 0, .slice none 0 0, .slice none 0 0, .string (⟨#[]⟩), .slice none 0 0, .int .i64 0, .int .i64 0]] :: [row b1 38 [.int .i64 o.kind, .int .i64 o.at_, .int .u64 (o.v.n : Int), .int .i64 o.many, .bool o.v.b, .slice o.dA o.v.ds.length o.dC, .slice o.qA o.ps.length o.qC, .slice o.pA o.v.p.length o.pC, strV o.v.s, .slice o.sA o.v.ss.length o.sC, .int .i64 o.most, .int .i64 o.each]] :: R) w22 := hA23
      refine vc_y hF rfl rfl (by decide) _ (y_conv rfl Try.underlying51 Try.underlying33 rfl (show IntKind.u64.wrap (((numR 2 (l.drop p)).val 0 y : Nat)) = ((numR 2 (l.drop p)).val 0 y : Nat) by rw [IntKind.wrap_u64]; omega)) (fun a hF => ?_)
      refine vc_y hF rfl rfl (by decide) _ (y_field rfl Try.underlying38 rfl sz33_op (by decide) rfl (rfl : (⟨_, 0 + _, none⟩ : Addr) = ⟨_, 2, none⟩)) (fun a hF => ?_)
      refine vc_op rfl (fun K hK => hs_store1 hF rfl rfl hA23 rfl rfl 2 rfl (by simp) rfl sz33_op (fun w24 hA25 => hK _ _ ?_))
      clear hK K
      replace hA25 : Hp w0 ([row rb 95 [.slice A l.length c, .int .i64 ((numR 2 (l.drop p)).pl p y : Nat), .int .i64 ((numR 2 (l.drop p)).why y : Nat)]] :: X :: [row b7 38 [.int .i64 o.kind, .int .i64 0, .int .u64 ((numR 2 (l.drop p)).val 0 y : Nat), .int .i64 o.many, .bool false, .slice none 0 0, .slice none 0 0, .slice none 0 0, .string (⟨#[]⟩), .slice none 0 0, .int .i64 o.most, .int .i64 o.each]] :: [row b4 38 [.int .i64 0, .int .i64 0, .int .u64 0, .int .i64 0, .bool false, .slice none 0 0, .slice none 0 0, .slice none 0 0, .string (⟨#[]⟩), .slice none 0 0, .int .i64 0, .int .i64 0]] :: [row b1 38 [.int .i64 o.kind, .int .i64 o.at_, .int .u64 (o.v.n : Int), .int .i64 o.many, .bool o.v.b, .slice o.dA o.v.ds.length o.dC, .slice o.qA o.ps.length o.qC, .slice o.pA o.v.p.length o.pC, strV o.v.s, .slice o.sA o.v.ss.length o.sC, .int .i64 o.most, .int .i64 o.each]] :: R) w24 := hA25
      refine vc_nil ?_
      refine hK3 _ _ ?_; clear  hK3 K3
      apply wp_seq_k; intro K8 hK8
      refine wp_region_lit ?_
      refine vc_y hF rfl rfl (by decide) _ (y_ldRow rfl hA25.q rfl 2 rfl rw38_op (Nat.le_of_ble_eq_true rfl) rfl) (fun a hF => ?_)
      refine vc_op rfl (fun K hK => hs_storeAll (new := [.int .i64 o.kind, .int .i64 0, .int .u64 ((numR 2 (l.drop p)).val 0 y : Nat), .int .i64 o.many, .bool false, .slice none 0 0, .slice none 0 0, .slice none 0 0, .string (⟨#[]⟩), .slice none 0 0, .int .i64 o.most, .int .i64 o.each]) hF rfl rfl hA25 rfl rfl 3 rfl rfl (by simp [Value.oneCell']) sz38_op (fun w26 hA27 => hK _ _ ?_))
      clear hK K
      replace hA27 : Hp w0 ([row rb 95 [.slice A l.length c, .int .i64 ((numR 2 (l.drop p)).pl p y : Nat), .int .i64 ((numR 2 (l.drop p)).why y : Nat)]] :: X :: [row b7 38 [.int .i64 o.kind, .int .i64 0, .int .u64 ((numR 2 (l.drop p)).val 0 y : Nat), .int .i64 o.many, .bool false, .slice none 0 0, .slice none 0 0, .slice none 0 0, .string (⟨#[]⟩), .slice none 0 0, .int .i64 o.most, .int .i64 o.each]] :: [row b4 38 [.int .i64 o.kind, .int .i64 0, .int .u64 ((numR 2 (l.drop p)).val 0 y : Nat), .int .i64 o.many, .bool false, .slice none 0 0, .slice none 0 0, .slice none 0 0, .string (⟨#[]⟩), .slice none 0 0, .int .i64 o.most, .int .i64 o.each]] :: [row b1 38 [.int .i64 o.kind, .int .i64 o.at_, .int .u64 (o.v.n : Int), .int .i64 o.many, .bool o.v.b, .slice o.dA o.v.ds.length o.dC, .slice o.qA o.ps.length o.qC, .slice o.pA o.v.p.length o.pC, strV o.v.s, .slice o.sA o.v.ss.length o.sC, .int .i64 o.most, .int .i64 o.each]] :: R) w26 := hA27
      refine vc_nil ?_
      refine hK8 _ _ ?_; clear  hK8 K8
      apply wp_ret
      refine vc_retR hF Try.results41 hA27.q rfl 3 rfl (by exact rw38_op) ?_
      have hA28 : Hp w0 ([row rb 95 [.slice A l.length c, .int .i64 ((numR 2 (l.drop p)).pl p y : Nat), .int .i64 ((numR 2 (l.drop p)).why y : Nat)]] :: X :: R) w26 := Hp.sel [[row rb 95 [.slice A l.length c, .int .i64 ((numR 2 (l.drop p)).pl p y : Nat), .int .i64 ((numR 2 (l.drop p)).why y : Nat)]], X, [row b7 38 [.int .i64 o.kind, .int .i64 0, .int .u64 ((numR 2 (l.drop p)).val 0 y : Nat), .int .i64 o.many, .bool false, .slice none 0 0, .slice none 0 0, .slice none 0 0, .string (⟨#[]⟩), .slice none 0 0, .int .i64 o.most, .int .i64 o.each]], [row b4 38 [.int .i64 o.kind, .int .i64 0, .int .u64 ((numR 2 (l.drop p)).val 0 y : Nat), .int .i64 o.many, .bool false, .slice none 0 0, .slice none 0 0, .slice none 0 0, .string (⟨#[]⟩), .slice none 0 0, .int .i64 o.most, .int .i64 o.each]], [row b1 38 [.int .i64 o.kind, .int .i64 o.at_, .int .u64 (o.v.n : Int), .int .i64 o.many, .bool o.v.b, .slice o.dA o.v.ds.length o.dC, .slice o.qA o.ps.length o.qC, .slice o.pA o.v.p.length o.pC, strV o.v.s, .slice o.sA o.v.ss.length o.sC, .int .i64 o.most, .int .i64 o.each]]] R [0, 1] [2, 3, 4] hA27 rfl
      have hA29 := Hp.nil hA28
      have eR : agR o (l.drop p) = (numR 2 (l.drop p)).map vN := by rw [agR, if_neg k1, if_pos k2]
      rw [eR, Res.pl_map, Res.why_map]
      refine ⟨{ kind := o.kind, at_ := 0, many := o.many, most := o.most, each := o.each, v := vN ((numR 2 (l.drop p)).val 0 y), ps := [], dA := none, dC := 0, qA := none, qC := 0, pA := none, pC := 0, sA := none, sC := 0 }, [], rfl, rfl, rfl, rfl, rfl, (Res.val_map vN _ 0 y).symm, fun R' hG => ?_, hA29⟩
      exact ⟨(show (numR 2 (l.drop p)).val 0 y < 18446744073709551616 by omega), hm, (fun d hd => by cases hd), Rc.nil, Rc.nil, (Nat.le_refl 0), Rc.nil, op_z, op_z, op_z, op_z⟩
    · refine vc_falseB hF rfl (eql_f (by omega)) ?_
      apply wp_seq_k; intro K9 hK9
      refine wp_region_lit ?_
      refine vc_y hF rfl rfl (by decide) _ (y_cmp rfl rfl rfl rfl rfl) (fun a hF => ?_)
      refine vc_y hF rfl rfl (by decide) _ (y_assign rfl rfl) (fun a hF => ?_)
      refine vc_nil ?_
      refine hK9 _ _ ?_; clear  hK9 K9
      by_cases k3 : o.kind = 3
      · refine vc_trueB hF rfl (eql_t (by omega)) ?_
        have hb := num_bound 4 (l.drop p) y
        refine wp_region_lit ?_
        refine vc_y hF rfl rfl (by decide) _ (y_move rfl rfl) (fun a hF => ?_)
        have hA30 : Hp w0 ([row rb 95 [.slice A l.length c, .int .i64 (p : Int), .int .i64 (y : Int)]] :: X :: [row b7 38 [.int .i64 o.kind, .int .i64 0, .int .u64 0, .int .i64 o.many, .bool false, .slice none 0 0, .slice none 0 0, .slice none 0 0, .string (⟨#[]⟩), .slice none 0 0, .int .i64 o.most, .int .i64 o.each]] :: [row b4 38 [.int .i64 0, .int .i64 0, .int .u64 0, .int .i64 0, .bool false, .slice none 0 0, .slice none 0 0, .slice none 0 0, .string (⟨#[]⟩), .slice none 0 0, .int .i64 0, .int .i64 0]] :: [row b1 38 [.int .i64 o.kind, .int .i64 o.at_, .int .u64 (o.v.n : Int), .int .i64 o.many, .bool o.v.b, .slice o.dA o.v.ds.length o.dC, .slice o.qA o.ps.length o.qC, .slice o.pA o.v.p.length o.pC, strV o.v.s, .slice o.sA o.v.ss.length o.sC, .int .i64 o.most, .int .i64 o.each]] :: R) w10 := Hp.ord [[row b7 38 [.int .i64 o.kind, .int .i64 0, .int .u64 0, .int .i64 o.many, .bool false, .slice none 0 0, .slice none 0 0, .slice none 0 0, .string (⟨#[]⟩), .slice none 0 0, .int .i64 o.most, .int .i64 o.each]], [row b4 38 [.int .i64 0, .int .i64 0, .int .u64 0, .int .i64 0, .bool false, .slice none 0 0, .slice none 0 0, .slice none 0 0, .string (⟨#[]⟩), .slice none 0 0, .int .i64 0, .int .i64 0]], [row b1 38 [.int .i64 o.kind, .int .i64 o.at_, .int .u64 (o.v.n : Int), .int .i64 o.many, .bool o.v.b, .slice o.dA o.v.ds.length o.dC, .slice o.qA o.ps.length o.qC, .slice o.pA o.v.p.length o.pC, strV o.v.s, .slice o.sA o.v.ss.length o.sC, .int .i64 o.most, .int .i64 o.each]], [row rb 95 [.slice A l.length c, .int .i64 (p : Int), .int .i64 (y : Int)]], X] R [3, 4, 0, 1, 2] hA11 rfl
        refine vc_op rfl (fun K hK => ws_call hF rfl (by decide) cl73_op rfl rfl ?_)
        with_reducible refine (hr_take_uint32 w0 _ _ rb A l c p y X hO hA30 hp hl ).mono ?_
        rintro e' w31 ⟨rfl, hA32⟩
        refine ⟨_, rfl, fun a hF => hK _ _ ?_⟩
        clear hK K
        replace hA32 : Hp w0 ([row rb 95 [.slice A l.length c, .int .i64 ((numR 4 (l.drop p)).pl p y : Nat), .int .i64 ((numR 4 (l.drop p)).why y : Nat)]] :: X :: [row b7 38 [.int .i64 o.kind, .int .i64 0, .int .u64 0, .int .i64 o.many, .bool false, .slice none 0 0, .slice none 0 0, .slice none 0 0, .string (⟨#[]⟩), .slice none 0 0, .int .i64 o.most, .int .i64 o.each]] :: [row b4 38 [.int .i64 0, .int .i64 0, .int .u64 0, .int .i64 0, .bool false, .slice none 0 0, .slice none 0 0, .slice none 0 0, .string (⟨#[]⟩), .slice none 0 0, .int .i64 0, .int .i64 0]] :: [row b1 38 [.int .i64 o.kind, .int .i64 o.at_, .int .u64 (o.v.n : Int), .int .i64 o.many, .bool o.v.b, .slice o.dA o.v.ds.length o.dC, .slice o.qA o.ps.length o.qC, .slice o.pA o.v.p.length o.pC, strV o.v.s, .slice o.sA o.v.ss.length o.sC, .int .i64 o.most, .int .i64 o.each]] :: R) w31 := hA32
        refine vc_y hF rfl rfl (by decide) _ (y_conv rfl Try.underlying114 Try.underlying33 rfl (show IntKind.u64.wrap (((numR 4 (l.drop p)).val 0 y : Nat)) = ((numR 4 (l.drop p)).val 0 y : Nat) by rw [IntKind.wrap_u64]; omega)) (fun a hF => ?_)
        refine vc_y hF rfl rfl (by decide) _ (y_field rfl Try.underlying38 rfl sz33_op (by decide) rfl (rfl : (⟨_, 0 + _, none⟩ : Addr) = ⟨_, 2, none⟩)) (fun a hF => ?_)
        refine vc_op rfl (fun K hK => hs_store1 hF rfl rfl hA32 rfl rfl 2 rfl (by simp) rfl sz33_op (fun w33 hA34 => hK _ _ ?_))
        clear hK K
        replace hA34 : Hp w0 ([row rb 95 [.slice A l.length c, .int .i64 ((numR 4 (l.drop p)).pl p y : Nat), .int .i64 ((numR 4 (l.drop p)).why y : Nat)]] :: X :: [row b7 38 [.int .i64 o.kind, .int .i64 0, .int .u64 ((numR 4 (l.drop p)).val 0 y : Nat), .int .i64 o.many, .bool false, .slice none 0 0, .slice none 0 0, .slice none 0 0, .string (⟨#[]⟩), .slice none 0 0, .int .i64 o.most, .int .i64 o.each]] :: [row b4 38 [.int .i64 0, .int .i64 0, .int .u64 0, .int .i64 0, .bool false, .slice none 0 0, .slice none 0 0, .slice none 0 0, .string (⟨#[]⟩), .slice none 0 0, .int .i64 0, .int .i64 0]] :: [row b1 38 [.int .i64 o.kind, .int .i64 o.at_, .int .u64 (o.v.n : Int), .int .i64 o.many, .bool o.v.b, .slice o.dA o.v.ds.length o.dC, .slice o.qA o.ps.length o.qC, .slice o.pA o.v.p.length o.pC, strV o.v.s, .slice o.sA o.v.ss.length o.sC, .int .i64 o.most, .int .i64 o.each]] :: R) w33 := hA34
        refine vc_nil ?_
        refine hK3 _ _ ?_; clear  hK3 K3
        apply wp_seq_k; intro K10 hK10
        refine wp_region_lit ?_
        refine vc_y hF rfl rfl (by decide) _ (y_ldRow rfl hA34.q rfl 2 rfl rw38_op (Nat.le_of_ble_eq_true rfl) rfl) (fun a hF => ?_)
        refine vc_op rfl (fun K hK => hs_storeAll (new := [.int .i64 o.kind, .int .i64 0, .int .u64 ((numR 4 (l.drop p)).val 0 y : Nat), .int .i64 o.many, .bool false, .slice none 0 0, .slice none 0 0, .slice none 0 0, .string (⟨#[]⟩), .slice none 0 0, .int .i64 o.most, .int .i64 o.each]) hF rfl rfl hA34 rfl rfl 3 rfl rfl (by simp [Value.oneCell']) sz38_op (fun w35 hA36 => hK _ _ ?_))
        clear hK K
        replace hA36 : Hp w0 ([row rb 95 [.slice A l.length c, .int .i64 ((numR 4 (l.drop p)).pl p y : Nat), .int .i64 ((numR 4 (l.drop p)).why y : Nat)]] :: X :: [row b7 38 [.int .i64 o.kind, .int .i64 0, .int .u64 ((numR 4 (l.drop p)).val 0 y : Nat), .int .i64 o.many, .bool false, .slice none 0 0, .slice none 0 0, .slice none 0 0, .string (⟨#[]⟩), .slice none 0 0, .int .i64 o.most, .int .i64 o.each]] :: [row b4 38 [.int .i64 o.kind, .int .i64 0, .int .u64 ((numR 4 (l.drop p)).val 0 y : Nat), .int .i64 o.many, .bool false, .slice none 0 0, .slice none 0 0, .slice none 0 0, .string (⟨#[]⟩), .slice none 0 0, .int .i64 o.most, .int .i64 o.each]] :: [row b1 38 [.int .i64 o.kind, .int .i64 o.at_, .int .u64 (o.v.n : Int), .int .i64 o.many, .bool o.v.b, .slice o.dA o.v.ds.length o.dC, .slice o.qA o.ps.length o.qC, .slice o.pA o.v.p.length o.pC, strV o.v.s, .slice o.sA o.v.ss.length o.sC, .int .i64 o.most, .int .i64 o.each]] :: R) w35 := hA36
        refine vc_nil ?_
        refine hK10 _ _ ?_; clear  hK10 K10
        apply wp_ret
        refine vc_retR hF Try.results41 hA36.q rfl 3 rfl (by exact rw38_op) ?_
        have hA37 : Hp w0 ([row rb 95 [.slice A l.length c, .int .i64 ((numR 4 (l.drop p)).pl p y : Nat), .int .i64 ((numR 4 (l.drop p)).why y : Nat)]] :: X :: R) w35 := Hp.sel [[row rb 95 [.slice A l.length c, .int .i64 ((numR 4 (l.drop p)).pl p y : Nat), .int .i64 ((numR 4 (l.drop p)).why y : Nat)]], X, [row b7 38 [.int .i64 o.kind, .int .i64 0, .int .u64 ((numR 4 (l.drop p)).val 0 y : Nat), .int .i64 o.many, .bool false, .slice none 0 0, .slice none 0 0, .slice none 0 0, .string (⟨#[]⟩), .slice none 0 0, .int .i64 o.most, .int .i64 o.each]], [row b4 38 [.int .i64 o.kind, .int .i64 0, .int .u64 ((numR 4 (l.drop p)).val 0 y : Nat), .int .i64 o.many, .bool false, .slice none 0 0, .slice none 0 0, .slice none 0 0, .string (⟨#[]⟩), .slice none 0 0, .int .i64 o.most, .int .i64 o.each]], [row b1 38 [.int .i64 o.kind, .int .i64 o.at_, .int .u64 (o.v.n : Int), .int .i64 o.many, .bool o.v.b, .slice o.dA o.v.ds.length o.dC, .slice o.qA o.ps.length o.qC, .slice o.pA o.v.p.length o.pC, strV o.v.s, .slice o.sA o.v.ss.length o.sC, .int .i64 o.most, .int .i64 o.each]]] R [0, 1] [2, 3, 4] hA36 rfl
        have hA38 := Hp.nil hA37
        have eR : agR o (l.drop p) = (numR 4 (l.drop p)).map vN := by rw [agR, if_neg k1, if_neg k2, if_pos k3]
        rw [eR, Res.pl_map, Res.why_map]
        refine ⟨{ kind := o.kind, at_ := 0, many := o.many, most := o.most, each := o.each, v := vN ((numR 4 (l.drop p)).val 0 y), ps := [], dA := none, dC := 0, qA := none, qC := 0, pA := none, pC := 0, sA := none, sC := 0 }, [], rfl, rfl, rfl, rfl, rfl, (Res.val_map vN _ 0 y).symm, fun R' hG => ?_, hA38⟩
        exact ⟨(show (numR 4 (l.drop p)).val 0 y < 18446744073709551616 by omega), hm, (fun d hd => by cases hd), Rc.nil, Rc.nil, (Nat.le_refl 0), Rc.nil, op_z, op_z, op_z, op_z⟩
      · refine vc_falseB hF rfl (eql_f (by omega)) ?_
        apply wp_seq_k; intro K11 hK11
        refine wp_region_lit ?_
        refine vc_y hF rfl rfl (by decide) _ (y_cmp rfl rfl rfl rfl rfl) (fun a hF => ?_)
        refine vc_y hF rfl rfl (by decide) _ (y_assign rfl rfl) (fun a hF => ?_)
        refine vc_nil ?_
        refine hK11 _ _ ?_; clear  hK11 K11
        by_cases k4 : o.kind = 4
        · refine vc_trueB hF rfl (eql_t (by omega)) ?_
          have hb := num_bound 8 (l.drop p) y
          refine wp_region_lit ?_
          refine vc_y hF rfl rfl (by decide) _ (y_move rfl rfl) (fun a hF => ?_)
          have hA39 : Hp w0 ([row rb 95 [.slice A l.length c, .int .i64 (p : Int), .int .i64 (y : Int)]] :: X :: [row b7 38 [.int .i64 o.kind, .int .i64 0, .int .u64 0, .int .i64 o.many, .bool false, .slice none 0 0, .slice none 0 0, .slice none 0 0, .string (⟨#[]⟩), .slice none 0 0, .int .i64 o.most, .int .i64 o.each]] :: [row b4 38 [.int .i64 0, .int .i64 0, .int .u64 0, .int .i64 0, .bool false, .slice none 0 0, .slice none 0 0, .slice none 0 0, .string (⟨#[]⟩), .slice none 0 0, .int .i64 0, .int .i64 0]] :: [row b1 38 [.int .i64 o.kind, .int .i64 o.at_, .int .u64 (o.v.n : Int), .int .i64 o.many, .bool o.v.b, .slice o.dA o.v.ds.length o.dC, .slice o.qA o.ps.length o.qC, .slice o.pA o.v.p.length o.pC, strV o.v.s, .slice o.sA o.v.ss.length o.sC, .int .i64 o.most, .int .i64 o.each]] :: R) w10 := Hp.ord [[row b7 38 [.int .i64 o.kind, .int .i64 0, .int .u64 0, .int .i64 o.many, .bool false, .slice none 0 0, .slice none 0 0, .slice none 0 0, .string (⟨#[]⟩), .slice none 0 0, .int .i64 o.most, .int .i64 o.each]], [row b4 38 [.int .i64 0, .int .i64 0, .int .u64 0, .int .i64 0, .bool false, .slice none 0 0, .slice none 0 0, .slice none 0 0, .string (⟨#[]⟩), .slice none 0 0, .int .i64 0, .int .i64 0]], [row b1 38 [.int .i64 o.kind, .int .i64 o.at_, .int .u64 (o.v.n : Int), .int .i64 o.many, .bool o.v.b, .slice o.dA o.v.ds.length o.dC, .slice o.qA o.ps.length o.qC, .slice o.pA o.v.p.length o.pC, strV o.v.s, .slice o.sA o.v.ss.length o.sC, .int .i64 o.most, .int .i64 o.each]], [row rb 95 [.slice A l.length c, .int .i64 (p : Int), .int .i64 (y : Int)]], X] R [3, 4, 0, 1, 2] hA11 rfl
          refine vc_op rfl (fun K hK => ws_call hF rfl (by decide) cl20_op rfl rfl ?_)
          with_reducible refine (hr_take_uint64 w0 _ _ rb A l c p y X hO hA39 hp hl ).mono ?_
          rintro e' w40 ⟨rfl, hA41⟩
          refine ⟨_, rfl, fun a hF => hK _ _ ?_⟩
          clear hK K
          replace hA41 : Hp w0 ([row rb 95 [.slice A l.length c, .int .i64 ((numR 8 (l.drop p)).pl p y : Nat), .int .i64 ((numR 8 (l.drop p)).why y : Nat)]] :: X :: [row b7 38 [.int .i64 o.kind, .int .i64 0, .int .u64 0, .int .i64 o.many, .bool false, .slice none 0 0, .slice none 0 0, .slice none 0 0, .string (⟨#[]⟩), .slice none 0 0, .int .i64 o.most, .int .i64 o.each]] :: [row b4 38 [.int .i64 0, .int .i64 0, .int .u64 0, .int .i64 0, .bool false, .slice none 0 0, .slice none 0 0, .slice none 0 0, .string (⟨#[]⟩), .slice none 0 0, .int .i64 0, .int .i64 0]] :: [row b1 38 [.int .i64 o.kind, .int .i64 o.at_, .int .u64 (o.v.n : Int), .int .i64 o.many, .bool o.v.b, .slice o.dA o.v.ds.length o.dC, .slice o.qA o.ps.length o.qC, .slice o.pA o.v.p.length o.pC, strV o.v.s, .slice o.sA o.v.ss.length o.sC, .int .i64 o.most, .int .i64 o.each]] :: R) w40 := hA41
          refine vc_y hF rfl rfl (by decide) _ (y_field rfl Try.underlying38 rfl sz33_op (by decide) rfl (rfl : (⟨_, 0 + _, none⟩ : Addr) = ⟨_, 2, none⟩)) (fun a hF => ?_)
          refine vc_op rfl (fun K hK => hs_store1 hF rfl rfl hA41 rfl rfl 2 rfl (by simp) rfl sz33_op (fun w42 hA43 => hK _ _ ?_))
          clear hK K
          replace hA43 : Hp w0 ([row rb 95 [.slice A l.length c, .int .i64 ((numR 8 (l.drop p)).pl p y : Nat), .int .i64 ((numR 8 (l.drop p)).why y : Nat)]] :: X :: [row b7 38 [.int .i64 o.kind, .int .i64 0, .int .u64 ((numR 8 (l.drop p)).val 0 y : Nat), .int .i64 o.many, .bool false, .slice none 0 0, .slice none 0 0, .slice none 0 0, .string (⟨#[]⟩), .slice none 0 0, .int .i64 o.most, .int .i64 o.each]] :: [row b4 38 [.int .i64 0, .int .i64 0, .int .u64 0, .int .i64 0, .bool false, .slice none 0 0, .slice none 0 0, .slice none 0 0, .string (⟨#[]⟩), .slice none 0 0, .int .i64 0, .int .i64 0]] :: [row b1 38 [.int .i64 o.kind, .int .i64 o.at_, .int .u64 (o.v.n : Int), .int .i64 o.many, .bool o.v.b, .slice o.dA o.v.ds.length o.dC, .slice o.qA o.ps.length o.qC, .slice o.pA o.v.p.length o.pC, strV o.v.s, .slice o.sA o.v.ss.length o.sC, .int .i64 o.most, .int .i64 o.each]] :: R) w42 := hA43
          refine vc_nil ?_
          refine hK3 _ _ ?_; clear  hK3 K3
          apply wp_seq_k; intro K12 hK12
          refine wp_region_lit ?_
          refine vc_y hF rfl rfl (by decide) _ (y_ldRow rfl hA43.q rfl 2 rfl rw38_op (Nat.le_of_ble_eq_true rfl) rfl) (fun a hF => ?_)
          refine vc_op rfl (fun K hK => hs_storeAll (new := [.int .i64 o.kind, .int .i64 0, .int .u64 ((numR 8 (l.drop p)).val 0 y : Nat), .int .i64 o.many, .bool false, .slice none 0 0, .slice none 0 0, .slice none 0 0, .string (⟨#[]⟩), .slice none 0 0, .int .i64 o.most, .int .i64 o.each]) hF rfl rfl hA43 rfl rfl 3 rfl rfl (by simp [Value.oneCell']) sz38_op (fun w44 hA45 => hK _ _ ?_))
          clear hK K
          replace hA45 : Hp w0 ([row rb 95 [.slice A l.length c, .int .i64 ((numR 8 (l.drop p)).pl p y : Nat), .int .i64 ((numR 8 (l.drop p)).why y : Nat)]] :: X :: [row b7 38 [.int .i64 o.kind, .int .i64 0, .int .u64 ((numR 8 (l.drop p)).val 0 y : Nat), .int .i64 o.many, .bool false, .slice none 0 0, .slice none 0 0, .slice none 0 0, .string (⟨#[]⟩), .slice none 0 0, .int .i64 o.most, .int .i64 o.each]] :: [row b4 38 [.int .i64 o.kind, .int .i64 0, .int .u64 ((numR 8 (l.drop p)).val 0 y : Nat), .int .i64 o.many, .bool false, .slice none 0 0, .slice none 0 0, .slice none 0 0, .string (⟨#[]⟩), .slice none 0 0, .int .i64 o.most, .int .i64 o.each]] :: [row b1 38 [.int .i64 o.kind, .int .i64 o.at_, .int .u64 (o.v.n : Int), .int .i64 o.many, .bool o.v.b, .slice o.dA o.v.ds.length o.dC, .slice o.qA o.ps.length o.qC, .slice o.pA o.v.p.length o.pC, strV o.v.s, .slice o.sA o.v.ss.length o.sC, .int .i64 o.most, .int .i64 o.each]] :: R) w44 := hA45
          refine vc_nil ?_
          refine hK12 _ _ ?_; clear  hK12 K12
          apply wp_ret
          refine vc_retR hF Try.results41 hA45.q rfl 3 rfl (by exact rw38_op) ?_
          have hA46 : Hp w0 ([row rb 95 [.slice A l.length c, .int .i64 ((numR 8 (l.drop p)).pl p y : Nat), .int .i64 ((numR 8 (l.drop p)).why y : Nat)]] :: X :: R) w44 := Hp.sel [[row rb 95 [.slice A l.length c, .int .i64 ((numR 8 (l.drop p)).pl p y : Nat), .int .i64 ((numR 8 (l.drop p)).why y : Nat)]], X, [row b7 38 [.int .i64 o.kind, .int .i64 0, .int .u64 ((numR 8 (l.drop p)).val 0 y : Nat), .int .i64 o.many, .bool false, .slice none 0 0, .slice none 0 0, .slice none 0 0, .string (⟨#[]⟩), .slice none 0 0, .int .i64 o.most, .int .i64 o.each]], [row b4 38 [.int .i64 o.kind, .int .i64 0, .int .u64 ((numR 8 (l.drop p)).val 0 y : Nat), .int .i64 o.many, .bool false, .slice none 0 0, .slice none 0 0, .slice none 0 0, .string (⟨#[]⟩), .slice none 0 0, .int .i64 o.most, .int .i64 o.each]], [row b1 38 [.int .i64 o.kind, .int .i64 o.at_, .int .u64 (o.v.n : Int), .int .i64 o.many, .bool o.v.b, .slice o.dA o.v.ds.length o.dC, .slice o.qA o.ps.length o.qC, .slice o.pA o.v.p.length o.pC, strV o.v.s, .slice o.sA o.v.ss.length o.sC, .int .i64 o.most, .int .i64 o.each]]] R [0, 1] [2, 3, 4] hA45 rfl
          have hA47 := Hp.nil hA46
          have eR : agR o (l.drop p) = (numR 8 (l.drop p)).map vN := by rw [agR, if_neg k1, if_neg k2, if_neg k3, if_pos k4]
          rw [eR, Res.pl_map, Res.why_map]
          refine ⟨{ kind := o.kind, at_ := 0, many := o.many, most := o.most, each := o.each, v := vN ((numR 8 (l.drop p)).val 0 y), ps := [], dA := none, dC := 0, qA := none, qC := 0, pA := none, pC := 0, sA := none, sC := 0 }, [], rfl, rfl, rfl, rfl, rfl, (Res.val_map vN _ 0 y).symm, fun R' hG => ?_, hA47⟩
          exact ⟨(show (numR 8 (l.drop p)).val 0 y < 18446744073709551616 by omega), hm, (fun d hd => by cases hd), Rc.nil, Rc.nil, (Nat.le_refl 0), Rc.nil, op_z, op_z, op_z, op_z⟩
        · refine vc_falseB hF rfl (eql_f (by omega)) ?_
          apply wp_seq_k; intro K13 hK13
          refine wp_region_lit ?_
          refine vc_y hF rfl rfl (by decide) _ (y_cmp rfl rfl rfl rfl rfl) (fun a hF => ?_)
          refine vc_y hF rfl rfl (by decide) _ (y_assign rfl rfl) (fun a hF => ?_)
          refine vc_nil ?_
          refine hK13 _ _ ?_; clear  hK13 K13
          by_cases k5 : o.kind = 5
          · refine vc_trueB hF rfl (eql_t (by omega)) ?_
            refine wp_region_lit ?_
            refine vc_y hF rfl rfl (by decide) _ (y_move rfl rfl) (fun a hF => ?_)
            have hA48 : Hp w0 ([row rb 95 [.slice A l.length c, .int .i64 (p : Int), .int .i64 (y : Int)]] :: X :: [row b7 38 [.int .i64 o.kind, .int .i64 0, .int .u64 0, .int .i64 o.many, .bool false, .slice none 0 0, .slice none 0 0, .slice none 0 0, .string (⟨#[]⟩), .slice none 0 0, .int .i64 o.most, .int .i64 o.each]] :: [row b4 38 [.int .i64 0, .int .i64 0, .int .u64 0, .int .i64 0, .bool false, .slice none 0 0, .slice none 0 0, .slice none 0 0, .string (⟨#[]⟩), .slice none 0 0, .int .i64 0, .int .i64 0]] :: [row b1 38 [.int .i64 o.kind, .int .i64 o.at_, .int .u64 (o.v.n : Int), .int .i64 o.many, .bool o.v.b, .slice o.dA o.v.ds.length o.dC, .slice o.qA o.ps.length o.qC, .slice o.pA o.v.p.length o.pC, strV o.v.s, .slice o.sA o.v.ss.length o.sC, .int .i64 o.most, .int .i64 o.each]] :: R) w10 := Hp.ord [[row b7 38 [.int .i64 o.kind, .int .i64 0, .int .u64 0, .int .i64 o.many, .bool false, .slice none 0 0, .slice none 0 0, .slice none 0 0, .string (⟨#[]⟩), .slice none 0 0, .int .i64 o.most, .int .i64 o.each]], [row b4 38 [.int .i64 0, .int .i64 0, .int .u64 0, .int .i64 0, .bool false, .slice none 0 0, .slice none 0 0, .slice none 0 0, .string (⟨#[]⟩), .slice none 0 0, .int .i64 0, .int .i64 0]], [row b1 38 [.int .i64 o.kind, .int .i64 o.at_, .int .u64 (o.v.n : Int), .int .i64 o.many, .bool o.v.b, .slice o.dA o.v.ds.length o.dC, .slice o.qA o.ps.length o.qC, .slice o.pA o.v.p.length o.pC, strV o.v.s, .slice o.sA o.v.ss.length o.sC, .int .i64 o.most, .int .i64 o.each]], [row rb 95 [.slice A l.length c, .int .i64 (p : Int), .int .i64 (y : Int)]], X] R [3, 4, 0, 1, 2] hA11 rfl
            refine vc_op rfl (fun K hK => ws_call hF rfl (by decide) cl28_op rfl rfl ?_)
            with_reducible refine (hr_flag w0 _ _ rb A l c p y X hO hA48 hp hl ).mono ?_
            rintro e' w49 ⟨rfl, hA50⟩
            refine ⟨_, rfl, fun a hF => hK _ _ ?_⟩
            clear hK K
            replace hA50 : Hp w0 ([row rb 95 [.slice A l.length c, .int .i64 ((flagR (l.drop p)).pl p y : Nat), .int .i64 ((flagR (l.drop p)).why y : Nat)]] :: X :: [row b7 38 [.int .i64 o.kind, .int .i64 0, .int .u64 0, .int .i64 o.many, .bool false, .slice none 0 0, .slice none 0 0, .slice none 0 0, .string (⟨#[]⟩), .slice none 0 0, .int .i64 o.most, .int .i64 o.each]] :: [row b4 38 [.int .i64 0, .int .i64 0, .int .u64 0, .int .i64 0, .bool false, .slice none 0 0, .slice none 0 0, .slice none 0 0, .string (⟨#[]⟩), .slice none 0 0, .int .i64 0, .int .i64 0]] :: [row b1 38 [.int .i64 o.kind, .int .i64 o.at_, .int .u64 (o.v.n : Int), .int .i64 o.many, .bool o.v.b, .slice o.dA o.v.ds.length o.dC, .slice o.qA o.ps.length o.qC, .slice o.pA o.v.p.length o.pC, strV o.v.s, .slice o.sA o.v.ss.length o.sC, .int .i64 o.most, .int .i64 o.each]] :: R) w49 := hA50
            refine vc_y hF rfl rfl (by decide) _ (y_field rfl Try.underlying38 rfl sz4_op (by decide) rfl (rfl : (⟨_, 0 + _, none⟩ : Addr) = ⟨_, 4, none⟩)) (fun a hF => ?_)
            refine vc_op rfl (fun K hK => hs_store1 hF rfl rfl hA50 rfl rfl 2 rfl (by simp) rfl sz4_op (fun w51 hA52 => hK _ _ ?_))
            clear hK K
            replace hA52 : Hp w0 ([row rb 95 [.slice A l.length c, .int .i64 ((flagR (l.drop p)).pl p y : Nat), .int .i64 ((flagR (l.drop p)).why y : Nat)]] :: X :: [row b7 38 [.int .i64 o.kind, .int .i64 0, .int .u64 0, .int .i64 o.many, .bool ((flagR (l.drop p)).val false y), .slice none 0 0, .slice none 0 0, .slice none 0 0, .string (⟨#[]⟩), .slice none 0 0, .int .i64 o.most, .int .i64 o.each]] :: [row b4 38 [.int .i64 0, .int .i64 0, .int .u64 0, .int .i64 0, .bool false, .slice none 0 0, .slice none 0 0, .slice none 0 0, .string (⟨#[]⟩), .slice none 0 0, .int .i64 0, .int .i64 0]] :: [row b1 38 [.int .i64 o.kind, .int .i64 o.at_, .int .u64 (o.v.n : Int), .int .i64 o.many, .bool o.v.b, .slice o.dA o.v.ds.length o.dC, .slice o.qA o.ps.length o.qC, .slice o.pA o.v.p.length o.pC, strV o.v.s, .slice o.sA o.v.ss.length o.sC, .int .i64 o.most, .int .i64 o.each]] :: R) w51 := hA52
            refine vc_nil ?_
            refine hK3 _ _ ?_; clear  hK3 K3
            apply wp_seq_k; intro K14 hK14
            refine wp_region_lit ?_
            refine vc_y hF rfl rfl (by decide) _ (y_ldRow rfl hA52.q rfl 2 rfl rw38_op (Nat.le_of_ble_eq_true rfl) rfl) (fun a hF => ?_)
            refine vc_op rfl (fun K hK => hs_storeAll (new := [.int .i64 o.kind, .int .i64 0, .int .u64 0, .int .i64 o.many, .bool ((flagR (l.drop p)).val false y), .slice none 0 0, .slice none 0 0, .slice none 0 0, .string (⟨#[]⟩), .slice none 0 0, .int .i64 o.most, .int .i64 o.each]) hF rfl rfl hA52 rfl rfl 3 rfl rfl (by simp [Value.oneCell']) sz38_op (fun w53 hA54 => hK _ _ ?_))
            clear hK K
            replace hA54 : Hp w0 ([row rb 95 [.slice A l.length c, .int .i64 ((flagR (l.drop p)).pl p y : Nat), .int .i64 ((flagR (l.drop p)).why y : Nat)]] :: X :: [row b7 38 [.int .i64 o.kind, .int .i64 0, .int .u64 0, .int .i64 o.many, .bool ((flagR (l.drop p)).val false y), .slice none 0 0, .slice none 0 0, .slice none 0 0, .string (⟨#[]⟩), .slice none 0 0, .int .i64 o.most, .int .i64 o.each]] :: [row b4 38 [.int .i64 o.kind, .int .i64 0, .int .u64 0, .int .i64 o.many, .bool ((flagR (l.drop p)).val false y), .slice none 0 0, .slice none 0 0, .slice none 0 0, .string (⟨#[]⟩), .slice none 0 0, .int .i64 o.most, .int .i64 o.each]] :: [row b1 38 [.int .i64 o.kind, .int .i64 o.at_, .int .u64 (o.v.n : Int), .int .i64 o.many, .bool o.v.b, .slice o.dA o.v.ds.length o.dC, .slice o.qA o.ps.length o.qC, .slice o.pA o.v.p.length o.pC, strV o.v.s, .slice o.sA o.v.ss.length o.sC, .int .i64 o.most, .int .i64 o.each]] :: R) w53 := hA54
            refine vc_nil ?_
            refine hK14 _ _ ?_; clear  hK14 K14
            apply wp_ret
            refine vc_retR hF Try.results41 hA54.q rfl 3 rfl (by exact rw38_op) ?_
            have hA55 : Hp w0 ([row rb 95 [.slice A l.length c, .int .i64 ((flagR (l.drop p)).pl p y : Nat), .int .i64 ((flagR (l.drop p)).why y : Nat)]] :: X :: R) w53 := Hp.sel [[row rb 95 [.slice A l.length c, .int .i64 ((flagR (l.drop p)).pl p y : Nat), .int .i64 ((flagR (l.drop p)).why y : Nat)]], X, [row b7 38 [.int .i64 o.kind, .int .i64 0, .int .u64 0, .int .i64 o.many, .bool ((flagR (l.drop p)).val false y), .slice none 0 0, .slice none 0 0, .slice none 0 0, .string (⟨#[]⟩), .slice none 0 0, .int .i64 o.most, .int .i64 o.each]], [row b4 38 [.int .i64 o.kind, .int .i64 0, .int .u64 0, .int .i64 o.many, .bool ((flagR (l.drop p)).val false y), .slice none 0 0, .slice none 0 0, .slice none 0 0, .string (⟨#[]⟩), .slice none 0 0, .int .i64 o.most, .int .i64 o.each]], [row b1 38 [.int .i64 o.kind, .int .i64 o.at_, .int .u64 (o.v.n : Int), .int .i64 o.many, .bool o.v.b, .slice o.dA o.v.ds.length o.dC, .slice o.qA o.ps.length o.qC, .slice o.pA o.v.p.length o.pC, strV o.v.s, .slice o.sA o.v.ss.length o.sC, .int .i64 o.most, .int .i64 o.each]]] R [0, 1] [2, 3, 4] hA54 rfl
            have hA56 := Hp.nil hA55
            have eR : agR o (l.drop p) = (flagR (l.drop p)).map vB := by rw [agR, if_neg k1, if_neg k2, if_neg k3, if_neg k4, if_pos k5]
            rw [eR, Res.pl_map, Res.why_map]
            refine ⟨{ kind := o.kind, at_ := 0, many := o.many, most := o.most, each := o.each, v := vB ((flagR (l.drop p)).val false y), ps := [], dA := none, dC := 0, qA := none, qC := 0, pA := none, pC := 0, sA := none, sC := 0 }, [], rfl, rfl, rfl, rfl, rfl, (Res.val_map vB _ false y).symm, fun R' hG => ?_, hA56⟩
            exact ⟨op_z2, hm, (fun d hd => by cases hd), Rc.nil, Rc.nil, (Nat.le_refl 0), Rc.nil, op_z, op_z, op_z, op_z⟩
          · refine vc_falseB hF rfl (eql_f (by omega)) ?_
            apply wp_seq_k; intro K15 hK15
            refine wp_region_lit ?_
            refine vc_y hF rfl rfl (by decide) _ (y_cmp rfl rfl rfl rfl rfl) (fun a hF => ?_)
            refine vc_y hF rfl rfl (by decide) _ (y_assign rfl rfl) (fun a hF => ?_)
            refine vc_nil ?_
            refine hK15 _ _ ?_; clear  hK15 K15
            by_cases k6 : o.kind = 6
            · refine vc_trueB hF rfl (eql_t (by omega)) ?_
              refine wp_region_lit ?_
              refine vc_y hF rfl rfl (by decide) _ (y_move rfl rfl) (fun a hF => ?_)
              refine vc_y hF rfl rfl (by decide) _ (y_field rfl Try.underlying38 rfl sz3_op (by decide) rfl (rfl : (⟨_, 0 + _, none⟩ : Addr) = ⟨_, 3, none⟩)) (fun a hF => ?_)
              refine vc_y hF rfl rfl (by decide) _ (y_ld rfl hA11.q rfl 2 rfl rfl nr3_op) (fun a hF => ?_)
              have hA57 : Hp w0 ([row rb 95 [.slice A l.length c, .int .i64 (p : Int), .int .i64 (y : Int)]] :: X :: [row b7 38 [.int .i64 o.kind, .int .i64 0, .int .u64 0, .int .i64 o.many, .bool false, .slice none 0 0, .slice none 0 0, .slice none 0 0, .string (⟨#[]⟩), .slice none 0 0, .int .i64 o.most, .int .i64 o.each]] :: [row b4 38 [.int .i64 0, .int .i64 0, .int .u64 0, .int .i64 0, .bool false, .slice none 0 0, .slice none 0 0, .slice none 0 0, .string (⟨#[]⟩), .slice none 0 0, .int .i64 0, .int .i64 0]] :: [row b1 38 [.int .i64 o.kind, .int .i64 o.at_, .int .u64 (o.v.n : Int), .int .i64 o.many, .bool o.v.b, .slice o.dA o.v.ds.length o.dC, .slice o.qA o.ps.length o.qC, .slice o.pA o.v.p.length o.pC, strV o.v.s, .slice o.sA o.v.ss.length o.sC, .int .i64 o.most, .int .i64 o.each]] :: R) w10 := Hp.ord [[row b7 38 [.int .i64 o.kind, .int .i64 0, .int .u64 0, .int .i64 o.many, .bool false, .slice none 0 0, .slice none 0 0, .slice none 0 0, .string (⟨#[]⟩), .slice none 0 0, .int .i64 o.most, .int .i64 o.each]], [row b4 38 [.int .i64 0, .int .i64 0, .int .u64 0, .int .i64 0, .bool false, .slice none 0 0, .slice none 0 0, .slice none 0 0, .string (⟨#[]⟩), .slice none 0 0, .int .i64 0, .int .i64 0]], [row b1 38 [.int .i64 o.kind, .int .i64 o.at_, .int .u64 (o.v.n : Int), .int .i64 o.many, .bool o.v.b, .slice o.dA o.v.ds.length o.dC, .slice o.qA o.ps.length o.qC, .slice o.pA o.v.p.length o.pC, strV o.v.s, .slice o.sA o.v.ss.length o.sC, .int .i64 o.most, .int .i64 o.each]], [row rb 95 [.slice A l.length c, .int .i64 (p : Int), .int .i64 (y : Int)]], X] R [3, 4, 0, 1, 2] hA11 rfl
              refine vc_op rfl (fun K hK => ws_call hF rfl (by decide) cl74_op rfl rfl ?_)
              with_reducible refine (hr_digests w0 _ _ rb A l c p y X o.many hO hA57 hp hl hm ).mono ?_
              rintro e' w58 ⟨vv, Z, rfl, hZ, hA59⟩
              refine ⟨_, rfl, fun a hF => hK _ _ ?_⟩
              clear hK K
              replace hA59 : Hp w0 (Z :: [row rb 95 [.slice A l.length c, .int .i64 ((digestsR (l.drop p) o.many).pl p y : Nat), .int .i64 ((digestsR (l.drop p) o.many).why y : Nat)]] :: X :: [row b7 38 [.int .i64 o.kind, .int .i64 0, .int .u64 0, .int .i64 o.many, .bool false, .slice none 0 0, .slice none 0 0, .slice none 0 0, .string (⟨#[]⟩), .slice none 0 0, .int .i64 o.most, .int .i64 o.each]] :: [row b4 38 [.int .i64 0, .int .i64 0, .int .u64 0, .int .i64 0, .bool false, .slice none 0 0, .slice none 0 0, .slice none 0 0, .string (⟨#[]⟩), .slice none 0 0, .int .i64 0, .int .i64 0]] :: [row b1 38 [.int .i64 o.kind, .int .i64 o.at_, .int .u64 (o.v.n : Int), .int .i64 o.many, .bool o.v.b, .slice o.dA o.v.ds.length o.dC, .slice o.qA o.ps.length o.qC, .slice o.pA o.v.p.length o.pC, strV o.v.s, .slice o.sA o.v.ss.length o.sC, .int .i64 o.most, .int .i64 o.each]] :: R) w58 := hA59
              obtain ⟨A2, c2, rfl, hc2⟩ := hZ.slice
              refine vc_y hF rfl rfl (by decide) _ (y_field rfl Try.underlying38 rfl sz34_op (by decide) rfl (rfl : (⟨_, 0 + _, none⟩ : Addr) = ⟨_, 5, none⟩)) (fun a hF => ?_)
              refine vc_op rfl (fun K hK => hs_store1 hF rfl rfl hA59 rfl rfl 3 rfl (by simp) rfl sz34_op (fun w60 hA61 => hK _ _ ?_))
              clear hK K
              replace hA61 : Hp w0 (Z :: [row rb 95 [.slice A l.length c, .int .i64 ((digestsR (l.drop p) o.many).pl p y : Nat), .int .i64 ((digestsR (l.drop p) o.many).why y : Nat)]] :: X :: [row b7 38 [.int .i64 o.kind, .int .i64 0, .int .u64 0, .int .i64 o.many, .bool false, .slice A2 (((digestsR (l.drop p) o.many).val [] y).length) c2, .slice none 0 0, .slice none 0 0, .string (⟨#[]⟩), .slice none 0 0, .int .i64 o.most, .int .i64 o.each]] :: [row b4 38 [.int .i64 0, .int .i64 0, .int .u64 0, .int .i64 0, .bool false, .slice none 0 0, .slice none 0 0, .slice none 0 0, .string (⟨#[]⟩), .slice none 0 0, .int .i64 0, .int .i64 0]] :: [row b1 38 [.int .i64 o.kind, .int .i64 o.at_, .int .u64 (o.v.n : Int), .int .i64 o.many, .bool o.v.b, .slice o.dA o.v.ds.length o.dC, .slice o.qA o.ps.length o.qC, .slice o.pA o.v.p.length o.pC, strV o.v.s, .slice o.sA o.v.ss.length o.sC, .int .i64 o.most, .int .i64 o.each]] :: R) w60 := hA61
              refine vc_nil ?_
              refine hK3 _ _ ?_; clear  hK3 K3
              apply wp_seq_k; intro K16 hK16
              refine wp_region_lit ?_
              refine vc_y hF rfl rfl (by decide) _ (y_ldRow rfl hA61.q rfl 3 rfl rw38_op (Nat.le_of_ble_eq_true rfl) rfl) (fun a hF => ?_)
              refine vc_op rfl (fun K hK => hs_storeAll (new := [.int .i64 o.kind, .int .i64 0, .int .u64 0, .int .i64 o.many, .bool false, .slice A2 (((digestsR (l.drop p) o.many).val [] y).length) c2, .slice none 0 0, .slice none 0 0, .string (⟨#[]⟩), .slice none 0 0, .int .i64 o.most, .int .i64 o.each]) hF rfl rfl hA61 rfl rfl 4 rfl rfl (by simp [Value.oneCell']) sz38_op (fun w62 hA63 => hK _ _ ?_))
              clear hK K
              replace hA63 : Hp w0 (Z :: [row rb 95 [.slice A l.length c, .int .i64 ((digestsR (l.drop p) o.many).pl p y : Nat), .int .i64 ((digestsR (l.drop p) o.many).why y : Nat)]] :: X :: [row b7 38 [.int .i64 o.kind, .int .i64 0, .int .u64 0, .int .i64 o.many, .bool false, .slice A2 (((digestsR (l.drop p) o.many).val [] y).length) c2, .slice none 0 0, .slice none 0 0, .string (⟨#[]⟩), .slice none 0 0, .int .i64 o.most, .int .i64 o.each]] :: [row b4 38 [.int .i64 o.kind, .int .i64 0, .int .u64 0, .int .i64 o.many, .bool false, .slice A2 (((digestsR (l.drop p) o.many).val [] y).length) c2, .slice none 0 0, .slice none 0 0, .string (⟨#[]⟩), .slice none 0 0, .int .i64 o.most, .int .i64 o.each]] :: [row b1 38 [.int .i64 o.kind, .int .i64 o.at_, .int .u64 (o.v.n : Int), .int .i64 o.many, .bool o.v.b, .slice o.dA o.v.ds.length o.dC, .slice o.qA o.ps.length o.qC, .slice o.pA o.v.p.length o.pC, strV o.v.s, .slice o.sA o.v.ss.length o.sC, .int .i64 o.most, .int .i64 o.each]] :: R) w62 := hA63
              refine vc_nil ?_
              refine hK16 _ _ ?_; clear  hK16 K16
              apply wp_ret
              refine vc_retR hF Try.results41 hA63.q rfl 4 rfl (by exact rw38_op) ?_
              have hA64 : Hp w0 (Z :: [row rb 95 [.slice A l.length c, .int .i64 ((digestsR (l.drop p) o.many).pl p y : Nat), .int .i64 ((digestsR (l.drop p) o.many).why y : Nat)]] :: X :: R) w62 := Hp.sel [Z, [row rb 95 [.slice A l.length c, .int .i64 ((digestsR (l.drop p) o.many).pl p y : Nat), .int .i64 ((digestsR (l.drop p) o.many).why y : Nat)]], X, [row b7 38 [.int .i64 o.kind, .int .i64 0, .int .u64 0, .int .i64 o.many, .bool false, .slice A2 (((digestsR (l.drop p) o.many).val [] y).length) c2, .slice none 0 0, .slice none 0 0, .string (⟨#[]⟩), .slice none 0 0, .int .i64 o.most, .int .i64 o.each]], [row b4 38 [.int .i64 o.kind, .int .i64 0, .int .u64 0, .int .i64 o.many, .bool false, .slice A2 (((digestsR (l.drop p) o.many).val [] y).length) c2, .slice none 0 0, .slice none 0 0, .string (⟨#[]⟩), .slice none 0 0, .int .i64 o.most, .int .i64 o.each]], [row b1 38 [.int .i64 o.kind, .int .i64 o.at_, .int .u64 (o.v.n : Int), .int .i64 o.many, .bool o.v.b, .slice o.dA o.v.ds.length o.dC, .slice o.qA o.ps.length o.qC, .slice o.pA o.v.p.length o.pC, strV o.v.s, .slice o.sA o.v.ss.length o.sC, .int .i64 o.most, .int .i64 o.each]]] R [0, 1, 2] [3, 4, 5] hA63 rfl
              have eR : agR o (l.drop p) = (digestsR (l.drop p) o.many).map vD := by rw [agR, if_neg k1, if_neg k2, if_neg k3, if_neg k4, if_neg k5, if_pos k6]
              rw [eR, Res.pl_map, Res.why_map]
              refine ⟨{ kind := o.kind, at_ := 0, many := o.many, most := o.most, each := o.each, v := vD ((digestsR (l.drop p) o.many).val [] y), ps := [], dA := A2, dC := c2, qA := none, qC := 0, pA := none, pC := 0, sA := none, sC := 0 }, Z, rfl, rfl, rfl, rfl, rfl, (Res.val_map vD _ [] y).symm, fun R' hG => ?_, hA64⟩
              have hs := digests_32 (l.drop p) o.many y
              rw [List.length_drop] at hs
              obtain ⟨A3, c3, e3, _, h3⟩ := hZ.rc (w0 := w0) hG
              injection e3 with e3 _ e3c
              subst e3 e3c
              exact ⟨op_z2, hm, hs.1, h3, Rc.nil, (Nat.le_refl 0), Rc.nil, (show ((digestsR (l.drop p) o.many).val [] y).length ≤ 9223372036854775807 by omega), op_z, op_z, op_z⟩
            · refine vc_falseB hF rfl (eql_f (by omega)) ?_
              apply wp_seq_k; intro K17 hK17
              refine wp_region_lit ?_
              refine vc_y hF rfl rfl (by decide) _ (y_cmp rfl rfl rfl rfl rfl) (fun a hF => ?_)
              refine vc_y hF rfl rfl (by decide) _ (y_assign rfl rfl) (fun a hF => ?_)
              refine vc_nil ?_
              refine hK17 _ _ ?_; clear  hK17 K17
              by_cases k7 : o.kind = 7
              · refine vc_trueB hF rfl (eql_t (by omega)) ?_
                refine wp_region_lit ?_
                refine vc_y hF rfl rfl (by decide) _ (y_move rfl rfl) (fun a hF => ?_)
                refine vc_y hF rfl rfl (by decide) _ (y_field rfl Try.underlying38 rfl sz3_op (by decide) rfl (rfl : (⟨_, 0 + _, none⟩ : Addr) = ⟨_, 3, none⟩)) (fun a hF => ?_)
                refine vc_y hF rfl rfl (by decide) _ (y_ld rfl hA11.q rfl 2 rfl rfl nr3_op) (fun a hF => ?_)
                have hA65 : Hp w0 ([row rb 95 [.slice A l.length c, .int .i64 (p : Int), .int .i64 (y : Int)]] :: X :: [row b7 38 [.int .i64 o.kind, .int .i64 0, .int .u64 0, .int .i64 o.many, .bool false, .slice none 0 0, .slice none 0 0, .slice none 0 0, .string (⟨#[]⟩), .slice none 0 0, .int .i64 o.most, .int .i64 o.each]] :: [row b4 38 [.int .i64 0, .int .i64 0, .int .u64 0, .int .i64 0, .bool false, .slice none 0 0, .slice none 0 0, .slice none 0 0, .string (⟨#[]⟩), .slice none 0 0, .int .i64 0, .int .i64 0]] :: [row b1 38 [.int .i64 o.kind, .int .i64 o.at_, .int .u64 (o.v.n : Int), .int .i64 o.many, .bool o.v.b, .slice o.dA o.v.ds.length o.dC, .slice o.qA o.ps.length o.qC, .slice o.pA o.v.p.length o.pC, strV o.v.s, .slice o.sA o.v.ss.length o.sC, .int .i64 o.most, .int .i64 o.each]] :: R) w10 := Hp.ord [[row b7 38 [.int .i64 o.kind, .int .i64 0, .int .u64 0, .int .i64 o.many, .bool false, .slice none 0 0, .slice none 0 0, .slice none 0 0, .string (⟨#[]⟩), .slice none 0 0, .int .i64 o.most, .int .i64 o.each]], [row b4 38 [.int .i64 0, .int .i64 0, .int .u64 0, .int .i64 0, .bool false, .slice none 0 0, .slice none 0 0, .slice none 0 0, .string (⟨#[]⟩), .slice none 0 0, .int .i64 0, .int .i64 0]], [row b1 38 [.int .i64 o.kind, .int .i64 o.at_, .int .u64 (o.v.n : Int), .int .i64 o.many, .bool o.v.b, .slice o.dA o.v.ds.length o.dC, .slice o.qA o.ps.length o.qC, .slice o.pA o.v.p.length o.pC, strV o.v.s, .slice o.sA o.v.ss.length o.sC, .int .i64 o.most, .int .i64 o.each]], [row rb 95 [.slice A l.length c, .int .i64 (p : Int), .int .i64 (y : Int)]], X] R [3, 4, 0, 1, 2] hA11 rfl
                refine vc_op rfl (fun K hK => ws_call hF rfl (by decide) cl75_op rfl rfl ?_)
                with_reducible refine (hr_raw w0 _ _ rb A l c p y X o.many hO hA65 hp hl hm ).mono ?_
                rintro e' w66 ⟨vv, Z, rfl, hZ, hA67⟩
                refine ⟨_, rfl, fun a hF => hK _ _ ?_⟩
                clear hK K
                replace hA67 : Hp w0 (Z :: [row rb 95 [.slice A l.length c, .int .i64 ((rawR (l.drop p) o.many).pl p y : Nat), .int .i64 ((rawR (l.drop p) o.many).why y : Nat)]] :: X :: [row b7 38 [.int .i64 o.kind, .int .i64 0, .int .u64 0, .int .i64 o.many, .bool false, .slice none 0 0, .slice none 0 0, .slice none 0 0, .string (⟨#[]⟩), .slice none 0 0, .int .i64 o.most, .int .i64 o.each]] :: [row b4 38 [.int .i64 0, .int .i64 0, .int .u64 0, .int .i64 0, .bool false, .slice none 0 0, .slice none 0 0, .slice none 0 0, .string (⟨#[]⟩), .slice none 0 0, .int .i64 0, .int .i64 0]] :: [row b1 38 [.int .i64 o.kind, .int .i64 o.at_, .int .u64 (o.v.n : Int), .int .i64 o.many, .bool o.v.b, .slice o.dA o.v.ds.length o.dC, .slice o.qA o.ps.length o.qC, .slice o.pA o.v.p.length o.pC, strV o.v.s, .slice o.sA o.v.ss.length o.sC, .int .i64 o.most, .int .i64 o.each]] :: R) w66 := hA67
                obtain ⟨A2, c2, rfl, hc2⟩ := hZ.slice
                refine vc_y hF rfl rfl (by decide) _ (y_field rfl Try.underlying38 rfl sz35_op (by decide) rfl (rfl : (⟨_, 0 + _, none⟩ : Addr) = ⟨_, 7, none⟩)) (fun a hF => ?_)
                refine vc_op rfl (fun K hK => hs_store1 hF rfl rfl hA67 rfl rfl 3 rfl (by simp) rfl sz35_op (fun w68 hA69 => hK _ _ ?_))
                clear hK K
                replace hA69 : Hp w0 (Z :: [row rb 95 [.slice A l.length c, .int .i64 ((rawR (l.drop p) o.many).pl p y : Nat), .int .i64 ((rawR (l.drop p) o.many).why y : Nat)]] :: X :: [row b7 38 [.int .i64 o.kind, .int .i64 0, .int .u64 0, .int .i64 o.many, .bool false, .slice none 0 0, .slice none 0 0, .slice A2 (((rawR (l.drop p) o.many).val [] y).length) c2, .string (⟨#[]⟩), .slice none 0 0, .int .i64 o.most, .int .i64 o.each]] :: [row b4 38 [.int .i64 0, .int .i64 0, .int .u64 0, .int .i64 0, .bool false, .slice none 0 0, .slice none 0 0, .slice none 0 0, .string (⟨#[]⟩), .slice none 0 0, .int .i64 0, .int .i64 0]] :: [row b1 38 [.int .i64 o.kind, .int .i64 o.at_, .int .u64 (o.v.n : Int), .int .i64 o.many, .bool o.v.b, .slice o.dA o.v.ds.length o.dC, .slice o.qA o.ps.length o.qC, .slice o.pA o.v.p.length o.pC, strV o.v.s, .slice o.sA o.v.ss.length o.sC, .int .i64 o.most, .int .i64 o.each]] :: R) w68 := hA69
                refine vc_nil ?_
                refine hK3 _ _ ?_; clear  hK3 K3
                apply wp_seq_k; intro K18 hK18
                refine wp_region_lit ?_
                refine vc_y hF rfl rfl (by decide) _ (y_ldRow rfl hA69.q rfl 3 rfl rw38_op (Nat.le_of_ble_eq_true rfl) rfl) (fun a hF => ?_)
                refine vc_op rfl (fun K hK => hs_storeAll (new := [.int .i64 o.kind, .int .i64 0, .int .u64 0, .int .i64 o.many, .bool false, .slice none 0 0, .slice none 0 0, .slice A2 (((rawR (l.drop p) o.many).val [] y).length) c2, .string (⟨#[]⟩), .slice none 0 0, .int .i64 o.most, .int .i64 o.each]) hF rfl rfl hA69 rfl rfl 4 rfl rfl (by simp [Value.oneCell']) sz38_op (fun w70 hA71 => hK _ _ ?_))
                clear hK K
                replace hA71 : Hp w0 (Z :: [row rb 95 [.slice A l.length c, .int .i64 ((rawR (l.drop p) o.many).pl p y : Nat), .int .i64 ((rawR (l.drop p) o.many).why y : Nat)]] :: X :: [row b7 38 [.int .i64 o.kind, .int .i64 0, .int .u64 0, .int .i64 o.many, .bool false, .slice none 0 0, .slice none 0 0, .slice A2 (((rawR (l.drop p) o.many).val [] y).length) c2, .string (⟨#[]⟩), .slice none 0 0, .int .i64 o.most, .int .i64 o.each]] :: [row b4 38 [.int .i64 o.kind, .int .i64 0, .int .u64 0, .int .i64 o.many, .bool false, .slice none 0 0, .slice none 0 0, .slice A2 (((rawR (l.drop p) o.many).val [] y).length) c2, .string (⟨#[]⟩), .slice none 0 0, .int .i64 o.most, .int .i64 o.each]] :: [row b1 38 [.int .i64 o.kind, .int .i64 o.at_, .int .u64 (o.v.n : Int), .int .i64 o.many, .bool o.v.b, .slice o.dA o.v.ds.length o.dC, .slice o.qA o.ps.length o.qC, .slice o.pA o.v.p.length o.pC, strV o.v.s, .slice o.sA o.v.ss.length o.sC, .int .i64 o.most, .int .i64 o.each]] :: R) w70 := hA71
                refine vc_nil ?_
                refine hK18 _ _ ?_; clear  hK18 K18
                apply wp_ret
                refine vc_retR hF Try.results41 hA71.q rfl 4 rfl (by exact rw38_op) ?_
                have hA72 : Hp w0 (Z :: [row rb 95 [.slice A l.length c, .int .i64 ((rawR (l.drop p) o.many).pl p y : Nat), .int .i64 ((rawR (l.drop p) o.many).why y : Nat)]] :: X :: R) w70 := Hp.sel [Z, [row rb 95 [.slice A l.length c, .int .i64 ((rawR (l.drop p) o.many).pl p y : Nat), .int .i64 ((rawR (l.drop p) o.many).why y : Nat)]], X, [row b7 38 [.int .i64 o.kind, .int .i64 0, .int .u64 0, .int .i64 o.many, .bool false, .slice none 0 0, .slice none 0 0, .slice A2 (((rawR (l.drop p) o.many).val [] y).length) c2, .string (⟨#[]⟩), .slice none 0 0, .int .i64 o.most, .int .i64 o.each]], [row b4 38 [.int .i64 o.kind, .int .i64 0, .int .u64 0, .int .i64 o.many, .bool false, .slice none 0 0, .slice none 0 0, .slice A2 (((rawR (l.drop p) o.many).val [] y).length) c2, .string (⟨#[]⟩), .slice none 0 0, .int .i64 o.most, .int .i64 o.each]], [row b1 38 [.int .i64 o.kind, .int .i64 o.at_, .int .u64 (o.v.n : Int), .int .i64 o.many, .bool o.v.b, .slice o.dA o.v.ds.length o.dC, .slice o.qA o.ps.length o.qC, .slice o.pA o.v.p.length o.pC, strV o.v.s, .slice o.sA o.v.ss.length o.sC, .int .i64 o.most, .int .i64 o.each]]] R [0, 1, 2] [3, 4, 5] hA71 rfl
                have eR : agR o (l.drop p) = (rawR (l.drop p) o.many).map vP := by rw [agR, if_neg k1, if_neg k2, if_neg k3, if_neg k4, if_neg k5, if_neg k6, if_pos k7]
                rw [eR, Res.pl_map, Res.why_map]
                refine ⟨{ kind := o.kind, at_ := 0, many := o.many, most := o.most, each := o.each, v := vP ((rawR (l.drop p) o.many).val [] y), ps := [], dA := none, dC := 0, qA := none, qC := 0, pA := A2, pC := c2, sA := none, sC := 0 }, Z, rfl, rfl, rfl, rfl, rfl, (Res.val_map vP _ [] y).symm, fun R' hG => ?_, hA72⟩
                have hs := raw_small (l.drop p) o.many y
                rw [List.length_drop] at hs
                obtain ⟨A3, c3, e3, _, h3⟩ := hZ.rc (w0 := w0) hG
                injection e3 with e3 _ e3c
                subst e3 e3c
                exact ⟨op_z2, hm, (fun d hd => by cases hd), Rc.nil, h3, hc2, Rc.nil, op_z, op_z, (show ((rawR (l.drop p) o.many).val [] y).length ≤ 9223372036854775807 by omega), op_z⟩
              · refine vc_falseB hF rfl (eql_f (by omega)) ?_
                apply wp_seq_k; intro K19 hK19
                refine wp_region_lit ?_
                refine vc_y hF rfl rfl (by decide) _ (y_cmp rfl rfl rfl rfl rfl) (fun a hF => ?_)
                refine vc_y hF rfl rfl (by decide) _ (y_assign rfl rfl) (fun a hF => ?_)
                refine vc_nil ?_
                refine hK19 _ _ ?_; clear  hK19 K19
                by_cases k8 : o.kind = 8
                · refine vc_trueB hF rfl (eql_t (by omega)) ?_
                  refine wp_region_lit ?_
                  refine vc_y hF rfl rfl (by decide) _ (y_move rfl rfl) (fun a hF => ?_)
                  refine vc_y hF rfl rfl (by decide) _ (y_field rfl Try.underlying38 rfl sz3_op (by decide) rfl (rfl : (⟨_, 0 + _, none⟩ : Addr) = ⟨_, 10, none⟩)) (fun a hF => ?_)
                  refine vc_y hF rfl rfl (by decide) _ (y_ld rfl hA11.q rfl 2 rfl rfl nr3_op) (fun a hF => ?_)
                  have hA73 : Hp w0 ([row rb 95 [.slice A l.length c, .int .i64 (p : Int), .int .i64 (y : Int)]] :: X :: [row b7 38 [.int .i64 o.kind, .int .i64 0, .int .u64 0, .int .i64 o.many, .bool false, .slice none 0 0, .slice none 0 0, .slice none 0 0, .string (⟨#[]⟩), .slice none 0 0, .int .i64 o.most, .int .i64 o.each]] :: [row b4 38 [.int .i64 0, .int .i64 0, .int .u64 0, .int .i64 0, .bool false, .slice none 0 0, .slice none 0 0, .slice none 0 0, .string (⟨#[]⟩), .slice none 0 0, .int .i64 0, .int .i64 0]] :: [row b1 38 [.int .i64 o.kind, .int .i64 o.at_, .int .u64 (o.v.n : Int), .int .i64 o.many, .bool o.v.b, .slice o.dA o.v.ds.length o.dC, .slice o.qA o.ps.length o.qC, .slice o.pA o.v.p.length o.pC, strV o.v.s, .slice o.sA o.v.ss.length o.sC, .int .i64 o.most, .int .i64 o.each]] :: R) w10 := Hp.ord [[row b7 38 [.int .i64 o.kind, .int .i64 0, .int .u64 0, .int .i64 o.many, .bool false, .slice none 0 0, .slice none 0 0, .slice none 0 0, .string (⟨#[]⟩), .slice none 0 0, .int .i64 o.most, .int .i64 o.each]], [row b4 38 [.int .i64 0, .int .i64 0, .int .u64 0, .int .i64 0, .bool false, .slice none 0 0, .slice none 0 0, .slice none 0 0, .string (⟨#[]⟩), .slice none 0 0, .int .i64 0, .int .i64 0]], [row b1 38 [.int .i64 o.kind, .int .i64 o.at_, .int .u64 (o.v.n : Int), .int .i64 o.many, .bool o.v.b, .slice o.dA o.v.ds.length o.dC, .slice o.qA o.ps.length o.qC, .slice o.pA o.v.p.length o.pC, strV o.v.s, .slice o.sA o.v.ss.length o.sC, .int .i64 o.most, .int .i64 o.each]], [row rb 95 [.slice A l.length c, .int .i64 (p : Int), .int .i64 (y : Int)]], X] R [3, 4, 0, 1, 2] hA11 rfl
                  refine vc_op rfl (fun K hK => ws_call hF rfl (by decide) cl76_op rfl rfl ?_)
                  with_reducible refine (hr_text w0 _ _ rb A l c p y X o.most hO hA73 hp hl ).mono ?_
                  rintro e' w74 ⟨rfl, hA75⟩
                  refine ⟨_, rfl, fun a hF => hK _ _ ?_⟩
                  clear hK K
                  replace hA75 : Hp w0 ([row rb 95 [.slice A l.length c, .int .i64 ((textR (l.drop p) o.most).pl p y : Nat), .int .i64 ((textR (l.drop p) o.most).why y : Nat)]] :: X :: [row b7 38 [.int .i64 o.kind, .int .i64 0, .int .u64 0, .int .i64 o.many, .bool false, .slice none 0 0, .slice none 0 0, .slice none 0 0, .string (⟨#[]⟩), .slice none 0 0, .int .i64 o.most, .int .i64 o.each]] :: [row b4 38 [.int .i64 0, .int .i64 0, .int .u64 0, .int .i64 0, .bool false, .slice none 0 0, .slice none 0 0, .slice none 0 0, .string (⟨#[]⟩), .slice none 0 0, .int .i64 0, .int .i64 0]] :: [row b1 38 [.int .i64 o.kind, .int .i64 o.at_, .int .u64 (o.v.n : Int), .int .i64 o.many, .bool o.v.b, .slice o.dA o.v.ds.length o.dC, .slice o.qA o.ps.length o.qC, .slice o.pA o.v.p.length o.pC, strV o.v.s, .slice o.sA o.v.ss.length o.sC, .int .i64 o.most, .int .i64 o.each]] :: R) w74 := hA75
                  refine vc_y hF rfl rfl (by decide) _ (y_field rfl Try.underlying38 rfl sz9_op (by decide) rfl (rfl : (⟨_, 0 + _, none⟩ : Addr) = ⟨_, 8, none⟩)) (fun a hF => ?_)
                  refine vc_op rfl (fun K hK => hs_store1 hF rfl rfl hA75 rfl rfl 2 rfl (by simp) rfl sz9_op (fun w76 hA77 => hK _ _ ?_))
                  clear hK K
                  replace hA77 : Hp w0 ([row rb 95 [.slice A l.length c, .int .i64 ((textR (l.drop p) o.most).pl p y : Nat), .int .i64 ((textR (l.drop p) o.most).why y : Nat)]] :: X :: [row b7 38 [.int .i64 o.kind, .int .i64 0, .int .u64 0, .int .i64 o.many, .bool false, .slice none 0 0, .slice none 0 0, .slice none 0 0, strV ((textR (l.drop p) o.most).val [] y), .slice none 0 0, .int .i64 o.most, .int .i64 o.each]] :: [row b4 38 [.int .i64 0, .int .i64 0, .int .u64 0, .int .i64 0, .bool false, .slice none 0 0, .slice none 0 0, .slice none 0 0, .string (⟨#[]⟩), .slice none 0 0, .int .i64 0, .int .i64 0]] :: [row b1 38 [.int .i64 o.kind, .int .i64 o.at_, .int .u64 (o.v.n : Int), .int .i64 o.many, .bool o.v.b, .slice o.dA o.v.ds.length o.dC, .slice o.qA o.ps.length o.qC, .slice o.pA o.v.p.length o.pC, strV o.v.s, .slice o.sA o.v.ss.length o.sC, .int .i64 o.most, .int .i64 o.each]] :: R) w76 := hA77
                  refine vc_nil ?_
                  refine hK3 _ _ ?_; clear  hK3 K3
                  apply wp_seq_k; intro K20 hK20
                  refine wp_region_lit ?_
                  refine vc_y hF rfl rfl (by decide) _ (y_ldRow rfl hA77.q rfl 2 rfl rw38_op (Nat.le_of_ble_eq_true rfl) rfl) (fun a hF => ?_)
                  refine vc_op rfl (fun K hK => hs_storeAll (new := [.int .i64 o.kind, .int .i64 0, .int .u64 0, .int .i64 o.many, .bool false, .slice none 0 0, .slice none 0 0, .slice none 0 0, strV ((textR (l.drop p) o.most).val [] y), .slice none 0 0, .int .i64 o.most, .int .i64 o.each]) hF rfl rfl hA77 rfl rfl 3 rfl rfl (by simp [Value.oneCell']) sz38_op (fun w78 hA79 => hK _ _ ?_))
                  clear hK K
                  replace hA79 : Hp w0 ([row rb 95 [.slice A l.length c, .int .i64 ((textR (l.drop p) o.most).pl p y : Nat), .int .i64 ((textR (l.drop p) o.most).why y : Nat)]] :: X :: [row b7 38 [.int .i64 o.kind, .int .i64 0, .int .u64 0, .int .i64 o.many, .bool false, .slice none 0 0, .slice none 0 0, .slice none 0 0, strV ((textR (l.drop p) o.most).val [] y), .slice none 0 0, .int .i64 o.most, .int .i64 o.each]] :: [row b4 38 [.int .i64 o.kind, .int .i64 0, .int .u64 0, .int .i64 o.many, .bool false, .slice none 0 0, .slice none 0 0, .slice none 0 0, strV ((textR (l.drop p) o.most).val [] y), .slice none 0 0, .int .i64 o.most, .int .i64 o.each]] :: [row b1 38 [.int .i64 o.kind, .int .i64 o.at_, .int .u64 (o.v.n : Int), .int .i64 o.many, .bool o.v.b, .slice o.dA o.v.ds.length o.dC, .slice o.qA o.ps.length o.qC, .slice o.pA o.v.p.length o.pC, strV o.v.s, .slice o.sA o.v.ss.length o.sC, .int .i64 o.most, .int .i64 o.each]] :: R) w78 := hA79
                  refine vc_nil ?_
                  refine hK20 _ _ ?_; clear  hK20 K20
                  apply wp_ret
                  refine vc_retR hF Try.results41 hA79.q rfl 3 rfl (by exact rw38_op) ?_
                  have hA80 : Hp w0 ([row rb 95 [.slice A l.length c, .int .i64 ((textR (l.drop p) o.most).pl p y : Nat), .int .i64 ((textR (l.drop p) o.most).why y : Nat)]] :: X :: R) w78 := Hp.sel [[row rb 95 [.slice A l.length c, .int .i64 ((textR (l.drop p) o.most).pl p y : Nat), .int .i64 ((textR (l.drop p) o.most).why y : Nat)]], X, [row b7 38 [.int .i64 o.kind, .int .i64 0, .int .u64 0, .int .i64 o.many, .bool false, .slice none 0 0, .slice none 0 0, .slice none 0 0, strV ((textR (l.drop p) o.most).val [] y), .slice none 0 0, .int .i64 o.most, .int .i64 o.each]], [row b4 38 [.int .i64 o.kind, .int .i64 0, .int .u64 0, .int .i64 o.many, .bool false, .slice none 0 0, .slice none 0 0, .slice none 0 0, strV ((textR (l.drop p) o.most).val [] y), .slice none 0 0, .int .i64 o.most, .int .i64 o.each]], [row b1 38 [.int .i64 o.kind, .int .i64 o.at_, .int .u64 (o.v.n : Int), .int .i64 o.many, .bool o.v.b, .slice o.dA o.v.ds.length o.dC, .slice o.qA o.ps.length o.qC, .slice o.pA o.v.p.length o.pC, strV o.v.s, .slice o.sA o.v.ss.length o.sC, .int .i64 o.most, .int .i64 o.each]]] R [0, 1] [2, 3, 4] hA79 rfl
                  have hA81 := Hp.nil hA80
                  have eR : agR o (l.drop p) = (textR (l.drop p) o.most).map vS := by rw [agR, if_neg k1, if_neg k2, if_neg k3, if_neg k4, if_neg k5, if_neg k6, if_neg k7, if_pos k8]
                  rw [eR, Res.pl_map, Res.why_map]
                  refine ⟨{ kind := o.kind, at_ := 0, many := o.many, most := o.most, each := o.each, v := vS ((textR (l.drop p) o.most).val [] y), ps := [], dA := none, dC := 0, qA := none, qC := 0, pA := none, pC := 0, sA := none, sC := 0 }, [], rfl, rfl, rfl, rfl, rfl, (Res.val_map vS _ [] y).symm, fun R' hG => ?_, hA81⟩
                  have hs : ((textR (l.drop p) o.most).val [] y).length ≤ (l.drop p).length := sized_small 2 6 (l.drop p) (bnd o.most 65535) y
                  rw [List.length_drop] at hs
                  exact ⟨op_z2, hm, (fun d hd => by cases hd), Rc.nil, Rc.nil, (Nat.le_refl 0), Rc.nil, op_z, op_z, op_z, (show ((textR (l.drop p) o.most).val [] y).length ≤ 9223372036854775807 by omega)⟩
                · refine vc_falseB hF rfl (eql_f (by omega)) ?_
                  apply wp_seq_k; intro K21 hK21
                  refine wp_region_lit ?_
                  refine vc_y hF rfl rfl (by decide) _ (y_cmp rfl rfl rfl rfl rfl) (fun a hF => ?_)
                  refine vc_y hF rfl rfl (by decide) _ (y_assign rfl rfl) (fun a hF => ?_)
                  refine vc_nil ?_
                  refine hK21 _ _ ?_; clear  hK21 K21
                  by_cases k9 : o.kind = 9
                  · refine vc_trueB hF rfl (eql_t (by omega)) ?_
                    refine wp_region_lit ?_
                    refine vc_y hF rfl rfl (by decide) _ (y_move rfl rfl) (fun a hF => ?_)
                    refine vc_y hF rfl rfl (by decide) _ (y_field rfl Try.underlying38 rfl sz3_op (by decide) rfl (rfl : (⟨_, 0 + _, none⟩ : Addr) = ⟨_, 10, none⟩)) (fun a hF => ?_)
                    refine vc_y hF rfl rfl (by decide) _ (y_ld rfl hA11.q rfl 2 rfl rfl nr3_op) (fun a hF => ?_)
                    have hA82 : Hp w0 ([row rb 95 [.slice A l.length c, .int .i64 (p : Int), .int .i64 (y : Int)]] :: X :: [row b7 38 [.int .i64 o.kind, .int .i64 0, .int .u64 0, .int .i64 o.many, .bool false, .slice none 0 0, .slice none 0 0, .slice none 0 0, .string (⟨#[]⟩), .slice none 0 0, .int .i64 o.most, .int .i64 o.each]] :: [row b4 38 [.int .i64 0, .int .i64 0, .int .u64 0, .int .i64 0, .bool false, .slice none 0 0, .slice none 0 0, .slice none 0 0, .string (⟨#[]⟩), .slice none 0 0, .int .i64 0, .int .i64 0]] :: [row b1 38 [.int .i64 o.kind, .int .i64 o.at_, .int .u64 (o.v.n : Int), .int .i64 o.many, .bool o.v.b, .slice o.dA o.v.ds.length o.dC, .slice o.qA o.ps.length o.qC, .slice o.pA o.v.p.length o.pC, strV o.v.s, .slice o.sA o.v.ss.length o.sC, .int .i64 o.most, .int .i64 o.each]] :: R) w10 := Hp.ord [[row b7 38 [.int .i64 o.kind, .int .i64 0, .int .u64 0, .int .i64 o.many, .bool false, .slice none 0 0, .slice none 0 0, .slice none 0 0, .string (⟨#[]⟩), .slice none 0 0, .int .i64 o.most, .int .i64 o.each]], [row b4 38 [.int .i64 0, .int .i64 0, .int .u64 0, .int .i64 0, .bool false, .slice none 0 0, .slice none 0 0, .slice none 0 0, .string (⟨#[]⟩), .slice none 0 0, .int .i64 0, .int .i64 0]], [row b1 38 [.int .i64 o.kind, .int .i64 o.at_, .int .u64 (o.v.n : Int), .int .i64 o.many, .bool o.v.b, .slice o.dA o.v.ds.length o.dC, .slice o.qA o.ps.length o.qC, .slice o.pA o.v.p.length o.pC, strV o.v.s, .slice o.sA o.v.ss.length o.sC, .int .i64 o.most, .int .i64 o.each]], [row rb 95 [.slice A l.length c, .int .i64 (p : Int), .int .i64 (y : Int)]], X] R [3, 4, 0, 1, 2] hA11 rfl
                    refine vc_op rfl (fun K hK => ws_call hF rfl (by decide) cl77_op rfl rfl ?_)
                    with_reducible refine (hr_bytes w0 _ _ rb A l c p y X o.most hO hA82 hp hl ).mono ?_
                    rintro e' w83 ⟨vv, Z, rfl, hZ, hA84⟩
                    refine ⟨_, rfl, fun a hF => hK _ _ ?_⟩
                    clear hK K
                    replace hA84 : Hp w0 (Z :: [row rb 95 [.slice A l.length c, .int .i64 ((bytesR (l.drop p) o.most).pl p y : Nat), .int .i64 ((bytesR (l.drop p) o.most).why y : Nat)]] :: X :: [row b7 38 [.int .i64 o.kind, .int .i64 0, .int .u64 0, .int .i64 o.many, .bool false, .slice none 0 0, .slice none 0 0, .slice none 0 0, .string (⟨#[]⟩), .slice none 0 0, .int .i64 o.most, .int .i64 o.each]] :: [row b4 38 [.int .i64 0, .int .i64 0, .int .u64 0, .int .i64 0, .bool false, .slice none 0 0, .slice none 0 0, .slice none 0 0, .string (⟨#[]⟩), .slice none 0 0, .int .i64 0, .int .i64 0]] :: [row b1 38 [.int .i64 o.kind, .int .i64 o.at_, .int .u64 (o.v.n : Int), .int .i64 o.many, .bool o.v.b, .slice o.dA o.v.ds.length o.dC, .slice o.qA o.ps.length o.qC, .slice o.pA o.v.p.length o.pC, strV o.v.s, .slice o.sA o.v.ss.length o.sC, .int .i64 o.most, .int .i64 o.each]] :: R) w83 := hA84
                    obtain ⟨A2, c2, rfl, hc2⟩ := hZ.slice
                    refine vc_y hF rfl rfl (by decide) _ (y_field rfl Try.underlying38 rfl sz35_op (by decide) rfl (rfl : (⟨_, 0 + _, none⟩ : Addr) = ⟨_, 7, none⟩)) (fun a hF => ?_)
                    refine vc_op rfl (fun K hK => hs_store1 hF rfl rfl hA84 rfl rfl 3 rfl (by simp) rfl sz35_op (fun w85 hA86 => hK _ _ ?_))
                    clear hK K
                    replace hA86 : Hp w0 (Z :: [row rb 95 [.slice A l.length c, .int .i64 ((bytesR (l.drop p) o.most).pl p y : Nat), .int .i64 ((bytesR (l.drop p) o.most).why y : Nat)]] :: X :: [row b7 38 [.int .i64 o.kind, .int .i64 0, .int .u64 0, .int .i64 o.many, .bool false, .slice none 0 0, .slice none 0 0, .slice A2 (((bytesR (l.drop p) o.most).val [] y).length) c2, .string (⟨#[]⟩), .slice none 0 0, .int .i64 o.most, .int .i64 o.each]] :: [row b4 38 [.int .i64 0, .int .i64 0, .int .u64 0, .int .i64 0, .bool false, .slice none 0 0, .slice none 0 0, .slice none 0 0, .string (⟨#[]⟩), .slice none 0 0, .int .i64 0, .int .i64 0]] :: [row b1 38 [.int .i64 o.kind, .int .i64 o.at_, .int .u64 (o.v.n : Int), .int .i64 o.many, .bool o.v.b, .slice o.dA o.v.ds.length o.dC, .slice o.qA o.ps.length o.qC, .slice o.pA o.v.p.length o.pC, strV o.v.s, .slice o.sA o.v.ss.length o.sC, .int .i64 o.most, .int .i64 o.each]] :: R) w85 := hA86
                    refine vc_nil ?_
                    refine hK3 _ _ ?_; clear  hK3 K3
                    apply wp_seq_k; intro K22 hK22
                    refine wp_region_lit ?_
                    refine vc_y hF rfl rfl (by decide) _ (y_ldRow rfl hA86.q rfl 3 rfl rw38_op (Nat.le_of_ble_eq_true rfl) rfl) (fun a hF => ?_)
                    refine vc_op rfl (fun K hK => hs_storeAll (new := [.int .i64 o.kind, .int .i64 0, .int .u64 0, .int .i64 o.many, .bool false, .slice none 0 0, .slice none 0 0, .slice A2 (((bytesR (l.drop p) o.most).val [] y).length) c2, .string (⟨#[]⟩), .slice none 0 0, .int .i64 o.most, .int .i64 o.each]) hF rfl rfl hA86 rfl rfl 4 rfl rfl (by simp [Value.oneCell']) sz38_op (fun w87 hA88 => hK _ _ ?_))
                    clear hK K
                    replace hA88 : Hp w0 (Z :: [row rb 95 [.slice A l.length c, .int .i64 ((bytesR (l.drop p) o.most).pl p y : Nat), .int .i64 ((bytesR (l.drop p) o.most).why y : Nat)]] :: X :: [row b7 38 [.int .i64 o.kind, .int .i64 0, .int .u64 0, .int .i64 o.many, .bool false, .slice none 0 0, .slice none 0 0, .slice A2 (((bytesR (l.drop p) o.most).val [] y).length) c2, .string (⟨#[]⟩), .slice none 0 0, .int .i64 o.most, .int .i64 o.each]] :: [row b4 38 [.int .i64 o.kind, .int .i64 0, .int .u64 0, .int .i64 o.many, .bool false, .slice none 0 0, .slice none 0 0, .slice A2 (((bytesR (l.drop p) o.most).val [] y).length) c2, .string (⟨#[]⟩), .slice none 0 0, .int .i64 o.most, .int .i64 o.each]] :: [row b1 38 [.int .i64 o.kind, .int .i64 o.at_, .int .u64 (o.v.n : Int), .int .i64 o.many, .bool o.v.b, .slice o.dA o.v.ds.length o.dC, .slice o.qA o.ps.length o.qC, .slice o.pA o.v.p.length o.pC, strV o.v.s, .slice o.sA o.v.ss.length o.sC, .int .i64 o.most, .int .i64 o.each]] :: R) w87 := hA88
                    refine vc_nil ?_
                    refine hK22 _ _ ?_; clear  hK22 K22
                    apply wp_ret
                    refine vc_retR hF Try.results41 hA88.q rfl 4 rfl (by exact rw38_op) ?_
                    have hA89 : Hp w0 (Z :: [row rb 95 [.slice A l.length c, .int .i64 ((bytesR (l.drop p) o.most).pl p y : Nat), .int .i64 ((bytesR (l.drop p) o.most).why y : Nat)]] :: X :: R) w87 := Hp.sel [Z, [row rb 95 [.slice A l.length c, .int .i64 ((bytesR (l.drop p) o.most).pl p y : Nat), .int .i64 ((bytesR (l.drop p) o.most).why y : Nat)]], X, [row b7 38 [.int .i64 o.kind, .int .i64 0, .int .u64 0, .int .i64 o.many, .bool false, .slice none 0 0, .slice none 0 0, .slice A2 (((bytesR (l.drop p) o.most).val [] y).length) c2, .string (⟨#[]⟩), .slice none 0 0, .int .i64 o.most, .int .i64 o.each]], [row b4 38 [.int .i64 o.kind, .int .i64 0, .int .u64 0, .int .i64 o.many, .bool false, .slice none 0 0, .slice none 0 0, .slice A2 (((bytesR (l.drop p) o.most).val [] y).length) c2, .string (⟨#[]⟩), .slice none 0 0, .int .i64 o.most, .int .i64 o.each]], [row b1 38 [.int .i64 o.kind, .int .i64 o.at_, .int .u64 (o.v.n : Int), .int .i64 o.many, .bool o.v.b, .slice o.dA o.v.ds.length o.dC, .slice o.qA o.ps.length o.qC, .slice o.pA o.v.p.length o.pC, strV o.v.s, .slice o.sA o.v.ss.length o.sC, .int .i64 o.most, .int .i64 o.each]]] R [0, 1, 2] [3, 4, 5] hA88 rfl
                    have eR : agR o (l.drop p) = (bytesR (l.drop p) o.most).map vP := by rw [agR, if_neg k1, if_neg k2, if_neg k3, if_neg k4, if_neg k5, if_neg k6, if_neg k7, if_neg k8, if_pos k9]
                    rw [eR, Res.pl_map, Res.why_map]
                    refine ⟨{ kind := o.kind, at_ := 0, many := o.many, most := o.most, each := o.each, v := vP ((bytesR (l.drop p) o.most).val [] y), ps := [], dA := none, dC := 0, qA := none, qC := 0, pA := A2, pC := c2, sA := none, sC := 0 }, Z, rfl, rfl, rfl, rfl, rfl, (Res.val_map vP _ [] y).symm, fun R' hG => ?_, hA89⟩
                    have hs : ((bytesR (l.drop p) o.most).val [] y).length ≤ (l.drop p).length := sized_small 4 6 (l.drop p) (bnd o.most 2147483647) y
                    rw [List.length_drop] at hs
                    obtain ⟨A3, c3, e3, _, h3⟩ := hZ.rc (w0 := w0) hG
                    injection e3 with e3 _ e3c
                    subst e3 e3c
                    exact ⟨op_z2, hm, (fun d hd => by cases hd), Rc.nil, h3, hc2, Rc.nil, op_z, op_z, (show ((bytesR (l.drop p) o.most).val [] y).length ≤ 9223372036854775807 by omega), op_z⟩
                  · refine vc_falseB hF rfl (eql_f (by omega)) ?_
                    apply wp_seq_k; intro K23 hK23
                    refine wp_region_lit ?_
                    refine vc_y hF rfl rfl (by decide) _ (y_cmp rfl rfl rfl rfl rfl) (fun a hF => ?_)
                    refine vc_y hF rfl rfl (by decide) _ (y_assign rfl rfl) (fun a hF => ?_)
                    refine vc_nil ?_
                    refine hK23 _ _ ?_; clear  hK23 K23
                    by_cases k10 : o.kind = 10
                    · refine vc_trueB hF rfl (eql_t (by omega)) ?_
                      refine wp_region_lit ?_
                      refine vc_y hF rfl rfl (by decide) _ (y_move rfl rfl) (fun a hF => ?_)
                      refine vc_y hF rfl rfl (by decide) _ (y_field rfl Try.underlying38 rfl sz3_op (by decide) rfl (rfl : (⟨_, 0 + _, none⟩ : Addr) = ⟨_, 10, none⟩)) (fun a hF => ?_)
                      refine vc_y hF rfl rfl (by decide) _ (y_ld rfl hA11.q rfl 2 rfl rfl nr3_op) (fun a hF => ?_)
                      refine vc_y hF rfl rfl (by decide) _ (y_field rfl Try.underlying38 rfl sz3_op (by decide) rfl (rfl : (⟨_, 0 + _, none⟩ : Addr) = ⟨_, 11, none⟩)) (fun a hF => ?_)
                      refine vc_y hF rfl rfl (by decide) _ (y_ld rfl hA11.q rfl 2 rfl rfl nr3_op) (fun a hF => ?_)
                      have hA90 : Hp w0 ([row rb 95 [.slice A l.length c, .int .i64 (p : Int), .int .i64 (y : Int)]] :: X :: [row b7 38 [.int .i64 o.kind, .int .i64 0, .int .u64 0, .int .i64 o.many, .bool false, .slice none 0 0, .slice none 0 0, .slice none 0 0, .string (⟨#[]⟩), .slice none 0 0, .int .i64 o.most, .int .i64 o.each]] :: [row b4 38 [.int .i64 0, .int .i64 0, .int .u64 0, .int .i64 0, .bool false, .slice none 0 0, .slice none 0 0, .slice none 0 0, .string (⟨#[]⟩), .slice none 0 0, .int .i64 0, .int .i64 0]] :: [row b1 38 [.int .i64 o.kind, .int .i64 o.at_, .int .u64 (o.v.n : Int), .int .i64 o.many, .bool o.v.b, .slice o.dA o.v.ds.length o.dC, .slice o.qA o.ps.length o.qC, .slice o.pA o.v.p.length o.pC, strV o.v.s, .slice o.sA o.v.ss.length o.sC, .int .i64 o.most, .int .i64 o.each]] :: R) w10 := Hp.ord [[row b7 38 [.int .i64 o.kind, .int .i64 0, .int .u64 0, .int .i64 o.many, .bool false, .slice none 0 0, .slice none 0 0, .slice none 0 0, .string (⟨#[]⟩), .slice none 0 0, .int .i64 o.most, .int .i64 o.each]], [row b4 38 [.int .i64 0, .int .i64 0, .int .u64 0, .int .i64 0, .bool false, .slice none 0 0, .slice none 0 0, .slice none 0 0, .string (⟨#[]⟩), .slice none 0 0, .int .i64 0, .int .i64 0]], [row b1 38 [.int .i64 o.kind, .int .i64 o.at_, .int .u64 (o.v.n : Int), .int .i64 o.many, .bool o.v.b, .slice o.dA o.v.ds.length o.dC, .slice o.qA o.ps.length o.qC, .slice o.pA o.v.p.length o.pC, strV o.v.s, .slice o.sA o.v.ss.length o.sC, .int .i64 o.most, .int .i64 o.each]], [row rb 95 [.slice A l.length c, .int .i64 (p : Int), .int .i64 (y : Int)]], X] R [3, 4, 0, 1, 2] hA11 rfl
                      refine vc_op rfl (fun K hK => ws_call hF rfl (by decide) cl78_op rfl rfl ?_)
                      with_reducible refine (hr_texts w0 _ _ rb A l c p y X o.most o.each hO hA90 hp hl ).mono ?_
                      rintro e' w91 ⟨vv, Z, rfl, hZ, hA92⟩
                      refine ⟨_, rfl, fun a hF => hK _ _ ?_⟩
                      clear hK K
                      replace hA92 : Hp w0 (Z :: [row rb 95 [.slice A l.length c, .int .i64 ((textsR (l.drop p) o.most o.each).pl p y : Nat), .int .i64 ((textsR (l.drop p) o.most o.each).why y : Nat)]] :: X :: [row b7 38 [.int .i64 o.kind, .int .i64 0, .int .u64 0, .int .i64 o.many, .bool false, .slice none 0 0, .slice none 0 0, .slice none 0 0, .string (⟨#[]⟩), .slice none 0 0, .int .i64 o.most, .int .i64 o.each]] :: [row b4 38 [.int .i64 0, .int .i64 0, .int .u64 0, .int .i64 0, .bool false, .slice none 0 0, .slice none 0 0, .slice none 0 0, .string (⟨#[]⟩), .slice none 0 0, .int .i64 0, .int .i64 0]] :: [row b1 38 [.int .i64 o.kind, .int .i64 o.at_, .int .u64 (o.v.n : Int), .int .i64 o.many, .bool o.v.b, .slice o.dA o.v.ds.length o.dC, .slice o.qA o.ps.length o.qC, .slice o.pA o.v.p.length o.pC, strV o.v.s, .slice o.sA o.v.ss.length o.sC, .int .i64 o.most, .int .i64 o.each]] :: R) w91 := hA92
                      obtain ⟨A2, c2, rfl, hc2⟩ := hZ.slice
                      refine vc_y hF rfl rfl (by decide) _ (y_field rfl Try.underlying38 rfl sz36_op (by decide) rfl (rfl : (⟨_, 0 + _, none⟩ : Addr) = ⟨_, 9, none⟩)) (fun a hF => ?_)
                      refine vc_op rfl (fun K hK => hs_store1 hF rfl rfl hA92 rfl rfl 3 rfl (by simp) rfl sz36_op (fun w93 hA94 => hK _ _ ?_))
                      clear hK K
                      replace hA94 : Hp w0 (Z :: [row rb 95 [.slice A l.length c, .int .i64 ((textsR (l.drop p) o.most o.each).pl p y : Nat), .int .i64 ((textsR (l.drop p) o.most o.each).why y : Nat)]] :: X :: [row b7 38 [.int .i64 o.kind, .int .i64 0, .int .u64 0, .int .i64 o.many, .bool false, .slice none 0 0, .slice none 0 0, .slice none 0 0, .string (⟨#[]⟩), .slice A2 (((textsR (l.drop p) o.most o.each).val [] y).length) c2, .int .i64 o.most, .int .i64 o.each]] :: [row b4 38 [.int .i64 0, .int .i64 0, .int .u64 0, .int .i64 0, .bool false, .slice none 0 0, .slice none 0 0, .slice none 0 0, .string (⟨#[]⟩), .slice none 0 0, .int .i64 0, .int .i64 0]] :: [row b1 38 [.int .i64 o.kind, .int .i64 o.at_, .int .u64 (o.v.n : Int), .int .i64 o.many, .bool o.v.b, .slice o.dA o.v.ds.length o.dC, .slice o.qA o.ps.length o.qC, .slice o.pA o.v.p.length o.pC, strV o.v.s, .slice o.sA o.v.ss.length o.sC, .int .i64 o.most, .int .i64 o.each]] :: R) w93 := hA94
                      refine vc_nil ?_
                      refine hK3 _ _ ?_; clear  hK3 K3
                      apply wp_seq_k; intro K24 hK24
                      refine wp_region_lit ?_
                      refine vc_y hF rfl rfl (by decide) _ (y_ldRow rfl hA94.q rfl 3 rfl rw38_op (Nat.le_of_ble_eq_true rfl) rfl) (fun a hF => ?_)
                      refine vc_op rfl (fun K hK => hs_storeAll (new := [.int .i64 o.kind, .int .i64 0, .int .u64 0, .int .i64 o.many, .bool false, .slice none 0 0, .slice none 0 0, .slice none 0 0, .string (⟨#[]⟩), .slice A2 (((textsR (l.drop p) o.most o.each).val [] y).length) c2, .int .i64 o.most, .int .i64 o.each]) hF rfl rfl hA94 rfl rfl 4 rfl rfl (by simp [Value.oneCell']) sz38_op (fun w95 hA96 => hK _ _ ?_))
                      clear hK K
                      replace hA96 : Hp w0 (Z :: [row rb 95 [.slice A l.length c, .int .i64 ((textsR (l.drop p) o.most o.each).pl p y : Nat), .int .i64 ((textsR (l.drop p) o.most o.each).why y : Nat)]] :: X :: [row b7 38 [.int .i64 o.kind, .int .i64 0, .int .u64 0, .int .i64 o.many, .bool false, .slice none 0 0, .slice none 0 0, .slice none 0 0, .string (⟨#[]⟩), .slice A2 (((textsR (l.drop p) o.most o.each).val [] y).length) c2, .int .i64 o.most, .int .i64 o.each]] :: [row b4 38 [.int .i64 o.kind, .int .i64 0, .int .u64 0, .int .i64 o.many, .bool false, .slice none 0 0, .slice none 0 0, .slice none 0 0, .string (⟨#[]⟩), .slice A2 (((textsR (l.drop p) o.most o.each).val [] y).length) c2, .int .i64 o.most, .int .i64 o.each]] :: [row b1 38 [.int .i64 o.kind, .int .i64 o.at_, .int .u64 (o.v.n : Int), .int .i64 o.many, .bool o.v.b, .slice o.dA o.v.ds.length o.dC, .slice o.qA o.ps.length o.qC, .slice o.pA o.v.p.length o.pC, strV o.v.s, .slice o.sA o.v.ss.length o.sC, .int .i64 o.most, .int .i64 o.each]] :: R) w95 := hA96
                      refine vc_nil ?_
                      refine hK24 _ _ ?_; clear  hK24 K24
                      apply wp_ret
                      refine vc_retR hF Try.results41 hA96.q rfl 4 rfl (by exact rw38_op) ?_
                      have hA97 : Hp w0 (Z :: [row rb 95 [.slice A l.length c, .int .i64 ((textsR (l.drop p) o.most o.each).pl p y : Nat), .int .i64 ((textsR (l.drop p) o.most o.each).why y : Nat)]] :: X :: R) w95 := Hp.sel [Z, [row rb 95 [.slice A l.length c, .int .i64 ((textsR (l.drop p) o.most o.each).pl p y : Nat), .int .i64 ((textsR (l.drop p) o.most o.each).why y : Nat)]], X, [row b7 38 [.int .i64 o.kind, .int .i64 0, .int .u64 0, .int .i64 o.many, .bool false, .slice none 0 0, .slice none 0 0, .slice none 0 0, .string (⟨#[]⟩), .slice A2 (((textsR (l.drop p) o.most o.each).val [] y).length) c2, .int .i64 o.most, .int .i64 o.each]], [row b4 38 [.int .i64 o.kind, .int .i64 0, .int .u64 0, .int .i64 o.many, .bool false, .slice none 0 0, .slice none 0 0, .slice none 0 0, .string (⟨#[]⟩), .slice A2 (((textsR (l.drop p) o.most o.each).val [] y).length) c2, .int .i64 o.most, .int .i64 o.each]], [row b1 38 [.int .i64 o.kind, .int .i64 o.at_, .int .u64 (o.v.n : Int), .int .i64 o.many, .bool o.v.b, .slice o.dA o.v.ds.length o.dC, .slice o.qA o.ps.length o.qC, .slice o.pA o.v.p.length o.pC, strV o.v.s, .slice o.sA o.v.ss.length o.sC, .int .i64 o.most, .int .i64 o.each]]] R [0, 1, 2] [3, 4, 5] hA96 rfl
                      have eR : agR o (l.drop p) = (textsR (l.drop p) o.most o.each).map vSS := by rw [agR, if_neg k1, if_neg k2, if_neg k3, if_neg k4, if_neg k5, if_neg k6, if_neg k7, if_neg k8, if_neg k9, if_pos k10]
                      rw [eR, Res.pl_map, Res.why_map]
                      refine ⟨{ kind := o.kind, at_ := 0, many := o.many, most := o.most, each := o.each, v := vSS ((textsR (l.drop p) o.most o.each).val [] y), ps := [], dA := none, dC := 0, qA := none, qC := 0, pA := none, pC := 0, sA := A2, sC := c2 }, Z, rfl, rfl, rfl, rfl, rfl, (Res.val_map vSS _ [] y).symm, fun R' hG => ?_, hA97⟩
                      have hs := texts_small (l.drop p) o.most o.each y
                      obtain ⟨A3, c3, e3, _, h3⟩ := hZ.rc (w0 := w0) hG
                      injection e3 with e3 _ e3c
                      subst e3 e3c
                      exact ⟨op_z2, hm, (fun d hd => by cases hd), Rc.nil, Rc.nil, (Nat.le_refl 0), h3, op_z, (show ((textsR (l.drop p) o.most o.each).val [] y).length ≤ 9223372036854775807 by omega), op_z, op_z⟩
                    · refine vc_falseB hF rfl (eql_f (by omega)) ?_
                      apply wp_skip
                      refine hK3 _ _ ?_; clear  hK3 K3
                      apply wp_seq_k; intro K25 hK25
                      refine wp_region_lit ?_
                      refine vc_y hF rfl rfl (by decide) _ (y_ldRow rfl hA11.q rfl 0 rfl rw38_op (Nat.le_of_ble_eq_true rfl) rfl) (fun a hF => ?_)
                      refine vc_op rfl (fun K hK => hs_storeAll (new := [.int .i64 o.kind, .int .i64 0, .int .u64 0, .int .i64 o.many, .bool false, .slice none 0 0, .slice none 0 0, .slice none 0 0, .string (⟨#[]⟩), .slice none 0 0, .int .i64 o.most, .int .i64 o.each]) hF rfl rfl hA11 rfl rfl 1 rfl rfl (by simp [Value.oneCell']) sz38_op (fun w98 hA99 => hK _ _ ?_))
                      clear hK K
                      replace hA99 : Hp w0 ([row b7 38 [.int .i64 o.kind, .int .i64 0, .int .u64 0, .int .i64 o.many, .bool false, .slice none 0 0, .slice none 0 0, .slice none 0 0, .string (⟨#[]⟩), .slice none 0 0, .int .i64 o.most, .int .i64 o.each]] :: [row b4 38 [.int .i64 o.kind, .int .i64 0, .int .u64 0, .int .i64 o.many, .bool false, .slice none 0 0, .slice none 0 0, .slice none 0 0, .string (⟨#[]⟩), .slice none 0 0, .int .i64 o.most, .int .i64 o.each]] :: [row b1 38 [.int .i64 o.kind, .int .i64 o.at_, .int .u64 (o.v.n : Int), .int .i64 o.many, .bool o.v.b, .slice o.dA o.v.ds.length o.dC, .slice o.qA o.ps.length o.qC, .slice o.pA o.v.p.length o.pC, strV o.v.s, .slice o.sA o.v.ss.length o.sC, .int .i64 o.most, .int .i64 o.each]] :: [row rb 95 [.slice A l.length c, .int .i64 (p : Int), .int .i64 (y : Int)]] :: X :: R) w98 := hA99
                      refine vc_nil ?_
                      refine hK25 _ _ ?_; clear  hK25 K25
                      apply wp_ret
                      refine vc_retR hF Try.results41 hA99.q rfl 1 rfl (by exact rw38_op) ?_
                      have hA100 : Hp w0 ([row rb 95 [.slice A l.length c, .int .i64 (p : Int), .int .i64 (y : Int)]] :: X :: R) w98 := Hp.sel [[row b7 38 [.int .i64 o.kind, .int .i64 0, .int .u64 0, .int .i64 o.many, .bool false, .slice none 0 0, .slice none 0 0, .slice none 0 0, .string (⟨#[]⟩), .slice none 0 0, .int .i64 o.most, .int .i64 o.each]], [row b4 38 [.int .i64 o.kind, .int .i64 0, .int .u64 0, .int .i64 o.many, .bool false, .slice none 0 0, .slice none 0 0, .slice none 0 0, .string (⟨#[]⟩), .slice none 0 0, .int .i64 o.most, .int .i64 o.each]], [row b1 38 [.int .i64 o.kind, .int .i64 o.at_, .int .u64 (o.v.n : Int), .int .i64 o.many, .bool o.v.b, .slice o.dA o.v.ds.length o.dC, .slice o.qA o.ps.length o.qC, .slice o.pA o.v.p.length o.pC, strV o.v.s, .slice o.sA o.v.ss.length o.sC, .int .i64 o.most, .int .i64 o.each]], [row rb 95 [.slice A l.length c, .int .i64 (p : Int), .int .i64 (y : Int)]], X] R [3, 4] [0, 1, 2] hA99 rfl
                      have hA101 := Hp.nil hA100
                      have eR : agR o (l.drop p) = .ok vals0 0 := by rw [agR, if_neg k1, if_neg k2, if_neg k3, if_neg k4, if_neg k5, if_neg k6, if_neg k7, if_neg k8, if_neg k9, if_neg k10]
                      rw [eR, (Res.ok0 p y).1, (Res.ok0 p y).2.1]
                      refine ⟨{ kind := o.kind, at_ := 0, many := o.many, most := o.most, each := o.each, v := vals0, ps := [], dA := none, dC := 0, qA := none, qC := 0, pA := none, pC := 0, sA := none, sC := 0 }, [], rfl, rfl, rfl, rfl, rfl, (Res.ok0 p y).2.2, fun R' hG => ?_, hA101⟩
                      exact ⟨op_z2, hm, (fun d hd => by cases hd), Rc.nil, Rc.nil, (Nat.le_refl 0), Rc.nil, op_z, op_z, op_z, op_z⟩

def alikeB (a b : OpX) : Bool :=
  if a.kind = 1 then decide (a.v.n % 256 = b.v.n) else if a.kind = 2 then decide (a.v.n % 65536 = b.v.n) else if a.kind = 3 then decide (a.v.n % 4294967296 = b.v.n) else if a.kind = 4 then decide (a.v.n = b.v.n) else if a.kind = 5 then decide (a.v.b = b.v.b)
  else if a.kind = 6 then decide (a.v.ds = b.v.ds) else if a.kind = 7 then decide (a.v.p = b.v.p) else if a.kind = 9 then decide (a.v.p = b.v.p) else if a.kind = 8 then decide (a.v.s = b.v.s) else if a.kind = 10 then decide (a.v.ss = b.v.ss) else true
theorem al_and (n k M : Nat) (hn : n < 18446744073709551616) (hm : M = 2 ^ k) (hM : M ≤ 18446744073709551616) : bits .and .u64 (n : Int) ((M - 1 : Nat) : Int) = ((n % M : Nat) : Int) := by
  have h0 : 0 < 2 ^ k := Nat.pow_pos (by decide)
  rw [u64_and_nat _ _ hn (by omega), hm, Nat.and_two_pow_sub_one_eq_mod]
theorem al_cmp (n m : Nat) : cmpB .eql (n : Int) (m : Int) = decide (n = m) := by
  by_cases h : n = m
  · subst h; rw [decide_eq_true rfl]; exact eql_t rfl
  · rw [decide_eq_false h]; exact eql_f (by omega)
theorem al_bool (a b : Bool) : (a == b) = decide (a = b) := by cases a <;> cases b <;> rfl
theorem al_str (l m : List UInt8) : strB .eql l m = decide (l = m) := by
  unfold strB
  by_cases h : l = m
  · subst h; simp
  · simp [h]

set_option maxRecDepth 100000 in
set_option maxHeartbeats 1000000 in
theorem op_alike (w0 w : World) (R : List Seg) (oa ob : OpX) (ha : OpOK w0 R oa) (hb : OpOK w0 R ob) (hA : Hp w0 R w) : Calls Try.prog 40 #[.agg (opC oa).toArray, .agg (opC ob).toArray] w fun e w' => e = .returned (.bool (alikeB oa ob)) ∧ Hp w0 R w' := by
  have hna := ha.n
  have hnb := hb.n
  refine vc_enter Try.func40 rfl Try.ntmps40 (Nat.le_of_ble_eq_true rfl) (fun a hF => ?_)
  apply wp_seq_k; intro K1 hK1
  refine wp_region_lit ?_
  refine vc_op rfl (fun K hK => hs_box (cs := [.int .i64 oa.kind, .int .i64 oa.at_, .int .u64 (oa.v.n : Int), .int .i64 oa.many, .bool oa.v.b, .slice oa.dA oa.v.ds.length oa.dC, .slice oa.qA oa.ps.length oa.qC, .slice oa.pA oa.v.p.length oa.pC, strV oa.v.s, .slice oa.sA oa.v.ss.length oa.sC, .int .i64 oa.most, .int .i64 oa.each]) hF rfl (by decide) rfl hA rfl (fun b1 w2 a hb1 hF hA3 => hK _ _ ?_))
  clear hK K
  replace hA3 : Hp w0 ([row b1 38 [.int .i64 oa.kind, .int .i64 oa.at_, .int .u64 (oa.v.n : Int), .int .i64 oa.many, .bool oa.v.b, .slice oa.dA oa.v.ds.length oa.dC, .slice oa.qA oa.ps.length oa.qC, .slice oa.pA oa.v.p.length oa.pC, strV oa.v.s, .slice oa.sA oa.v.ss.length oa.sC, .int .i64 oa.most, .int .i64 oa.each]] :: R) w2 := hA3
  refine vc_op rfl (fun K hK => hs_box (cs := [.int .i64 ob.kind, .int .i64 ob.at_, .int .u64 (ob.v.n : Int), .int .i64 ob.many, .bool ob.v.b, .slice ob.dA ob.v.ds.length ob.dC, .slice ob.qA ob.ps.length ob.qC, .slice ob.pA ob.v.p.length ob.pC, strV ob.v.s, .slice ob.sA ob.v.ss.length ob.sC, .int .i64 ob.most, .int .i64 ob.each]) hF rfl (by decide) rfl hA3 rfl (fun b4 w5 a hb4 hF hA6 => hK _ _ ?_))
  clear hK K
  replace hA6 : Hp w0 ([row b4 38 [.int .i64 ob.kind, .int .i64 ob.at_, .int .u64 (ob.v.n : Int), .int .i64 ob.many, .bool ob.v.b, .slice ob.dA ob.v.ds.length ob.dC, .slice ob.qA ob.ps.length ob.qC, .slice ob.pA ob.v.p.length ob.pC, strV ob.v.s, .slice ob.sA ob.v.ss.length ob.sC, .int .i64 ob.most, .int .i64 ob.each]] :: [row b1 38 [.int .i64 oa.kind, .int .i64 oa.at_, .int .u64 (oa.v.n : Int), .int .i64 oa.many, .bool oa.v.b, .slice oa.dA oa.v.ds.length oa.dC, .slice oa.qA oa.ps.length oa.qC, .slice oa.pA oa.v.p.length oa.pC, strV oa.v.s, .slice oa.sA oa.v.ss.length oa.sC, .int .i64 oa.most, .int .i64 oa.each]] :: R) w5 := hA6
  refine vc_y hF rfl rfl (by decide) _ (y_assign rfl rfl) (fun a hF => ?_)
  refine vc_nil ?_
  refine hK1 _ _ ?_; clear  hK1 K1
  apply wp_seq_k; intro K2 hK2
  apply wp_seq_k; intro K3 hK3
  refine wp_region_lit ?_
  refine vc_y hF rfl rfl (by decide) _ (y_field rfl Try.underlying38 rfl sz3_op (by decide) rfl (rfl : (⟨_, 0 + _, none⟩ : Addr) = ⟨_, 0, none⟩)) (fun a hF => ?_)
  refine vc_y hF rfl rfl (by decide) _ (y_ld rfl hA6.q rfl 1 rfl rfl nr3_op) (fun a hF => ?_)
  refine vc_nil ?_
  refine hK3 _ _ ?_; clear  hK3 K3
  apply wp_block
  apply wp_seq_k; intro K4 hK4
  refine wp_region_lit ?_
  refine vc_y hF rfl rfl (by decide) _ (y_cmp rfl rfl rfl rfl rfl) (fun a hF => ?_)
  refine vc_y hF rfl rfl (by decide) _ (y_assign rfl rfl) (fun a hF => ?_)
  refine vc_nil ?_
  refine hK4 _ _ ?_; clear  hK4 K4
  by_cases k1 : oa.kind = 1
  · refine vc_trueB hF rfl (eql_t (by omega)) ?_
    apply wp_seq_k; intro K5 hK5
    refine wp_region_lit ?_
    refine vc_y hF rfl rfl (by decide) _ (y_field rfl Try.underlying38 rfl sz33_op (by decide) rfl (rfl : (⟨_, 0 + _, none⟩ : Addr) = ⟨_, 2, none⟩)) (fun a hF => ?_)
    refine vc_y hF rfl rfl (by decide) _ (y_ld rfl hA6.q rfl 1 rfl rfl nr33_op) (fun a hF => ?_)
    refine vc_y hF rfl rfl (by decide) _ (y_and rfl rfl rfl (show bits .and .u64 (oa.v.n : Int) 255 = ((oa.v.n % 256 : Nat) : Int) from al_and oa.v.n 8 256 hna (by decide) (by decide))) (fun a hF => ?_)
    refine vc_y hF rfl rfl (by decide) _ (y_field rfl Try.underlying38 rfl sz33_op (by decide) rfl (rfl : (⟨_, 0 + _, none⟩ : Addr) = ⟨_, 2, none⟩)) (fun a hF => ?_)
    refine vc_y hF rfl rfl (by decide) _ (y_ld rfl hA6.q rfl 0 rfl rfl nr33_op) (fun a hF => ?_)
    refine vc_y hF rfl rfl (by decide) _ (y_cmp rfl rfl rfl rfl rfl) (fun a hF => ?_)
    refine vc_y hF rfl rfl (by decide) _ (y_assign rfl rfl) (fun a hF => ?_)
    refine vc_nil ?_
    refine hK5 _ _ ?_; clear  hK5 K5
    apply wp_ret
    simp only [Exit.then, Exit.inBlock]
    refine vc_ret1 hF Try.results40 rfl ?_
    have hA7 : Hp w0 (R) w5 := Hp.sel [[row b4 38 [.int .i64 ob.kind, .int .i64 ob.at_, .int .u64 (ob.v.n : Int), .int .i64 ob.many, .bool ob.v.b, .slice ob.dA ob.v.ds.length ob.dC, .slice ob.qA ob.ps.length ob.qC, .slice ob.pA ob.v.p.length ob.pC, strV ob.v.s, .slice ob.sA ob.v.ss.length ob.sC, .int .i64 ob.most, .int .i64 ob.each]], [row b1 38 [.int .i64 oa.kind, .int .i64 oa.at_, .int .u64 (oa.v.n : Int), .int .i64 oa.many, .bool oa.v.b, .slice oa.dA oa.v.ds.length oa.dC, .slice oa.qA oa.ps.length oa.qC, .slice oa.pA oa.v.p.length oa.pC, strV oa.v.s, .slice oa.sA oa.v.ss.length oa.sC, .int .i64 oa.most, .int .i64 oa.each]]] R [] [0, 1] hA6 rfl
    rw [alikeB, if_pos k1]
    exact ⟨by rw [al_cmp], hA7⟩
  · refine vc_falseB hF rfl (eql_f (by omega)) ?_
    apply wp_seq_k; intro K6 hK6
    refine wp_region_lit ?_
    refine vc_y hF rfl rfl (by decide) _ (y_cmp rfl rfl rfl rfl rfl) (fun a hF => ?_)
    refine vc_y hF rfl rfl (by decide) _ (y_assign rfl rfl) (fun a hF => ?_)
    refine vc_nil ?_
    refine hK6 _ _ ?_; clear  hK6 K6
    by_cases k2 : oa.kind = 2
    · refine vc_trueB hF rfl (eql_t (by omega)) ?_
      apply wp_seq_k; intro K7 hK7
      refine wp_region_lit ?_
      refine vc_y hF rfl rfl (by decide) _ (y_field rfl Try.underlying38 rfl sz33_op (by decide) rfl (rfl : (⟨_, 0 + _, none⟩ : Addr) = ⟨_, 2, none⟩)) (fun a hF => ?_)
      refine vc_y hF rfl rfl (by decide) _ (y_ld rfl hA6.q rfl 1 rfl rfl nr33_op) (fun a hF => ?_)
      refine vc_y hF rfl rfl (by decide) _ (y_and rfl rfl rfl (show bits .and .u64 (oa.v.n : Int) 65535 = ((oa.v.n % 65536 : Nat) : Int) from al_and oa.v.n 16 65536 hna (by decide) (by decide))) (fun a hF => ?_)
      refine vc_y hF rfl rfl (by decide) _ (y_field rfl Try.underlying38 rfl sz33_op (by decide) rfl (rfl : (⟨_, 0 + _, none⟩ : Addr) = ⟨_, 2, none⟩)) (fun a hF => ?_)
      refine vc_y hF rfl rfl (by decide) _ (y_ld rfl hA6.q rfl 0 rfl rfl nr33_op) (fun a hF => ?_)
      refine vc_y hF rfl rfl (by decide) _ (y_cmp rfl rfl rfl rfl rfl) (fun a hF => ?_)
      refine vc_y hF rfl rfl (by decide) _ (y_assign rfl rfl) (fun a hF => ?_)
      refine vc_nil ?_
      refine hK7 _ _ ?_; clear  hK7 K7
      apply wp_ret
      simp only [Exit.then, Exit.inBlock]
      refine vc_ret1 hF Try.results40 rfl ?_
      have hA8 : Hp w0 (R) w5 := Hp.sel [[row b4 38 [.int .i64 ob.kind, .int .i64 ob.at_, .int .u64 (ob.v.n : Int), .int .i64 ob.many, .bool ob.v.b, .slice ob.dA ob.v.ds.length ob.dC, .slice ob.qA ob.ps.length ob.qC, .slice ob.pA ob.v.p.length ob.pC, strV ob.v.s, .slice ob.sA ob.v.ss.length ob.sC, .int .i64 ob.most, .int .i64 ob.each]], [row b1 38 [.int .i64 oa.kind, .int .i64 oa.at_, .int .u64 (oa.v.n : Int), .int .i64 oa.many, .bool oa.v.b, .slice oa.dA oa.v.ds.length oa.dC, .slice oa.qA oa.ps.length oa.qC, .slice oa.pA oa.v.p.length oa.pC, strV oa.v.s, .slice oa.sA oa.v.ss.length oa.sC, .int .i64 oa.most, .int .i64 oa.each]]] R [] [0, 1] hA6 rfl
      rw [alikeB, if_neg k1, if_pos k2]
      exact ⟨by rw [al_cmp], hA8⟩
    · refine vc_falseB hF rfl (eql_f (by omega)) ?_
      apply wp_seq_k; intro K8 hK8
      refine wp_region_lit ?_
      refine vc_y hF rfl rfl (by decide) _ (y_cmp rfl rfl rfl rfl rfl) (fun a hF => ?_)
      refine vc_y hF rfl rfl (by decide) _ (y_assign rfl rfl) (fun a hF => ?_)
      refine vc_nil ?_
      refine hK8 _ _ ?_; clear  hK8 K8
      by_cases k3 : oa.kind = 3
      · refine vc_trueB hF rfl (eql_t (by omega)) ?_
        apply wp_seq_k; intro K9 hK9
        refine wp_region_lit ?_
        refine vc_y hF rfl rfl (by decide) _ (y_field rfl Try.underlying38 rfl sz33_op (by decide) rfl (rfl : (⟨_, 0 + _, none⟩ : Addr) = ⟨_, 2, none⟩)) (fun a hF => ?_)
        refine vc_y hF rfl rfl (by decide) _ (y_ld rfl hA6.q rfl 1 rfl rfl nr33_op) (fun a hF => ?_)
        refine vc_y hF rfl rfl (by decide) _ (y_and rfl rfl rfl (show bits .and .u64 (oa.v.n : Int) 4294967295 = ((oa.v.n % 4294967296 : Nat) : Int) from al_and oa.v.n 32 4294967296 hna (by decide) (by decide))) (fun a hF => ?_)
        refine vc_y hF rfl rfl (by decide) _ (y_field rfl Try.underlying38 rfl sz33_op (by decide) rfl (rfl : (⟨_, 0 + _, none⟩ : Addr) = ⟨_, 2, none⟩)) (fun a hF => ?_)
        refine vc_y hF rfl rfl (by decide) _ (y_ld rfl hA6.q rfl 0 rfl rfl nr33_op) (fun a hF => ?_)
        refine vc_y hF rfl rfl (by decide) _ (y_cmp rfl rfl rfl rfl rfl) (fun a hF => ?_)
        refine vc_y hF rfl rfl (by decide) _ (y_assign rfl rfl) (fun a hF => ?_)
        refine vc_nil ?_
        refine hK9 _ _ ?_; clear  hK9 K9
        apply wp_ret
        simp only [Exit.then, Exit.inBlock]
        refine vc_ret1 hF Try.results40 rfl ?_
        have hA9 : Hp w0 (R) w5 := Hp.sel [[row b4 38 [.int .i64 ob.kind, .int .i64 ob.at_, .int .u64 (ob.v.n : Int), .int .i64 ob.many, .bool ob.v.b, .slice ob.dA ob.v.ds.length ob.dC, .slice ob.qA ob.ps.length ob.qC, .slice ob.pA ob.v.p.length ob.pC, strV ob.v.s, .slice ob.sA ob.v.ss.length ob.sC, .int .i64 ob.most, .int .i64 ob.each]], [row b1 38 [.int .i64 oa.kind, .int .i64 oa.at_, .int .u64 (oa.v.n : Int), .int .i64 oa.many, .bool oa.v.b, .slice oa.dA oa.v.ds.length oa.dC, .slice oa.qA oa.ps.length oa.qC, .slice oa.pA oa.v.p.length oa.pC, strV oa.v.s, .slice oa.sA oa.v.ss.length oa.sC, .int .i64 oa.most, .int .i64 oa.each]]] R [] [0, 1] hA6 rfl
        rw [alikeB, if_neg k1, if_neg k2, if_pos k3]
        exact ⟨by rw [al_cmp], hA9⟩
      · refine vc_falseB hF rfl (eql_f (by omega)) ?_
        apply wp_seq_k; intro K10 hK10
        refine wp_region_lit ?_
        refine vc_y hF rfl rfl (by decide) _ (y_cmp rfl rfl rfl rfl rfl) (fun a hF => ?_)
        refine vc_y hF rfl rfl (by decide) _ (y_assign rfl rfl) (fun a hF => ?_)
        refine vc_nil ?_
        refine hK10 _ _ ?_; clear  hK10 K10
        by_cases k4 : oa.kind = 4
        · refine vc_trueB hF rfl (eql_t (by omega)) ?_
          apply wp_seq_k; intro K11 hK11
          refine wp_region_lit ?_
          refine vc_y hF rfl rfl (by decide) _ (y_field rfl Try.underlying38 rfl sz33_op (by decide) rfl (rfl : (⟨_, 0 + _, none⟩ : Addr) = ⟨_, 2, none⟩)) (fun a hF => ?_)
          refine vc_y hF rfl rfl (by decide) _ (y_ld rfl hA6.q rfl 1 rfl rfl nr33_op) (fun a hF => ?_)
          refine vc_y hF rfl rfl (by decide) _ (y_field rfl Try.underlying38 rfl sz33_op (by decide) rfl (rfl : (⟨_, 0 + _, none⟩ : Addr) = ⟨_, 2, none⟩)) (fun a hF => ?_)
          refine vc_y hF rfl rfl (by decide) _ (y_ld rfl hA6.q rfl 0 rfl rfl nr33_op) (fun a hF => ?_)
          refine vc_y hF rfl rfl (by decide) _ (y_cmp rfl rfl rfl rfl rfl) (fun a hF => ?_)
          refine vc_y hF rfl rfl (by decide) _ (y_assign rfl rfl) (fun a hF => ?_)
          refine vc_nil ?_
          refine hK11 _ _ ?_; clear  hK11 K11
          apply wp_ret
          simp only [Exit.then, Exit.inBlock]
          refine vc_ret1 hF Try.results40 rfl ?_
          have hA10 : Hp w0 (R) w5 := Hp.sel [[row b4 38 [.int .i64 ob.kind, .int .i64 ob.at_, .int .u64 (ob.v.n : Int), .int .i64 ob.many, .bool ob.v.b, .slice ob.dA ob.v.ds.length ob.dC, .slice ob.qA ob.ps.length ob.qC, .slice ob.pA ob.v.p.length ob.pC, strV ob.v.s, .slice ob.sA ob.v.ss.length ob.sC, .int .i64 ob.most, .int .i64 ob.each]], [row b1 38 [.int .i64 oa.kind, .int .i64 oa.at_, .int .u64 (oa.v.n : Int), .int .i64 oa.many, .bool oa.v.b, .slice oa.dA oa.v.ds.length oa.dC, .slice oa.qA oa.ps.length oa.qC, .slice oa.pA oa.v.p.length oa.pC, strV oa.v.s, .slice oa.sA oa.v.ss.length oa.sC, .int .i64 oa.most, .int .i64 oa.each]]] R [] [0, 1] hA6 rfl
          rw [alikeB, if_neg k1, if_neg k2, if_neg k3, if_pos k4]
          exact ⟨by rw [al_cmp], hA10⟩
        · refine vc_falseB hF rfl (eql_f (by omega)) ?_
          apply wp_seq_k; intro K12 hK12
          refine wp_region_lit ?_
          refine vc_y hF rfl rfl (by decide) _ (y_cmp rfl rfl rfl rfl rfl) (fun a hF => ?_)
          refine vc_y hF rfl rfl (by decide) _ (y_assign rfl rfl) (fun a hF => ?_)
          refine vc_nil ?_
          refine hK12 _ _ ?_; clear  hK12 K12
          by_cases k5 : oa.kind = 5
          · refine vc_trueB hF rfl (eql_t (by omega)) ?_
            apply wp_seq_k; intro K13 hK13
            refine wp_region_lit ?_
            refine vc_y hF rfl rfl (by decide) _ (y_field rfl Try.underlying38 rfl sz4_op (by decide) rfl (rfl : (⟨_, 0 + _, none⟩ : Addr) = ⟨_, 4, none⟩)) (fun a hF => ?_)
            refine vc_y hF rfl rfl (by decide) _ (y_ld rfl hA6.q rfl 1 rfl rfl nr4_op) (fun a hF => ?_)
            refine vc_y hF rfl rfl (by decide) _ (y_field rfl Try.underlying38 rfl sz4_op (by decide) rfl (rfl : (⟨_, 0 + _, none⟩ : Addr) = ⟨_, 4, none⟩)) (fun a hF => ?_)
            refine vc_y hF rfl rfl (by decide) _ (y_ld rfl hA6.q rfl 0 rfl rfl nr4_op) (fun a hF => ?_)
            refine vc_y hF rfl rfl (by decide) _ (y_eqBool rfl Try.underlying4 rfl rfl rfl) (fun a hF => ?_)
            refine vc_y hF rfl rfl (by decide) _ (y_assign rfl rfl) (fun a hF => ?_)
            refine vc_nil ?_
            refine hK13 _ _ ?_; clear  hK13 K13
            apply wp_ret
            simp only [Exit.then, Exit.inBlock]
            refine vc_ret1 hF Try.results40 rfl ?_
            have hA11 : Hp w0 (R) w5 := Hp.sel [[row b4 38 [.int .i64 ob.kind, .int .i64 ob.at_, .int .u64 (ob.v.n : Int), .int .i64 ob.many, .bool ob.v.b, .slice ob.dA ob.v.ds.length ob.dC, .slice ob.qA ob.ps.length ob.qC, .slice ob.pA ob.v.p.length ob.pC, strV ob.v.s, .slice ob.sA ob.v.ss.length ob.sC, .int .i64 ob.most, .int .i64 ob.each]], [row b1 38 [.int .i64 oa.kind, .int .i64 oa.at_, .int .u64 (oa.v.n : Int), .int .i64 oa.many, .bool oa.v.b, .slice oa.dA oa.v.ds.length oa.dC, .slice oa.qA oa.ps.length oa.qC, .slice oa.pA oa.v.p.length oa.pC, strV oa.v.s, .slice oa.sA oa.v.ss.length oa.sC, .int .i64 oa.most, .int .i64 oa.each]]] R [] [0, 1] hA6 rfl
            rw [alikeB, if_neg k1, if_neg k2, if_neg k3, if_neg k4, if_pos k5]
            exact ⟨by rw [al_bool], hA11⟩
          · refine vc_falseB hF rfl (eql_f (by omega)) ?_
            apply wp_seq_k; intro K14 hK14
            refine wp_region_lit ?_
            refine vc_y hF rfl rfl (by decide) _ (y_cmp rfl rfl rfl rfl rfl) (fun a hF => ?_)
            refine vc_y hF rfl rfl (by decide) _ (y_assign rfl rfl) (fun a hF => ?_)
            refine vc_nil ?_
            refine hK14 _ _ ?_; clear  hK14 K14
            by_cases k6 : oa.kind = 6
            · refine vc_trueB hF rfl (eql_t (by omega)) ?_
              apply wp_seq_k; intro K15 hK15
              refine wp_region_lit ?_
              refine vc_y hF rfl rfl (by decide) _ (y_field rfl Try.underlying38 rfl sz34_op (by decide) rfl (rfl : (⟨_, 0 + _, none⟩ : Addr) = ⟨_, 5, none⟩)) (fun a hF => ?_)
              refine vc_y hF rfl rfl (by decide) _ (y_ld rfl hA6.q rfl 1 rfl rfl nr34_op) (fun a hF => ?_)
              refine vc_y hF rfl rfl (by decide) _ (y_field rfl Try.underlying38 rfl sz34_op (by decide) rfl (rfl : (⟨_, 0 + _, none⟩ : Addr) = ⟨_, 5, none⟩)) (fun a hF => ?_)
              refine vc_y hF rfl rfl (by decide) _ (y_ld rfl hA6.q rfl 0 rfl rfl nr34_op) (fun a hF => ?_)
              refine vc_op rfl (fun K hK => ws_call hF rfl (by decide) cl71_op rfl rfl ?_)
              with_reducible refine (bk_same_digests w0 _ _ oa.dA ob.dA oa.v.ds ob.v.ds oa.dC ob.dC (ha.ds.mono (subC (subC (sub0)))) (hb.ds.mono (subC (subC (sub0)))) ha.d32 hb.d32 hA6 ha.dsl ).mono ?_
              rintro e' w12 ⟨rfl, hA13⟩
              refine ⟨_, rfl, fun a hF => hK _ _ ?_⟩
              clear hK K
              replace hA13 : Hp w0 ([row b4 38 [.int .i64 ob.kind, .int .i64 ob.at_, .int .u64 (ob.v.n : Int), .int .i64 ob.many, .bool ob.v.b, .slice ob.dA ob.v.ds.length ob.dC, .slice ob.qA ob.ps.length ob.qC, .slice ob.pA ob.v.p.length ob.pC, strV ob.v.s, .slice ob.sA ob.v.ss.length ob.sC, .int .i64 ob.most, .int .i64 ob.each]] :: [row b1 38 [.int .i64 oa.kind, .int .i64 oa.at_, .int .u64 (oa.v.n : Int), .int .i64 oa.many, .bool oa.v.b, .slice oa.dA oa.v.ds.length oa.dC, .slice oa.qA oa.ps.length oa.qC, .slice oa.pA oa.v.p.length oa.pC, strV oa.v.s, .slice oa.sA oa.v.ss.length oa.sC, .int .i64 oa.most, .int .i64 oa.each]] :: R) w12 := hA13
              refine vc_y hF rfl rfl (by decide) _ (y_assign rfl rfl) (fun a hF => ?_)
              refine vc_nil ?_
              refine hK15 _ _ ?_; clear  hK15 K15
              apply wp_ret
              simp only [Exit.then, Exit.inBlock]
              refine vc_ret1 hF Try.results40 rfl ?_
              have hA14 : Hp w0 (R) w12 := Hp.sel [[row b4 38 [.int .i64 ob.kind, .int .i64 ob.at_, .int .u64 (ob.v.n : Int), .int .i64 ob.many, .bool ob.v.b, .slice ob.dA ob.v.ds.length ob.dC, .slice ob.qA ob.ps.length ob.qC, .slice ob.pA ob.v.p.length ob.pC, strV ob.v.s, .slice ob.sA ob.v.ss.length ob.sC, .int .i64 ob.most, .int .i64 ob.each]], [row b1 38 [.int .i64 oa.kind, .int .i64 oa.at_, .int .u64 (oa.v.n : Int), .int .i64 oa.many, .bool oa.v.b, .slice oa.dA oa.v.ds.length oa.dC, .slice oa.qA oa.ps.length oa.qC, .slice oa.pA oa.v.p.length oa.pC, strV oa.v.s, .slice oa.sA oa.v.ss.length oa.sC, .int .i64 oa.most, .int .i64 oa.each]]] R [] [0, 1] hA13 rfl
              rw [alikeB, if_neg k1, if_neg k2, if_neg k3, if_neg k4, if_neg k5, if_pos k6]
              exact ⟨rfl, hA14⟩
            · refine vc_falseB hF rfl (eql_f (by omega)) ?_
              apply wp_seq_k; intro K16 hK16
              apply wp_seq_k; intro K17 hK17
              refine wp_region_lit ?_
              refine vc_y hF rfl rfl (by decide) _ (y_cmp rfl rfl rfl rfl rfl) (fun a hF => ?_)
              refine vc_y hF rfl rfl (by decide) _ (y_assign rfl rfl) (fun a hF => ?_)
              refine vc_nil ?_
              refine hK17 _ _ ?_; clear  hK17 K17
              by_cases k7 : oa.kind = 7
              · refine vc_trueB hF rfl (eql_t (by omega)) ?_
                apply wp_skip
                refine hK16 _ _ ?_; clear  hK16 K16
                refine vc_trueB hF rfl (eql_t k7) ?_
                apply wp_seq_k; intro K18 hK18
                refine wp_region_lit ?_
                refine vc_y hF rfl rfl (by decide) _ (y_field rfl Try.underlying38 rfl sz35_op (by decide) rfl (rfl : (⟨_, 0 + _, none⟩ : Addr) = ⟨_, 7, none⟩)) (fun a hF => ?_)
                refine vc_y hF rfl rfl (by decide) _ (y_ld rfl hA6.q rfl 1 rfl rfl nr35_op) (fun a hF => ?_)
                refine vc_y hF rfl rfl (by decide) _ (y_convStr rfl Try.underlying35 Try.underlying5 Try.underlying9 rfl rfl ((ha.p.mono (subC (subC (sub0)))).bts hA6.q)) (fun a hF => ?_)
                refine vc_y hF rfl rfl (by decide) _ (y_field rfl Try.underlying38 rfl sz35_op (by decide) rfl (rfl : (⟨_, 0 + _, none⟩ : Addr) = ⟨_, 7, none⟩)) (fun a hF => ?_)
                refine vc_y hF rfl rfl (by decide) _ (y_ld rfl hA6.q rfl 0 rfl rfl nr35_op) (fun a hF => ?_)
                refine vc_y hF rfl rfl (by decide) _ (y_convStr rfl Try.underlying35 Try.underlying5 Try.underlying9 rfl rfl ((hb.p.mono (subC (subC (sub0)))).bts hA6.q)) (fun a hF => ?_)
                refine vc_y hF rfl rfl (by decide) _ (y_cmpS (c := decide (oa.v.p = ob.v.p)) rfl rfl rfl rfl (al_str _ _)) (fun a hF => ?_)
                refine vc_y hF rfl rfl (by decide) _ (y_assign rfl rfl) (fun a hF => ?_)
                refine vc_nil ?_
                refine hK18 _ _ ?_; clear  hK18 K18
                apply wp_ret
                simp only [Exit.then, Exit.inBlock]
                refine vc_ret1 hF Try.results40 rfl ?_
                have hA15 : Hp w0 (R) w5 := Hp.sel [[row b4 38 [.int .i64 ob.kind, .int .i64 ob.at_, .int .u64 (ob.v.n : Int), .int .i64 ob.many, .bool ob.v.b, .slice ob.dA ob.v.ds.length ob.dC, .slice ob.qA ob.ps.length ob.qC, .slice ob.pA ob.v.p.length ob.pC, strV ob.v.s, .slice ob.sA ob.v.ss.length ob.sC, .int .i64 ob.most, .int .i64 ob.each]], [row b1 38 [.int .i64 oa.kind, .int .i64 oa.at_, .int .u64 (oa.v.n : Int), .int .i64 oa.many, .bool oa.v.b, .slice oa.dA oa.v.ds.length oa.dC, .slice oa.qA oa.ps.length oa.qC, .slice oa.pA oa.v.p.length oa.pC, strV oa.v.s, .slice oa.sA oa.v.ss.length oa.sC, .int .i64 oa.most, .int .i64 oa.each]]] R [] [0, 1] hA6 rfl
                rw [alikeB, if_neg k1, if_neg k2, if_neg k3, if_neg k4, if_neg k5, if_neg k6, if_pos k7]
                exact ⟨rfl, hA15⟩
              · refine vc_falseB hF rfl (eql_f (by omega)) ?_
                refine wp_region_lit ?_
                refine vc_y hF rfl rfl (by decide) _ (y_cmp rfl rfl rfl rfl rfl) (fun a hF => ?_)
                refine vc_y hF rfl rfl (by decide) _ (y_assign rfl rfl) (fun a hF => ?_)
                refine vc_nil ?_
                refine hK16 _ _ ?_; clear  hK16 K16
                by_cases k9 : oa.kind = 9
                · refine vc_trueB hF rfl (eql_t (by omega)) ?_
                  apply wp_seq_k; intro K19 hK19
                  refine wp_region_lit ?_
                  refine vc_y hF rfl rfl (by decide) _ (y_field rfl Try.underlying38 rfl sz35_op (by decide) rfl (rfl : (⟨_, 0 + _, none⟩ : Addr) = ⟨_, 7, none⟩)) (fun a hF => ?_)
                  refine vc_y hF rfl rfl (by decide) _ (y_ld rfl hA6.q rfl 1 rfl rfl nr35_op) (fun a hF => ?_)
                  refine vc_y hF rfl rfl (by decide) _ (y_convStr rfl Try.underlying35 Try.underlying5 Try.underlying9 rfl rfl ((ha.p.mono (subC (subC (sub0)))).bts hA6.q)) (fun a hF => ?_)
                  refine vc_y hF rfl rfl (by decide) _ (y_field rfl Try.underlying38 rfl sz35_op (by decide) rfl (rfl : (⟨_, 0 + _, none⟩ : Addr) = ⟨_, 7, none⟩)) (fun a hF => ?_)
                  refine vc_y hF rfl rfl (by decide) _ (y_ld rfl hA6.q rfl 0 rfl rfl nr35_op) (fun a hF => ?_)
                  refine vc_y hF rfl rfl (by decide) _ (y_convStr rfl Try.underlying35 Try.underlying5 Try.underlying9 rfl rfl ((hb.p.mono (subC (subC (sub0)))).bts hA6.q)) (fun a hF => ?_)
                  refine vc_y hF rfl rfl (by decide) _ (y_cmpS (c := decide (oa.v.p = ob.v.p)) rfl rfl rfl rfl (al_str _ _)) (fun a hF => ?_)
                  refine vc_y hF rfl rfl (by decide) _ (y_assign rfl rfl) (fun a hF => ?_)
                  refine vc_nil ?_
                  refine hK19 _ _ ?_; clear  hK19 K19
                  apply wp_ret
                  simp only [Exit.then, Exit.inBlock]
                  refine vc_ret1 hF Try.results40 rfl ?_
                  have hA16 : Hp w0 (R) w5 := Hp.sel [[row b4 38 [.int .i64 ob.kind, .int .i64 ob.at_, .int .u64 (ob.v.n : Int), .int .i64 ob.many, .bool ob.v.b, .slice ob.dA ob.v.ds.length ob.dC, .slice ob.qA ob.ps.length ob.qC, .slice ob.pA ob.v.p.length ob.pC, strV ob.v.s, .slice ob.sA ob.v.ss.length ob.sC, .int .i64 ob.most, .int .i64 ob.each]], [row b1 38 [.int .i64 oa.kind, .int .i64 oa.at_, .int .u64 (oa.v.n : Int), .int .i64 oa.many, .bool oa.v.b, .slice oa.dA oa.v.ds.length oa.dC, .slice oa.qA oa.ps.length oa.qC, .slice oa.pA oa.v.p.length oa.pC, strV oa.v.s, .slice oa.sA oa.v.ss.length oa.sC, .int .i64 oa.most, .int .i64 oa.each]]] R [] [0, 1] hA6 rfl
                  rw [alikeB, if_neg k1, if_neg k2, if_neg k3, if_neg k4, if_neg k5, if_neg k6, if_neg k7, if_pos k9]
                  exact ⟨rfl, hA16⟩
                · refine vc_falseB hF rfl (eql_f (by omega)) ?_
                  apply wp_seq_k; intro K20 hK20
                  refine wp_region_lit ?_
                  refine vc_y hF rfl rfl (by decide) _ (y_cmp rfl rfl rfl rfl rfl) (fun a hF => ?_)
                  refine vc_y hF rfl rfl (by decide) _ (y_assign rfl rfl) (fun a hF => ?_)
                  refine vc_nil ?_
                  refine hK20 _ _ ?_; clear  hK20 K20
                  by_cases k8 : oa.kind = 8
                  · refine vc_trueB hF rfl (eql_t (by omega)) ?_
                    apply wp_seq_k; intro K21 hK21
                    refine wp_region_lit ?_
                    refine vc_y hF rfl rfl (by decide) _ (y_field rfl Try.underlying38 rfl sz9_op (by decide) rfl (rfl : (⟨_, 0 + _, none⟩ : Addr) = ⟨_, 8, none⟩)) (fun a hF => ?_)
                    refine vc_y hF rfl rfl (by decide) _ (y_ld rfl hA6.q rfl 1 rfl rfl nr9_op) (fun a hF => ?_)
                    refine vc_y hF rfl rfl (by decide) _ (y_field rfl Try.underlying38 rfl sz9_op (by decide) rfl (rfl : (⟨_, 0 + _, none⟩ : Addr) = ⟨_, 8, none⟩)) (fun a hF => ?_)
                    refine vc_y hF rfl rfl (by decide) _ (y_ld rfl hA6.q rfl 0 rfl rfl nr9_op) (fun a hF => ?_)
                    refine vc_y hF rfl rfl (by decide) _ (y_cmpS (c := decide (oa.v.s = ob.v.s)) rfl rfl rfl rfl (al_str _ _)) (fun a hF => ?_)
                    refine vc_y hF rfl rfl (by decide) _ (y_assign rfl rfl) (fun a hF => ?_)
                    refine vc_nil ?_
                    refine hK21 _ _ ?_; clear  hK21 K21
                    apply wp_ret
                    simp only [Exit.then, Exit.inBlock]
                    refine vc_ret1 hF Try.results40 rfl ?_
                    have hA17 : Hp w0 (R) w5 := Hp.sel [[row b4 38 [.int .i64 ob.kind, .int .i64 ob.at_, .int .u64 (ob.v.n : Int), .int .i64 ob.many, .bool ob.v.b, .slice ob.dA ob.v.ds.length ob.dC, .slice ob.qA ob.ps.length ob.qC, .slice ob.pA ob.v.p.length ob.pC, strV ob.v.s, .slice ob.sA ob.v.ss.length ob.sC, .int .i64 ob.most, .int .i64 ob.each]], [row b1 38 [.int .i64 oa.kind, .int .i64 oa.at_, .int .u64 (oa.v.n : Int), .int .i64 oa.many, .bool oa.v.b, .slice oa.dA oa.v.ds.length oa.dC, .slice oa.qA oa.ps.length oa.qC, .slice oa.pA oa.v.p.length oa.pC, strV oa.v.s, .slice oa.sA oa.v.ss.length oa.sC, .int .i64 oa.most, .int .i64 oa.each]]] R [] [0, 1] hA6 rfl
                    rw [alikeB, if_neg k1, if_neg k2, if_neg k3, if_neg k4, if_neg k5, if_neg k6, if_neg k7, if_neg k9, if_pos k8]
                    exact ⟨rfl, hA17⟩
                  · refine vc_falseB hF rfl (eql_f (by omega)) ?_
                    apply wp_seq_k; intro K22 hK22
                    refine wp_region_lit ?_
                    refine vc_y hF rfl rfl (by decide) _ (y_cmp rfl rfl rfl rfl rfl) (fun a hF => ?_)
                    refine vc_y hF rfl rfl (by decide) _ (y_assign rfl rfl) (fun a hF => ?_)
                    refine vc_nil ?_
                    refine hK22 _ _ ?_; clear  hK22 K22
                    by_cases k10 : oa.kind = 10
                    · refine vc_trueB hF rfl (eql_t (by omega)) ?_
                      apply wp_seq_k; intro K23 hK23
                      refine wp_region_lit ?_
                      refine vc_y hF rfl rfl (by decide) _ (y_field rfl Try.underlying38 rfl sz36_op (by decide) rfl (rfl : (⟨_, 0 + _, none⟩ : Addr) = ⟨_, 9, none⟩)) (fun a hF => ?_)
                      refine vc_y hF rfl rfl (by decide) _ (y_ld rfl hA6.q rfl 1 rfl rfl nr36_op) (fun a hF => ?_)
                      refine vc_y hF rfl rfl (by decide) _ (y_field rfl Try.underlying38 rfl sz36_op (by decide) rfl (rfl : (⟨_, 0 + _, none⟩ : Addr) = ⟨_, 9, none⟩)) (fun a hF => ?_)
                      refine vc_y hF rfl rfl (by decide) _ (y_ld rfl hA6.q rfl 0 rfl rfl nr36_op) (fun a hF => ?_)
                      refine vc_op rfl (fun K hK => ws_call hF rfl (by decide) cl72_op rfl rfl ?_)
                      with_reducible refine (bk_same_strings w0 _ _ oa.sA ob.sA oa.v.ss ob.v.ss oa.sC ob.sC (ha.ss.mono (subC (subC (sub0)))) (hb.ss.mono (subC (subC (sub0)))) hA6 ha.ssl ).mono ?_
                      rintro e' w18 ⟨rfl, hA19⟩
                      refine ⟨_, rfl, fun a hF => hK _ _ ?_⟩
                      clear hK K
                      replace hA19 : Hp w0 ([row b4 38 [.int .i64 ob.kind, .int .i64 ob.at_, .int .u64 (ob.v.n : Int), .int .i64 ob.many, .bool ob.v.b, .slice ob.dA ob.v.ds.length ob.dC, .slice ob.qA ob.ps.length ob.qC, .slice ob.pA ob.v.p.length ob.pC, strV ob.v.s, .slice ob.sA ob.v.ss.length ob.sC, .int .i64 ob.most, .int .i64 ob.each]] :: [row b1 38 [.int .i64 oa.kind, .int .i64 oa.at_, .int .u64 (oa.v.n : Int), .int .i64 oa.many, .bool oa.v.b, .slice oa.dA oa.v.ds.length oa.dC, .slice oa.qA oa.ps.length oa.qC, .slice oa.pA oa.v.p.length oa.pC, strV oa.v.s, .slice oa.sA oa.v.ss.length oa.sC, .int .i64 oa.most, .int .i64 oa.each]] :: R) w18 := hA19
                      refine vc_y hF rfl rfl (by decide) _ (y_assign rfl rfl) (fun a hF => ?_)
                      refine vc_nil ?_
                      refine hK23 _ _ ?_; clear  hK23 K23
                      apply wp_ret
                      simp only [Exit.then, Exit.inBlock]
                      refine vc_ret1 hF Try.results40 rfl ?_
                      have hA20 : Hp w0 (R) w18 := Hp.sel [[row b4 38 [.int .i64 ob.kind, .int .i64 ob.at_, .int .u64 (ob.v.n : Int), .int .i64 ob.many, .bool ob.v.b, .slice ob.dA ob.v.ds.length ob.dC, .slice ob.qA ob.ps.length ob.qC, .slice ob.pA ob.v.p.length ob.pC, strV ob.v.s, .slice ob.sA ob.v.ss.length ob.sC, .int .i64 ob.most, .int .i64 ob.each]], [row b1 38 [.int .i64 oa.kind, .int .i64 oa.at_, .int .u64 (oa.v.n : Int), .int .i64 oa.many, .bool oa.v.b, .slice oa.dA oa.v.ds.length oa.dC, .slice oa.qA oa.ps.length oa.qC, .slice oa.pA oa.v.p.length oa.pC, strV oa.v.s, .slice oa.sA oa.v.ss.length oa.sC, .int .i64 oa.most, .int .i64 oa.each]]] R [] [0, 1] hA19 rfl
                      rw [alikeB, if_neg k1, if_neg k2, if_neg k3, if_neg k4, if_neg k5, if_neg k6, if_neg k7, if_neg k9, if_neg k8, if_pos k10]
                      exact ⟨rfl, hA20⟩
                    · refine vc_falseB hF rfl (eql_f (by omega)) ?_
                      apply wp_skip
                      refine hK2 _ _ ?_; clear  hK2 K2
                      apply wp_seq_k; intro K24 hK24
                      refine wp_region_lit ?_
                      refine vc_y hF rfl rfl (by decide) _ (y_assign rfl rfl) (fun a hF => ?_)
                      refine vc_nil ?_
                      refine hK24 _ _ ?_; clear  hK24 K24
                      apply wp_ret
                      refine vc_ret1 hF Try.results40 rfl ?_
                      have hA21 : Hp w0 (R) w5 := Hp.sel [[row b4 38 [.int .i64 ob.kind, .int .i64 ob.at_, .int .u64 (ob.v.n : Int), .int .i64 ob.many, .bool ob.v.b, .slice ob.dA ob.v.ds.length ob.dC, .slice ob.qA ob.ps.length ob.qC, .slice ob.pA ob.v.p.length ob.pC, strV ob.v.s, .slice ob.sA ob.v.ss.length ob.sC, .int .i64 ob.most, .int .i64 ob.each]], [row b1 38 [.int .i64 oa.kind, .int .i64 oa.at_, .int .u64 (oa.v.n : Int), .int .i64 oa.many, .bool oa.v.b, .slice oa.dA oa.v.ds.length oa.dC, .slice oa.qA oa.ps.length oa.qC, .slice oa.pA oa.v.p.length oa.pC, strV oa.v.s, .slice oa.sA oa.v.ss.length oa.sC, .int .i64 oa.most, .int .i64 oa.each]]] R [] [0, 1] hA6 rfl
                      rw [alikeB, if_neg k1, if_neg k2, if_neg k3, if_neg k4, if_neg k5, if_neg k6, if_neg k7, if_neg k9, if_neg k8, if_neg k10]
                      exact ⟨rfl, hA21⟩

/-- what a script hands in, as beyond counts it -/
def opCost (o : OpX) : Nat := 100 + o.v.p.length + o.v.s.length + 32 * o.v.ds.length + (o.ps.map (fun p : Piece => p.2.2.length + 1)).sum + (o.v.ss.map (fun p : List UInt8 => p.length + 1)).sum
def OpMore (w0 : World) (R : List Seg) (o : OpX) : Prop := Rc w0 R o.qA (o.ps.map pieceV) ∧ (∀ q ∈ o.ps, q.2.2.length ≤ 9223372036854775807) ∧ o.ps.length ≤ 9223372036854775807 ∧ (∀ q ∈ o.v.ss, q.length ≤ 9223372036854775807)

set_option maxRecDepth 100000 in
set_option maxHeartbeats 1000000 in
theorem op_beyond (w0 w : World) (R : List Seg) (sA : Option Addr) (sC : Nat) (os : List OpX) (hOs : ∀ o ∈ os, OpOK w0 R o ∧ OpMore w0 R o) (hS : Rc w0 R sA (os.map opC).flatten) (hA : Hp w0 R w) (hn : os.length ≤ 9223372036854775807) : Calls Try.prog 12 #[.slice sA os.length sC] w fun e w' => ∃ b, e = .returned (.bool b) ∧ (b = false → (os.map opCost).sum ≤ 2147483647) ∧ Hp w0 R w' := by
  refine vc_enter Try.func12 rfl Try.ntmps12 (Nat.le_of_ble_eq_true rfl) (fun a hF => ?_)
  apply wp_seq_k; intro K1 hK1
  refine wp_region_lit ?_
  refine vc_y hF rfl rfl (by decide) _ (y_assign rfl rfl) (fun a hF => ?_)
  refine vc_nil ?_
  refine hK1 _ _ ?_; clear  hK1 K1
  apply wp_seq_k; intro K2 hK2
  refine wp_region_lit ?_
  refine vc_y hF rfl rfl (by decide) _ (y_assign rfl rfl) (fun a hF => ?_)
  refine vc_nil ?_
  refine hK2 _ _ ?_; clear  hK2 K2
  apply wp_seq_k; intro K3 hK3
  apply wp_seq_k; intro K4 hK4
  refine wp_region_lit ?_
  refine vc_y hF rfl rfl (by decide) _ (y_assign rfl rfl) (fun a hF => ?_)
  refine vc_nil ?_
  refine hK4 _ _ ?_; clear  hK4 K4
  apply wp_block
  refine vc_loop (G := Nat) (fun i a x => ∃ (z : Int), i ≤ os.length ∧ (-1 ≤ z ∧ z ≤ 2147483647) ∧ (0 ≤ z → z = 2147483647 - ((os.take i).map opCost).sum) ∧ Fr 65 [(4, .int .i64 (i : Int)), (3, .int .i64 z), (0, .slice sA os.length sC)] a ∧ Hp w0 (R) x) (fun i => os.length - i) 0 (⟨2147483647, Nat.zero_le _, by decide, fun _ => by simp, hF.keep [4, 3, 0] rfl, hA⟩) ?_
  clear hF
  rintro i a w2 ⟨z, hi, hz, hzs, hF, hA1⟩
  by_cases hlt : i < os.length
  · by_cases hz0 : 0 ≤ z
    · obtain ⟨o, ho⟩ : ∃ o, os[i]? = some o := ⟨_, List.getElem?_eq_getElem hlt⟩
      obtain ⟨hok1, hokP, hokl, hokn, hoke⟩ := hOs o (List.mem_of_getElem? ho)
      have hs1 := hok1.pl
      have hs2 := hok1.sl
      have hs3 := hok1.dsl
      obtain ⟨hat, hle⟩ := flat_at (z := 12) (Ws := os.map opC) (V := opC o) (i := i) (fun V hV => by obtain ⟨u, _, rfl⟩ := List.mem_map.1 hV; rfl) (by rw [List.getElem?_map, ho]; rfl)
      obtain ⟨b, q, rfl, hc⟩ := hS.ne (i := i * 12) (by omega)
      have hcell : ∀ j u, (opC o)[j]? = some u → (os.map opC).flatten[i * 12 + j]? = some u := fun j u hj => by
        have hj12 : j < 12 := (List.getElem?_eq_some_iff.1 hj).1
        rw [← hat, List.getElem?_take, if_pos hj12, List.getElem?_drop] at hj
        exact hj
      have hsum : ((os.take (i + 1)).map opCost).sum = ((os.take i).map opCost).sum + opCost o := by rw [List.take_add_one, ho]; simp
      apply wp_seq_k; intro K5 hK5
      apply wp_seq_k; intro K6 hK6
      refine wp_region_lit ?_
      refine vc_y hF rfl rfl (by decide) _ (y_move rfl rfl) (fun a hF => ?_)
      refine vc_y hF rfl rfl (by decide) _ (y_move rfl rfl) (fun a hF => ?_)
      refine vc_y hF rfl rfl (by decide) _ (y_lenSl rfl Try.underlying23 rfl rfl) (fun a hF => ?_)
      refine vc_y hF rfl rfl (by decide) _ (y_cmp rfl rfl rfl rfl (lss_t (by omega))) (fun a hF => ?_)
      refine vc_y hF rfl rfl (by decide) _ (y_move rfl rfl) (fun a hF => ?_)
      refine vc_yg hF rfl rfl rfl rfl rfl (by decide) _ (y_move rfl rfl) (fun a hF => ?_)
      refine vc_yg hF rfl rfl rfl rfl rfl (by decide) _ (y_cmp rfl rfl rfl rfl (geq_t (by omega))) (fun a hF => ?_)
      refine vc_y hF rfl rfl (by decide) _ (y_pick rfl rfl rfl) (fun a hF => ?_)
      refine vc_nil ?_
      refine hK6 _ _ ?_; clear  hK6 K6
      refine vc_true hF rfl ?_
      apply wp_skip
      refine hK5 _ _ ?_; clear  hK5 K5
      apply wp_seq_k; intro K7 hK7
      apply wp_block
      apply wp_seq_k; intro K8 hK8
      refine wp_region_lit ?_
      refine vc_y hF rfl rfl (by decide) _ (y_move rfl rfl) (fun a hF => ?_)
      refine vc_op rfl (fun K hK => ws_call hF rfl (by decide) cl44_op rfl rfl ?_)
      with_reducible refine (bk_room w2 z 100 (by omega) (by omega) ).mono ?_
      rintro e' w6 ⟨rfl, rfl⟩
      refine ⟨_, rfl, fun a hF => hK _ _ ?_⟩
      clear hK K
      have hz3 := roomI_ge (left := z) (n := 100) (by omega) (by omega)
      generalize hz3e : roomI z 100 = z3 at hF hz3
      refine vc_y hF rfl rfl (by decide) _ (y_assign rfl rfl) (fun a hF => ?_)
      refine vc_nil ?_
      refine hK8 _ _ ?_; clear  hK8 K8
      apply wp_seq_k; intro K9 hK9
      refine wp_region_lit ?_
      refine vc_y hF rfl rfl (by decide) _ (y_move rfl rfl) (fun a hF => ?_)
      refine vc_y hF rfl rfl (by decide) _ (y_move rfl rfl) (fun a hF => ?_)
      refine vc_y hF rfl rfl (by decide) _ (y_move rfl rfl) (fun a hF => ?_)
      refine vc_y hF rfl rfl (by decide) _ (y_ixSl rfl Try.underlying23 sz38_op rfl rfl i rfl hlt rfl) (fun a hF => ?_)
      refine vc_y hF rfl rfl (by decide) _ (y_field rfl Try.underlying38 rfl sz35_op (by decide) rfl rfl) (fun a hF => ?_)
      refine vc_y hF rfl rfl (by decide) _ (y_ldC (u := .slice o.pA o.v.p.length o.pC) rfl hA1.q rfl hc (i * 12 + 7) (by omega) (Nat.add_assoc _ _ _) (hcell 7 _ rfl) nr35_op) (fun a hF => ?_)
      refine vc_y hF rfl rfl (by decide) _ (y_lenSl rfl Try.underlying35 rfl rfl) (fun a hF => ?_)
      refine vc_op rfl (fun K hK => ws_call hF rfl (by decide) cl44_op rfl rfl ?_)
      with_reducible refine (bk_room w2 z3 o.v.p.length (by omega) (by omega) ).mono ?_
      rintro e' w10 ⟨rfl, rfl⟩
      refine ⟨_, rfl, fun a hF => hK _ _ ?_⟩
      clear hK K
      have hz7 := roomI_ge (left := z3) (n := o.v.p.length) (by omega) (by omega)
      generalize hz7e : roomI z3 o.v.p.length = z7 at hF hz7
      refine vc_y hF rfl rfl (by decide) _ (y_assign rfl rfl) (fun a hF => ?_)
      refine vc_nil ?_
      refine hK9 _ _ ?_; clear  hK9 K9
      apply wp_seq_k; intro K10 hK10
      refine wp_region_lit ?_
      refine vc_y hF rfl rfl (by decide) _ (y_move rfl rfl) (fun a hF => ?_)
      refine vc_y hF rfl rfl (by decide) _ (y_move rfl rfl) (fun a hF => ?_)
      refine vc_y hF rfl rfl (by decide) _ (y_move rfl rfl) (fun a hF => ?_)
      refine vc_y hF rfl rfl (by decide) _ (y_ixSl rfl Try.underlying23 sz38_op rfl rfl i rfl hlt rfl) (fun a hF => ?_)
      refine vc_y hF rfl rfl (by decide) _ (y_field rfl Try.underlying38 rfl sz9_op (by decide) rfl rfl) (fun a hF => ?_)
      refine vc_y hF rfl rfl (by decide) _ (y_ldC (u := strV o.v.s) rfl hA1.q rfl hc (i * 12 + 8) (by omega) (Nat.add_assoc _ _ _) (hcell 8 _ rfl) nr9_op) (fun a hF => ?_)
      refine vc_y hF rfl rfl (by decide) _ (y_lenStr rfl Try.underlying9 rfl (show ((ByteArray.mk o.v.s.toArray).size : Int) = (o.v.s.length : Int) from rfl)) (fun a hF => ?_)
      refine vc_op rfl (fun K hK => ws_call hF rfl (by decide) cl44_op rfl rfl ?_)
      with_reducible refine (bk_room w2 z7 (o.v.s.length : Int) (by omega) (by omega) ).mono ?_
      rintro e' w14 ⟨rfl, rfl⟩
      refine ⟨_, rfl, fun a hF => hK _ _ ?_⟩
      clear hK K
      have hz11 := roomI_ge (left := z7) (n := (o.v.s.length : Int)) (by omega) (by omega)
      generalize hz11e : roomI z7 (o.v.s.length : Int) = z11 at hF hz11
      refine vc_y hF rfl rfl (by decide) _ (y_assign rfl rfl) (fun a hF => ?_)
      refine vc_nil ?_
      refine hK10 _ _ ?_; clear  hK10 K10
      apply wp_seq_k; intro K11 hK11
      apply wp_seq_k; intro K12 hK12
      refine wp_region_lit ?_
      refine vc_y hF rfl rfl (by decide) _ (y_move rfl rfl) (fun a hF => ?_)
      refine vc_y hF rfl rfl (by decide) _ (y_move rfl rfl) (fun a hF => ?_)
      refine vc_y hF rfl rfl (by decide) _ (y_ixSl rfl Try.underlying23 sz38_op rfl rfl i rfl hlt rfl) (fun a hF => ?_)
      refine vc_y hF rfl rfl (by decide) _ (y_field rfl Try.underlying38 rfl sz34_op (by decide) rfl rfl) (fun a hF => ?_)
      refine vc_y hF rfl rfl (by decide) _ (y_ldC (u := .slice o.dA o.v.ds.length o.dC) rfl hA1.q rfl hc (i * 12 + 5) (by omega) (Nat.add_assoc _ _ _) (hcell 5 _ rfl) nr34_op) (fun a hF => ?_)
      refine vc_y hF rfl rfl (by decide) _ (y_lenSl rfl Try.underlying34 rfl rfl) (fun a hF => ?_)
      refine vc_y hF rfl rfl (by decide) _ (y_cmp rfl rfl rfl rfl rfl) (fun a hF => ?_)
      refine vc_nil ?_
      refine hK12 _ _ ?_; clear  hK12 K12
      by_cases hmany : 67108863 < (o.v.ds.length : Int)
      · refine vc_trueB hF rfl (gtr_t (by omega)) ?_
        apply wp_seq_k; intro K13 hK13
        refine wp_region_lit ?_
        refine vc_y hF rfl rfl (by decide) _ (y_assign rfl rfl) (fun a hF => ?_)
        refine vc_nil ?_
        refine hK13 _ _ ?_; clear  hK13 K13
        apply wp_ret
        simp only [Exit.then, Exit.inBlock]
        refine vc_ret1 hF Try.results12 rfl ?_
        exact ⟨true, rfl, fun h => (by cases h), hA1⟩
      · refine vc_falseB hF rfl (gtr_f (by omega)) ?_
        apply wp_skip
        refine hK11 _ _ ?_; clear  hK11 K11
        apply wp_seq_k; intro K14 hK14
        refine wp_region_lit ?_
        refine vc_y hF rfl rfl (by decide) _ (y_move rfl rfl) (fun a hF => ?_)
        refine vc_y hF rfl rfl (by decide) _ (y_move rfl rfl) (fun a hF => ?_)
        refine vc_y hF rfl rfl (by decide) _ (y_move rfl rfl) (fun a hF => ?_)
        refine vc_y hF rfl rfl (by decide) _ (y_ixSl rfl Try.underlying23 sz38_op rfl rfl i rfl hlt rfl) (fun a hF => ?_)
        refine vc_y hF rfl rfl (by decide) _ (y_field rfl Try.underlying38 rfl sz34_op (by decide) rfl rfl) (fun a hF => ?_)
        refine vc_y hF rfl rfl (by decide) _ (y_ldC (u := .slice o.dA o.v.ds.length o.dC) rfl hA1.q rfl hc (i * 12 + 5) (by omega) (Nat.add_assoc _ _ _) (hcell 5 _ rfl) nr34_op) (fun a hF => ?_)
        refine vc_y hF rfl rfl (by decide) _ (y_lenSl rfl Try.underlying34 rfl rfl) (fun a hF => ?_)
        refine vc_y hF rfl rfl (by decide) _ (y_mul rfl rfl rfl (IntWalk.i64_in _ (by omega))) (fun a hF => ?_)
        refine vc_op rfl (fun K hK => ws_call hF rfl (by decide) cl44_op rfl rfl ?_)
        with_reducible refine (bk_room w2 z11 ((32) * (o.v.ds.length)) (by omega) (by omega) ).mono ?_
        rintro e' w18 ⟨rfl, rfl⟩
        refine ⟨_, rfl, fun a hF => hK _ _ ?_⟩
        clear hK K
        have hz15 := roomI_ge (left := z11) (n := (32) * (o.v.ds.length)) (by omega) (by omega)
        generalize hz15e : roomI z11 ((32) * (o.v.ds.length)) = z15 at hF hz15
        refine vc_y hF rfl rfl (by decide) _ (y_assign rfl rfl) (fun a hF => ?_)
        refine vc_nil ?_
        refine hK14 _ _ ?_; clear  hK14 K14
        apply wp_seq_k; intro K15 hK15
        refine wp_region_lit ?_
        refine vc_y hF rfl rfl (by decide) _ (y_move rfl rfl) (fun a hF => ?_)
        refine vc_y hF rfl rfl (by decide) _ (y_move rfl rfl) (fun a hF => ?_)
        refine vc_y hF rfl rfl (by decide) _ (y_move rfl rfl) (fun a hF => ?_)
        refine vc_y hF rfl rfl (by decide) _ (y_ixSl rfl Try.underlying23 sz38_op rfl rfl i rfl hlt rfl) (fun a hF => ?_)
        refine vc_y hF rfl rfl (by decide) _ (y_field rfl Try.underlying38 rfl sz27_op (by decide) rfl rfl) (fun a hF => ?_)
        refine vc_y hF rfl rfl (by decide) _ (y_ldC (u := .slice o.qA o.ps.length o.qC) rfl hA1.q rfl hc (i * 12 + 6) (by omega) (Nat.add_assoc _ _ _) (hcell 6 _ rfl) nr27_op) (fun a hF => ?_)
        refine vc_op rfl (fun K hK => ws_call hF rfl (by decide) cl45_op rfl rfl ?_)
        with_reducible refine (bk_lists w0 _ _ z15 o.qA o.ps o.qC hokP hA1 (by omega) hokl hokn ).mono ?_
        rintro e' w22 ⟨z19, rfl, hz19a, hz19, rfl⟩
        refine ⟨_, rfl, fun a hF => hK _ _ ?_⟩
        clear hK K
        refine vc_y hF rfl rfl (by decide) _ (y_assign rfl rfl) (fun a hF => ?_)
        refine vc_nil ?_
        refine hK15 _ _ ?_; clear  hK15 K15
        refine wp_region_lit ?_
        refine vc_y hF rfl rfl (by decide) _ (y_move rfl rfl) (fun a hF => ?_)
        refine vc_y hF rfl rfl (by decide) _ (y_move rfl rfl) (fun a hF => ?_)
        refine vc_y hF rfl rfl (by decide) _ (y_move rfl rfl) (fun a hF => ?_)
        refine vc_y hF rfl rfl (by decide) _ (y_ixSl rfl Try.underlying23 sz38_op rfl rfl i rfl hlt rfl) (fun a hF => ?_)
        refine vc_y hF rfl rfl (by decide) _ (y_field rfl Try.underlying38 rfl sz36_op (by decide) rfl rfl) (fun a hF => ?_)
        refine vc_y hF rfl rfl (by decide) _ (y_ldC (u := .slice o.sA o.v.ss.length o.sC) rfl hA1.q rfl hc (i * 12 + 9) (by omega) (Nat.add_assoc _ _ _) (hcell 9 _ rfl) nr36_op) (fun a hF => ?_)
        refine vc_op rfl (fun K hK => ws_call hF rfl (by decide) cl46_op rfl rfl ?_)
        with_reducible refine (bk_texts w0 _ _ z19 o.sA o.v.ss o.sC hok1.ss hA1 (by omega) hoke hok1.ssl ).mono ?_
        rintro e' w26 ⟨z23, rfl, hz23a, hz23, rfl⟩
        refine ⟨_, rfl, fun a hF => hK _ _ ?_⟩
        clear hK K
        refine vc_y hF rfl rfl (by decide) _ (y_assign rfl rfl) (fun a hF => ?_)
        refine vc_nil ?_
        refine hK7 _ _ ?_; clear  hK7 K7
        refine wp_region_lit ?_
        refine vc_y hF rfl rfl (by decide) _ (y_move rfl rfl) (fun a hF => ?_)
        refine vc_y hF rfl rfl (by decide) _ (y_add rfl rfl rfl (IntWalk.i64_in _ (by omega))) (fun a hF => ?_)
        refine vc_y hF rfl rfl (by decide) _ (y_assign rfl rfl) (fun a hF => ?_)
        refine vc_nil ?_
        have hco : opCost o = 100 + o.v.p.length + o.v.s.length + 32 * o.v.ds.length + (o.ps.map (fun p : Piece => p.2.2.length + 1)).sum + (o.v.ss.map (fun p : List UInt8 => p.length + 1)).sum := rfl
        exact ⟨i + 1, by omega, _, by omega, by omega, fun h => by rw [hsum]; omega, hF.keep [4, 3, 0] rfl, hA1⟩
    · apply wp_seq_k; intro K16 hK16
      apply wp_seq_k; intro K17 hK17
      refine wp_region_lit ?_
      refine vc_y hF rfl rfl (by decide) _ (y_move rfl rfl) (fun a hF => ?_)
      refine vc_y hF rfl rfl (by decide) _ (y_move rfl rfl) (fun a hF => ?_)
      refine vc_y hF rfl rfl (by decide) _ (y_lenSl rfl Try.underlying23 rfl rfl) (fun a hF => ?_)
      refine vc_y hF rfl rfl (by decide) _ (y_cmp rfl rfl rfl rfl (lss_t (by omega))) (fun a hF => ?_)
      refine vc_y hF rfl rfl (by decide) _ (y_move rfl rfl) (fun a hF => ?_)
      refine vc_yg hF rfl rfl rfl rfl rfl (by decide) _ (y_move rfl rfl) (fun a hF => ?_)
      refine vc_yg hF rfl rfl rfl rfl rfl (by decide) _ (y_cmp rfl rfl rfl rfl (geq_f (by omega))) (fun a hF => ?_)
      refine vc_y hF rfl rfl (by decide) _ (y_pick rfl rfl rfl) (fun a hF => ?_)
      refine vc_nil ?_
      refine hK17 _ _ ?_; clear  hK17 K17
      refine vc_false hF rfl ?_
      apply wp_exit
      refine hK3 _ _ ?_; clear hK16 K16 hK3 K3
      apply wp_seq_k; intro K18 hK18
      refine wp_region_lit ?_
      refine vc_y hF rfl rfl (by decide) _ (y_move rfl rfl) (fun a hF => ?_)
      refine vc_y hF rfl rfl (by decide) _ (y_cmp rfl rfl rfl rfl rfl) (fun a hF => ?_)
      refine vc_y hF rfl rfl (by decide) _ (y_assign rfl rfl) (fun a hF => ?_)
      refine vc_nil ?_
      refine hK18 _ _ ?_; clear  hK18 K18
      apply wp_ret
      refine vc_ret1 hF Try.results12 rfl ?_
      exact ⟨true, by rw [show cmpB .lss z 0 = true from lss_t (by omega)], fun h => (by cases h), hA1⟩
  · obtain rfl : i = os.length := by omega
    rw [List.take_length] at hzs
    apply wp_seq_k; intro K19 hK19
    apply wp_seq_k; intro K20 hK20
    refine wp_region_lit ?_
    refine vc_y hF rfl rfl (by decide) _ (y_move rfl rfl) (fun a hF => ?_)
    refine vc_y hF rfl rfl (by decide) _ (y_move rfl rfl) (fun a hF => ?_)
    refine vc_y hF rfl rfl (by decide) _ (y_lenSl rfl Try.underlying23 rfl rfl) (fun a hF => ?_)
    refine vc_y hF rfl rfl (by decide) _ (y_cmp rfl rfl rfl rfl (lss_f (by omega))) (fun a hF => ?_)
    refine vc_y hF rfl rfl (by decide) _ (y_move rfl rfl) (fun a hF => ?_)
    refine vc_skip hF rfl rfl rfl rfl rfl rfl (by decide) (fun a hF => ?_)
    refine vc_skip hF rfl rfl rfl rfl rfl rfl (by decide) (fun a hF => ?_)
    refine vc_y hF rfl rfl (by decide) _ (y_pick rfl rfl rfl) (fun a hF => ?_)
    refine vc_nil ?_
    refine hK20 _ _ ?_; clear  hK20 K20
    refine vc_false hF rfl ?_
    apply wp_exit
    refine hK3 _ _ ?_; clear hK19 K19 hK3 K3
    apply wp_seq_k; intro K21 hK21
    refine wp_region_lit ?_
    refine vc_y hF rfl rfl (by decide) _ (y_move rfl rfl) (fun a hF => ?_)
    refine vc_y hF rfl rfl (by decide) _ (y_cmp rfl rfl rfl rfl rfl) (fun a hF => ?_)
    refine vc_y hF rfl rfl (by decide) _ (y_assign rfl rfl) (fun a hF => ?_)
    refine vc_nil ?_
    refine hK21 _ _ ?_; clear  hK21 K21
    apply wp_ret
    refine vc_ret1 hF Try.results12 rfl ?_
    by_cases hz0 : z < 0
    · exact ⟨true, by rw [show cmpB .lss z 0 = true from lss_t hz0], fun h => (by cases h), hA1⟩
    · exact ⟨false, by rw [show cmpB .lss z 0 = false from lss_f (by omega)], fun _ => by have := hzs (by omega); omega, hA1⟩
end Go.Proofs.Ythphfbohhbkdgaa
