/- The statement about readers: what a step takes. -/
import Derived.Test.YthphfbohhbkdgaaRt
import Derived.Test.YthphfbohhbkdgaaKc
import Derived.Test.YthphfbohhbkdgaaOps0
namespace Go.Proofs.Ythphfbohhbkdgaa
open Go.RowKit Go.Dk
theorem nr3_rd : notRow Try.prog 3 = true := by kernel_rfl
theorem nr4_rd : notRow Try.prog 4 = true := by kernel_rfl
theorem rw74_rd : isRow Try.prog 74 32 = true := by kernel_rfl
theorem sz3_rd : (Try.prog.info? 3).map (·.size) = some 1 := by kernel_rfl
theorem sz4_rd : (Try.prog.info? 4).map (·.size) = some 1 := by kernel_rfl
theorem sz5_rd : (Try.prog.info? 5).map (·.size) = some 1 := by kernel_rfl
theorem sz29_rd : (Try.prog.info? 29).map (·.size) = some 4 := by kernel_rfl
theorem sz63_rd : (Try.prog.info? 63).map (·.size) = some 4 := by kernel_rfl
theorem sz66_rd : (Try.prog.info? 66).map (·.size) = some 4 := by kernel_rfl
theorem sz74_rd : (Try.prog.info? 74).map (·.size) = some 32 := by kernel_rfl
theorem cl19_rd : CallsTo Try.prog 19 := ⟨_, Try.func19, by kernel_rfl, by kernel_rfl⟩
theorem cl20_rd : CallsTo Try.prog 20 := ⟨_, Try.func20, by kernel_rfl, by kernel_rfl⟩
theorem cl27_rd : CallsTo Try.prog 27 := ⟨_, Try.func27, by kernel_rfl, by kernel_rfl⟩
theorem cl28_rd : CallsTo Try.prog 28 := ⟨_, Try.func28, by kernel_rfl, by kernel_rfl⟩
theorem cl49_rd : CallsTo Try.prog 49 := ⟨_, Try.func49, by kernel_rfl, by kernel_rfl⟩
theorem cl71_rd : CallsTo Try.prog 71 := ⟨_, Try.func71, by kernel_rfl, by kernel_rfl⟩
theorem cl72_rd : CallsTo Try.prog 72 := ⟨_, Try.func72, by kernel_rfl, by kernel_rfl⟩
theorem cl73_rd : CallsTo Try.prog 73 := ⟨_, Try.func73, by kernel_rfl, by kernel_rfl⟩
theorem cl74_rd : CallsTo Try.prog 74 := ⟨_, Try.func74, by kernel_rfl, by kernel_rfl⟩
theorem cl75_rd : CallsTo Try.prog 75 := ⟨_, Try.func75, by kernel_rfl, by kernel_rfl⟩
theorem cl76_rd : CallsTo Try.prog 76 := ⟨_, Try.func76, by kernel_rfl, by kernel_rfl⟩
theorem cl77_rd : CallsTo Try.prog 77 := ⟨_, Try.func77, by kernel_rfl, by kernel_rfl⟩
theorem cl78_rd : CallsTo Try.prog 78 := ⟨_, Try.func78, by kernel_rfl, by kernel_rfl⟩
theorem cl87_rd : CallsTo Try.prog 87 := ⟨_, Try.func87, by kernel_rfl, by kernel_rfl⟩
theorem cl88_rd : CallsTo Try.prog 88 := ⟨_, Try.func88, by kernel_rfl, by kernel_rfl⟩
theorem cl89_rd : CallsTo Try.prog 89 := ⟨_, Try.func89, by kernel_rfl, by kernel_rfl⟩
theorem cl90_rd : CallsTo Try.prog 90 := ⟨_, Try.func90, by kernel_rfl, by kernel_rfl⟩
theorem cl91_rd : CallsTo Try.prog 91 := ⟨_, Try.func91, by kernel_rfl, by kernel_rfl⟩
theorem cl92_rd : CallsTo Try.prog 92 := ⟨_, Try.func92, by kernel_rfl, by kernel_rfl⟩
theorem cl93_rd : CallsTo Try.prog 93 := ⟨_, Try.func93, by kernel_rfl, by kernel_rfl⟩
theorem cl94_rd : CallsTo Try.prog 94 := ⟨_, Try.func94, by kernel_rfl, by kernel_rfl⟩
theorem cl95_rd : CallsTo Try.prog 95 := ⟨_, Try.func95, by kernel_rfl, by kernel_rfl⟩
theorem cl96_rd : CallsTo Try.prog 96 := ⟨_, Try.func96, by kernel_rfl, by kernel_rfl⟩
theorem cl97_rd : CallsTo Try.prog 97 := ⟨_, Try.func97, by kernel_rfl, by kernel_rfl⟩
theorem cl98_rd : CallsTo Try.prog 98 := ⟨_, Try.func98, by kernel_rfl, by kernel_rfl⟩

theorem zr74_rd : zeroIs Try.prog 74 (.agg (dc (List.replicate 32 0)).toArray) := by unfold zeroIs; kernel_rfl

theorem results_tmp4 {fn : Func} {t u s q : Tmp} (h : fn.results = #[.tmp t, .tmp u, .tmp s, .tmp q]) (tmps : Array Value) (P : Program) (w : World) :
    (results fn tmps).run P w = .ok (.tuple #[tmps.getD t undef, tmps.getD u undef, tmps.getD s undef, tmps.getD q undef]) w := by
  simp [results, h]
theorem vc_ret4 {P : Program} {fn : Func} {R : Ending → World → Prop} {n : Nat} {F : List (Nat × Value)} {a : Act} {w : World} {t u s q : Tmp} {v x y z : Value} (hF : Fr n F a) (hr : fn.results = #[.tmp t, .tmp u, .tmp s, .tmp q]) (hl : Go.Dk.look F t = some v) (hl2 : Go.Dk.look F u = some x) (hl3 : Go.Dk.look F s = some y) (hl4 : Go.Dk.look F q = some z) (h : R (.returned (.tuple #[v, x, y, z])) w) : bodyPost P fn R .ret a w :=
  bodyPost_ret (results_tmp4 hr _ _ _) hF.defers (by rw [hF.at hl, hF.at hl2, hF.at hl3, hF.at hl4]; exact h)
/-- what is left for the reference, once the reader has refused: nothing -/
def leftOf (l : List UInt8) (p y : Nat) : List UInt8 := if y = 0 then l.drop p else []
/-- a step of the reader, and what the reference says of it -/
def StepOK (l : List UInt8) (p y p' y' k e : Nat) : Prop := p' ≤ l.length ∧ (y = 0 → e = y' ∧ (y' = 0 → p' = p + k)) ∧ (y' ≠ 0 → p' = p) ∧ (y ≠ 0 → y' = y)
theorem step_val {α : Type} {G : List UInt8 → Res α} {d : α} {l : List UInt8} {p y : Nat} (hnil : (G []).val d 0 = d) : (G (leftOf l p y)).val d 0 = (G (l.drop p)).val d y := by
  unfold leftOf
  by_cases hy : y = 0
  · subst hy; rw [if_pos rfl]
  · rw [if_neg hy, hnil, ((G (l.drop p)).skip d p y hy).1]
theorem step_ok {α : Type} {G : List UInt8 → Res α} {l : List UInt8} {p y k e : Nat} (d : α) (hk : (G (leftOf l p y)).why 0 = 0 → k = (G (leftOf l p y)).pl 0 0) (he : e = (G (leftOf l p y)).why 0) (hlen : ∀ v j, G (l.drop p) = .ok v j → j ≤ (l.drop p).length) (hno : ∀ j, G (l.drop p) = .no j → j ≠ 0) (hp : p ≤ l.length) : StepOK l p y ((G (l.drop p)).pl p y) ((G (l.drop p)).why y) k e := by
  by_cases hy : y = 0
  · subst hy
    rw [leftOf, if_pos rfl] at hk he
    cases hG : G (l.drop p) with
    | ok v j =>
      have h1 := hlen v j hG
      rw [List.length_drop] at h1
      rw [hG] at hk he
      have h2 : (Res.ok v j).pl p 0 = p + j := rfl
      have h3 : (Res.ok v j).pl 0 0 = 0 + j := rfl
      have h4 : (Res.ok v j).why 0 = 0 := rfl
      rw [h3, h4] at hk
      rw [h4] at he
      have hk1 := hk rfl
      rw [h2, h4]
      exact ⟨by omega, fun _ => ⟨he, fun _ => by omega⟩, fun h => absurd rfl h, fun h => absurd rfl h⟩
    | no j =>
      have h1 := hno j hG
      rw [hG] at he
      have h2 : (Res.no j : Res α).pl p 0 = p := rfl
      have h4 : (Res.no j : Res α).why 0 = j := rfl
      rw [h4] at he
      rw [h2, h4]
      exact ⟨hp, fun _ => ⟨he, fun h => absurd h h1⟩, fun _ => rfl, fun h => absurd rfl h⟩
  · obtain ⟨_, h2, h3⟩ := (G (l.drop p)).skip d p y hy
    rw [h2, h3]
    exact ⟨hp, fun h => absurd h hy, fun _ => rfl, fun _ => rfl⟩
theorem num_nil {K : Nat} (hK : 0 < K) : (numR K []).val 0 0 = 0 := by
  rw [numR, if_pos (by simpa using hK)]; rfl
theorem num_len {K j v : Nat} {r : List UInt8} (h : numR K r = .ok v j) : j ≤ r.length := by
  unfold numR at h
  split at h
  · cases h
  · injection h with _ h; omega
theorem num_no {K j : Nat} {r : List UInt8} (h : numR K r = .no j) : j ≠ 0 := by
  unfold numR at h
  split at h
  · injection h with h; omega
  · cases h
theorem flag_len {j : Nat} {v : Bool} {r : List UInt8} (h : flagR r = .ok v j) : j ≤ r.length := by
  unfold flagR at h
  split at h
  · cases h
  · injection h with _ h; omega
theorem flag_no {j : Nat} {r : List UInt8} (h : flagR r = .no j) : j ≠ 0 := by
  unfold flagR at h
  split at h
  · injection h with h; omega
  · cases h
theorem raw_nil (n : Int) : (rawR [] n).val [] 0 = [] := by
  unfold rawR
  split
  · rfl
  · show List.take _ [] = []
    exact List.take_nil
theorem raw_len {j : Nat} {n : Int} {v r : List UInt8} (h : rawR r n = .ok v j) : j ≤ r.length := by
  unfold rawR at h
  split at h
  · cases h
  · injection h with _ h; omega
theorem raw_no {j : Nat} {n : Int} {r : List UInt8} (h : rawR r n = .no j) : j ≠ 0 := by
  unfold rawR at h
  split at h
  · injection h with h; omega
  · cases h
theorem digests_nil (n : Int) : (digestsR [] n).val [] 0 = [] := by
  unfold digestsR
  split
  · rfl
  · rename_i h
    have h1 : n.toNat = 0 := by
      simp only [List.length_nil, Nat.zero_div] at h
      omega
    rw [h1]; rfl
theorem digests_len {j : Nat} {n : Int} {v : List (List UInt8)} {r : List UInt8} (h : digestsR r n = .ok v j) : j ≤ r.length := by
  unfold digestsR at h
  split at h
  · cases h
  · injection h with _ h; omega
theorem digests_no {j : Nat} {n : Int} {r : List UInt8} (h : digestsR r n = .no j) : j ≠ 0 := by
  unfold digestsR at h
  split at h
  · injection h with h; omega
  · cases h
theorem sized_nil {K e : Nat} {b : Int} (hK : 0 < K) : (sizedR K e [] b).val [] 0 = [] := by
  unfold sizedR; rw [if_pos (by simpa using hK)]; rfl
theorem sized_no6 {K j : Nat} {r : List UInt8} {b : Int} (h : sizedR K 6 r b = .no j) : j ≠ 0 := by
  rcases sized_no h with h | h <;> omega
theorem texts_nil (most each : Int) : (textsR [] most each).val [] 0 = [] := by
  unfold textsR; rw [if_pos (by decide)]; rfl
theorem textsGo_le (each : Int) (n : Nat) : ∀ (acc : List (List UInt8)) (at_ : Nat) (r : List UInt8) (v : List (List UInt8)) (j : Nat), textsGo each n acc at_ r = .ok v j → j ≤ at_ + r.length := by
  induction n with
  | zero => intro acc at_ r v j h; rw [textsGo] at h; injection h with _ h; omega
  | succ n ih =>
    intro acc at_ r v j h
    rw [textsGo] at h
    cases hr : textR r each with
    | no e => rw [hr] at h; cases h
    | ok s k =>
      rw [hr] at h
      simp only at h
      split at h
      · cases h
      · have h1 := ih _ _ _ _ _ h
        have h2 := (sized_le hr).1
        rw [List.length_drop] at h1; omega
theorem textsGo_no (each : Int) (n : Nat) : ∀ (acc : List (List UInt8)) (at_ : Nat) (r : List UInt8) (j : Nat), textsGo each n acc at_ r = .no j → j ≠ 0 := by
  induction n with
  | zero => intro acc at_ r j h; rw [textsGo] at h; cases h
  | succ n ih =>
    intro acc at_ r j h
    rw [textsGo] at h
    cases hr : textR r each with
    | no e => rw [hr] at h; injection h with h; subst h; exact sized_no6 hr
    | ok s k =>
      rw [hr] at h
      simp only at h
      split at h
      · injection h with h; omega
      · exact ih _ _ _ _ h
theorem texts_len {j : Nat} {most each : Int} {v : List (List UInt8)} {r : List UInt8} (h : textsR r most each = .ok v j) : j ≤ r.length := by
  unfold textsR at h
  split at h
  · cases h
  · split at h
    · cases h
    · have h1 := textsGo_le each _ _ _ _ _ _ h
      rw [List.length_drop] at h1; omega
theorem texts_no {j : Nat} {most each : Int} {r : List UInt8} (h : textsR r most each = .no j) : j ≠ 0 := by
  unfold textsR at h
  split at h
  · injection h with h; omega
  · split at h
    · injection h with h; omega
    · exact textsGo_no each _ _ _ _ _ h
theorem num_boundV (K : Nat) (r : List UInt8) (y : Nat) : (numR K r).val 0 y < 256 ^ K := by
  unfold Res.val numR
  have h1 := num_lt (r.take K)
  have h2 : (r.take K).length ≤ K := by rw [List.length_take]; omega
  have h3 : 256 ^ (r.take K).length ≤ 256 ^ K := Nat.pow_le_pow_right (by decide) h2
  split
  · split
    · rename_i h
      split at h
      · cases h
      · injection h with h; omega
    · exact Nat.pow_pos (by decide)
  · exact Nat.pow_pos (by decide)

set_option maxRecDepth 100000 in
set_option maxHeartbeats 4000000 in
theorem rd_takes (w0 w : World) (R : List Seg) (rb : Nat) (A : Option Addr) (l : List UInt8) (c p y : Nat) (X : Seg) (o : OpX) (LA : Option Addr) (ll : List UInt8) (LC : Nat) (hll : ll = leftOf l p y) (hL : Rd w0 R LA ll) (hO : Buf 5 1 X (.slice A l.length c) l.length (dc l)) (hA : Hp w0 ([row rb 95 [.slice A l.length c, .int .i64 (p : Nat), .int .i64 (y : Nat)]] :: X :: R) w) (hp : p ≤ l.length) (hl : l.length < 140737488354000) : Calls Try.prog 60 #[.pointer (some ⟨rb, 0, none⟩), .slice LA ll.length LC, .agg (opC o).toArray] w fun e' w' => ∃ (m : Int) (k e p' y' : Nat), e' = .returned (.tuple #[.int .u64 m, .int .u64 m, .int .i64 (k : Int), .int .i64 (e : Int)]) ∧ StepOK l p y p' y' k e ∧ Hp w0 ([row rb 95 [.slice A l.length c, .int .i64 (p' : Nat), .int .i64 (y' : Nat)]] :: X :: R) w' := by
  have hll2 : ll.length ≤ l.length := by rw [hll, leftOf]; split <;> simp
  refine vc_enter Try.func60 rfl Try.ntmps60 (Nat.le_of_ble_eq_true rfl) (fun a hF => ?_)
  apply wp_seq_k; intro K1 hK1
  refine wp_region_lit ?_
  refine vc_op rfl (fun K hK => hs_box (cs := [.int .i64 o.kind, .int .i64 o.at_, .int .u64 (o.v.n : Int), .int .i64 o.many, .bool o.v.b, .slice o.dA o.v.ds.length o.dC, .slice o.qA o.ps.length o.qC, .slice o.pA o.v.p.length o.pC, strV o.v.s, .slice o.sA o.v.ss.length o.sC, .int .i64 o.most, .int .i64 o.each]) hF rfl (by decide) rfl hA rfl (fun b1 w2 a hb1 hF hA3 => hK _ _ ?_))
  clear hK K
  replace hA3 : Hp w0 ([row b1 38 [.int .i64 o.kind, .int .i64 o.at_, .int .u64 (o.v.n : Int), .int .i64 o.many, .bool o.v.b, .slice o.dA o.v.ds.length o.dC, .slice o.qA o.ps.length o.qC, .slice o.pA o.v.p.length o.pC, strV o.v.s, .slice o.sA o.v.ss.length o.sC, .int .i64 o.most, .int .i64 o.each]] :: [row rb 95 [.slice A l.length c, .int .i64 (p : Int), .int .i64 (y : Int)]] :: X :: R) w2 := hA3
  refine vc_y hF rfl rfl (by decide) _ (y_assign rfl rfl) (fun a hF => ?_)
  refine vc_y hF rfl rfl (by decide) _ (y_assign rfl rfl) (fun a hF => ?_)
  refine vc_y hF rfl rfl (by decide) _ (y_assign rfl rfl) (fun a hF => ?_)
  refine vc_y hF rfl rfl (by decide) _ (y_assign rfl rfl) (fun a hF => ?_)
  refine vc_nil ?_
  refine hK1 _ _ ?_; clear  hK1 K1
  apply wp_seq_k; intro K2 hK2
  apply wp_seq_k; intro K3 hK3
  refine wp_region_lit ?_
  refine vc_y hF rfl rfl (by decide) _ (y_field rfl Try.underlying38 rfl sz3_rd (by decide) rfl (rfl : (⟨_, 0 + _, none⟩ : Addr) = ⟨_, 0, none⟩)) (fun a hF => ?_)
  refine vc_y hF rfl rfl (by decide) _ (y_ld rfl hA3.q rfl 0 rfl rfl nr3_rd) (fun a hF => ?_)
  refine vc_nil ?_
  refine hK3 _ _ ?_; clear  hK3 K3
  apply wp_block
  apply wp_seq_k; intro K4 hK4
  refine wp_region_lit ?_
  refine vc_y hF rfl rfl (by decide) _ (y_cmp rfl rfl rfl rfl rfl) (fun a hF => ?_)
  refine vc_y hF rfl rfl (by decide) _ (y_assign rfl rfl) (fun a hF => ?_)
  refine vc_nil ?_
  refine hK4 _ _ ?_; clear  hK4 K4
  by_cases k1 : o.kind = 1
  · refine vc_trueB hF rfl (eql_t (by omega)) ?_
    have hvl : (numR 1 ll).val 0 0 = (numR 1 (l.drop p)).val 0 y := by rw [hll]; exact step_val (G := numR 1) (num_nil (by decide))
    have hvb := num_boundV 1 (l.drop p) y
    apply wp_seq_k; intro K5 hK5
    refine wp_region_lit ?_
    refine vc_y hF rfl rfl (by decide) _ (y_move rfl rfl) (fun a hF => ?_)
    refine vc_op rfl (fun K hK => ws_call hF rfl (by decide) cl88_rd rfl rfl ?_)
    with_reducible refine (rt_number w0 _ _ LA ll LC 1 1 rfl (by decide) (hL.mono (subC (subC (subC (sub0))))) hA3 (by omega) ).mono ?_
    rintro e' w6 ⟨rfl, rfl⟩
    refine ⟨_, rfl, fun a hF => hK _ _ ?_⟩
    clear hK K
    rw [hvl] at hF
    refine vc_y hF rfl rfl (by decide) _ (y_move rfl rfl) (fun a hF => ?_)
    refine vc_y hF rfl rfl (by decide) _ (y_extract (v := .int .u64 (((numR 1 (l.drop p)).val 0 y : Nat) : Int)) rfl rfl rfl) (fun a hF => ?_)
    refine vc_y hF rfl rfl (by decide) _ (y_extract (v := .int .i64 (((numR 1 ll).pl 0 0 : Nat) : Int)) rfl rfl rfl) (fun a hF => ?_)
    refine vc_y hF rfl rfl (by decide) _ (y_extract (v := .int .i64 (((numR 1 ll).why 0 : Nat) : Int)) rfl rfl rfl) (fun a hF => ?_)
    refine vc_y hF rfl rfl (by decide) _ (y_assign rfl rfl) (fun a hF => ?_)
    refine vc_y hF rfl rfl (by decide) _ (y_assign rfl rfl) (fun a hF => ?_)
    refine vc_y hF rfl rfl (by decide) _ (y_assign rfl rfl) (fun a hF => ?_)
    refine vc_nil ?_
    refine hK5 _ _ ?_; clear  hK5 K5
    apply wp_seq_k; intro K6 hK6
    refine wp_region_lit ?_
    refine vc_y hF rfl rfl (by decide) _ (y_move rfl rfl) (fun a hF => ?_)
    have hA7 : Hp w0 ([row rb 95 [.slice A l.length c, .int .i64 (p : Int), .int .i64 (y : Int)]] :: X :: [row b1 38 [.int .i64 o.kind, .int .i64 o.at_, .int .u64 (o.v.n : Int), .int .i64 o.many, .bool o.v.b, .slice o.dA o.v.ds.length o.dC, .slice o.qA o.ps.length o.qC, .slice o.pA o.v.p.length o.pC, strV o.v.s, .slice o.sA o.v.ss.length o.sC, .int .i64 o.most, .int .i64 o.each]] :: R) w2 := Hp.ord [[row b1 38 [.int .i64 o.kind, .int .i64 o.at_, .int .u64 (o.v.n : Int), .int .i64 o.many, .bool o.v.b, .slice o.dA o.v.ds.length o.dC, .slice o.qA o.ps.length o.qC, .slice o.pA o.v.p.length o.pC, strV o.v.s, .slice o.sA o.v.ss.length o.sC, .int .i64 o.most, .int .i64 o.each]], [row rb 95 [.slice A l.length c, .int .i64 (p : Int), .int .i64 (y : Int)]], X] R [1, 2, 0] hA3 rfl
    refine vc_op rfl (fun K hK => ws_call hF rfl (by decide) cl19_rd rfl rfl ?_)
    with_reducible refine (hr_take_uint8 w0 _ _ rb A l c p y X hO hA7 hp hl ).mono ?_
    rintro e' w8 ⟨rfl, hA9⟩
    refine ⟨_, rfl, fun a hF => hK _ _ ?_⟩
    clear hK K
    replace hA9 : Hp w0 ([row rb 95 [.slice A l.length c, .int .i64 (((numR 1 (l.drop p)).pl p y : Nat) : Int), .int .i64 (((numR 1 (l.drop p)).why y : Nat) : Int)]] :: X :: [row b1 38 [.int .i64 o.kind, .int .i64 o.at_, .int .u64 (o.v.n : Int), .int .i64 o.many, .bool o.v.b, .slice o.dA o.v.ds.length o.dC, .slice o.qA o.ps.length o.qC, .slice o.pA o.v.p.length o.pC, strV o.v.s, .slice o.sA o.v.ss.length o.sC, .int .i64 o.most, .int .i64 o.each]] :: R) w8 := hA9
    refine vc_y hF rfl rfl (by decide) _ (y_conv rfl Try.underlying5 Try.underlying33 rfl (show IntKind.u64.wrap ((((numR 1 (l.drop p)).val 0 y : Nat) : Int)) = (((numR 1 (l.drop p)).val 0 y : Nat) : Int) by rw [IntKind.wrap_u64]; omega)) (fun a hF => ?_)
    refine vc_y hF rfl rfl (by decide) _ (y_move rfl rfl) (fun a hF => ?_)
    refine vc_y hF rfl rfl (by decide) _ (y_move rfl rfl) (fun a hF => ?_)
    refine vc_y hF rfl rfl (by decide) _ (y_move rfl rfl) (fun a hF => ?_)
    refine vc_y hF rfl rfl (by decide) _ (y_assign rfl rfl) (fun a hF => ?_)
    refine vc_y hF rfl rfl (by decide) _ (y_assign rfl rfl) (fun a hF => ?_)
    refine vc_y hF rfl rfl (by decide) _ (y_assign rfl rfl) (fun a hF => ?_)
    refine vc_y hF rfl rfl (by decide) _ (y_assign rfl rfl) (fun a hF => ?_)
    refine vc_nil ?_
    refine hK6 _ _ ?_; clear  hK6 K6
    apply wp_ret
    simp only [Exit.then, Exit.inBlock]
    refine vc_ret4 hF Try.results60 rfl rfl rfl rfl ?_
    have hA10 : Hp w0 ([row rb 95 [.slice A l.length c, .int .i64 (((numR 1 (l.drop p)).pl p y : Nat) : Int), .int .i64 (((numR 1 (l.drop p)).why y : Nat) : Int)]] :: X :: R) w8 := Hp.sel [[row rb 95 [.slice A l.length c, .int .i64 (((numR 1 (l.drop p)).pl p y : Nat) : Int), .int .i64 (((numR 1 (l.drop p)).why y : Nat) : Int)]], X, [row b1 38 [.int .i64 o.kind, .int .i64 o.at_, .int .u64 (o.v.n : Int), .int .i64 o.many, .bool o.v.b, .slice o.dA o.v.ds.length o.dC, .slice o.qA o.ps.length o.qC, .slice o.pA o.v.p.length o.pC, strV o.v.s, .slice o.sA o.v.ss.length o.sC, .int .i64 o.most, .int .i64 o.each]]] R [0, 1] [2] hA9 rfl
    exact ⟨_, _, _, _, _, rfl, step_ok (G := numR 1) 0 (fun _ => by rw [hll]) (by rw [hll]) (fun _ _ h => num_len h) (fun _ h => num_no h) hp, hA10⟩
  · refine vc_falseB hF rfl (eql_f (by omega)) ?_
    apply wp_seq_k; intro K7 hK7
    refine wp_region_lit ?_
    refine vc_y hF rfl rfl (by decide) _ (y_cmp rfl rfl rfl rfl rfl) (fun a hF => ?_)
    refine vc_y hF rfl rfl (by decide) _ (y_assign rfl rfl) (fun a hF => ?_)
    refine vc_nil ?_
    refine hK7 _ _ ?_; clear  hK7 K7
    by_cases k2 : o.kind = 2
    · refine vc_trueB hF rfl (eql_t (by omega)) ?_
      have hvl : (numR 2 ll).val 0 0 = (numR 2 (l.drop p)).val 0 y := by rw [hll]; exact step_val (G := numR 2) (num_nil (by decide))
      have hvb := num_boundV 2 (l.drop p) y
      have hvl : (numR 2 ll).val 0 0 = (numR 2 (l.drop p)).val 0 y := by rw [hll]; exact step_val (G := numR 2) (num_nil (by decide))
      have hvb := num_boundV 2 (l.drop p) y
      apply wp_seq_k; intro K8 hK8
      refine wp_region_lit ?_
      refine vc_y hF rfl rfl (by decide) _ (y_move rfl rfl) (fun a hF => ?_)
      refine vc_op rfl (fun K hK => ws_call hF rfl (by decide) cl88_rd rfl rfl ?_)
      with_reducible refine (rt_number w0 _ _ LA ll LC 2 2 rfl (by decide) (hL.mono (subC (subC (subC (sub0))))) hA3 (by omega) ).mono ?_
      rintro e' w13 ⟨rfl, rfl⟩
      refine ⟨_, rfl, fun a hF => hK _ _ ?_⟩
      clear hK K
      rw [hvl] at hF
      refine vc_y hF rfl rfl (by decide) _ (y_move rfl rfl) (fun a hF => ?_)
      refine vc_y hF rfl rfl (by decide) _ (y_extract (v := .int .u64 (((numR 2 (l.drop p)).val 0 y : Nat) : Int)) rfl rfl rfl) (fun a hF => ?_)
      refine vc_y hF rfl rfl (by decide) _ (y_extract (v := .int .i64 (((numR 2 ll).pl 0 0 : Nat) : Int)) rfl rfl rfl) (fun a hF => ?_)
      refine vc_y hF rfl rfl (by decide) _ (y_extract (v := .int .i64 (((numR 2 ll).why 0 : Nat) : Int)) rfl rfl rfl) (fun a hF => ?_)
      refine vc_y hF rfl rfl (by decide) _ (y_assign rfl rfl) (fun a hF => ?_)
      refine vc_y hF rfl rfl (by decide) _ (y_assign rfl rfl) (fun a hF => ?_)
      refine vc_y hF rfl rfl (by decide) _ (y_assign rfl rfl) (fun a hF => ?_)
      refine vc_nil ?_
      refine hK8 _ _ ?_; clear  hK8 K8
      apply wp_seq_k; intro K9 hK9
      apply wp_seq_k; intro K10 hK10
      refine wp_region_lit ?_
      refine vc_y hF rfl rfl (by decide) _ (y_field rfl Try.underlying38 rfl sz4_rd (by decide) rfl (rfl : (⟨_, 0 + _, none⟩ : Addr) = ⟨_, 4, none⟩)) (fun a hF => ?_)
      refine vc_y hF rfl rfl (by decide) _ (y_ld rfl hA3.q rfl 0 rfl rfl nr4_rd) (fun a hF => ?_)
      refine vc_nil ?_
      refine hK10 _ _ ?_; clear  hK10 K10
      by_cases hb : o.v.b = true
      · refine vc_trueB hF rfl hb ?_
        apply wp_seq_k; intro K11 hK11
        refine wp_region_lit ?_
        refine vc_y hF rfl rfl (by decide) _ (y_move rfl rfl) (fun a hF => ?_)
        have hA14 : Hp w0 ([row rb 95 [.slice A l.length c, .int .i64 (p : Int), .int .i64 (y : Int)]] :: X :: [row b1 38 [.int .i64 o.kind, .int .i64 o.at_, .int .u64 (o.v.n : Int), .int .i64 o.many, .bool o.v.b, .slice o.dA o.v.ds.length o.dC, .slice o.qA o.ps.length o.qC, .slice o.pA o.v.p.length o.pC, strV o.v.s, .slice o.sA o.v.ss.length o.sC, .int .i64 o.most, .int .i64 o.each]] :: R) w2 := Hp.ord [[row b1 38 [.int .i64 o.kind, .int .i64 o.at_, .int .u64 (o.v.n : Int), .int .i64 o.many, .bool o.v.b, .slice o.dA o.v.ds.length o.dC, .slice o.qA o.ps.length o.qC, .slice o.pA o.v.p.length o.pC, strV o.v.s, .slice o.sA o.v.ss.length o.sC, .int .i64 o.most, .int .i64 o.each]], [row rb 95 [.slice A l.length c, .int .i64 (p : Int), .int .i64 (y : Int)]], X] R [1, 2, 0] hA3 rfl
        refine vc_op rfl (fun K hK => ws_call hF rfl (by decide) cl89_rd rfl rfl ?_)
        with_reducible refine (hr_take_Mine w0 _ _ rb A l c p y X hO hA14 hp hl ).mono ?_
        rintro e' w15 ⟨rfl, hA16⟩
        refine ⟨_, rfl, fun a hF => hK _ _ ?_⟩
        clear hK K
        replace hA16 : Hp w0 ([row rb 95 [.slice A l.length c, .int .i64 (((numR 2 (l.drop p)).pl p y : Nat) : Int), .int .i64 (((numR 2 (l.drop p)).why y : Nat) : Int)]] :: X :: [row b1 38 [.int .i64 o.kind, .int .i64 o.at_, .int .u64 (o.v.n : Int), .int .i64 o.many, .bool o.v.b, .slice o.dA o.v.ds.length o.dC, .slice o.qA o.ps.length o.qC, .slice o.pA o.v.p.length o.pC, strV o.v.s, .slice o.sA o.v.ss.length o.sC, .int .i64 o.most, .int .i64 o.each]] :: R) w15 := hA16
        refine vc_y hF rfl rfl (by decide) _ (y_conv rfl Try.underlying139 Try.underlying33 rfl (show IntKind.u64.wrap ((((numR 2 (l.drop p)).val 0 y : Nat) : Int)) = (((numR 2 (l.drop p)).val 0 y : Nat) : Int) by rw [IntKind.wrap_u64]; omega)) (fun a hF => ?_)
        refine vc_y hF rfl rfl (by decide) _ (y_move rfl rfl) (fun a hF => ?_)
        refine vc_y hF rfl rfl (by decide) _ (y_move rfl rfl) (fun a hF => ?_)
        refine vc_y hF rfl rfl (by decide) _ (y_move rfl rfl) (fun a hF => ?_)
        refine vc_y hF rfl rfl (by decide) _ (y_assign rfl rfl) (fun a hF => ?_)
        refine vc_y hF rfl rfl (by decide) _ (y_assign rfl rfl) (fun a hF => ?_)
        refine vc_y hF rfl rfl (by decide) _ (y_assign rfl rfl) (fun a hF => ?_)
        refine vc_y hF rfl rfl (by decide) _ (y_assign rfl rfl) (fun a hF => ?_)
        refine vc_nil ?_
        refine hK11 _ _ ?_; clear  hK11 K11
        apply wp_ret
        simp only [Exit.then, Exit.inBlock]
        refine vc_ret4 hF Try.results60 rfl rfl rfl rfl ?_
        have hA17 : Hp w0 ([row rb 95 [.slice A l.length c, .int .i64 (((numR 2 (l.drop p)).pl p y : Nat) : Int), .int .i64 (((numR 2 (l.drop p)).why y : Nat) : Int)]] :: X :: R) w15 := Hp.sel [[row rb 95 [.slice A l.length c, .int .i64 (((numR 2 (l.drop p)).pl p y : Nat) : Int), .int .i64 (((numR 2 (l.drop p)).why y : Nat) : Int)]], X, [row b1 38 [.int .i64 o.kind, .int .i64 o.at_, .int .u64 (o.v.n : Int), .int .i64 o.many, .bool o.v.b, .slice o.dA o.v.ds.length o.dC, .slice o.qA o.ps.length o.qC, .slice o.pA o.v.p.length o.pC, strV o.v.s, .slice o.sA o.v.ss.length o.sC, .int .i64 o.most, .int .i64 o.each]]] R [0, 1] [2] hA16 rfl
        exact ⟨_, _, _, _, _, rfl, step_ok (G := numR 2) 0 (fun _ => by rw [hll]) (by rw [hll]) (fun _ _ h => num_len h) (fun _ h => num_no h) hp, hA17⟩
      · replace hb : o.v.b = false := by simpa using hb
        refine vc_falseB hF rfl hb ?_
        apply wp_skip
        refine hK9 _ _ ?_; clear  hK9 K9
        apply wp_seq_k; intro K12 hK12
        refine wp_region_lit ?_
        refine vc_y hF rfl rfl (by decide) _ (y_move rfl rfl) (fun a hF => ?_)
        have hA18 : Hp w0 ([row rb 95 [.slice A l.length c, .int .i64 (p : Int), .int .i64 (y : Int)]] :: X :: [row b1 38 [.int .i64 o.kind, .int .i64 o.at_, .int .u64 (o.v.n : Int), .int .i64 o.many, .bool o.v.b, .slice o.dA o.v.ds.length o.dC, .slice o.qA o.ps.length o.qC, .slice o.pA o.v.p.length o.pC, strV o.v.s, .slice o.sA o.v.ss.length o.sC, .int .i64 o.most, .int .i64 o.each]] :: R) w2 := Hp.ord [[row b1 38 [.int .i64 o.kind, .int .i64 o.at_, .int .u64 (o.v.n : Int), .int .i64 o.many, .bool o.v.b, .slice o.dA o.v.ds.length o.dC, .slice o.qA o.ps.length o.qC, .slice o.pA o.v.p.length o.pC, strV o.v.s, .slice o.sA o.v.ss.length o.sC, .int .i64 o.most, .int .i64 o.each]], [row rb 95 [.slice A l.length c, .int .i64 (p : Int), .int .i64 (y : Int)]], X] R [1, 2, 0] hA3 rfl
        refine vc_op rfl (fun K hK => ws_call hF rfl (by decide) cl27_rd rfl rfl ?_)
        with_reducible refine (hr_take_uint16 w0 _ _ rb A l c p y X hO hA18 hp hl ).mono ?_
        rintro e' w19 ⟨rfl, hA20⟩
        refine ⟨_, rfl, fun a hF => hK _ _ ?_⟩
        clear hK K
        replace hA20 : Hp w0 ([row rb 95 [.slice A l.length c, .int .i64 (((numR 2 (l.drop p)).pl p y : Nat) : Int), .int .i64 (((numR 2 (l.drop p)).why y : Nat) : Int)]] :: X :: [row b1 38 [.int .i64 o.kind, .int .i64 o.at_, .int .u64 (o.v.n : Int), .int .i64 o.many, .bool o.v.b, .slice o.dA o.v.ds.length o.dC, .slice o.qA o.ps.length o.qC, .slice o.pA o.v.p.length o.pC, strV o.v.s, .slice o.sA o.v.ss.length o.sC, .int .i64 o.most, .int .i64 o.each]] :: R) w19 := hA20
        refine vc_y hF rfl rfl (by decide) _ (y_conv rfl Try.underlying51 Try.underlying33 rfl (show IntKind.u64.wrap ((((numR 2 (l.drop p)).val 0 y : Nat) : Int)) = (((numR 2 (l.drop p)).val 0 y : Nat) : Int) by rw [IntKind.wrap_u64]; omega)) (fun a hF => ?_)
        refine vc_y hF rfl rfl (by decide) _ (y_move rfl rfl) (fun a hF => ?_)
        refine vc_y hF rfl rfl (by decide) _ (y_move rfl rfl) (fun a hF => ?_)
        refine vc_y hF rfl rfl (by decide) _ (y_move rfl rfl) (fun a hF => ?_)
        refine vc_y hF rfl rfl (by decide) _ (y_assign rfl rfl) (fun a hF => ?_)
        refine vc_y hF rfl rfl (by decide) _ (y_assign rfl rfl) (fun a hF => ?_)
        refine vc_y hF rfl rfl (by decide) _ (y_assign rfl rfl) (fun a hF => ?_)
        refine vc_y hF rfl rfl (by decide) _ (y_assign rfl rfl) (fun a hF => ?_)
        refine vc_nil ?_
        refine hK12 _ _ ?_; clear  hK12 K12
        apply wp_ret
        simp only [Exit.then, Exit.inBlock]
        refine vc_ret4 hF Try.results60 rfl rfl rfl rfl ?_
        have hA21 : Hp w0 ([row rb 95 [.slice A l.length c, .int .i64 (((numR 2 (l.drop p)).pl p y : Nat) : Int), .int .i64 (((numR 2 (l.drop p)).why y : Nat) : Int)]] :: X :: R) w19 := Hp.sel [[row rb 95 [.slice A l.length c, .int .i64 (((numR 2 (l.drop p)).pl p y : Nat) : Int), .int .i64 (((numR 2 (l.drop p)).why y : Nat) : Int)]], X, [row b1 38 [.int .i64 o.kind, .int .i64 o.at_, .int .u64 (o.v.n : Int), .int .i64 o.many, .bool o.v.b, .slice o.dA o.v.ds.length o.dC, .slice o.qA o.ps.length o.qC, .slice o.pA o.v.p.length o.pC, strV o.v.s, .slice o.sA o.v.ss.length o.sC, .int .i64 o.most, .int .i64 o.each]]] R [0, 1] [2] hA20 rfl
        exact ⟨_, _, _, _, _, rfl, step_ok (G := numR 2) 0 (fun _ => by rw [hll]) (by rw [hll]) (fun _ _ h => num_len h) (fun _ h => num_no h) hp, hA21⟩
    · refine vc_falseB hF rfl (eql_f (by omega)) ?_
      apply wp_seq_k; intro K13 hK13
      refine wp_region_lit ?_
      refine vc_y hF rfl rfl (by decide) _ (y_cmp rfl rfl rfl rfl rfl) (fun a hF => ?_)
      refine vc_y hF rfl rfl (by decide) _ (y_assign rfl rfl) (fun a hF => ?_)
      refine vc_nil ?_
      refine hK13 _ _ ?_; clear  hK13 K13
      by_cases k3 : o.kind = 3
      · refine vc_trueB hF rfl (eql_t (by omega)) ?_
        have hvl : (numR 4 ll).val 0 0 = (numR 4 (l.drop p)).val 0 y := by rw [hll]; exact step_val (G := numR 4) (num_nil (by decide))
        have hvb := num_boundV 4 (l.drop p) y
        apply wp_seq_k; intro K14 hK14
        refine wp_region_lit ?_
        refine vc_y hF rfl rfl (by decide) _ (y_move rfl rfl) (fun a hF => ?_)
        refine vc_op rfl (fun K hK => ws_call hF rfl (by decide) cl88_rd rfl rfl ?_)
        with_reducible refine (rt_number w0 _ _ LA ll LC 4 4 rfl (by decide) (hL.mono (subC (subC (subC (sub0))))) hA3 (by omega) ).mono ?_
        rintro e' w24 ⟨rfl, rfl⟩
        refine ⟨_, rfl, fun a hF => hK _ _ ?_⟩
        clear hK K
        rw [hvl] at hF
        refine vc_y hF rfl rfl (by decide) _ (y_move rfl rfl) (fun a hF => ?_)
        refine vc_y hF rfl rfl (by decide) _ (y_extract (v := .int .u64 (((numR 4 (l.drop p)).val 0 y : Nat) : Int)) rfl rfl rfl) (fun a hF => ?_)
        refine vc_y hF rfl rfl (by decide) _ (y_extract (v := .int .i64 (((numR 4 ll).pl 0 0 : Nat) : Int)) rfl rfl rfl) (fun a hF => ?_)
        refine vc_y hF rfl rfl (by decide) _ (y_extract (v := .int .i64 (((numR 4 ll).why 0 : Nat) : Int)) rfl rfl rfl) (fun a hF => ?_)
        refine vc_y hF rfl rfl (by decide) _ (y_assign rfl rfl) (fun a hF => ?_)
        refine vc_y hF rfl rfl (by decide) _ (y_assign rfl rfl) (fun a hF => ?_)
        refine vc_y hF rfl rfl (by decide) _ (y_assign rfl rfl) (fun a hF => ?_)
        refine vc_nil ?_
        refine hK14 _ _ ?_; clear  hK14 K14
        apply wp_seq_k; intro K15 hK15
        refine wp_region_lit ?_
        refine vc_y hF rfl rfl (by decide) _ (y_move rfl rfl) (fun a hF => ?_)
        have hA25 : Hp w0 ([row rb 95 [.slice A l.length c, .int .i64 (p : Int), .int .i64 (y : Int)]] :: X :: [row b1 38 [.int .i64 o.kind, .int .i64 o.at_, .int .u64 (o.v.n : Int), .int .i64 o.many, .bool o.v.b, .slice o.dA o.v.ds.length o.dC, .slice o.qA o.ps.length o.qC, .slice o.pA o.v.p.length o.pC, strV o.v.s, .slice o.sA o.v.ss.length o.sC, .int .i64 o.most, .int .i64 o.each]] :: R) w2 := Hp.ord [[row b1 38 [.int .i64 o.kind, .int .i64 o.at_, .int .u64 (o.v.n : Int), .int .i64 o.many, .bool o.v.b, .slice o.dA o.v.ds.length o.dC, .slice o.qA o.ps.length o.qC, .slice o.pA o.v.p.length o.pC, strV o.v.s, .slice o.sA o.v.ss.length o.sC, .int .i64 o.most, .int .i64 o.each]], [row rb 95 [.slice A l.length c, .int .i64 (p : Int), .int .i64 (y : Int)]], X] R [1, 2, 0] hA3 rfl
        refine vc_op rfl (fun K hK => ws_call hF rfl (by decide) cl73_rd rfl rfl ?_)
        with_reducible refine (hr_take_uint32 w0 _ _ rb A l c p y X hO hA25 hp hl ).mono ?_
        rintro e' w26 ⟨rfl, hA27⟩
        refine ⟨_, rfl, fun a hF => hK _ _ ?_⟩
        clear hK K
        replace hA27 : Hp w0 ([row rb 95 [.slice A l.length c, .int .i64 (((numR 4 (l.drop p)).pl p y : Nat) : Int), .int .i64 (((numR 4 (l.drop p)).why y : Nat) : Int)]] :: X :: [row b1 38 [.int .i64 o.kind, .int .i64 o.at_, .int .u64 (o.v.n : Int), .int .i64 o.many, .bool o.v.b, .slice o.dA o.v.ds.length o.dC, .slice o.qA o.ps.length o.qC, .slice o.pA o.v.p.length o.pC, strV o.v.s, .slice o.sA o.v.ss.length o.sC, .int .i64 o.most, .int .i64 o.each]] :: R) w26 := hA27
        refine vc_y hF rfl rfl (by decide) _ (y_conv rfl Try.underlying114 Try.underlying33 rfl (show IntKind.u64.wrap ((((numR 4 (l.drop p)).val 0 y : Nat) : Int)) = (((numR 4 (l.drop p)).val 0 y : Nat) : Int) by rw [IntKind.wrap_u64]; omega)) (fun a hF => ?_)
        refine vc_y hF rfl rfl (by decide) _ (y_move rfl rfl) (fun a hF => ?_)
        refine vc_y hF rfl rfl (by decide) _ (y_move rfl rfl) (fun a hF => ?_)
        refine vc_y hF rfl rfl (by decide) _ (y_move rfl rfl) (fun a hF => ?_)
        refine vc_y hF rfl rfl (by decide) _ (y_assign rfl rfl) (fun a hF => ?_)
        refine vc_y hF rfl rfl (by decide) _ (y_assign rfl rfl) (fun a hF => ?_)
        refine vc_y hF rfl rfl (by decide) _ (y_assign rfl rfl) (fun a hF => ?_)
        refine vc_y hF rfl rfl (by decide) _ (y_assign rfl rfl) (fun a hF => ?_)
        refine vc_nil ?_
        refine hK15 _ _ ?_; clear  hK15 K15
        apply wp_ret
        simp only [Exit.then, Exit.inBlock]
        refine vc_ret4 hF Try.results60 rfl rfl rfl rfl ?_
        have hA28 : Hp w0 ([row rb 95 [.slice A l.length c, .int .i64 (((numR 4 (l.drop p)).pl p y : Nat) : Int), .int .i64 (((numR 4 (l.drop p)).why y : Nat) : Int)]] :: X :: R) w26 := Hp.sel [[row rb 95 [.slice A l.length c, .int .i64 (((numR 4 (l.drop p)).pl p y : Nat) : Int), .int .i64 (((numR 4 (l.drop p)).why y : Nat) : Int)]], X, [row b1 38 [.int .i64 o.kind, .int .i64 o.at_, .int .u64 (o.v.n : Int), .int .i64 o.many, .bool o.v.b, .slice o.dA o.v.ds.length o.dC, .slice o.qA o.ps.length o.qC, .slice o.pA o.v.p.length o.pC, strV o.v.s, .slice o.sA o.v.ss.length o.sC, .int .i64 o.most, .int .i64 o.each]]] R [0, 1] [2] hA27 rfl
        exact ⟨_, _, _, _, _, rfl, step_ok (G := numR 4) 0 (fun _ => by rw [hll]) (by rw [hll]) (fun _ _ h => num_len h) (fun _ h => num_no h) hp, hA28⟩
      · refine vc_falseB hF rfl (eql_f (by omega)) ?_
        apply wp_seq_k; intro K16 hK16
        refine wp_region_lit ?_
        refine vc_y hF rfl rfl (by decide) _ (y_cmp rfl rfl rfl rfl rfl) (fun a hF => ?_)
        refine vc_y hF rfl rfl (by decide) _ (y_assign rfl rfl) (fun a hF => ?_)
        refine vc_nil ?_
        refine hK16 _ _ ?_; clear  hK16 K16
        by_cases k4 : o.kind = 4
        · refine vc_trueB hF rfl (eql_t (by omega)) ?_
          have hvl : (numR 8 ll).val 0 0 = (numR 8 (l.drop p)).val 0 y := by rw [hll]; exact step_val (G := numR 8) (num_nil (by decide))
          have hvb := num_boundV 8 (l.drop p) y
          apply wp_seq_k; intro K17 hK17
          refine wp_region_lit ?_
          refine vc_y hF rfl rfl (by decide) _ (y_move rfl rfl) (fun a hF => ?_)
          refine vc_op rfl (fun K hK => ws_call hF rfl (by decide) cl88_rd rfl rfl ?_)
          with_reducible refine (rt_number w0 _ _ LA ll LC 8 8 rfl (by decide) (hL.mono (subC (subC (subC (sub0))))) hA3 (by omega) ).mono ?_
          rintro e' w31 ⟨rfl, rfl⟩
          refine ⟨_, rfl, fun a hF => hK _ _ ?_⟩
          clear hK K
          rw [hvl] at hF
          refine vc_y hF rfl rfl (by decide) _ (y_move rfl rfl) (fun a hF => ?_)
          refine vc_y hF rfl rfl (by decide) _ (y_extract (v := .int .u64 (((numR 8 (l.drop p)).val 0 y : Nat) : Int)) rfl rfl rfl) (fun a hF => ?_)
          refine vc_y hF rfl rfl (by decide) _ (y_extract (v := .int .i64 (((numR 8 ll).pl 0 0 : Nat) : Int)) rfl rfl rfl) (fun a hF => ?_)
          refine vc_y hF rfl rfl (by decide) _ (y_extract (v := .int .i64 (((numR 8 ll).why 0 : Nat) : Int)) rfl rfl rfl) (fun a hF => ?_)
          refine vc_y hF rfl rfl (by decide) _ (y_assign rfl rfl) (fun a hF => ?_)
          refine vc_y hF rfl rfl (by decide) _ (y_assign rfl rfl) (fun a hF => ?_)
          refine vc_y hF rfl rfl (by decide) _ (y_assign rfl rfl) (fun a hF => ?_)
          refine vc_nil ?_
          refine hK17 _ _ ?_; clear  hK17 K17
          apply wp_seq_k; intro K18 hK18
          refine wp_region_lit ?_
          refine vc_y hF rfl rfl (by decide) _ (y_move rfl rfl) (fun a hF => ?_)
          have hA32 : Hp w0 ([row rb 95 [.slice A l.length c, .int .i64 (p : Int), .int .i64 (y : Int)]] :: X :: [row b1 38 [.int .i64 o.kind, .int .i64 o.at_, .int .u64 (o.v.n : Int), .int .i64 o.many, .bool o.v.b, .slice o.dA o.v.ds.length o.dC, .slice o.qA o.ps.length o.qC, .slice o.pA o.v.p.length o.pC, strV o.v.s, .slice o.sA o.v.ss.length o.sC, .int .i64 o.most, .int .i64 o.each]] :: R) w2 := Hp.ord [[row b1 38 [.int .i64 o.kind, .int .i64 o.at_, .int .u64 (o.v.n : Int), .int .i64 o.many, .bool o.v.b, .slice o.dA o.v.ds.length o.dC, .slice o.qA o.ps.length o.qC, .slice o.pA o.v.p.length o.pC, strV o.v.s, .slice o.sA o.v.ss.length o.sC, .int .i64 o.most, .int .i64 o.each]], [row rb 95 [.slice A l.length c, .int .i64 (p : Int), .int .i64 (y : Int)]], X] R [1, 2, 0] hA3 rfl
          refine vc_op rfl (fun K hK => ws_call hF rfl (by decide) cl20_rd rfl rfl ?_)
          with_reducible refine (hr_take_uint64 w0 _ _ rb A l c p y X hO hA32 hp hl ).mono ?_
          rintro e' w33 ⟨rfl, hA34⟩
          refine ⟨_, rfl, fun a hF => hK _ _ ?_⟩
          clear hK K
          replace hA34 : Hp w0 ([row rb 95 [.slice A l.length c, .int .i64 (((numR 8 (l.drop p)).pl p y : Nat) : Int), .int .i64 (((numR 8 (l.drop p)).why y : Nat) : Int)]] :: X :: [row b1 38 [.int .i64 o.kind, .int .i64 o.at_, .int .u64 (o.v.n : Int), .int .i64 o.many, .bool o.v.b, .slice o.dA o.v.ds.length o.dC, .slice o.qA o.ps.length o.qC, .slice o.pA o.v.p.length o.pC, strV o.v.s, .slice o.sA o.v.ss.length o.sC, .int .i64 o.most, .int .i64 o.each]] :: R) w33 := hA34
          refine vc_y hF rfl rfl (by decide) _ (y_move rfl rfl) (fun a hF => ?_)
          refine vc_y hF rfl rfl (by decide) _ (y_move rfl rfl) (fun a hF => ?_)
          refine vc_y hF rfl rfl (by decide) _ (y_move rfl rfl) (fun a hF => ?_)
          refine vc_y hF rfl rfl (by decide) _ (y_assign rfl rfl) (fun a hF => ?_)
          refine vc_y hF rfl rfl (by decide) _ (y_assign rfl rfl) (fun a hF => ?_)
          refine vc_y hF rfl rfl (by decide) _ (y_assign rfl rfl) (fun a hF => ?_)
          refine vc_y hF rfl rfl (by decide) _ (y_assign rfl rfl) (fun a hF => ?_)
          refine vc_nil ?_
          refine hK18 _ _ ?_; clear  hK18 K18
          apply wp_ret
          simp only [Exit.then, Exit.inBlock]
          refine vc_ret4 hF Try.results60 rfl rfl rfl rfl ?_
          have hA35 : Hp w0 ([row rb 95 [.slice A l.length c, .int .i64 (((numR 8 (l.drop p)).pl p y : Nat) : Int), .int .i64 (((numR 8 (l.drop p)).why y : Nat) : Int)]] :: X :: R) w33 := Hp.sel [[row rb 95 [.slice A l.length c, .int .i64 (((numR 8 (l.drop p)).pl p y : Nat) : Int), .int .i64 (((numR 8 (l.drop p)).why y : Nat) : Int)]], X, [row b1 38 [.int .i64 o.kind, .int .i64 o.at_, .int .u64 (o.v.n : Int), .int .i64 o.many, .bool o.v.b, .slice o.dA o.v.ds.length o.dC, .slice o.qA o.ps.length o.qC, .slice o.pA o.v.p.length o.pC, strV o.v.s, .slice o.sA o.v.ss.length o.sC, .int .i64 o.most, .int .i64 o.each]]] R [0, 1] [2] hA34 rfl
          exact ⟨_, _, _, _, _, rfl, step_ok (G := numR 8) 0 (fun _ => by rw [hll]) (by rw [hll]) (fun _ _ h => num_len h) (fun _ h => num_no h) hp, hA35⟩
        · refine vc_falseB hF rfl (eql_f (by omega)) ?_
          have hvl : (flagR ll).val false 0 = (flagR (l.drop p)).val false y := by rw [hll]; exact step_val (G := flagR) rfl
          apply wp_skip
          refine hK2 _ _ ?_; clear  hK2 K2
          apply wp_seq_k; intro K19 hK19
          refine wp_region_lit ?_
          refine vc_y hF rfl rfl (by decide) _ (y_move rfl rfl) (fun a hF => ?_)
          refine vc_op rfl (fun K hK => ws_call hF rfl (by decide) cl90_rd rfl rfl ?_)
          with_reducible refine (rt_flag w0 _ _ LA ll LC (hL.mono (subC (subC (subC (sub0))))) hA3 ).mono ?_
          rintro e' w38 ⟨rfl, rfl⟩
          refine ⟨_, rfl, fun a hF => hK _ _ ?_⟩
          clear hK K
          rw [hvl] at hF
          refine vc_y hF rfl rfl (by decide) _ (y_move rfl rfl) (fun a hF => ?_)
          refine vc_y hF rfl rfl (by decide) _ (y_extract (v := .bool ((flagR (l.drop p)).val false y)) rfl rfl rfl) (fun a hF => ?_)
          refine vc_y hF rfl rfl (by decide) _ (y_extract (v := .int .i64 (((flagR ll).pl 0 0 : Nat) : Int)) rfl rfl rfl) (fun a hF => ?_)
          refine vc_y hF rfl rfl (by decide) _ (y_extract (v := .int .i64 (((flagR ll).why 0 : Nat) : Int)) rfl rfl rfl) (fun a hF => ?_)
          refine vc_y hF rfl rfl (by decide) _ (y_assign rfl rfl) (fun a hF => ?_)
          refine vc_y hF rfl rfl (by decide) _ (y_assign rfl rfl) (fun a hF => ?_)
          refine vc_y hF rfl rfl (by decide) _ (y_assign rfl rfl) (fun a hF => ?_)
          refine vc_nil ?_
          refine hK19 _ _ ?_; clear  hK19 K19
          apply wp_seq_k; intro K20 hK20
          refine wp_region_lit ?_
          refine vc_y hF rfl rfl (by decide) _ (y_assign rfl rfl) (fun a hF => ?_)
          refine vc_nil ?_
          refine hK20 _ _ ?_; clear  hK20 K20
          apply wp_seq_k; intro K21 hK21
          apply wp_seq_k; intro K22 hK22
          refine wp_region_lit ?_
          refine vc_y hF rfl rfl (by decide) _ (y_move rfl rfl) (fun a hF => ?_)
          refine vc_nil ?_
          refine hK22 _ _ ?_; clear  hK22 K22
          by_cases hb : (flagR (l.drop p)).val false y = true
          · refine vc_trueB hF rfl hb ?_
            refine wp_region_lit ?_
            refine vc_y hF rfl rfl (by decide) _ (y_assign rfl rfl) (fun a hF => ?_)
            refine vc_nil ?_
            refine hK21 _ _ ?_; clear  hK21 K21
            apply wp_seq_k; intro K23 hK23
            refine wp_region_lit ?_
            refine vc_y hF rfl rfl (by decide) _ (y_assign rfl rfl) (fun a hF => ?_)
            refine vc_nil ?_
            refine hK23 _ _ ?_; clear  hK23 K23
            apply wp_seq_k; intro K24 hK24
            apply wp_seq_k; intro K25 hK25
            refine wp_region_lit ?_
            refine vc_y hF rfl rfl (by decide) _ (y_move rfl rfl) (fun a hF => ?_)
            have hA39 : Hp w0 ([row rb 95 [.slice A l.length c, .int .i64 (p : Int), .int .i64 (y : Int)]] :: X :: [row b1 38 [.int .i64 o.kind, .int .i64 o.at_, .int .u64 (o.v.n : Int), .int .i64 o.many, .bool o.v.b, .slice o.dA o.v.ds.length o.dC, .slice o.qA o.ps.length o.qC, .slice o.pA o.v.p.length o.pC, strV o.v.s, .slice o.sA o.v.ss.length o.sC, .int .i64 o.most, .int .i64 o.each]] :: R) w2 := Hp.ord [[row b1 38 [.int .i64 o.kind, .int .i64 o.at_, .int .u64 (o.v.n : Int), .int .i64 o.many, .bool o.v.b, .slice o.dA o.v.ds.length o.dC, .slice o.qA o.ps.length o.qC, .slice o.pA o.v.p.length o.pC, strV o.v.s, .slice o.sA o.v.ss.length o.sC, .int .i64 o.most, .int .i64 o.each]], [row rb 95 [.slice A l.length c, .int .i64 (p : Int), .int .i64 (y : Int)]], X] R [1, 2, 0] hA3 rfl
            refine vc_op rfl (fun K hK => ws_call hF rfl (by decide) cl28_rd rfl rfl ?_)
            with_reducible refine (hr_flag w0 _ _ rb A l c p y X hO hA39 hp hl ).mono ?_
            rintro e' w40 ⟨rfl, hA41⟩
            refine ⟨_, rfl, fun a hF => hK _ _ ?_⟩
            clear hK K
            replace hA41 : Hp w0 ([row rb 95 [.slice A l.length c, .int .i64 (((flagR (l.drop p)).pl p y : Nat) : Int), .int .i64 (((flagR (l.drop p)).why y : Nat) : Int)]] :: X :: [row b1 38 [.int .i64 o.kind, .int .i64 o.at_, .int .u64 (o.v.n : Int), .int .i64 o.many, .bool o.v.b, .slice o.dA o.v.ds.length o.dC, .slice o.qA o.ps.length o.qC, .slice o.pA o.v.p.length o.pC, strV o.v.s, .slice o.sA o.v.ss.length o.sC, .int .i64 o.most, .int .i64 o.each]] :: R) w40 := hA41
            refine vc_nil ?_
            refine hK25 _ _ ?_; clear  hK25 K25
            refine vc_trueB hF rfl hb ?_
            refine wp_region_lit ?_
            refine vc_y hF rfl rfl (by decide) _ (y_assign rfl rfl) (fun a hF => ?_)
            refine vc_nil ?_
            refine hK24 _ _ ?_; clear  hK24 K24
            apply wp_seq_k; intro K26 hK26
            refine wp_region_lit ?_
            refine vc_y hF rfl rfl (by decide) _ (y_move rfl rfl) (fun a hF => ?_)
            refine vc_y hF rfl rfl (by decide) _ (y_move rfl rfl) (fun a hF => ?_)
            refine vc_y hF rfl rfl (by decide) _ (y_move rfl rfl) (fun a hF => ?_)
            refine vc_y hF rfl rfl (by decide) _ (y_move rfl rfl) (fun a hF => ?_)
            refine vc_y hF rfl rfl (by decide) _ (y_assign rfl rfl) (fun a hF => ?_)
            refine vc_y hF rfl rfl (by decide) _ (y_assign rfl rfl) (fun a hF => ?_)
            refine vc_y hF rfl rfl (by decide) _ (y_assign rfl rfl) (fun a hF => ?_)
            refine vc_y hF rfl rfl (by decide) _ (y_assign rfl rfl) (fun a hF => ?_)
            refine vc_nil ?_
            refine hK26 _ _ ?_; clear  hK26 K26
            apply wp_ret
            refine vc_ret4 hF Try.results60 rfl rfl rfl rfl ?_
            have hA42 : Hp w0 ([row rb 95 [.slice A l.length c, .int .i64 (((flagR (l.drop p)).pl p y : Nat) : Int), .int .i64 (((flagR (l.drop p)).why y : Nat) : Int)]] :: X :: R) w40 := Hp.sel [[row rb 95 [.slice A l.length c, .int .i64 (((flagR (l.drop p)).pl p y : Nat) : Int), .int .i64 (((flagR (l.drop p)).why y : Nat) : Int)]], X, [row b1 38 [.int .i64 o.kind, .int .i64 o.at_, .int .u64 (o.v.n : Int), .int .i64 o.many, .bool o.v.b, .slice o.dA o.v.ds.length o.dC, .slice o.qA o.ps.length o.qC, .slice o.pA o.v.p.length o.pC, strV o.v.s, .slice o.sA o.v.ss.length o.sC, .int .i64 o.most, .int .i64 o.each]]] R [0, 1] [2] hA41 rfl
            exact ⟨_, _, _, _, _, rfl, step_ok (G := flagR) false (fun _ => by rw [hll]) (by rw [hll]) (fun _ _ h => flag_len h) (fun _ h => flag_no h) hp, hA42⟩
          · replace hb : (flagR (l.drop p)).val false y = false := by simpa using hb
            refine vc_falseB hF rfl hb ?_
            apply wp_skip
            refine hK21 _ _ ?_; clear  hK21 K21
            apply wp_seq_k; intro K27 hK27
            refine wp_region_lit ?_
            refine vc_y hF rfl rfl (by decide) _ (y_assign rfl rfl) (fun a hF => ?_)
            refine vc_nil ?_
            refine hK27 _ _ ?_; clear  hK27 K27
            apply wp_seq_k; intro K28 hK28
            apply wp_seq_k; intro K29 hK29
            refine wp_region_lit ?_
            refine vc_y hF rfl rfl (by decide) _ (y_move rfl rfl) (fun a hF => ?_)
            have hA43 : Hp w0 ([row rb 95 [.slice A l.length c, .int .i64 (p : Int), .int .i64 (y : Int)]] :: X :: [row b1 38 [.int .i64 o.kind, .int .i64 o.at_, .int .u64 (o.v.n : Int), .int .i64 o.many, .bool o.v.b, .slice o.dA o.v.ds.length o.dC, .slice o.qA o.ps.length o.qC, .slice o.pA o.v.p.length o.pC, strV o.v.s, .slice o.sA o.v.ss.length o.sC, .int .i64 o.most, .int .i64 o.each]] :: R) w2 := Hp.ord [[row b1 38 [.int .i64 o.kind, .int .i64 o.at_, .int .u64 (o.v.n : Int), .int .i64 o.many, .bool o.v.b, .slice o.dA o.v.ds.length o.dC, .slice o.qA o.ps.length o.qC, .slice o.pA o.v.p.length o.pC, strV o.v.s, .slice o.sA o.v.ss.length o.sC, .int .i64 o.most, .int .i64 o.each]], [row rb 95 [.slice A l.length c, .int .i64 (p : Int), .int .i64 (y : Int)]], X] R [1, 2, 0] hA3 rfl
            refine vc_op rfl (fun K hK => ws_call hF rfl (by decide) cl28_rd rfl rfl ?_)
            with_reducible refine (hr_flag w0 _ _ rb A l c p y X hO hA43 hp hl ).mono ?_
            rintro e' w44 ⟨rfl, hA45⟩
            refine ⟨_, rfl, fun a hF => hK _ _ ?_⟩
            clear hK K
            replace hA45 : Hp w0 ([row rb 95 [.slice A l.length c, .int .i64 (((flagR (l.drop p)).pl p y : Nat) : Int), .int .i64 (((flagR (l.drop p)).why y : Nat) : Int)]] :: X :: [row b1 38 [.int .i64 o.kind, .int .i64 o.at_, .int .u64 (o.v.n : Int), .int .i64 o.many, .bool o.v.b, .slice o.dA o.v.ds.length o.dC, .slice o.qA o.ps.length o.qC, .slice o.pA o.v.p.length o.pC, strV o.v.s, .slice o.sA o.v.ss.length o.sC, .int .i64 o.most, .int .i64 o.each]] :: R) w44 := hA45
            refine vc_nil ?_
            refine hK29 _ _ ?_; clear  hK29 K29
            refine vc_falseB hF rfl hb ?_
            apply wp_skip
            refine hK28 _ _ ?_; clear  hK28 K28
            apply wp_seq_k; intro K30 hK30
            refine wp_region_lit ?_
            refine vc_y hF rfl rfl (by decide) _ (y_move rfl rfl) (fun a hF => ?_)
            refine vc_y hF rfl rfl (by decide) _ (y_move rfl rfl) (fun a hF => ?_)
            refine vc_y hF rfl rfl (by decide) _ (y_move rfl rfl) (fun a hF => ?_)
            refine vc_y hF rfl rfl (by decide) _ (y_move rfl rfl) (fun a hF => ?_)
            refine vc_y hF rfl rfl (by decide) _ (y_assign rfl rfl) (fun a hF => ?_)
            refine vc_y hF rfl rfl (by decide) _ (y_assign rfl rfl) (fun a hF => ?_)
            refine vc_y hF rfl rfl (by decide) _ (y_assign rfl rfl) (fun a hF => ?_)
            refine vc_y hF rfl rfl (by decide) _ (y_assign rfl rfl) (fun a hF => ?_)
            refine vc_nil ?_
            refine hK30 _ _ ?_; clear  hK30 K30
            apply wp_ret
            refine vc_ret4 hF Try.results60 rfl rfl rfl rfl ?_
            have hA46 : Hp w0 ([row rb 95 [.slice A l.length c, .int .i64 (((flagR (l.drop p)).pl p y : Nat) : Int), .int .i64 (((flagR (l.drop p)).why y : Nat) : Int)]] :: X :: R) w44 := Hp.sel [[row rb 95 [.slice A l.length c, .int .i64 (((flagR (l.drop p)).pl p y : Nat) : Int), .int .i64 (((flagR (l.drop p)).why y : Nat) : Int)]], X, [row b1 38 [.int .i64 o.kind, .int .i64 o.at_, .int .u64 (o.v.n : Int), .int .i64 o.many, .bool o.v.b, .slice o.dA o.v.ds.length o.dC, .slice o.qA o.ps.length o.qC, .slice o.pA o.v.p.length o.pC, strV o.v.s, .slice o.sA o.v.ss.length o.sC, .int .i64 o.most, .int .i64 o.each]]] R [0, 1] [2] hA45 rfl
            exact ⟨_, _, _, _, _, rfl, step_ok (G := flagR) false (fun _ => by rw [hll]) (by rw [hll]) (fun _ _ h => flag_len h) (fun _ h => flag_no h) hp, hA46⟩

theorem strB_eql_t (l : List UInt8) : strB .eql l l = true := by unfold strB; exact beq_self_eq_true l
/-- the shelf's row and its three books -/
def ShB (sb : Nat) (bv rv : Value) (Y : Seg) : Prop := ∃ (lb wb lt wt ld wd : Value) (hb ht hd : Int) (kb : List (KeptX UInt8)) (kt kd : List (KeptX (List UInt8))) (YB YT YD : Seg), BookV cB 35 5 1 kb lb wb YB ∧ BookV cS 36 9 1 kt lt wt YT ∧ BookV dc 34 74 32 kd ld wd YD ∧ Y = row sb 68 [bv, rv, lb, wb, .int .i64 hb, .bool false, lt, wt, .int .i64 ht, .bool false, ld, wd, .int .i64 hd, .bool false] :: (YB ++ (YT ++ YD))
theorem digests_32 (r : List UInt8) (n : Int) (y : Nat) : (∀ d ∈ (digestsR r n).val [] y, d.length = 32) ∧ ((digestsR r n).val [] y).length ≤ r.length := by
  unfold Res.val digestsR
  split
  · split
    · rename_i h5; split at h5
      · cases h5
      · rename_i h6
        injection h5 with h5
        subst h5
        exact ⟨fun d hd => chunks_32 hd (by omega), by rw [chunks_length]; omega⟩
    · exact ⟨(fun d hd => by cases hd), Nat.zero_le _⟩
  · exact ⟨(fun d hd => by cases hd), Nat.zero_le _⟩
theorem textsGo_len (each : Int) (k : Nat) (acc : List (List UInt8)) (at_ : Nat) (r : List UInt8) {ss : List (List UInt8)} {j : Nat} (h : textsGo each k acc at_ r = .ok ss j) : ss.length = acc.length + k := by
  induction k generalizing acc at_ r with
  | zero => rw [textsGo] at h; injection h with h _; rw [← h]; rfl
  | succ k ih =>
    rw [textsGo] at h
    split at h
    · cases h
    · split at h
      · cases h
      · have := ih _ _ _ h
        rw [this, List.length_append, List.length_cons, List.length_nil]; omega
theorem texts_small (r : List UInt8) (most each : Int) (y : Nat) : ((textsR r most each).val [] y).length ≤ 65535 := by
  unfold Res.val textsR
  split
  · split
    · rename_i h5; split at h5
      · cases h5
      · split at h5
        · cases h5
        · have h6 := textsGo_len _ _ _ _ _ h5
          have h7 := num_two r
          rw [h6, List.length_nil]; omega
    · exact Nat.zero_le _
  · exact Nat.zero_le _
theorem sized_small (K e : Nat) (r : List UInt8) (b : Int) (y : Nat) : ((sizedR K e r b).val [] y).length ≤ r.length := by
  unfold Res.val
  split
  · split
    · rename_i h5
      have := sized_le h5; omega
    · exact Nat.zero_le _
  · exact Nat.zero_le _
theorem raw_small (r : List UInt8) (n : Int) (y : Nat) : ((rawR r n).val [] y).length ≤ r.length := by
  unfold Res.val rawR
  split
  · split
    · rename_i h5; split at h5
      · cases h5
      · injection h5 with h5; rw [← h5, List.length_take]; omega
    · exact Nat.zero_le _
  · exact Nat.zero_le _
theorem digests_small (r : List UInt8) (n : Int) (y : Nat) : 32 * ((digestsR r n).val [] y).length ≤ r.length := by
  unfold Res.val
  split
  · cases h : digestsR r n with
    | no e => simp
    | ok v k =>
      unfold digestsR at h
      split at h
      · cases h
      · injection h with h1 h2
        subst h1
        rw [chunks_length]; omega
  · simp
theorem step_dig (l : List UInt8) (p y : Nat) : (rawR (l.drop p) 32).val (List.replicate 32 0) y = if (leftOf l p y).length < 32 then List.replicate 32 0 else (leftOf l p y).take 32 := by
  unfold leftOf
  by_cases hy : y = 0
  · subst hy
    rw [if_pos rfl]
    unfold Res.val rawR
    rw [if_pos rfl]
    by_cases h : (l.drop p).length < 32
    · rw [if_pos h, if_pos (.inr (by omega))]
    · rw [if_neg h, if_neg (by omega)]; rfl
  · rw [if_neg hy, ((rawR (l.drop p) 32).skip _ p y hy).1]; rfl
theorem rs_same_byte (w0 w : World) (R : List Seg) (pa pb : Option Addr) (xs : List UInt8) (ca cb : Nat) (hX : Rd w0 R pa xs) (hY : Rd w0 R pb xs) (hA : Hp w0 R w) (hn : xs.length ≤ 9223372036854775807) : Calls Try.prog 87 #[.slice pa xs.length ca, .slice pb xs.length cb] w fun e w' => e = .returned (.bool true) ∧ Hp w0 R w' :=
  (kb_same_byte w0 w R pa pb xs xs ca cb (by rw [← cel_dc]; exact hX) (by rw [← cel_dc]; exact hY) (fun _ _ => rfl) (fun _ _ => rfl) hA hn).mono (fun e w' h => ⟨by rw [h.1, decide_eq_true rfl], h.2⟩)
theorem rs_same_string (w0 w : World) (R : List Seg) (pa pb : Option Addr) (xs : List (List UInt8)) (ca cb : Nat) (hX : Rc w0 R pa (xs.map strV)) (hY : Rc w0 R pb (xs.map strV)) (hA : Hp w0 R w) (hn : xs.length ≤ 9223372036854775807) : Calls Try.prog 72 #[.slice pa xs.length ca, .slice pb xs.length cb] w fun e w' => e = .returned (.bool true) ∧ Hp w0 R w' :=
  (kb_same_string w0 w R pa pb xs xs ca cb (by rw [← cel_str]; exact hX) (by rw [← cel_str]; exact hY) (fun _ _ => rfl) (fun _ _ => rfl) hA hn).mono (fun e w' h => ⟨by rw [h.1, decide_eq_true rfl], h.2⟩)
theorem rs_same_digest (w0 w : World) (R : List Seg) (pa pb : Option Addr) (xs : List (List UInt8)) (ca cb : Nat) (hX : Rc w0 R pa (digV xs)) (hY : Rc w0 R pb (digV xs)) (h32 : ∀ d ∈ xs, d.length = 32) (hA : Hp w0 R w) (hn : xs.length ≤ 9223372036854775807) : Calls Try.prog 71 #[.slice pa xs.length ca, .slice pb xs.length cb] w fun e w' => e = .returned (.bool true) ∧ Hp w0 R w' :=
  (kb_same_digest w0 w R pa pb xs xs ca cb hX hY (fun d hd => by rw [dc_length]; exact h32 d hd) (fun d hd => by rw [dc_length]; exact h32 d hd) hA hn).mono (fun e w' h => ⟨by rw [h.1, decide_eq_true rfl], h.2⟩)

theorem rs_grow32 {n : Nat} (h : n ≤ 4398046511062) : (n + n / 4 + 192) * 32 ≤ 281474976710656 := by omega
theorem rs_grow16 {n : Nat} (h : n ≤ 65535) : (n + n / 4 + 192) * 16 ≤ 281474976710656 := by omega
theorem rs_grow1 {n : Nat} (h : n ≤ 140737488354000) : (n + n / 4 + 192) * 1 ≤ 281474976710656 := by omega

set_option maxRecDepth 100000 in
set_option maxHeartbeats 4000000 in
theorem rd_lays (w0 w : World) (R : List Seg) (sb rb : Nat) (bv rv : Value) (YS : Seg) (hS : ShB sb bv rv YS) (A : Option Addr) (l : List UInt8) (c p y : Nat) (X : Seg) (o : OpX) (hmany : -9223372036854775808 ≤ o.many ∧ o.many ≤ 9223372036854775807) (LA : Option Addr) (ll : List UInt8) (LC : Nat) (hll : ll = leftOf l p y) (hLC : ll.length ≤ LC) (hL : Rd w0 R LA ll) (hO : Buf 5 1 X (.slice A l.length c) l.length (dc l)) (hA : Hp w0 ([row rb 95 [.slice A l.length c, .int .i64 (p : Nat), .int .i64 (y : Nat)]] :: X :: YS :: R) w) (hp : p ≤ l.length) (hl : l.length < 140737488354000) : Calls Try.prog 61 #[.pointer (some ⟨sb, 0, none⟩), .pointer (some ⟨rb, 0, none⟩), .slice LA ll.length LC, .agg (opC o).toArray] w fun e' w' => ∃ (k e p' y' : Nat) (YS' : Seg), e' = .returned (.tuple #[.bool true, .int .i64 (k : Int), .int .i64 (e : Int)]) ∧ StepOK l p y p' y' k e ∧ ShB sb bv rv YS' ∧ Hp w0 ([row rb 95 [.slice A l.length c, .int .i64 (p' : Nat), .int .i64 (y' : Nat)]] :: X :: YS' :: R) w' := by
  have hll2 : ll.length ≤ l.length := by rw [hll, leftOf]; split <;> simp
  have hdl : (l.drop p).length ≤ l.length := by rw [List.length_drop]; omega
  obtain ⟨lb, wb, lt, wt, ld, wd, hb, ht, hd, kb, kt, kd, YB, YT, YD, hB, hT, hD, rfl⟩ := hS
  have hA1 : Hp w0 ([row rb 95 [.slice A l.length c, .int .i64 (p : Int), .int .i64 (y : Int)]] :: X :: [row sb 68 [bv, rv, lb, wb, .int .i64 hb, .bool false, lt, wt, .int .i64 ht, .bool false, ld, wd, .int .i64 hd, .bool false]] :: YB :: YT :: YD :: R) w := hA.cast (by simp)
  refine vc_enter Try.func61 rfl Try.ntmps61 (Nat.le_of_ble_eq_true rfl) (fun a hF => ?_)
  apply wp_seq_k; intro K1 hK1
  refine wp_region_lit ?_
  refine vc_op rfl (fun K hK => hs_box (cs := [.int .i64 o.kind, .int .i64 o.at_, .int .u64 (o.v.n : Int), .int .i64 o.many, .bool o.v.b, .slice o.dA o.v.ds.length o.dC, .slice o.qA o.ps.length o.qC, .slice o.pA o.v.p.length o.pC, strV o.v.s, .slice o.sA o.v.ss.length o.sC, .int .i64 o.most, .int .i64 o.each]) hF rfl (by decide) rfl hA1 rfl (fun b2 w3 a hb2 hF hA4 => hK _ _ ?_))
  clear hK K
  replace hA4 : Hp w0 ([row b2 38 [.int .i64 o.kind, .int .i64 o.at_, .int .u64 (o.v.n : Int), .int .i64 o.many, .bool o.v.b, .slice o.dA o.v.ds.length o.dC, .slice o.qA o.ps.length o.qC, .slice o.pA o.v.p.length o.pC, strV o.v.s, .slice o.sA o.v.ss.length o.sC, .int .i64 o.most, .int .i64 o.each]] :: [row rb 95 [.slice A l.length c, .int .i64 (p : Int), .int .i64 (y : Int)]] :: X :: [row sb 68 [bv, rv, lb, wb, .int .i64 hb, .bool false, lt, wt, .int .i64 ht, .bool false, ld, wd, .int .i64 hd, .bool false]] :: YB :: YT :: YD :: R) w3 := hA4
  refine vc_y hF rfl rfl (by decide) _ (y_assign rfl rfl) (fun a hF => ?_)
  refine vc_y hF rfl rfl (by decide) _ (y_assign rfl rfl) (fun a hF => ?_)
  refine vc_y hF rfl rfl (by decide) _ (y_assign rfl rfl) (fun a hF => ?_)
  refine vc_nil ?_
  refine hK1 _ _ ?_; clear  hK1 K1
  apply wp_seq_k; intro K2 hK2
  apply wp_seq_k; intro K3 hK3
  refine wp_region_lit ?_
  refine vc_y hF rfl rfl (by decide) _ (y_field rfl Try.underlying38 rfl sz3_rd (by decide) rfl (rfl : (⟨_, 0 + _, none⟩ : Addr) = ⟨_, 0, none⟩)) (fun a hF => ?_)
  refine vc_y hF rfl rfl (by decide) _ (y_ld rfl hA4.q rfl 0 rfl rfl nr3_rd) (fun a hF => ?_)
  refine vc_nil ?_
  refine hK3 _ _ ?_; clear  hK3 K3
  apply wp_block
  apply wp_seq_k; intro K4 hK4
  refine wp_region_lit ?_
  refine vc_y hF rfl rfl (by decide) _ (y_cmp rfl rfl rfl rfl rfl) (fun a hF => ?_)
  refine vc_y hF rfl rfl (by decide) _ (y_assign rfl rfl) (fun a hF => ?_)
  refine vc_nil ?_
  refine hK4 _ _ ?_; clear  hK4 K4
  by_cases k11 : o.kind = 11
  · refine vc_trueB hF rfl (eql_t (by omega)) ?_
    have hdv := step_dig l p y
    rw [← hll] at hdv
    by_cases h32 : ll.length < 32
    · have hq32 : (List.replicate 32 (0 : UInt8)).length = 32 := rfl
      obtain ⟨h1, h2, h3⟩ := rt_no (show digestsR ll 1 = .no 8 from if_pos (.inr (by omega))) []
      obtain ⟨_, g2, g3⟩ := rt_no (show rawR ll 32 = .no 8 from if_pos (.inr (by omega))) (List.replicate 32 0)
      rw [if_pos h32] at hdv
      apply wp_seq_k; intro K5 hK5
      refine wp_region_lit ?_
      refine vc_y hF rfl rfl (by decide) _ (y_move rfl rfl) (fun a hF => ?_)
      refine vc_op rfl (fun K hK => ws_call hF rfl (by decide) cl91_rd rfl rfl ?_)
      with_reducible refine (rt_digests w0 _ ([row b2 38 [.int .i64 o.kind, .int .i64 o.at_, .int .u64 (o.v.n : Int), .int .i64 o.many, .bool o.v.b, .slice o.dA o.v.ds.length o.dC, .slice o.qA o.ps.length o.qC, .slice o.pA o.v.p.length o.pC, strV o.v.s, .slice o.sA o.v.ss.length o.sC, .int .i64 o.most, .int .i64 o.each]] :: [row rb 95 [.slice A l.length c, .int .i64 (p : Int), .int .i64 (y : Int)]] :: X :: [row sb 68 [bv, rv, lb, wb, .int .i64 hb, .bool false, lt, wt, .int .i64 ht, .bool false, ld, wd, .int .i64 hd, .bool false]] :: YB :: YT :: YD :: R) LA ll LC 1 (hL.mono (subC (subC (subC (subC (subC (subC (subC (sub0))))))))) hA4 (by omega) (by decide) ).mono ?_
      rintro e' w5 ⟨v1, Z1, rfl, hZ1, hA6⟩
      refine ⟨_, rfl, fun a hF => hK _ _ ?_⟩
      clear hK K
      replace hA6 : Hp w0 (Z1 :: [row b2 38 [.int .i64 o.kind, .int .i64 o.at_, .int .u64 (o.v.n : Int), .int .i64 o.many, .bool o.v.b, .slice o.dA o.v.ds.length o.dC, .slice o.qA o.ps.length o.qC, .slice o.pA o.v.p.length o.pC, strV o.v.s, .slice o.sA o.v.ss.length o.sC, .int .i64 o.most, .int .i64 o.each]] :: [row rb 95 [.slice A l.length c, .int .i64 (p : Int), .int .i64 (y : Int)]] :: X :: [row sb 68 [bv, rv, lb, wb, .int .i64 hb, .bool false, lt, wt, .int .i64 ht, .bool false, ld, wd, .int .i64 hd, .bool false]] :: YB :: YT :: YD :: R) w5 := hA6
      rw [h2, h3] at hF
      rw [h1] at hZ1
      refine vc_y hF rfl rfl (by decide) _ (y_move rfl rfl) (fun a hF => ?_)
      refine vc_y hF rfl rfl (by decide) _ (y_extract (v := v1) rfl rfl rfl) (fun a hF => ?_)
      refine vc_y hF rfl rfl (by decide) _ (y_extract (v := .int .i64 ((0 : Nat) : Int)) rfl rfl rfl) (fun a hF => ?_)
      refine vc_y hF rfl rfl (by decide) _ (y_extract (v := .int .i64 ((8 : Nat) : Int)) rfl rfl rfl) (fun a hF => ?_)
      refine vc_y hF rfl rfl (by decide) _ (y_assign rfl rfl) (fun a hF => ?_)
      refine vc_y hF rfl rfl (by decide) _ (y_assign rfl rfl) (fun a hF => ?_)
      refine vc_y hF rfl rfl (by decide) _ (y_assign rfl rfl) (fun a hF => ?_)
      refine vc_nil ?_
      refine hK5 _ _ ?_; clear  hK5 K5
      apply wp_seq_k; intro K6 hK6
      refine wp_region_lit ?_
      refine vc_op rfl (fun K hK => hs_alloc hF rfl (by decide) rfl hA6 (zr74_rd) (fun b7 w8 a hb7 hF hA9 => hK _ _ ?_))
      clear hK K
      replace hA9 : Hp w0 ([row b7 74 (dc (List.replicate 32 0))] :: Z1 :: [row b2 38 [.int .i64 o.kind, .int .i64 o.at_, .int .u64 (o.v.n : Int), .int .i64 o.many, .bool o.v.b, .slice o.dA o.v.ds.length o.dC, .slice o.qA o.ps.length o.qC, .slice o.pA o.v.p.length o.pC, strV o.v.s, .slice o.sA o.v.ss.length o.sC, .int .i64 o.most, .int .i64 o.each]] :: [row rb 95 [.slice A l.length c, .int .i64 (p : Int), .int .i64 (y : Int)]] :: X :: [row sb 68 [bv, rv, lb, wb, .int .i64 hb, .bool false, lt, wt, .int .i64 ht, .bool false, ld, wd, .int .i64 hd, .bool false]] :: YB :: YT :: YD :: R) w8 := hA9
      refine vc_nil ?_
      refine hK6 _ _ ?_; clear  hK6 K6
      apply wp_seq_k; intro K7 hK7
      apply wp_seq_k; intro K8 hK8
      refine wp_region_lit ?_
      refine vc_y hF rfl rfl (by decide) _ (y_move rfl rfl) (fun a hF => ?_)
      refine vc_y hF rfl rfl (by decide) _ (y_cmp rfl rfl rfl rfl rfl) (fun a hF => ?_)
      refine vc_nil ?_
      refine hK8 _ _ ?_; clear  hK8 K8
      refine vc_falseB hF rfl (eql_f (by decide)) ?_
      apply wp_skip
      refine hK7 _ _ ?_; clear  hK7 K7
      apply wp_seq_k; intro K9 hK9
      refine wp_region_plan 8 [1,8] [0,2,4,5,1,3,6,7,8] (fun x => Hq w0 ([row b7 74 (dc (List.replicate 32 0))] :: Z1 :: [row b2 38 [.int .i64 o.kind, .int .i64 o.at_, .int .u64 (o.v.n : Int), .int .i64 o.many, .bool o.v.b, .slice o.dA o.v.ds.length o.dC, .slice o.qA o.ps.length o.qC, .slice o.pA o.v.p.length o.pC, strV o.v.s, .slice o.sA o.v.ss.length o.sC, .int .i64 o.most, .int .i64 o.each]] :: [row sb 68 [bv, rv, lb, wb, .int .i64 hb, .bool false, lt, wt, .int .i64 ht, .bool false, ld, wd, .int .i64 hd, .bool false]] :: YB :: YT :: YD :: R) x) (by kernel_rfl) (by kernel_rfl) (Hq.drew (Hp.qp [[row b7 74 (dc (List.replicate 32 0))], Z1, [row b2 38 [.int .i64 o.kind, .int .i64 o.at_, .int .u64 (o.v.n : Int), .int .i64 o.many, .bool o.v.b, .slice o.dA o.v.ds.length o.dC, .slice o.qA o.ps.length o.qC, .slice o.pA o.v.p.length o.pC, strV o.v.s, .slice o.sA o.v.ss.length o.sC, .int .i64 o.most, .int .i64 o.each]], [row rb 95 [.slice A l.length c, .int .i64 (p : Int), .int .i64 (y : Int)]], X, [row sb 68 [bv, rv, lb, wb, .int .i64 hb, .bool false, lt, wt, .int .i64 ht, .bool false, ld, wd, .int .i64 hd, .bool false]], YB, YT, YD] R [0, 1, 2, 5, 6, 7, 8] hA9)) ?_
      have hA10 := Hl.drew hA9
      refine vp_y hF rfl rfl rfl rfl (by decide) _ (fun x hx => y_move rfl rfl) (fun a hF => ?_)
      refine vp_y hF rfl rfl rfl rfl (by decide) _ (fun x hx => y_ldRow (new := dc (List.replicate 32 0)) rfl hx rfl 0 rfl rw74_rd (by rw [dc_length, hq32]; exact Nat.le_refl _) (by rw [List.drop_zero]; exact List.take_of_length_le (by rw [dc_length, hq32]; exact Nat.le_refl _))) (fun a hF => ?_)
      refine vp_y hF rfl rfl rfl rfl (by decide) _ (fun x hx => y_move rfl rfl) (fun a hF => ?_)
      refine vp_y hF rfl rfl rfl rfl (by decide) _ (fun x hx => y_move rfl rfl) (fun a hF => ?_)
      have hA11 : Hp w0 ([row rb 95 [.slice A l.length c, .int .i64 (p : Int), .int .i64 (y : Int)]] :: X :: [row b7 74 (dc (List.replicate 32 0))] :: Z1 :: [row b2 38 [.int .i64 o.kind, .int .i64 o.at_, .int .u64 (o.v.n : Int), .int .i64 o.many, .bool o.v.b, .slice o.dA o.v.ds.length o.dC, .slice o.qA o.ps.length o.qC, .slice o.pA o.v.p.length o.pC, strV o.v.s, .slice o.sA o.v.ss.length o.sC, .int .i64 o.most, .int .i64 o.each]] :: [row sb 68 [bv, rv, lb, wb, .int .i64 hb, .bool false, lt, wt, .int .i64 ht, .bool false, ld, wd, .int .i64 hd, .bool false]] :: YB :: YT :: YD :: R) w8.drew := Hp.ord [[row b7 74 (dc (List.replicate 32 0))], Z1, [row b2 38 [.int .i64 o.kind, .int .i64 o.at_, .int .u64 (o.v.n : Int), .int .i64 o.many, .bool o.v.b, .slice o.dA o.v.ds.length o.dC, .slice o.qA o.ps.length o.qC, .slice o.pA o.v.p.length o.pC, strV o.v.s, .slice o.sA o.v.ss.length o.sC, .int .i64 o.most, .int .i64 o.each]], [row rb 95 [.slice A l.length c, .int .i64 (p : Int), .int .i64 (y : Int)]], X, [row sb 68 [bv, rv, lb, wb, .int .i64 hb, .bool false, lt, wt, .int .i64 ht, .bool false, ld, wd, .int .i64 hd, .bool false]], YB, YT, YD] R [3, 4, 0, 1, 2, 5, 6, 7, 8] hA10 rfl
      refine vp_l rfl rfl rfl (fun K hK => ws_call hF rfl (by decide) cl92_rd rfl rfl ?_)
      with_reducible refine (hr_digest w0 _ _ rb A l c p y X hO hA11 hp hl ).mono ?_
      rintro e' w12 ⟨rfl, hA13⟩
      refine ⟨_, rfl, fun a hF => hK _ _ (fun _ => ?_) ?_⟩
      · exact Hp.qp [[row rb 95 [.slice A l.length c, .int .i64 (((rawR (l.drop p) 32).pl p y : Nat) : Int), .int .i64 (((rawR (l.drop p) 32).why y : Nat) : Int)]], X, [row b7 74 (dc (List.replicate 32 0))], Z1, [row b2 38 [.int .i64 o.kind, .int .i64 o.at_, .int .u64 (o.v.n : Int), .int .i64 o.many, .bool o.v.b, .slice o.dA o.v.ds.length o.dC, .slice o.qA o.ps.length o.qC, .slice o.pA o.v.p.length o.pC, strV o.v.s, .slice o.sA o.v.ss.length o.sC, .int .i64 o.most, .int .i64 o.each]], [row sb 68 [bv, rv, lb, wb, .int .i64 hb, .bool false, lt, wt, .int .i64 ht, .bool false, ld, wd, .int .i64 hd, .bool false]], YB, YT, YD] R [2, 3, 4, 5, 6, 7, 8] hA13
      clear hK K
      replace hA13 : Hp w0 ([row rb 95 [.slice A l.length c, .int .i64 (((rawR (l.drop p) 32).pl p y : Nat) : Int), .int .i64 (((rawR (l.drop p) 32).why y : Nat) : Int)]] :: X :: [row b7 74 (dc (List.replicate 32 0))] :: Z1 :: [row b2 38 [.int .i64 o.kind, .int .i64 o.at_, .int .u64 (o.v.n : Int), .int .i64 o.many, .bool o.v.b, .slice o.dA o.v.ds.length o.dC, .slice o.qA o.ps.length o.qC, .slice o.pA o.v.p.length o.pC, strV o.v.s, .slice o.sA o.v.ss.length o.sC, .int .i64 o.most, .int .i64 o.each]] :: [row sb 68 [bv, rv, lb, wb, .int .i64 hb, .bool false, lt, wt, .int .i64 ht, .bool false, ld, wd, .int .i64 hd, .bool false]] :: YB :: YT :: YD :: R) w12 := hA13
      rw [hdv] at hF
      refine vp_y hF rfl rfl rfl rfl (by decide) _ (fun x hx => y_eqB rfl Try.underlying74 Try.underlying5 sz5_rd (by kernel_rfl) rfl rfl hq32 hq32 (decide_eq_true rfl)) (fun a hF => ?_)
      refine vp_y hF rfl rfl rfl rfl (by decide) _ (fun x hx => y_assign rfl rfl) (fun a hF => ?_)
      refine vp_y hF rfl rfl rfl rfl (by decide) _ (fun x hx => y_assign rfl rfl) (fun a hF => ?_)
      refine vp_ly hF rfl rfl rfl rfl (by decide) _ (y_assign rfl rfl) (fun h => absurd h (by decide)) (fun a hF => ?_)
      refine plan_end ?_
      refine hK9 _ _ ?_; clear  hK9 K9
      apply wp_ret
      have hkk : ((fun r => rawR r 32) (leftOf l p y)).why 0 = 0 → 0 = ((fun r => rawR r 32) (leftOf l p y)).pl 0 0 := fun _ => by
        show 0 = (rawR (leftOf l p y) 32).pl 0 0
        rw [← hll, g2]
      have hee : 8 = ((fun r => rawR r 32) (leftOf l p y)).why 0 := by
        show 8 = (rawR (leftOf l p y) 32).why 0
        rw [← hll, g3]
      simp only [Exit.then, Exit.inBlock]
      refine vc_ret3 hF Try.results61 rfl rfl rfl ?_
      have hA14 : Hp w0 ([row rb 95 [.slice A l.length c, .int .i64 (((rawR (l.drop p) 32).pl p y : Nat) : Int), .int .i64 (((rawR (l.drop p) 32).why y : Nat) : Int)]] :: X :: [row sb 68 [bv, rv, lb, wb, .int .i64 hb, .bool false, lt, wt, .int .i64 ht, .bool false, ld, wd, .int .i64 hd, .bool false]] :: YB :: YT :: YD :: R) w12 := Hp.sel [[row rb 95 [.slice A l.length c, .int .i64 (((rawR (l.drop p) 32).pl p y : Nat) : Int), .int .i64 (((rawR (l.drop p) 32).why y : Nat) : Int)]], X, [row b7 74 (dc (List.replicate 32 0))], Z1, [row b2 38 [.int .i64 o.kind, .int .i64 o.at_, .int .u64 (o.v.n : Int), .int .i64 o.many, .bool o.v.b, .slice o.dA o.v.ds.length o.dC, .slice o.qA o.ps.length o.qC, .slice o.pA o.v.p.length o.pC, strV o.v.s, .slice o.sA o.v.ss.length o.sC, .int .i64 o.most, .int .i64 o.each]], [row sb 68 [bv, rv, lb, wb, .int .i64 hb, .bool false, lt, wt, .int .i64 ht, .bool false, ld, wd, .int .i64 hd, .bool false]], YB, YT, YD] R [0, 1, 5, 6, 7, 8] [2, 3, 4] hA13 rfl
      exact ⟨_, _, _, _, _, rfl, step_ok (G := (fun r => rawR r 32)) (List.replicate 32 0) hkk hee (fun _ _ h => raw_len h) (fun _ h => raw_no h) hp, ⟨lb, wb, lt, wt, ld, wd, hb, ht, hd, kb, kt, kd, YB, YT, YD, hB, hT, hD, rfl⟩, hA14.cast (by simp)⟩
    · have hq32 : (ll.take 32).length = 32 := by rw [List.length_take]; omega
      obtain ⟨h1, h2, h3⟩ := rt_ok (show digestsR ll 1 = .ok [ll.take 32] 32 from if_neg (by omega)) []
      obtain ⟨_, g2, g3⟩ := rt_ok (show rawR ll 32 = .ok (ll.take 32) 32 from if_neg (by omega)) (List.replicate 32 0)
      rw [if_neg h32] at hdv
      apply wp_seq_k; intro K10 hK10
      refine wp_region_lit ?_
      refine vc_y hF rfl rfl (by decide) _ (y_move rfl rfl) (fun a hF => ?_)
      refine vc_op rfl (fun K hK => ws_call hF rfl (by decide) cl91_rd rfl rfl ?_)
      with_reducible refine (rt_digests w0 _ ([row b2 38 [.int .i64 o.kind, .int .i64 o.at_, .int .u64 (o.v.n : Int), .int .i64 o.many, .bool o.v.b, .slice o.dA o.v.ds.length o.dC, .slice o.qA o.ps.length o.qC, .slice o.pA o.v.p.length o.pC, strV o.v.s, .slice o.sA o.v.ss.length o.sC, .int .i64 o.most, .int .i64 o.each]] :: [row rb 95 [.slice A l.length c, .int .i64 (p : Int), .int .i64 (y : Int)]] :: X :: [row sb 68 [bv, rv, lb, wb, .int .i64 hb, .bool false, lt, wt, .int .i64 ht, .bool false, ld, wd, .int .i64 hd, .bool false]] :: YB :: YT :: YD :: R) LA ll LC 1 (hL.mono (subC (subC (subC (subC (subC (subC (subC (sub0))))))))) hA4 (by omega) (by decide) ).mono ?_
      rintro e' w15 ⟨v1, Z1, rfl, hZ1, hA16⟩
      refine ⟨_, rfl, fun a hF => hK _ _ ?_⟩
      clear hK K
      replace hA16 : Hp w0 (Z1 :: [row b2 38 [.int .i64 o.kind, .int .i64 o.at_, .int .u64 (o.v.n : Int), .int .i64 o.many, .bool o.v.b, .slice o.dA o.v.ds.length o.dC, .slice o.qA o.ps.length o.qC, .slice o.pA o.v.p.length o.pC, strV o.v.s, .slice o.sA o.v.ss.length o.sC, .int .i64 o.most, .int .i64 o.each]] :: [row rb 95 [.slice A l.length c, .int .i64 (p : Int), .int .i64 (y : Int)]] :: X :: [row sb 68 [bv, rv, lb, wb, .int .i64 hb, .bool false, lt, wt, .int .i64 ht, .bool false, ld, wd, .int .i64 hd, .bool false]] :: YB :: YT :: YD :: R) w15 := hA16
      rw [h2, h3] at hF
      rw [h1] at hZ1
      refine vc_y hF rfl rfl (by decide) _ (y_move rfl rfl) (fun a hF => ?_)
      refine vc_y hF rfl rfl (by decide) _ (y_extract (v := v1) rfl rfl rfl) (fun a hF => ?_)
      refine vc_y hF rfl rfl (by decide) _ (y_extract (v := .int .i64 ((32 : Nat) : Int)) rfl rfl rfl) (fun a hF => ?_)
      refine vc_y hF rfl rfl (by decide) _ (y_extract (v := .int .i64 ((0 : Nat) : Int)) rfl rfl rfl) (fun a hF => ?_)
      refine vc_y hF rfl rfl (by decide) _ (y_assign rfl rfl) (fun a hF => ?_)
      refine vc_y hF rfl rfl (by decide) _ (y_assign rfl rfl) (fun a hF => ?_)
      refine vc_y hF rfl rfl (by decide) _ (y_assign rfl rfl) (fun a hF => ?_)
      refine vc_nil ?_
      refine hK10 _ _ ?_; clear  hK10 K10
      apply wp_seq_k; intro K11 hK11
      refine wp_region_lit ?_
      refine vc_op rfl (fun K hK => hs_alloc hF rfl (by decide) rfl hA16 (zr74_rd) (fun b17 w18 a hb17 hF hA19 => hK _ _ ?_))
      clear hK K
      replace hA19 : Hp w0 ([row b17 74 (dc (List.replicate 32 0))] :: Z1 :: [row b2 38 [.int .i64 o.kind, .int .i64 o.at_, .int .u64 (o.v.n : Int), .int .i64 o.many, .bool o.v.b, .slice o.dA o.v.ds.length o.dC, .slice o.qA o.ps.length o.qC, .slice o.pA o.v.p.length o.pC, strV o.v.s, .slice o.sA o.v.ss.length o.sC, .int .i64 o.most, .int .i64 o.each]] :: [row rb 95 [.slice A l.length c, .int .i64 (p : Int), .int .i64 (y : Int)]] :: X :: [row sb 68 [bv, rv, lb, wb, .int .i64 hb, .bool false, lt, wt, .int .i64 ht, .bool false, ld, wd, .int .i64 hd, .bool false]] :: YB :: YT :: YD :: R) w18 := hA19
      refine vc_nil ?_
      refine hK11 _ _ ?_; clear  hK11 K11
      apply wp_seq_k; intro K12 hK12
      apply wp_seq_k; intro K13 hK13
      refine wp_region_lit ?_
      refine vc_y hF rfl rfl (by decide) _ (y_move rfl rfl) (fun a hF => ?_)
      refine vc_y hF rfl rfl (by decide) _ (y_cmp rfl rfl rfl rfl rfl) (fun a hF => ?_)
      refine vc_nil ?_
      refine hK13 _ _ ?_; clear  hK13 K13
      refine vc_trueB hF rfl (eql_t rfl) ?_
      replace hZ1 : Buf 74 32 Z1 v1 1 (dc (ll.take 32)) := by
        have h := hZ1
        rw [digV, List.map_cons, List.map_nil, List.flatten_cons, List.flatten_nil, List.append_nil] at h
        exact h
      obtain ⟨AZ, cZ, rfl, _, hRZ⟩ := hZ1.rc (w0 := w0) (R := [Z1]) (List.mem_cons_self ..)
      obtain ⟨bZ, pZ, rfl, hcZ⟩ := hRZ.ne (i := 0) (by rw [dc_length, hq32]; decide)
      refine wp_region_lit ?_
      refine vc_y hF rfl rfl (by decide) _ (y_move rfl rfl) (fun a hF => ?_)
      refine vc_y hF rfl rfl (by decide) _ (y_ixSl rfl Try.underlying34 sz74_rd rfl rfl 0 rfl (by decide) rfl) (fun a hF => ?_)
      refine vc_y hF rfl rfl (by decide) _ (y_ldRowC (new := dc (ll.take 32)) rfl (Hq.sub hA19.q (sub1 (List.mem_cons_of_mem _ ((List.mem_cons_self ..))))) rfl hcZ 0 (by rw [dc_length, hq32]; decide) rfl (by rw [List.drop_zero]; exact List.take_of_length_le (by rw [dc_length, hq32]; exact Nat.le_refl _)) rw74_rd) (fun a hF => ?_)
      refine vc_op rfl (fun K hK => hs_storeAll (new := dc (ll.take 32)) hF rfl rfl hA19 rfl rfl 0 rfl (by rw [dc_length, hq32, dc_length, List.length_replicate]) (dc_one _) (by rw [dc_length, List.length_replicate]; exact sz74_rd) (fun w20 hA21 => hK _ _ ?_))
      clear hK K
      replace hA21 : Hp w0 ([row b17 74 (dc (ll.take 32))] :: Z1 :: [row b2 38 [.int .i64 o.kind, .int .i64 o.at_, .int .u64 (o.v.n : Int), .int .i64 o.many, .bool o.v.b, .slice o.dA o.v.ds.length o.dC, .slice o.qA o.ps.length o.qC, .slice o.pA o.v.p.length o.pC, strV o.v.s, .slice o.sA o.v.ss.length o.sC, .int .i64 o.most, .int .i64 o.each]] :: [row rb 95 [.slice A l.length c, .int .i64 (p : Int), .int .i64 (y : Int)]] :: X :: [row sb 68 [bv, rv, lb, wb, .int .i64 hb, .bool false, lt, wt, .int .i64 ht, .bool false, ld, wd, .int .i64 hd, .bool false]] :: YB :: YT :: YD :: R) w20 := hA21
      refine vc_nil ?_
      refine hK12 _ _ ?_; clear  hK12 K12
      apply wp_seq_k; intro K14 hK14
      refine wp_region_plan 8 [1,8] [0,2,4,5,1,3,6,7,8] (fun x => Hq w0 ([row b17 74 (dc (ll.take 32))] :: Z1 :: [row b2 38 [.int .i64 o.kind, .int .i64 o.at_, .int .u64 (o.v.n : Int), .int .i64 o.many, .bool o.v.b, .slice o.dA o.v.ds.length o.dC, .slice o.qA o.ps.length o.qC, .slice o.pA o.v.p.length o.pC, strV o.v.s, .slice o.sA o.v.ss.length o.sC, .int .i64 o.most, .int .i64 o.each]] :: [row sb 68 [bv, rv, lb, wb, .int .i64 hb, .bool false, lt, wt, .int .i64 ht, .bool false, ld, wd, .int .i64 hd, .bool false]] :: YB :: YT :: YD :: R) x) (by kernel_rfl) (by kernel_rfl) (Hq.drew (Hp.qp [[row b17 74 (dc (ll.take 32))], Z1, [row b2 38 [.int .i64 o.kind, .int .i64 o.at_, .int .u64 (o.v.n : Int), .int .i64 o.many, .bool o.v.b, .slice o.dA o.v.ds.length o.dC, .slice o.qA o.ps.length o.qC, .slice o.pA o.v.p.length o.pC, strV o.v.s, .slice o.sA o.v.ss.length o.sC, .int .i64 o.most, .int .i64 o.each]], [row rb 95 [.slice A l.length c, .int .i64 (p : Int), .int .i64 (y : Int)]], X, [row sb 68 [bv, rv, lb, wb, .int .i64 hb, .bool false, lt, wt, .int .i64 ht, .bool false, ld, wd, .int .i64 hd, .bool false]], YB, YT, YD] R [0, 1, 2, 5, 6, 7, 8] hA21)) ?_
      have hA22 := Hl.drew hA21
      refine vp_y hF rfl rfl rfl rfl (by decide) _ (fun x hx => y_move rfl rfl) (fun a hF => ?_)
      refine vp_y hF rfl rfl rfl rfl (by decide) _ (fun x hx => y_ldRow (new := dc (ll.take 32)) rfl hx rfl 0 rfl rw74_rd (by rw [dc_length, hq32]; exact Nat.le_refl _) (by rw [List.drop_zero]; exact List.take_of_length_le (by rw [dc_length, hq32]; exact Nat.le_refl _))) (fun a hF => ?_)
      refine vp_y hF rfl rfl rfl rfl (by decide) _ (fun x hx => y_move rfl rfl) (fun a hF => ?_)
      refine vp_y hF rfl rfl rfl rfl (by decide) _ (fun x hx => y_move rfl rfl) (fun a hF => ?_)
      have hA23 : Hp w0 ([row rb 95 [.slice A l.length c, .int .i64 (p : Int), .int .i64 (y : Int)]] :: X :: [row b17 74 (dc (ll.take 32))] :: Z1 :: [row b2 38 [.int .i64 o.kind, .int .i64 o.at_, .int .u64 (o.v.n : Int), .int .i64 o.many, .bool o.v.b, .slice o.dA o.v.ds.length o.dC, .slice o.qA o.ps.length o.qC, .slice o.pA o.v.p.length o.pC, strV o.v.s, .slice o.sA o.v.ss.length o.sC, .int .i64 o.most, .int .i64 o.each]] :: [row sb 68 [bv, rv, lb, wb, .int .i64 hb, .bool false, lt, wt, .int .i64 ht, .bool false, ld, wd, .int .i64 hd, .bool false]] :: YB :: YT :: YD :: R) w20.drew := Hp.ord [[row b17 74 (dc (ll.take 32))], Z1, [row b2 38 [.int .i64 o.kind, .int .i64 o.at_, .int .u64 (o.v.n : Int), .int .i64 o.many, .bool o.v.b, .slice o.dA o.v.ds.length o.dC, .slice o.qA o.ps.length o.qC, .slice o.pA o.v.p.length o.pC, strV o.v.s, .slice o.sA o.v.ss.length o.sC, .int .i64 o.most, .int .i64 o.each]], [row rb 95 [.slice A l.length c, .int .i64 (p : Int), .int .i64 (y : Int)]], X, [row sb 68 [bv, rv, lb, wb, .int .i64 hb, .bool false, lt, wt, .int .i64 ht, .bool false, ld, wd, .int .i64 hd, .bool false]], YB, YT, YD] R [3, 4, 0, 1, 2, 5, 6, 7, 8] hA22 rfl
      refine vp_l rfl rfl rfl (fun K hK => ws_call hF rfl (by decide) cl92_rd rfl rfl ?_)
      with_reducible refine (hr_digest w0 _ _ rb A l c p y X hO hA23 hp hl ).mono ?_
      rintro e' w24 ⟨rfl, hA25⟩
      refine ⟨_, rfl, fun a hF => hK _ _ (fun _ => ?_) ?_⟩
      · exact Hp.qp [[row rb 95 [.slice A l.length c, .int .i64 (((rawR (l.drop p) 32).pl p y : Nat) : Int), .int .i64 (((rawR (l.drop p) 32).why y : Nat) : Int)]], X, [row b17 74 (dc (ll.take 32))], Z1, [row b2 38 [.int .i64 o.kind, .int .i64 o.at_, .int .u64 (o.v.n : Int), .int .i64 o.many, .bool o.v.b, .slice o.dA o.v.ds.length o.dC, .slice o.qA o.ps.length o.qC, .slice o.pA o.v.p.length o.pC, strV o.v.s, .slice o.sA o.v.ss.length o.sC, .int .i64 o.most, .int .i64 o.each]], [row sb 68 [bv, rv, lb, wb, .int .i64 hb, .bool false, lt, wt, .int .i64 ht, .bool false, ld, wd, .int .i64 hd, .bool false]], YB, YT, YD] R [2, 3, 4, 5, 6, 7, 8] hA25
      clear hK K
      replace hA25 : Hp w0 ([row rb 95 [.slice A l.length c, .int .i64 (((rawR (l.drop p) 32).pl p y : Nat) : Int), .int .i64 (((rawR (l.drop p) 32).why y : Nat) : Int)]] :: X :: [row b17 74 (dc (ll.take 32))] :: Z1 :: [row b2 38 [.int .i64 o.kind, .int .i64 o.at_, .int .u64 (o.v.n : Int), .int .i64 o.many, .bool o.v.b, .slice o.dA o.v.ds.length o.dC, .slice o.qA o.ps.length o.qC, .slice o.pA o.v.p.length o.pC, strV o.v.s, .slice o.sA o.v.ss.length o.sC, .int .i64 o.most, .int .i64 o.each]] :: [row sb 68 [bv, rv, lb, wb, .int .i64 hb, .bool false, lt, wt, .int .i64 ht, .bool false, ld, wd, .int .i64 hd, .bool false]] :: YB :: YT :: YD :: R) w24 := hA25
      rw [hdv] at hF
      refine vp_y hF rfl rfl rfl rfl (by decide) _ (fun x hx => y_eqB rfl Try.underlying74 Try.underlying5 sz5_rd (by kernel_rfl) rfl rfl hq32 hq32 (decide_eq_true rfl)) (fun a hF => ?_)
      refine vp_y hF rfl rfl rfl rfl (by decide) _ (fun x hx => y_assign rfl rfl) (fun a hF => ?_)
      refine vp_y hF rfl rfl rfl rfl (by decide) _ (fun x hx => y_assign rfl rfl) (fun a hF => ?_)
      refine vp_ly hF rfl rfl rfl rfl (by decide) _ (y_assign rfl rfl) (fun h => absurd h (by decide)) (fun a hF => ?_)
      refine plan_end ?_
      refine hK14 _ _ ?_; clear  hK14 K14
      apply wp_ret
      have hkk : ((fun r => rawR r 32) (leftOf l p y)).why 0 = 0 → 32 = ((fun r => rawR r 32) (leftOf l p y)).pl 0 0 := fun _ => by
        show 32 = (rawR (leftOf l p y) 32).pl 0 0
        rw [← hll, g2]
      have hee : 0 = ((fun r => rawR r 32) (leftOf l p y)).why 0 := by
        show 0 = (rawR (leftOf l p y) 32).why 0
        rw [← hll, g3]
      simp only [Exit.then, Exit.inBlock]
      refine vc_ret3 hF Try.results61 rfl rfl rfl ?_
      have hA26 : Hp w0 ([row rb 95 [.slice A l.length c, .int .i64 (((rawR (l.drop p) 32).pl p y : Nat) : Int), .int .i64 (((rawR (l.drop p) 32).why y : Nat) : Int)]] :: X :: [row sb 68 [bv, rv, lb, wb, .int .i64 hb, .bool false, lt, wt, .int .i64 ht, .bool false, ld, wd, .int .i64 hd, .bool false]] :: YB :: YT :: YD :: R) w24 := Hp.sel [[row rb 95 [.slice A l.length c, .int .i64 (((rawR (l.drop p) 32).pl p y : Nat) : Int), .int .i64 (((rawR (l.drop p) 32).why y : Nat) : Int)]], X, [row b17 74 (dc (ll.take 32))], Z1, [row b2 38 [.int .i64 o.kind, .int .i64 o.at_, .int .u64 (o.v.n : Int), .int .i64 o.many, .bool o.v.b, .slice o.dA o.v.ds.length o.dC, .slice o.qA o.ps.length o.qC, .slice o.pA o.v.p.length o.pC, strV o.v.s, .slice o.sA o.v.ss.length o.sC, .int .i64 o.most, .int .i64 o.each]], [row sb 68 [bv, rv, lb, wb, .int .i64 hb, .bool false, lt, wt, .int .i64 ht, .bool false, ld, wd, .int .i64 hd, .bool false]], YB, YT, YD] R [0, 1, 5, 6, 7, 8] [2, 3, 4] hA25 rfl
      exact ⟨_, _, _, _, _, rfl, step_ok (G := (fun r => rawR r 32)) (List.replicate 32 0) hkk hee (fun _ _ h => raw_len h) (fun _ h => raw_no h) hp, ⟨lb, wb, lt, wt, ld, wd, hb, ht, hd, kb, kt, kd, YB, YT, YD, hB, hT, hD, rfl⟩, hA26.cast (by simp)⟩
  · refine vc_falseB hF rfl (eql_f (by omega)) ?_
    apply wp_seq_k; intro K15 hK15
    refine wp_region_lit ?_
    refine vc_y hF rfl rfl (by decide) _ (y_cmp rfl rfl rfl rfl rfl) (fun a hF => ?_)
    refine vc_y hF rfl rfl (by decide) _ (y_assign rfl rfl) (fun a hF => ?_)
    refine vc_nil ?_
    refine hK15 _ _ ?_; clear  hK15 K15
    by_cases k6 : o.kind = 6
    · refine vc_trueB hF rfl (eql_t (by omega)) ?_
      have hvl : (digestsR ll o.many).val [] 0 = (digestsR (l.drop p) o.many).val [] y := by rw [hll]; exact step_val (G := fun r => digestsR r o.many) (digests_nil _)
      obtain ⟨DS, hDS⟩ : ∃ DS, DS = (digestsR (l.drop p) o.many).val [] y := ⟨_, rfl⟩
      rw [← hDS] at hvl
      have hsm := digests_small (l.drop p) o.many y
      have hd32 := (digests_32 (l.drop p) o.many y).1
      rw [← hDS] at hsm hd32
      have hdl2 : DS.length ≤ 4398046511062 := by omega
      apply wp_seq_k; intro K16 hK16
      refine wp_region_lit ?_
      refine vc_y hF rfl rfl (by decide) _ (y_move rfl rfl) (fun a hF => ?_)
      refine vc_y hF rfl rfl (by decide) _ (y_field rfl Try.underlying38 rfl sz3_rd (by decide) rfl (rfl : (⟨_, 0 + _, none⟩ : Addr) = ⟨_, 3, none⟩)) (fun a hF => ?_)
      refine vc_y hF rfl rfl (by decide) _ (y_ld rfl hA4.q rfl 0 rfl rfl nr3_rd) (fun a hF => ?_)
      refine vc_op rfl (fun K hK => ws_call hF rfl (by decide) cl91_rd rfl rfl ?_)
      with_reducible refine (rt_digests w0 _ ([row b2 38 [.int .i64 o.kind, .int .i64 o.at_, .int .u64 (o.v.n : Int), .int .i64 o.many, .bool o.v.b, .slice o.dA o.v.ds.length o.dC, .slice o.qA o.ps.length o.qC, .slice o.pA o.v.p.length o.pC, strV o.v.s, .slice o.sA o.v.ss.length o.sC, .int .i64 o.most, .int .i64 o.each]] :: [row rb 95 [.slice A l.length c, .int .i64 (p : Int), .int .i64 (y : Int)]] :: X :: [row sb 68 [bv, rv, lb, wb, .int .i64 hb, .bool false, lt, wt, .int .i64 ht, .bool false, ld, wd, .int .i64 hd, .bool false]] :: YB :: YT :: YD :: R) LA ll LC o.many (hL.mono (subC (subC (subC (subC (subC (subC (subC (sub0))))))))) hA4 (by omega) hmany ).mono ?_
      rintro e' w27 ⟨v1, Z1, rfl, hZ1, hA28⟩
      refine ⟨_, rfl, fun a hF => hK _ _ ?_⟩
      clear hK K
      replace hA28 : Hp w0 (Z1 :: [row b2 38 [.int .i64 o.kind, .int .i64 o.at_, .int .u64 (o.v.n : Int), .int .i64 o.many, .bool o.v.b, .slice o.dA o.v.ds.length o.dC, .slice o.qA o.ps.length o.qC, .slice o.pA o.v.p.length o.pC, strV o.v.s, .slice o.sA o.v.ss.length o.sC, .int .i64 o.most, .int .i64 o.each]] :: [row rb 95 [.slice A l.length c, .int .i64 (p : Int), .int .i64 (y : Int)]] :: X :: [row sb 68 [bv, rv, lb, wb, .int .i64 hb, .bool false, lt, wt, .int .i64 ht, .bool false, ld, wd, .int .i64 hd, .bool false]] :: YB :: YT :: YD :: R) w27 := hA28
      rw [hvl] at hZ1
      obtain ⟨A1, c1, rfl, _, hR1⟩ := hZ1.rc (w0 := w0) (R := [Z1]) (List.mem_cons_self ..)
      have hkk : ((fun r => digestsR r o.many) (leftOf l p y)).why 0 = 0 → (digestsR ll o.many).pl 0 0 = ((fun r => digestsR r o.many) (leftOf l p y)).pl 0 0 := by rw [← hll]; exact (fun _ => rfl)
      have hee : (digestsR ll o.many).why 0 = ((fun r => digestsR r o.many) (leftOf l p y)).why 0 := by rw [← hll]
      refine vc_y hF rfl rfl (by decide) _ (y_move rfl rfl) (fun a hF => ?_)
      refine vc_y hF rfl rfl (by decide) _ (y_extract (v := .slice A1 DS.length c1) rfl rfl rfl) (fun a hF => ?_)
      refine vc_y hF rfl rfl (by decide) _ (y_extract (v := .int .i64 (((digestsR ll o.many).pl 0 0 : Nat) : Int)) rfl rfl rfl) (fun a hF => ?_)
      refine vc_y hF rfl rfl (by decide) _ (y_extract (v := .int .i64 (((digestsR ll o.many).why 0 : Nat) : Int)) rfl rfl rfl) (fun a hF => ?_)
      refine vc_y hF rfl rfl (by decide) _ (y_assign rfl rfl) (fun a hF => ?_)
      refine vc_y hF rfl rfl (by decide) _ (y_assign rfl rfl) (fun a hF => ?_)
      refine vc_y hF rfl rfl (by decide) _ (y_assign rfl rfl) (fun a hF => ?_)
      refine vc_nil ?_
      refine hK16 _ _ ?_; clear  hK16 K16
      apply wp_seq_k; intro K17 hK17
      refine wp_region_lit ?_
      refine vc_y hF rfl rfl (by decide) _ (y_move rfl rfl) (fun a hF => ?_)
      refine vc_y hF rfl rfl (by decide) _ (y_field rfl Try.underlying38 rfl sz3_rd (by decide) rfl (rfl : (⟨_, 0 + _, none⟩ : Addr) = ⟨_, 3, none⟩)) (fun a hF => ?_)
      refine vc_y hF rfl rfl (by decide) _ (y_ld rfl hA28.q rfl 1 rfl rfl nr3_rd) (fun a hF => ?_)
      have hA29 : Hp w0 ([row rb 95 [.slice A l.length c, .int .i64 (p : Int), .int .i64 (y : Int)]] :: X :: Z1 :: [row b2 38 [.int .i64 o.kind, .int .i64 o.at_, .int .u64 (o.v.n : Int), .int .i64 o.many, .bool o.v.b, .slice o.dA o.v.ds.length o.dC, .slice o.qA o.ps.length o.qC, .slice o.pA o.v.p.length o.pC, strV o.v.s, .slice o.sA o.v.ss.length o.sC, .int .i64 o.most, .int .i64 o.each]] :: [row sb 68 [bv, rv, lb, wb, .int .i64 hb, .bool false, lt, wt, .int .i64 ht, .bool false, ld, wd, .int .i64 hd, .bool false]] :: YB :: YT :: YD :: R) w27 := Hp.ord [Z1, [row b2 38 [.int .i64 o.kind, .int .i64 o.at_, .int .u64 (o.v.n : Int), .int .i64 o.many, .bool o.v.b, .slice o.dA o.v.ds.length o.dC, .slice o.qA o.ps.length o.qC, .slice o.pA o.v.p.length o.pC, strV o.v.s, .slice o.sA o.v.ss.length o.sC, .int .i64 o.most, .int .i64 o.each]], [row rb 95 [.slice A l.length c, .int .i64 (p : Int), .int .i64 (y : Int)]], X, [row sb 68 [bv, rv, lb, wb, .int .i64 hb, .bool false, lt, wt, .int .i64 ht, .bool false, ld, wd, .int .i64 hd, .bool false]], YB, YT, YD] R [2, 3, 0, 1, 4, 5, 6, 7] hA28 rfl
      refine vc_op rfl (fun K hK => ws_call hF rfl (by decide) cl74_rd rfl rfl ?_)
      with_reducible refine (hr_digests w0 _ _ rb A l c p y X o.many hO hA29 hp hl hmany ).mono ?_
      rintro e' w30 ⟨v2, Z2, rfl, hZ2, hA31⟩
      refine ⟨_, rfl, fun a hF => hK _ _ ?_⟩
      clear hK K
      replace hA31 : Hp w0 (Z2 :: [row rb 95 [.slice A l.length c, .int .i64 (((digestsR (l.drop p) o.many).pl p y : Nat) : Int), .int .i64 (((digestsR (l.drop p) o.many).why y : Nat) : Int)]] :: X :: Z1 :: [row b2 38 [.int .i64 o.kind, .int .i64 o.at_, .int .u64 (o.v.n : Int), .int .i64 o.many, .bool o.v.b, .slice o.dA o.v.ds.length o.dC, .slice o.qA o.ps.length o.qC, .slice o.pA o.v.p.length o.pC, strV o.v.s, .slice o.sA o.v.ss.length o.sC, .int .i64 o.most, .int .i64 o.each]] :: [row sb 68 [bv, rv, lb, wb, .int .i64 hb, .bool false, lt, wt, .int .i64 ht, .bool false, ld, wd, .int .i64 hd, .bool false]] :: YB :: YT :: YD :: R) w30 := hA31
      rw [← hDS] at hZ2
      obtain ⟨A2, c2, rfl, _, hR2⟩ := hZ2.rc (w0 := w0) (R := [Z2]) (List.mem_cons_self ..)
      refine vc_y hF rfl rfl (by decide) _ (y_assign rfl rfl) (fun a hF => ?_)
      refine vc_nil ?_
      refine hK17 _ _ ?_; clear  hK17 K17
      apply wp_seq_k; intro K18 hK18
      refine wp_region_lit ?_
      refine vc_y hF rfl rfl (by decide) _ (y_move rfl rfl) (fun a hF => ?_)
      refine vc_y hF rfl rfl (by decide) _ (y_move rfl rfl) (fun a hF => ?_)
      refine vc_op rfl (fun K hK => ws_call hF rfl (by decide) cl71_rd rfl rfl ?_)
      with_reducible refine (rs_same_digest w0 _ (Z2 :: [row rb 95 [.slice A l.length c, .int .i64 (((digestsR (l.drop p) o.many).pl p y : Nat) : Int), .int .i64 (((digestsR (l.drop p) o.many).why y : Nat) : Int)]] :: X :: Z1 :: [row b2 38 [.int .i64 o.kind, .int .i64 o.at_, .int .u64 (o.v.n : Int), .int .i64 o.many, .bool o.v.b, .slice o.dA o.v.ds.length o.dC, .slice o.qA o.ps.length o.qC, .slice o.pA o.v.p.length o.pC, strV o.v.s, .slice o.sA o.v.ss.length o.sC, .int .i64 o.most, .int .i64 o.each]] :: [row sb 68 [bv, rv, lb, wb, .int .i64 hb, .bool false, lt, wt, .int .i64 ht, .bool false, ld, wd, .int .i64 hd, .bool false]] :: YB :: YT :: YD :: R) A1 A2 DS c1 c2 (hR1.mono (sub1 (List.mem_cons_of_mem _ (List.mem_cons_of_mem _ (List.mem_cons_of_mem _ ((List.mem_cons_self ..))))))) (hR2.mono (sub1 ((List.mem_cons_self ..)))) hd32 hA31 (by omega) ).mono ?_
      rintro e' w32 ⟨rfl, hA33⟩
      refine ⟨_, rfl, fun a hF => hK _ _ ?_⟩
      clear hK K
      replace hA33 : Hp w0 (Z2 :: [row rb 95 [.slice A l.length c, .int .i64 (((digestsR (l.drop p) o.many).pl p y : Nat) : Int), .int .i64 (((digestsR (l.drop p) o.many).why y : Nat) : Int)]] :: X :: Z1 :: [row b2 38 [.int .i64 o.kind, .int .i64 o.at_, .int .u64 (o.v.n : Int), .int .i64 o.many, .bool o.v.b, .slice o.dA o.v.ds.length o.dC, .slice o.qA o.ps.length o.qC, .slice o.pA o.v.p.length o.pC, strV o.v.s, .slice o.sA o.v.ss.length o.sC, .int .i64 o.most, .int .i64 o.each]] :: [row sb 68 [bv, rv, lb, wb, .int .i64 hb, .bool false, lt, wt, .int .i64 ht, .bool false, ld, wd, .int .i64 hd, .bool false]] :: YB :: YT :: YD :: R) w32 := hA33
      refine vc_y hF rfl rfl (by decide) _ (y_assign rfl rfl) (fun a hF => ?_)
      refine vc_nil ?_
      refine hK18 _ _ ?_; clear  hK18 K18
      apply wp_seq_k; intro K19 hK19
      refine wp_region_lit ?_
      refine vc_y hF rfl rfl (by decide) _ (y_move rfl rfl) (fun a hF => ?_)
      refine vc_y hF rfl rfl (by decide) _ (y_nilCheck rfl rfl) (fun a hF => ?_)
      refine vc_y hF rfl rfl (by decide) _ (y_field rfl Try.underlying68 rfl sz66_rd (by decide) rfl (rfl : (⟨_, 0 + _, none⟩ : Addr) = ⟨_, 10, none⟩)) (fun a hF => ?_)
      refine vc_y hF rfl rfl (by decide) _ (y_move rfl rfl) (fun a hF => ?_)
      have hA34 : Hp w0 (Z2 :: [row sb 68 [bv, rv, lb, wb, .int .i64 hb, .bool false, lt, wt, .int .i64 ht, .bool false, ld, wd, .int .i64 hd, .bool false]] :: YD :: [row rb 95 [.slice A l.length c, .int .i64 (((digestsR (l.drop p) o.many).pl p y : Nat) : Int), .int .i64 (((digestsR (l.drop p) o.many).why y : Nat) : Int)]] :: X :: Z1 :: [row b2 38 [.int .i64 o.kind, .int .i64 o.at_, .int .u64 (o.v.n : Int), .int .i64 o.many, .bool o.v.b, .slice o.dA o.v.ds.length o.dC, .slice o.qA o.ps.length o.qC, .slice o.pA o.v.p.length o.pC, strV o.v.s, .slice o.sA o.v.ss.length o.sC, .int .i64 o.most, .int .i64 o.each]] :: YB :: YT :: R) w32 := Hp.ord [Z2, [row rb 95 [.slice A l.length c, .int .i64 (((digestsR (l.drop p) o.many).pl p y : Nat) : Int), .int .i64 (((digestsR (l.drop p) o.many).why y : Nat) : Int)]], X, Z1, [row b2 38 [.int .i64 o.kind, .int .i64 o.at_, .int .u64 (o.v.n : Int), .int .i64 o.many, .bool o.v.b, .slice o.dA o.v.ds.length o.dC, .slice o.qA o.ps.length o.qC, .slice o.pA o.v.p.length o.pC, strV o.v.s, .slice o.sA o.v.ss.length o.sC, .int .i64 o.most, .int .i64 o.each]], [row sb 68 [bv, rv, lb, wb, .int .i64 hb, .bool false, lt, wt, .int .i64 ht, .bool false, ld, wd, .int .i64 hd, .bool false]], YB, YT, YD] R [0, 5, 8, 1, 2, 3, 4, 6, 7] hA33 rfl
      refine vc_op rfl (fun K hK => ws_call hF rfl (by decide) cl93_rd rfl rfl ?_)
      with_reducible refine (kb_keep_digest_10_0 w0 _ _ sb kd YD Z2 _ DS hD hZ2 (fun d hd => by rw [dc_length]; exact hd32 d hd) (by omega) (rs_grow32 hdl2) hA34 ).mono ?_
      rintro e' w35 ⟨kd2, ld2, wd2, hd2, YD2, rfl, hD2, _, hA36⟩
      refine ⟨_, rfl, fun a hF => hK _ _ ?_⟩
      clear hK K
      replace hA36 : Hp w0 ([row sb 68 [bv, rv, lb, wb, .int .i64 hb, .bool false, lt, wt, .int .i64 ht, .bool false, ld2, wd2, .int .i64 hd2, .bool false]] :: YD2 :: [row rb 95 [.slice A l.length c, .int .i64 (((digestsR (l.drop p) o.many).pl p y : Nat) : Int), .int .i64 (((digestsR (l.drop p) o.many).why y : Nat) : Int)]] :: X :: Z1 :: [row b2 38 [.int .i64 o.kind, .int .i64 o.at_, .int .u64 (o.v.n : Int), .int .i64 o.many, .bool o.v.b, .slice o.dA o.v.ds.length o.dC, .slice o.qA o.ps.length o.qC, .slice o.pA o.v.p.length o.pC, strV o.v.s, .slice o.sA o.v.ss.length o.sC, .int .i64 o.most, .int .i64 o.each]] :: YB :: YT :: R) w35 := hA36
      refine vc_nil ?_
      refine hK19 _ _ ?_; clear  hK19 K19
      apply wp_seq_k; intro K20 hK20
      refine wp_region_lit ?_
      refine vc_y hF rfl rfl (by decide) _ (y_move rfl rfl) (fun a hF => ?_)
      refine vc_y hF rfl rfl (by decide) _ (y_move rfl rfl) (fun a hF => ?_)
      refine vc_y hF rfl rfl (by decide) _ (y_move rfl rfl) (fun a hF => ?_)
      refine vc_y hF rfl rfl (by decide) _ (y_assign rfl rfl) (fun a hF => ?_)
      refine vc_y hF rfl rfl (by decide) _ (y_assign rfl rfl) (fun a hF => ?_)
      refine vc_y hF rfl rfl (by decide) _ (y_assign rfl rfl) (fun a hF => ?_)
      refine vc_nil ?_
      refine hK20 _ _ ?_; clear  hK20 K20
      apply wp_ret
      simp only [Exit.then, Exit.inBlock]
      refine vc_ret3 hF Try.results61 rfl rfl rfl ?_
      have hA37 : Hp w0 ([row rb 95 [.slice A l.length c, .int .i64 (((digestsR (l.drop p) o.many).pl p y : Nat) : Int), .int .i64 (((digestsR (l.drop p) o.many).why y : Nat) : Int)]] :: X :: [row sb 68 [bv, rv, lb, wb, .int .i64 hb, .bool false, lt, wt, .int .i64 ht, .bool false, ld2, wd2, .int .i64 hd2, .bool false]] :: YB :: YT :: YD2 :: R) w35 := Hp.sel [[row sb 68 [bv, rv, lb, wb, .int .i64 hb, .bool false, lt, wt, .int .i64 ht, .bool false, ld2, wd2, .int .i64 hd2, .bool false]], YD2, [row rb 95 [.slice A l.length c, .int .i64 (((digestsR (l.drop p) o.many).pl p y : Nat) : Int), .int .i64 (((digestsR (l.drop p) o.many).why y : Nat) : Int)]], X, Z1, [row b2 38 [.int .i64 o.kind, .int .i64 o.at_, .int .u64 (o.v.n : Int), .int .i64 o.many, .bool o.v.b, .slice o.dA o.v.ds.length o.dC, .slice o.qA o.ps.length o.qC, .slice o.pA o.v.p.length o.pC, strV o.v.s, .slice o.sA o.v.ss.length o.sC, .int .i64 o.most, .int .i64 o.each]], YB, YT] R [2, 3, 0, 6, 7, 1] [4, 5] hA36 rfl
      exact ⟨_, _, _, _, _, rfl, step_ok (G := (fun r => digestsR r o.many)) [] hkk hee (fun _ _ h => digests_len h) (fun _ h => digests_no h) hp, ⟨lb, wb, lt, wt, ld2, wd2, hb, ht, hd2, kb, kt, kd2, YB, YT, YD2, hB, hT, hD2, rfl⟩, hA37.cast (by simp)⟩
    · refine vc_falseB hF rfl (eql_f (by omega)) ?_
      have hvl : (rawR ll o.many).val [] 0 = (rawR (l.drop p) o.many).val [] y := by rw [hll]; exact step_val (G := fun r => rawR r o.many) (raw_nil _)
      obtain ⟨DS, hDS⟩ : ∃ DS, DS = (rawR (l.drop p) o.many).val [] y := ⟨_, rfl⟩
      rw [← hDS] at hvl
      have hsm := raw_small (l.drop p) o.many y
      rw [← hDS] at hsm
      have hdl2 : DS.length ≤ 140737488354000 := by omega
      apply wp_skip
      refine hK2 _ _ ?_; clear  hK2 K2
      apply wp_seq_k; intro K21 hK21
      refine wp_region_lit ?_
      refine vc_y hF rfl rfl (by decide) _ (y_move rfl rfl) (fun a hF => ?_)
      refine vc_y hF rfl rfl (by decide) _ (y_field rfl Try.underlying38 rfl sz3_rd (by decide) rfl (rfl : (⟨_, 0 + _, none⟩ : Addr) = ⟨_, 3, none⟩)) (fun a hF => ?_)
      refine vc_y hF rfl rfl (by decide) _ (y_ld rfl hA4.q rfl 0 rfl rfl nr3_rd) (fun a hF => ?_)
      refine vc_op rfl (fun K hK => ws_call hF rfl (by decide) cl94_rd rfl rfl ?_)
      with_reducible refine (rt_raw w0 _ ([row b2 38 [.int .i64 o.kind, .int .i64 o.at_, .int .u64 (o.v.n : Int), .int .i64 o.many, .bool o.v.b, .slice o.dA o.v.ds.length o.dC, .slice o.qA o.ps.length o.qC, .slice o.pA o.v.p.length o.pC, strV o.v.s, .slice o.sA o.v.ss.length o.sC, .int .i64 o.most, .int .i64 o.each]] :: [row rb 95 [.slice A l.length c, .int .i64 (p : Int), .int .i64 (y : Int)]] :: X :: [row sb 68 [bv, rv, lb, wb, .int .i64 hb, .bool false, lt, wt, .int .i64 ht, .bool false, ld, wd, .int .i64 hd, .bool false]] :: YB :: YT :: YD :: R) LA ll LC o.many hLC (hL.mono (subC (subC (subC (subC (subC (subC (subC (sub0))))))))) hA4 (by omega) hmany ).mono ?_
      rintro e' w38 ⟨v1, Z1, rfl, hZ1, hA39⟩
      refine ⟨_, rfl, fun a hF => hK _ _ ?_⟩
      clear hK K
      replace hA39 : Hp w0 (Z1 :: [row b2 38 [.int .i64 o.kind, .int .i64 o.at_, .int .u64 (o.v.n : Int), .int .i64 o.many, .bool o.v.b, .slice o.dA o.v.ds.length o.dC, .slice o.qA o.ps.length o.qC, .slice o.pA o.v.p.length o.pC, strV o.v.s, .slice o.sA o.v.ss.length o.sC, .int .i64 o.most, .int .i64 o.each]] :: [row rb 95 [.slice A l.length c, .int .i64 (p : Int), .int .i64 (y : Int)]] :: X :: [row sb 68 [bv, rv, lb, wb, .int .i64 hb, .bool false, lt, wt, .int .i64 ht, .bool false, ld, wd, .int .i64 hd, .bool false]] :: YB :: YT :: YD :: R) w38 := hA39
      rw [hvl] at hZ1
      obtain ⟨A1, c1, rfl, _, hR1⟩ := hZ1.rc (w0 := w0) (R := [Z1]) (List.mem_cons_self ..)
      have hkk : ((fun r => rawR r o.many) (leftOf l p y)).why 0 = 0 → (rawR ll o.many).pl 0 0 = ((fun r => rawR r o.many) (leftOf l p y)).pl 0 0 := by rw [← hll]; exact (fun _ => rfl)
      have hee : (rawR ll o.many).why 0 = ((fun r => rawR r o.many) (leftOf l p y)).why 0 := by rw [← hll]
      refine vc_y hF rfl rfl (by decide) _ (y_move rfl rfl) (fun a hF => ?_)
      refine vc_y hF rfl rfl (by decide) _ (y_extract (v := .slice A1 DS.length c1) rfl rfl rfl) (fun a hF => ?_)
      refine vc_y hF rfl rfl (by decide) _ (y_extract (v := .int .i64 (((rawR ll o.many).pl 0 0 : Nat) : Int)) rfl rfl rfl) (fun a hF => ?_)
      refine vc_y hF rfl rfl (by decide) _ (y_extract (v := .int .i64 (((rawR ll o.many).why 0 : Nat) : Int)) rfl rfl rfl) (fun a hF => ?_)
      refine vc_y hF rfl rfl (by decide) _ (y_assign rfl rfl) (fun a hF => ?_)
      refine vc_y hF rfl rfl (by decide) _ (y_assign rfl rfl) (fun a hF => ?_)
      refine vc_y hF rfl rfl (by decide) _ (y_assign rfl rfl) (fun a hF => ?_)
      refine vc_nil ?_
      refine hK21 _ _ ?_; clear  hK21 K21
      apply wp_seq_k; intro K22 hK22
      refine wp_region_lit ?_
      refine vc_y hF rfl rfl (by decide) _ (y_move rfl rfl) (fun a hF => ?_)
      refine vc_y hF rfl rfl (by decide) _ (y_field rfl Try.underlying38 rfl sz3_rd (by decide) rfl (rfl : (⟨_, 0 + _, none⟩ : Addr) = ⟨_, 3, none⟩)) (fun a hF => ?_)
      refine vc_y hF rfl rfl (by decide) _ (y_ld rfl hA39.q rfl 1 rfl rfl nr3_rd) (fun a hF => ?_)
      have hA40 : Hp w0 ([row rb 95 [.slice A l.length c, .int .i64 (p : Int), .int .i64 (y : Int)]] :: X :: Z1 :: [row b2 38 [.int .i64 o.kind, .int .i64 o.at_, .int .u64 (o.v.n : Int), .int .i64 o.many, .bool o.v.b, .slice o.dA o.v.ds.length o.dC, .slice o.qA o.ps.length o.qC, .slice o.pA o.v.p.length o.pC, strV o.v.s, .slice o.sA o.v.ss.length o.sC, .int .i64 o.most, .int .i64 o.each]] :: [row sb 68 [bv, rv, lb, wb, .int .i64 hb, .bool false, lt, wt, .int .i64 ht, .bool false, ld, wd, .int .i64 hd, .bool false]] :: YB :: YT :: YD :: R) w38 := Hp.ord [Z1, [row b2 38 [.int .i64 o.kind, .int .i64 o.at_, .int .u64 (o.v.n : Int), .int .i64 o.many, .bool o.v.b, .slice o.dA o.v.ds.length o.dC, .slice o.qA o.ps.length o.qC, .slice o.pA o.v.p.length o.pC, strV o.v.s, .slice o.sA o.v.ss.length o.sC, .int .i64 o.most, .int .i64 o.each]], [row rb 95 [.slice A l.length c, .int .i64 (p : Int), .int .i64 (y : Int)]], X, [row sb 68 [bv, rv, lb, wb, .int .i64 hb, .bool false, lt, wt, .int .i64 ht, .bool false, ld, wd, .int .i64 hd, .bool false]], YB, YT, YD] R [2, 3, 0, 1, 4, 5, 6, 7] hA39 rfl
      refine vc_op rfl (fun K hK => ws_call hF rfl (by decide) cl75_rd rfl rfl ?_)
      with_reducible refine (hr_raw w0 _ _ rb A l c p y X o.many hO hA40 hp hl hmany ).mono ?_
      rintro e' w41 ⟨v2, Z2, rfl, hZ2, hA42⟩
      refine ⟨_, rfl, fun a hF => hK _ _ ?_⟩
      clear hK K
      replace hA42 : Hp w0 (Z2 :: [row rb 95 [.slice A l.length c, .int .i64 (((rawR (l.drop p) o.many).pl p y : Nat) : Int), .int .i64 (((rawR (l.drop p) o.many).why y : Nat) : Int)]] :: X :: Z1 :: [row b2 38 [.int .i64 o.kind, .int .i64 o.at_, .int .u64 (o.v.n : Int), .int .i64 o.many, .bool o.v.b, .slice o.dA o.v.ds.length o.dC, .slice o.qA o.ps.length o.qC, .slice o.pA o.v.p.length o.pC, strV o.v.s, .slice o.sA o.v.ss.length o.sC, .int .i64 o.most, .int .i64 o.each]] :: [row sb 68 [bv, rv, lb, wb, .int .i64 hb, .bool false, lt, wt, .int .i64 ht, .bool false, ld, wd, .int .i64 hd, .bool false]] :: YB :: YT :: YD :: R) w41 := hA42
      rw [← hDS] at hZ2
      obtain ⟨A2, c2, rfl, _, hR2⟩ := hZ2.rc (w0 := w0) (R := [Z2]) (List.mem_cons_self ..)
      refine vc_y hF rfl rfl (by decide) _ (y_assign rfl rfl) (fun a hF => ?_)
      refine vc_nil ?_
      refine hK22 _ _ ?_; clear  hK22 K22
      apply wp_seq_k; intro K23 hK23
      refine wp_region_lit ?_
      refine vc_y hF rfl rfl (by decide) _ (y_move rfl rfl) (fun a hF => ?_)
      refine vc_y hF rfl rfl (by decide) _ (y_move rfl rfl) (fun a hF => ?_)
      refine vc_op rfl (fun K hK => ws_call hF rfl (by decide) cl87_rd rfl rfl ?_)
      with_reducible refine (rs_same_byte w0 _ (Z2 :: [row rb 95 [.slice A l.length c, .int .i64 (((rawR (l.drop p) o.many).pl p y : Nat) : Int), .int .i64 (((rawR (l.drop p) o.many).why y : Nat) : Int)]] :: X :: Z1 :: [row b2 38 [.int .i64 o.kind, .int .i64 o.at_, .int .u64 (o.v.n : Int), .int .i64 o.many, .bool o.v.b, .slice o.dA o.v.ds.length o.dC, .slice o.qA o.ps.length o.qC, .slice o.pA o.v.p.length o.pC, strV o.v.s, .slice o.sA o.v.ss.length o.sC, .int .i64 o.most, .int .i64 o.each]] :: [row sb 68 [bv, rv, lb, wb, .int .i64 hb, .bool false, lt, wt, .int .i64 ht, .bool false, ld, wd, .int .i64 hd, .bool false]] :: YB :: YT :: YD :: R) A1 A2 DS c1 c2 (hR1.mono (sub1 (List.mem_cons_of_mem _ (List.mem_cons_of_mem _ (List.mem_cons_of_mem _ ((List.mem_cons_self ..))))))) (hR2.mono (sub1 ((List.mem_cons_self ..)))) hA42 (by omega) ).mono ?_
      rintro e' w43 ⟨rfl, hA44⟩
      refine ⟨_, rfl, fun a hF => hK _ _ ?_⟩
      clear hK K
      replace hA44 : Hp w0 (Z2 :: [row rb 95 [.slice A l.length c, .int .i64 (((rawR (l.drop p) o.many).pl p y : Nat) : Int), .int .i64 (((rawR (l.drop p) o.many).why y : Nat) : Int)]] :: X :: Z1 :: [row b2 38 [.int .i64 o.kind, .int .i64 o.at_, .int .u64 (o.v.n : Int), .int .i64 o.many, .bool o.v.b, .slice o.dA o.v.ds.length o.dC, .slice o.qA o.ps.length o.qC, .slice o.pA o.v.p.length o.pC, strV o.v.s, .slice o.sA o.v.ss.length o.sC, .int .i64 o.most, .int .i64 o.each]] :: [row sb 68 [bv, rv, lb, wb, .int .i64 hb, .bool false, lt, wt, .int .i64 ht, .bool false, ld, wd, .int .i64 hd, .bool false]] :: YB :: YT :: YD :: R) w43 := hA44
      refine vc_y hF rfl rfl (by decide) _ (y_assign rfl rfl) (fun a hF => ?_)
      refine vc_nil ?_
      refine hK23 _ _ ?_; clear  hK23 K23
      apply wp_seq_k; intro K24 hK24
      refine wp_region_lit ?_
      refine vc_y hF rfl rfl (by decide) _ (y_move rfl rfl) (fun a hF => ?_)
      refine vc_y hF rfl rfl (by decide) _ (y_nilCheck rfl rfl) (fun a hF => ?_)
      refine vc_y hF rfl rfl (by decide) _ (y_field rfl Try.underlying68 rfl sz29_rd (by decide) rfl (rfl : (⟨_, 0 + _, none⟩ : Addr) = ⟨_, 2, none⟩)) (fun a hF => ?_)
      refine vc_y hF rfl rfl (by decide) _ (y_move rfl rfl) (fun a hF => ?_)
      have hA45 : Hp w0 (Z2 :: [row sb 68 [bv, rv, lb, wb, .int .i64 hb, .bool false, lt, wt, .int .i64 ht, .bool false, ld, wd, .int .i64 hd, .bool false]] :: YB :: [row rb 95 [.slice A l.length c, .int .i64 (((rawR (l.drop p) o.many).pl p y : Nat) : Int), .int .i64 (((rawR (l.drop p) o.many).why y : Nat) : Int)]] :: X :: Z1 :: [row b2 38 [.int .i64 o.kind, .int .i64 o.at_, .int .u64 (o.v.n : Int), .int .i64 o.many, .bool o.v.b, .slice o.dA o.v.ds.length o.dC, .slice o.qA o.ps.length o.qC, .slice o.pA o.v.p.length o.pC, strV o.v.s, .slice o.sA o.v.ss.length o.sC, .int .i64 o.most, .int .i64 o.each]] :: YT :: YD :: R) w43 := Hp.ord [Z2, [row rb 95 [.slice A l.length c, .int .i64 (((rawR (l.drop p) o.many).pl p y : Nat) : Int), .int .i64 (((rawR (l.drop p) o.many).why y : Nat) : Int)]], X, Z1, [row b2 38 [.int .i64 o.kind, .int .i64 o.at_, .int .u64 (o.v.n : Int), .int .i64 o.many, .bool o.v.b, .slice o.dA o.v.ds.length o.dC, .slice o.qA o.ps.length o.qC, .slice o.pA o.v.p.length o.pC, strV o.v.s, .slice o.sA o.v.ss.length o.sC, .int .i64 o.most, .int .i64 o.each]], [row sb 68 [bv, rv, lb, wb, .int .i64 hb, .bool false, lt, wt, .int .i64 ht, .bool false, ld, wd, .int .i64 hd, .bool false]], YB, YT, YD] R [0, 5, 6, 1, 2, 3, 4, 7, 8] hA44 rfl
      refine vc_op rfl (fun K hK => ws_call hF rfl (by decide) cl49_rd rfl rfl ?_)
      with_reducible refine (kb_keep_byte_2_8 w0 _ _ sb kb YB Z2 _ DS hB (by rw [← cel_dc]; exact hZ2) (fun _ _ => rfl) (by omega) (rs_grow1 hdl2) hA45 ).mono ?_
      rintro e' w46 ⟨kb2, lb2, wb2, hb2, YB2, rfl, hB2, _, hA47⟩
      refine ⟨_, rfl, fun a hF => hK _ _ ?_⟩
      clear hK K
      replace hA47 : Hp w0 ([row sb 68 [bv, rv, lb2, wb2, .int .i64 hb2, .bool false, lt, wt, .int .i64 ht, .bool false, ld, wd, .int .i64 hd, .bool false]] :: YB2 :: [row rb 95 [.slice A l.length c, .int .i64 (((rawR (l.drop p) o.many).pl p y : Nat) : Int), .int .i64 (((rawR (l.drop p) o.many).why y : Nat) : Int)]] :: X :: Z1 :: [row b2 38 [.int .i64 o.kind, .int .i64 o.at_, .int .u64 (o.v.n : Int), .int .i64 o.many, .bool o.v.b, .slice o.dA o.v.ds.length o.dC, .slice o.qA o.ps.length o.qC, .slice o.pA o.v.p.length o.pC, strV o.v.s, .slice o.sA o.v.ss.length o.sC, .int .i64 o.most, .int .i64 o.each]] :: YT :: YD :: R) w46 := hA47
      refine vc_nil ?_
      refine hK24 _ _ ?_; clear  hK24 K24
      apply wp_seq_k; intro K25 hK25
      refine wp_region_lit ?_
      refine vc_y hF rfl rfl (by decide) _ (y_move rfl rfl) (fun a hF => ?_)
      refine vc_y hF rfl rfl (by decide) _ (y_move rfl rfl) (fun a hF => ?_)
      refine vc_y hF rfl rfl (by decide) _ (y_move rfl rfl) (fun a hF => ?_)
      refine vc_y hF rfl rfl (by decide) _ (y_assign rfl rfl) (fun a hF => ?_)
      refine vc_y hF rfl rfl (by decide) _ (y_assign rfl rfl) (fun a hF => ?_)
      refine vc_y hF rfl rfl (by decide) _ (y_assign rfl rfl) (fun a hF => ?_)
      refine vc_nil ?_
      refine hK25 _ _ ?_; clear  hK25 K25
      apply wp_ret
      refine vc_ret3 hF Try.results61 rfl rfl rfl ?_
      have hA48 : Hp w0 ([row rb 95 [.slice A l.length c, .int .i64 (((rawR (l.drop p) o.many).pl p y : Nat) : Int), .int .i64 (((rawR (l.drop p) o.many).why y : Nat) : Int)]] :: X :: [row sb 68 [bv, rv, lb2, wb2, .int .i64 hb2, .bool false, lt, wt, .int .i64 ht, .bool false, ld, wd, .int .i64 hd, .bool false]] :: YB2 :: YT :: YD :: R) w46 := Hp.sel [[row sb 68 [bv, rv, lb2, wb2, .int .i64 hb2, .bool false, lt, wt, .int .i64 ht, .bool false, ld, wd, .int .i64 hd, .bool false]], YB2, [row rb 95 [.slice A l.length c, .int .i64 (((rawR (l.drop p) o.many).pl p y : Nat) : Int), .int .i64 (((rawR (l.drop p) o.many).why y : Nat) : Int)]], X, Z1, [row b2 38 [.int .i64 o.kind, .int .i64 o.at_, .int .u64 (o.v.n : Int), .int .i64 o.many, .bool o.v.b, .slice o.dA o.v.ds.length o.dC, .slice o.qA o.ps.length o.qC, .slice o.pA o.v.p.length o.pC, strV o.v.s, .slice o.sA o.v.ss.length o.sC, .int .i64 o.most, .int .i64 o.each]], YT, YD] R [2, 3, 0, 1, 6, 7] [4, 5] hA47 rfl
      exact ⟨_, _, _, _, _, rfl, step_ok (G := (fun r => rawR r o.many)) [] hkk hee (fun _ _ h => raw_len h) (fun _ h => raw_no h) hp, ⟨lb2, wb2, lt, wt, ld, wd, hb2, ht, hd, kb2, kt, kd, YB2, YT, YD, hB2, hT, hD, rfl⟩, hA48.cast (by simp)⟩

set_option maxRecDepth 100000 in
set_option maxHeartbeats 4000000 in
theorem rd_spells (w0 w : World) (R : List Seg) (sb rb : Nat) (bv rv : Value) (YS : Seg) (hS : ShB sb bv rv YS) (A : Option Addr) (l : List UInt8) (c p y : Nat) (X : Seg) (o : OpX) (hmany : -9223372036854775808 ≤ o.many ∧ o.many ≤ 9223372036854775807) (LA : Option Addr) (ll : List UInt8) (LC : Nat) (hll : ll = leftOf l p y) (hLC : ll.length ≤ LC) (hL : Rd w0 R LA ll) (hO : Buf 5 1 X (.slice A l.length c) l.length (dc l)) (hA : Hp w0 ([row rb 95 [.slice A l.length c, .int .i64 (p : Nat), .int .i64 (y : Nat)]] :: X :: YS :: R) w) (hp : p ≤ l.length) (hl : l.length < 140737488354000) : Calls Try.prog 62 #[.pointer (some ⟨sb, 0, none⟩), .pointer (some ⟨rb, 0, none⟩), .slice LA ll.length LC, .agg (opC o).toArray] w fun e' w' => ∃ (k e p' y' : Nat) (YS' : Seg), e' = .returned (.tuple #[.bool true, .int .i64 (k : Int), .int .i64 (e : Int)]) ∧ StepOK l p y p' y' k e ∧ ShB sb bv rv YS' ∧ Hp w0 ([row rb 95 [.slice A l.length c, .int .i64 (p' : Nat), .int .i64 (y' : Nat)]] :: X :: YS' :: R) w' := by
  have hll2 : ll.length ≤ l.length := by rw [hll, leftOf]; split <;> simp
  have hdl : (l.drop p).length ≤ l.length := by rw [List.length_drop]; omega
  obtain ⟨lb, wb, lt, wt, ld, wd, hb, ht, hd, kb, kt, kd, YB, YT, YD, hB, hT, hD, rfl⟩ := hS
  have hA1 : Hp w0 ([row rb 95 [.slice A l.length c, .int .i64 (p : Int), .int .i64 (y : Int)]] :: X :: [row sb 68 [bv, rv, lb, wb, .int .i64 hb, .bool false, lt, wt, .int .i64 ht, .bool false, ld, wd, .int .i64 hd, .bool false]] :: YB :: YT :: YD :: R) w := hA.cast (by simp)
  refine vc_enter Try.func62 rfl Try.ntmps62 (Nat.le_of_ble_eq_true rfl) (fun a hF => ?_)
  apply wp_seq_k; intro K1 hK1
  refine wp_region_lit ?_
  refine vc_op rfl (fun K hK => hs_box (cs := [.int .i64 o.kind, .int .i64 o.at_, .int .u64 (o.v.n : Int), .int .i64 o.many, .bool o.v.b, .slice o.dA o.v.ds.length o.dC, .slice o.qA o.ps.length o.qC, .slice o.pA o.v.p.length o.pC, strV o.v.s, .slice o.sA o.v.ss.length o.sC, .int .i64 o.most, .int .i64 o.each]) hF rfl (by decide) rfl hA1 rfl (fun b2 w3 a hb2 hF hA4 => hK _ _ ?_))
  clear hK K
  replace hA4 : Hp w0 ([row b2 38 [.int .i64 o.kind, .int .i64 o.at_, .int .u64 (o.v.n : Int), .int .i64 o.many, .bool o.v.b, .slice o.dA o.v.ds.length o.dC, .slice o.qA o.ps.length o.qC, .slice o.pA o.v.p.length o.pC, strV o.v.s, .slice o.sA o.v.ss.length o.sC, .int .i64 o.most, .int .i64 o.each]] :: [row rb 95 [.slice A l.length c, .int .i64 (p : Int), .int .i64 (y : Int)]] :: X :: [row sb 68 [bv, rv, lb, wb, .int .i64 hb, .bool false, lt, wt, .int .i64 ht, .bool false, ld, wd, .int .i64 hd, .bool false]] :: YB :: YT :: YD :: R) w3 := hA4
  refine vc_y hF rfl rfl (by decide) _ (y_assign rfl rfl) (fun a hF => ?_)
  refine vc_y hF rfl rfl (by decide) _ (y_assign rfl rfl) (fun a hF => ?_)
  refine vc_y hF rfl rfl (by decide) _ (y_assign rfl rfl) (fun a hF => ?_)
  refine vc_nil ?_
  refine hK1 _ _ ?_; clear  hK1 K1
  apply wp_seq_k; intro K2 hK2
  apply wp_seq_k; intro K3 hK3
  refine wp_region_lit ?_
  refine vc_y hF rfl rfl (by decide) _ (y_field rfl Try.underlying38 rfl sz3_rd (by decide) rfl (rfl : (⟨_, 0 + _, none⟩ : Addr) = ⟨_, 0, none⟩)) (fun a hF => ?_)
  refine vc_y hF rfl rfl (by decide) _ (y_ld rfl hA4.q rfl 0 rfl rfl nr3_rd) (fun a hF => ?_)
  refine vc_nil ?_
  refine hK3 _ _ ?_; clear  hK3 K3
  apply wp_block
  apply wp_seq_k; intro K4 hK4
  refine wp_region_lit ?_
  refine vc_y hF rfl rfl (by decide) _ (y_cmp rfl rfl rfl rfl rfl) (fun a hF => ?_)
  refine vc_y hF rfl rfl (by decide) _ (y_assign rfl rfl) (fun a hF => ?_)
  refine vc_nil ?_
  refine hK4 _ _ ?_; clear  hK4 K4
  by_cases k8 : o.kind = 8
  · refine vc_trueB hF rfl (eql_t (by omega)) ?_
    have hvl : (textR ll o.most).val [] 0 = (textR (l.drop p) o.most).val [] y := by rw [hll]; exact step_val (G := fun r => textR r o.most) (sized_nil (by decide))
    obtain ⟨DS, hDS⟩ : ∃ DS, DS = (textR (l.drop p) o.most).val [] y := ⟨_, rfl⟩
    rw [← hDS] at hvl
    apply wp_seq_k; intro K5 hK5
    refine wp_region_lit ?_
    refine vc_y hF rfl rfl (by decide) _ (y_move rfl rfl) (fun a hF => ?_)
    refine vc_y hF rfl rfl (by decide) _ (y_field rfl Try.underlying38 rfl sz3_rd (by decide) rfl (rfl : (⟨_, 0 + _, none⟩ : Addr) = ⟨_, 10, none⟩)) (fun a hF => ?_)
    refine vc_y hF rfl rfl (by decide) _ (y_ld rfl hA4.q rfl 0 rfl rfl nr3_rd) (fun a hF => ?_)
    refine vc_op rfl (fun K hK => ws_call hF rfl (by decide) cl95_rd rfl rfl ?_)
    with_reducible refine (rt_text w0 _ ([row b2 38 [.int .i64 o.kind, .int .i64 o.at_, .int .u64 (o.v.n : Int), .int .i64 o.many, .bool o.v.b, .slice o.dA o.v.ds.length o.dC, .slice o.qA o.ps.length o.qC, .slice o.pA o.v.p.length o.pC, strV o.v.s, .slice o.sA o.v.ss.length o.sC, .int .i64 o.most, .int .i64 o.each]] :: [row rb 95 [.slice A l.length c, .int .i64 (p : Int), .int .i64 (y : Int)]] :: X :: [row sb 68 [bv, rv, lb, wb, .int .i64 hb, .bool false, lt, wt, .int .i64 ht, .bool false, ld, wd, .int .i64 hd, .bool false]] :: YB :: YT :: YD :: R) LA ll LC _ o.most rfl hLC (hL.mono (subC (subC (subC (subC (subC (subC (subC (sub0))))))))) hA4 (by omega) ).mono ?_
    rintro e' w5 ⟨k1, rfl, hk1, hA6⟩
    refine ⟨_, rfl, fun a hF => hK _ _ ?_⟩
    clear hK K
    replace hA6 : Hp w0 ([row b2 38 [.int .i64 o.kind, .int .i64 o.at_, .int .u64 (o.v.n : Int), .int .i64 o.many, .bool o.v.b, .slice o.dA o.v.ds.length o.dC, .slice o.qA o.ps.length o.qC, .slice o.pA o.v.p.length o.pC, strV o.v.s, .slice o.sA o.v.ss.length o.sC, .int .i64 o.most, .int .i64 o.each]] :: [row rb 95 [.slice A l.length c, .int .i64 (p : Int), .int .i64 (y : Int)]] :: X :: [row sb 68 [bv, rv, lb, wb, .int .i64 hb, .bool false, lt, wt, .int .i64 ht, .bool false, ld, wd, .int .i64 hd, .bool false]] :: YB :: YT :: YD :: R) w5 := hA6
    rw [hvl] at hF
    have hkk : ((fun r => textR r o.most) (leftOf l p y)).why 0 = 0 → k1 = ((fun r => textR r o.most) (leftOf l p y)).pl 0 0 := by rw [← hll]; exact hk1
    have hee : (textR ll o.most).why 0 = ((fun r => textR r o.most) (leftOf l p y)).why 0 := by rw [← hll]
    refine vc_y hF rfl rfl (by decide) _ (y_move rfl rfl) (fun a hF => ?_)
    refine vc_y hF rfl rfl (by decide) _ (y_extract (v := strV DS) rfl rfl rfl) (fun a hF => ?_)
    refine vc_y hF rfl rfl (by decide) _ (y_extract (v := .int .i64 ((k1 : Nat) : Int)) rfl rfl rfl) (fun a hF => ?_)
    refine vc_y hF rfl rfl (by decide) _ (y_extract (v := .int .i64 (((textR ll o.most).why 0 : Nat) : Int)) rfl rfl rfl) (fun a hF => ?_)
    refine vc_y hF rfl rfl (by decide) _ (y_assign rfl rfl) (fun a hF => ?_)
    refine vc_y hF rfl rfl (by decide) _ (y_assign rfl rfl) (fun a hF => ?_)
    refine vc_y hF rfl rfl (by decide) _ (y_assign rfl rfl) (fun a hF => ?_)
    refine vc_nil ?_
    refine hK5 _ _ ?_; clear  hK5 K5
    apply wp_seq_k; intro K6 hK6
    refine wp_region_lit ?_
    refine vc_y hF rfl rfl (by decide) _ (y_move rfl rfl) (fun a hF => ?_)
    refine vc_y hF rfl rfl (by decide) _ (y_field rfl Try.underlying38 rfl sz3_rd (by decide) rfl (rfl : (⟨_, 0 + _, none⟩ : Addr) = ⟨_, 10, none⟩)) (fun a hF => ?_)
    refine vc_y hF rfl rfl (by decide) _ (y_ld rfl hA6.q rfl 0 rfl rfl nr3_rd) (fun a hF => ?_)
    have hA7 : Hp w0 ([row rb 95 [.slice A l.length c, .int .i64 (p : Int), .int .i64 (y : Int)]] :: X :: [row b2 38 [.int .i64 o.kind, .int .i64 o.at_, .int .u64 (o.v.n : Int), .int .i64 o.many, .bool o.v.b, .slice o.dA o.v.ds.length o.dC, .slice o.qA o.ps.length o.qC, .slice o.pA o.v.p.length o.pC, strV o.v.s, .slice o.sA o.v.ss.length o.sC, .int .i64 o.most, .int .i64 o.each]] :: [row sb 68 [bv, rv, lb, wb, .int .i64 hb, .bool false, lt, wt, .int .i64 ht, .bool false, ld, wd, .int .i64 hd, .bool false]] :: YB :: YT :: YD :: R) w5 := Hp.ord [[row b2 38 [.int .i64 o.kind, .int .i64 o.at_, .int .u64 (o.v.n : Int), .int .i64 o.many, .bool o.v.b, .slice o.dA o.v.ds.length o.dC, .slice o.qA o.ps.length o.qC, .slice o.pA o.v.p.length o.pC, strV o.v.s, .slice o.sA o.v.ss.length o.sC, .int .i64 o.most, .int .i64 o.each]], [row rb 95 [.slice A l.length c, .int .i64 (p : Int), .int .i64 (y : Int)]], X, [row sb 68 [bv, rv, lb, wb, .int .i64 hb, .bool false, lt, wt, .int .i64 ht, .bool false, ld, wd, .int .i64 hd, .bool false]], YB, YT, YD] R [1, 2, 0, 3, 4, 5, 6] hA6 rfl
    refine vc_op rfl (fun K hK => ws_call hF rfl (by decide) cl76_rd rfl rfl ?_)
    with_reducible refine (hr_text w0 _ _ rb A l c p y X o.most hO hA7 hp hl ).mono ?_
    rintro e' w8 ⟨rfl, hA9⟩
    refine ⟨_, rfl, fun a hF => hK _ _ ?_⟩
    clear hK K
    replace hA9 : Hp w0 ([row rb 95 [.slice A l.length c, .int .i64 (((textR (l.drop p) o.most).pl p y : Nat) : Int), .int .i64 (((textR (l.drop p) o.most).why y : Nat) : Int)]] :: X :: [row b2 38 [.int .i64 o.kind, .int .i64 o.at_, .int .u64 (o.v.n : Int), .int .i64 o.many, .bool o.v.b, .slice o.dA o.v.ds.length o.dC, .slice o.qA o.ps.length o.qC, .slice o.pA o.v.p.length o.pC, strV o.v.s, .slice o.sA o.v.ss.length o.sC, .int .i64 o.most, .int .i64 o.each]] :: [row sb 68 [bv, rv, lb, wb, .int .i64 hb, .bool false, lt, wt, .int .i64 ht, .bool false, ld, wd, .int .i64 hd, .bool false]] :: YB :: YT :: YD :: R) w8 := hA9
    rw [← hDS] at hF
    refine vc_y hF rfl rfl (by decide) _ (y_move rfl rfl) (fun a hF => ?_)
    refine vc_y hF rfl rfl (by decide) _ (y_cmpS rfl rfl rfl rfl (strB_eql_t _)) (fun a hF => ?_)
    refine vc_y hF rfl rfl (by decide) _ (y_move rfl rfl) (fun a hF => ?_)
    refine vc_y hF rfl rfl (by decide) _ (y_move rfl rfl) (fun a hF => ?_)
    refine vc_y hF rfl rfl (by decide) _ (y_assign rfl rfl) (fun a hF => ?_)
    refine vc_y hF rfl rfl (by decide) _ (y_assign rfl rfl) (fun a hF => ?_)
    refine vc_y hF rfl rfl (by decide) _ (y_assign rfl rfl) (fun a hF => ?_)
    refine vc_nil ?_
    refine hK6 _ _ ?_; clear  hK6 K6
    apply wp_ret
    simp only [Exit.then, Exit.inBlock]
    refine vc_ret3 hF Try.results62 rfl rfl rfl ?_
    have hA10 : Hp w0 ([row rb 95 [.slice A l.length c, .int .i64 (((textR (l.drop p) o.most).pl p y : Nat) : Int), .int .i64 (((textR (l.drop p) o.most).why y : Nat) : Int)]] :: X :: [row sb 68 [bv, rv, lb, wb, .int .i64 hb, .bool false, lt, wt, .int .i64 ht, .bool false, ld, wd, .int .i64 hd, .bool false]] :: YB :: YT :: YD :: R) w8 := Hp.sel [[row rb 95 [.slice A l.length c, .int .i64 (((textR (l.drop p) o.most).pl p y : Nat) : Int), .int .i64 (((textR (l.drop p) o.most).why y : Nat) : Int)]], X, [row b2 38 [.int .i64 o.kind, .int .i64 o.at_, .int .u64 (o.v.n : Int), .int .i64 o.many, .bool o.v.b, .slice o.dA o.v.ds.length o.dC, .slice o.qA o.ps.length o.qC, .slice o.pA o.v.p.length o.pC, strV o.v.s, .slice o.sA o.v.ss.length o.sC, .int .i64 o.most, .int .i64 o.each]], [row sb 68 [bv, rv, lb, wb, .int .i64 hb, .bool false, lt, wt, .int .i64 ht, .bool false, ld, wd, .int .i64 hd, .bool false]], YB, YT, YD] R [0, 1, 3, 4, 5, 6] [2] hA9 rfl
    exact ⟨_, _, _, _, _, rfl, step_ok (G := (fun r => textR r o.most)) [] hkk hee (fun _ _ h => (fun h => (sized_le h).1) h) (fun _ h => sized_no6 h) hp, ⟨lb, wb, lt, wt, ld, wd, hb, ht, hd, kb, kt, kd, YB, YT, YD, hB, hT, hD, rfl⟩, hA10.cast (by simp)⟩
  · refine vc_falseB hF rfl (eql_f (by omega)) ?_
    apply wp_seq_k; intro K7 hK7
    refine wp_region_lit ?_
    refine vc_y hF rfl rfl (by decide) _ (y_cmp rfl rfl rfl rfl rfl) (fun a hF => ?_)
    refine vc_y hF rfl rfl (by decide) _ (y_assign rfl rfl) (fun a hF => ?_)
    refine vc_nil ?_
    refine hK7 _ _ ?_; clear  hK7 K7
    by_cases k9 : o.kind = 9
    · refine vc_trueB hF rfl (eql_t (by omega)) ?_
      have hvl : (bytesR ll o.most).val [] 0 = (bytesR (l.drop p) o.most).val [] y := by rw [hll]; exact step_val (G := fun r => bytesR r o.most) (sized_nil (by decide))
      obtain ⟨DS, hDS⟩ : ∃ DS, DS = (bytesR (l.drop p) o.most).val [] y := ⟨_, rfl⟩
      rw [← hDS] at hvl
      have hsm := sized_small 4 6 (l.drop p) (bnd o.most 2147483647) y
      rw [← hDS] at hsm
      have hdl2 : DS.length ≤ 140737488354000 := by omega
      apply wp_seq_k; intro K8 hK8
      refine wp_region_lit ?_
      refine vc_y hF rfl rfl (by decide) _ (y_move rfl rfl) (fun a hF => ?_)
      refine vc_y hF rfl rfl (by decide) _ (y_field rfl Try.underlying38 rfl sz3_rd (by decide) rfl (rfl : (⟨_, 0 + _, none⟩ : Addr) = ⟨_, 10, none⟩)) (fun a hF => ?_)
      refine vc_y hF rfl rfl (by decide) _ (y_ld rfl hA4.q rfl 0 rfl rfl nr3_rd) (fun a hF => ?_)
      refine vc_op rfl (fun K hK => ws_call hF rfl (by decide) cl96_rd rfl rfl ?_)
      with_reducible refine (rt_bytes w0 _ ([row b2 38 [.int .i64 o.kind, .int .i64 o.at_, .int .u64 (o.v.n : Int), .int .i64 o.many, .bool o.v.b, .slice o.dA o.v.ds.length o.dC, .slice o.qA o.ps.length o.qC, .slice o.pA o.v.p.length o.pC, strV o.v.s, .slice o.sA o.v.ss.length o.sC, .int .i64 o.most, .int .i64 o.each]] :: [row rb 95 [.slice A l.length c, .int .i64 (p : Int), .int .i64 (y : Int)]] :: X :: [row sb 68 [bv, rv, lb, wb, .int .i64 hb, .bool false, lt, wt, .int .i64 ht, .bool false, ld, wd, .int .i64 hd, .bool false]] :: YB :: YT :: YD :: R) LA ll LC _ o.most rfl hLC (hL.mono (subC (subC (subC (subC (subC (subC (subC (sub0))))))))) hA4 (by omega) ).mono ?_
      rintro e' w11 ⟨v1, Z1, k1, rfl, hk1, hZ1, hA12⟩
      refine ⟨_, rfl, fun a hF => hK _ _ ?_⟩
      clear hK K
      replace hA12 : Hp w0 (Z1 :: [row b2 38 [.int .i64 o.kind, .int .i64 o.at_, .int .u64 (o.v.n : Int), .int .i64 o.many, .bool o.v.b, .slice o.dA o.v.ds.length o.dC, .slice o.qA o.ps.length o.qC, .slice o.pA o.v.p.length o.pC, strV o.v.s, .slice o.sA o.v.ss.length o.sC, .int .i64 o.most, .int .i64 o.each]] :: [row rb 95 [.slice A l.length c, .int .i64 (p : Int), .int .i64 (y : Int)]] :: X :: [row sb 68 [bv, rv, lb, wb, .int .i64 hb, .bool false, lt, wt, .int .i64 ht, .bool false, ld, wd, .int .i64 hd, .bool false]] :: YB :: YT :: YD :: R) w11 := hA12
      rw [hvl] at hZ1
      obtain ⟨A1, c1, rfl, _, hR1⟩ := hZ1.rc (w0 := w0) (R := [Z1]) (List.mem_cons_self ..)
      have hkk : ((fun r => bytesR r o.most) (leftOf l p y)).why 0 = 0 → k1 = ((fun r => bytesR r o.most) (leftOf l p y)).pl 0 0 := by rw [← hll]; exact hk1
      have hee : (bytesR ll o.most).why 0 = ((fun r => bytesR r o.most) (leftOf l p y)).why 0 := by rw [← hll]
      refine vc_y hF rfl rfl (by decide) _ (y_move rfl rfl) (fun a hF => ?_)
      refine vc_y hF rfl rfl (by decide) _ (y_extract (v := .slice A1 DS.length c1) rfl rfl rfl) (fun a hF => ?_)
      refine vc_y hF rfl rfl (by decide) _ (y_extract (v := .int .i64 ((k1 : Nat) : Int)) rfl rfl rfl) (fun a hF => ?_)
      refine vc_y hF rfl rfl (by decide) _ (y_extract (v := .int .i64 (((bytesR ll o.most).why 0 : Nat) : Int)) rfl rfl rfl) (fun a hF => ?_)
      refine vc_y hF rfl rfl (by decide) _ (y_assign rfl rfl) (fun a hF => ?_)
      refine vc_y hF rfl rfl (by decide) _ (y_assign rfl rfl) (fun a hF => ?_)
      refine vc_y hF rfl rfl (by decide) _ (y_assign rfl rfl) (fun a hF => ?_)
      refine vc_nil ?_
      refine hK8 _ _ ?_; clear  hK8 K8
      apply wp_seq_k; intro K9 hK9
      refine wp_region_lit ?_
      refine vc_y hF rfl rfl (by decide) _ (y_move rfl rfl) (fun a hF => ?_)
      refine vc_y hF rfl rfl (by decide) _ (y_field rfl Try.underlying38 rfl sz3_rd (by decide) rfl (rfl : (⟨_, 0 + _, none⟩ : Addr) = ⟨_, 10, none⟩)) (fun a hF => ?_)
      refine vc_y hF rfl rfl (by decide) _ (y_ld rfl hA12.q rfl 1 rfl rfl nr3_rd) (fun a hF => ?_)
      have hA13 : Hp w0 ([row rb 95 [.slice A l.length c, .int .i64 (p : Int), .int .i64 (y : Int)]] :: X :: Z1 :: [row b2 38 [.int .i64 o.kind, .int .i64 o.at_, .int .u64 (o.v.n : Int), .int .i64 o.many, .bool o.v.b, .slice o.dA o.v.ds.length o.dC, .slice o.qA o.ps.length o.qC, .slice o.pA o.v.p.length o.pC, strV o.v.s, .slice o.sA o.v.ss.length o.sC, .int .i64 o.most, .int .i64 o.each]] :: [row sb 68 [bv, rv, lb, wb, .int .i64 hb, .bool false, lt, wt, .int .i64 ht, .bool false, ld, wd, .int .i64 hd, .bool false]] :: YB :: YT :: YD :: R) w11 := Hp.ord [Z1, [row b2 38 [.int .i64 o.kind, .int .i64 o.at_, .int .u64 (o.v.n : Int), .int .i64 o.many, .bool o.v.b, .slice o.dA o.v.ds.length o.dC, .slice o.qA o.ps.length o.qC, .slice o.pA o.v.p.length o.pC, strV o.v.s, .slice o.sA o.v.ss.length o.sC, .int .i64 o.most, .int .i64 o.each]], [row rb 95 [.slice A l.length c, .int .i64 (p : Int), .int .i64 (y : Int)]], X, [row sb 68 [bv, rv, lb, wb, .int .i64 hb, .bool false, lt, wt, .int .i64 ht, .bool false, ld, wd, .int .i64 hd, .bool false]], YB, YT, YD] R [2, 3, 0, 1, 4, 5, 6, 7] hA12 rfl
      refine vc_op rfl (fun K hK => ws_call hF rfl (by decide) cl77_rd rfl rfl ?_)
      with_reducible refine (hr_bytes w0 _ _ rb A l c p y X o.most hO hA13 hp hl ).mono ?_
      rintro e' w14 ⟨v2, Z2, rfl, hZ2, hA15⟩
      refine ⟨_, rfl, fun a hF => hK _ _ ?_⟩
      clear hK K
      replace hA15 : Hp w0 (Z2 :: [row rb 95 [.slice A l.length c, .int .i64 (((bytesR (l.drop p) o.most).pl p y : Nat) : Int), .int .i64 (((bytesR (l.drop p) o.most).why y : Nat) : Int)]] :: X :: Z1 :: [row b2 38 [.int .i64 o.kind, .int .i64 o.at_, .int .u64 (o.v.n : Int), .int .i64 o.many, .bool o.v.b, .slice o.dA o.v.ds.length o.dC, .slice o.qA o.ps.length o.qC, .slice o.pA o.v.p.length o.pC, strV o.v.s, .slice o.sA o.v.ss.length o.sC, .int .i64 o.most, .int .i64 o.each]] :: [row sb 68 [bv, rv, lb, wb, .int .i64 hb, .bool false, lt, wt, .int .i64 ht, .bool false, ld, wd, .int .i64 hd, .bool false]] :: YB :: YT :: YD :: R) w14 := hA15
      rw [← hDS] at hZ2
      obtain ⟨A2, c2, rfl, _, hR2⟩ := hZ2.rc (w0 := w0) (R := [Z2]) (List.mem_cons_self ..)
      refine vc_y hF rfl rfl (by decide) _ (y_assign rfl rfl) (fun a hF => ?_)
      refine vc_nil ?_
      refine hK9 _ _ ?_; clear  hK9 K9
      apply wp_seq_k; intro K10 hK10
      refine wp_region_lit ?_
      refine vc_y hF rfl rfl (by decide) _ (y_move rfl rfl) (fun a hF => ?_)
      refine vc_y hF rfl rfl (by decide) _ (y_move rfl rfl) (fun a hF => ?_)
      refine vc_op rfl (fun K hK => ws_call hF rfl (by decide) cl87_rd rfl rfl ?_)
      with_reducible refine (rs_same_byte w0 _ (Z2 :: [row rb 95 [.slice A l.length c, .int .i64 (((bytesR (l.drop p) o.most).pl p y : Nat) : Int), .int .i64 (((bytesR (l.drop p) o.most).why y : Nat) : Int)]] :: X :: Z1 :: [row b2 38 [.int .i64 o.kind, .int .i64 o.at_, .int .u64 (o.v.n : Int), .int .i64 o.many, .bool o.v.b, .slice o.dA o.v.ds.length o.dC, .slice o.qA o.ps.length o.qC, .slice o.pA o.v.p.length o.pC, strV o.v.s, .slice o.sA o.v.ss.length o.sC, .int .i64 o.most, .int .i64 o.each]] :: [row sb 68 [bv, rv, lb, wb, .int .i64 hb, .bool false, lt, wt, .int .i64 ht, .bool false, ld, wd, .int .i64 hd, .bool false]] :: YB :: YT :: YD :: R) A1 A2 DS c1 c2 (hR1.mono (sub1 (List.mem_cons_of_mem _ (List.mem_cons_of_mem _ (List.mem_cons_of_mem _ ((List.mem_cons_self ..))))))) (hR2.mono (sub1 ((List.mem_cons_self ..)))) hA15 (by omega) ).mono ?_
      rintro e' w16 ⟨rfl, hA17⟩
      refine ⟨_, rfl, fun a hF => hK _ _ ?_⟩
      clear hK K
      replace hA17 : Hp w0 (Z2 :: [row rb 95 [.slice A l.length c, .int .i64 (((bytesR (l.drop p) o.most).pl p y : Nat) : Int), .int .i64 (((bytesR (l.drop p) o.most).why y : Nat) : Int)]] :: X :: Z1 :: [row b2 38 [.int .i64 o.kind, .int .i64 o.at_, .int .u64 (o.v.n : Int), .int .i64 o.many, .bool o.v.b, .slice o.dA o.v.ds.length o.dC, .slice o.qA o.ps.length o.qC, .slice o.pA o.v.p.length o.pC, strV o.v.s, .slice o.sA o.v.ss.length o.sC, .int .i64 o.most, .int .i64 o.each]] :: [row sb 68 [bv, rv, lb, wb, .int .i64 hb, .bool false, lt, wt, .int .i64 ht, .bool false, ld, wd, .int .i64 hd, .bool false]] :: YB :: YT :: YD :: R) w16 := hA17
      refine vc_y hF rfl rfl (by decide) _ (y_assign rfl rfl) (fun a hF => ?_)
      refine vc_nil ?_
      refine hK10 _ _ ?_; clear  hK10 K10
      apply wp_seq_k; intro K11 hK11
      refine wp_region_lit ?_
      refine vc_y hF rfl rfl (by decide) _ (y_move rfl rfl) (fun a hF => ?_)
      refine vc_y hF rfl rfl (by decide) _ (y_nilCheck rfl rfl) (fun a hF => ?_)
      refine vc_y hF rfl rfl (by decide) _ (y_field rfl Try.underlying68 rfl sz29_rd (by decide) rfl (rfl : (⟨_, 0 + _, none⟩ : Addr) = ⟨_, 2, none⟩)) (fun a hF => ?_)
      refine vc_y hF rfl rfl (by decide) _ (y_move rfl rfl) (fun a hF => ?_)
      have hA18 : Hp w0 (Z2 :: [row sb 68 [bv, rv, lb, wb, .int .i64 hb, .bool false, lt, wt, .int .i64 ht, .bool false, ld, wd, .int .i64 hd, .bool false]] :: YB :: [row rb 95 [.slice A l.length c, .int .i64 (((bytesR (l.drop p) o.most).pl p y : Nat) : Int), .int .i64 (((bytesR (l.drop p) o.most).why y : Nat) : Int)]] :: X :: Z1 :: [row b2 38 [.int .i64 o.kind, .int .i64 o.at_, .int .u64 (o.v.n : Int), .int .i64 o.many, .bool o.v.b, .slice o.dA o.v.ds.length o.dC, .slice o.qA o.ps.length o.qC, .slice o.pA o.v.p.length o.pC, strV o.v.s, .slice o.sA o.v.ss.length o.sC, .int .i64 o.most, .int .i64 o.each]] :: YT :: YD :: R) w16 := Hp.ord [Z2, [row rb 95 [.slice A l.length c, .int .i64 (((bytesR (l.drop p) o.most).pl p y : Nat) : Int), .int .i64 (((bytesR (l.drop p) o.most).why y : Nat) : Int)]], X, Z1, [row b2 38 [.int .i64 o.kind, .int .i64 o.at_, .int .u64 (o.v.n : Int), .int .i64 o.many, .bool o.v.b, .slice o.dA o.v.ds.length o.dC, .slice o.qA o.ps.length o.qC, .slice o.pA o.v.p.length o.pC, strV o.v.s, .slice o.sA o.v.ss.length o.sC, .int .i64 o.most, .int .i64 o.each]], [row sb 68 [bv, rv, lb, wb, .int .i64 hb, .bool false, lt, wt, .int .i64 ht, .bool false, ld, wd, .int .i64 hd, .bool false]], YB, YT, YD] R [0, 5, 6, 1, 2, 3, 4, 7, 8] hA17 rfl
      refine vc_op rfl (fun K hK => ws_call hF rfl (by decide) cl49_rd rfl rfl ?_)
      with_reducible refine (kb_keep_byte_2_8 w0 _ _ sb kb YB Z2 _ DS hB (by rw [← cel_dc]; exact hZ2) (fun _ _ => rfl) (by omega) (rs_grow1 hdl2) hA18 ).mono ?_
      rintro e' w19 ⟨kb2, lb2, wb2, hb2, YB2, rfl, hB2, _, hA20⟩
      refine ⟨_, rfl, fun a hF => hK _ _ ?_⟩
      clear hK K
      replace hA20 : Hp w0 ([row sb 68 [bv, rv, lb2, wb2, .int .i64 hb2, .bool false, lt, wt, .int .i64 ht, .bool false, ld, wd, .int .i64 hd, .bool false]] :: YB2 :: [row rb 95 [.slice A l.length c, .int .i64 (((bytesR (l.drop p) o.most).pl p y : Nat) : Int), .int .i64 (((bytesR (l.drop p) o.most).why y : Nat) : Int)]] :: X :: Z1 :: [row b2 38 [.int .i64 o.kind, .int .i64 o.at_, .int .u64 (o.v.n : Int), .int .i64 o.many, .bool o.v.b, .slice o.dA o.v.ds.length o.dC, .slice o.qA o.ps.length o.qC, .slice o.pA o.v.p.length o.pC, strV o.v.s, .slice o.sA o.v.ss.length o.sC, .int .i64 o.most, .int .i64 o.each]] :: YT :: YD :: R) w19 := hA20
      refine vc_nil ?_
      refine hK11 _ _ ?_; clear  hK11 K11
      apply wp_seq_k; intro K12 hK12
      refine wp_region_lit ?_
      refine vc_y hF rfl rfl (by decide) _ (y_move rfl rfl) (fun a hF => ?_)
      refine vc_y hF rfl rfl (by decide) _ (y_move rfl rfl) (fun a hF => ?_)
      refine vc_y hF rfl rfl (by decide) _ (y_move rfl rfl) (fun a hF => ?_)
      refine vc_y hF rfl rfl (by decide) _ (y_assign rfl rfl) (fun a hF => ?_)
      refine vc_y hF rfl rfl (by decide) _ (y_assign rfl rfl) (fun a hF => ?_)
      refine vc_y hF rfl rfl (by decide) _ (y_assign rfl rfl) (fun a hF => ?_)
      refine vc_nil ?_
      refine hK12 _ _ ?_; clear  hK12 K12
      apply wp_ret
      simp only [Exit.then, Exit.inBlock]
      refine vc_ret3 hF Try.results62 rfl rfl rfl ?_
      have hA21 : Hp w0 ([row rb 95 [.slice A l.length c, .int .i64 (((bytesR (l.drop p) o.most).pl p y : Nat) : Int), .int .i64 (((bytesR (l.drop p) o.most).why y : Nat) : Int)]] :: X :: [row sb 68 [bv, rv, lb2, wb2, .int .i64 hb2, .bool false, lt, wt, .int .i64 ht, .bool false, ld, wd, .int .i64 hd, .bool false]] :: YB2 :: YT :: YD :: R) w19 := Hp.sel [[row sb 68 [bv, rv, lb2, wb2, .int .i64 hb2, .bool false, lt, wt, .int .i64 ht, .bool false, ld, wd, .int .i64 hd, .bool false]], YB2, [row rb 95 [.slice A l.length c, .int .i64 (((bytesR (l.drop p) o.most).pl p y : Nat) : Int), .int .i64 (((bytesR (l.drop p) o.most).why y : Nat) : Int)]], X, Z1, [row b2 38 [.int .i64 o.kind, .int .i64 o.at_, .int .u64 (o.v.n : Int), .int .i64 o.many, .bool o.v.b, .slice o.dA o.v.ds.length o.dC, .slice o.qA o.ps.length o.qC, .slice o.pA o.v.p.length o.pC, strV o.v.s, .slice o.sA o.v.ss.length o.sC, .int .i64 o.most, .int .i64 o.each]], YT, YD] R [2, 3, 0, 1, 6, 7] [4, 5] hA20 rfl
      exact ⟨_, _, _, _, _, rfl, step_ok (G := (fun r => bytesR r o.most)) [] hkk hee (fun _ _ h => (fun h => (sized_le h).1) h) (fun _ h => sized_no6 h) hp, ⟨lb2, wb2, lt, wt, ld, wd, hb2, ht, hd, kb2, kt, kd, YB2, YT, YD, hB2, hT, hD, rfl⟩, hA21.cast (by simp)⟩
    · refine vc_falseB hF rfl (eql_f (by omega)) ?_
      have hvl : (textsR ll o.most o.each).val [] 0 = (textsR (l.drop p) o.most o.each).val [] y := by rw [hll]; exact step_val (G := fun r => textsR r o.most o.each) (texts_nil _ _)
      obtain ⟨DS, hDS⟩ : ∃ DS, DS = (textsR (l.drop p) o.most o.each).val [] y := ⟨_, rfl⟩
      rw [← hDS] at hvl
      have hdl2 := texts_small (l.drop p) o.most o.each y
      rw [← hDS] at hdl2
      apply wp_skip
      refine hK2 _ _ ?_; clear  hK2 K2
      apply wp_seq_k; intro K13 hK13
      refine wp_region_lit ?_
      refine vc_y hF rfl rfl (by decide) _ (y_move rfl rfl) (fun a hF => ?_)
      refine vc_y hF rfl rfl (by decide) _ (y_field rfl Try.underlying38 rfl sz3_rd (by decide) rfl (rfl : (⟨_, 0 + _, none⟩ : Addr) = ⟨_, 10, none⟩)) (fun a hF => ?_)
      refine vc_y hF rfl rfl (by decide) _ (y_ld rfl hA4.q rfl 0 rfl rfl nr3_rd) (fun a hF => ?_)
      refine vc_y hF rfl rfl (by decide) _ (y_field rfl Try.underlying38 rfl sz3_rd (by decide) rfl (rfl : (⟨_, 0 + _, none⟩ : Addr) = ⟨_, 11, none⟩)) (fun a hF => ?_)
      refine vc_y hF rfl rfl (by decide) _ (y_ld rfl hA4.q rfl 0 rfl rfl nr3_rd) (fun a hF => ?_)
      refine vc_op rfl (fun K hK => ws_call hF rfl (by decide) cl97_rd rfl rfl ?_)
      with_reducible refine (rt_texts w0 _ ([row b2 38 [.int .i64 o.kind, .int .i64 o.at_, .int .u64 (o.v.n : Int), .int .i64 o.many, .bool o.v.b, .slice o.dA o.v.ds.length o.dC, .slice o.qA o.ps.length o.qC, .slice o.pA o.v.p.length o.pC, strV o.v.s, .slice o.sA o.v.ss.length o.sC, .int .i64 o.most, .int .i64 o.each]] :: [row rb 95 [.slice A l.length c, .int .i64 (p : Int), .int .i64 (y : Int)]] :: X :: [row sb 68 [bv, rv, lb, wb, .int .i64 hb, .bool false, lt, wt, .int .i64 ht, .bool false, ld, wd, .int .i64 hd, .bool false]] :: YB :: YT :: YD :: R) LA ll LC o.most o.each hLC (hL.mono (subC (subC (subC (subC (subC (subC (subC (sub0))))))))) hA4 (by omega) ).mono ?_
      rintro e' w22 ⟨v1, Z1, k1, rfl, hk1, hZ1, hA23⟩
      refine ⟨_, rfl, fun a hF => hK _ _ ?_⟩
      clear hK K
      replace hA23 : Hp w0 (Z1 :: [row b2 38 [.int .i64 o.kind, .int .i64 o.at_, .int .u64 (o.v.n : Int), .int .i64 o.many, .bool o.v.b, .slice o.dA o.v.ds.length o.dC, .slice o.qA o.ps.length o.qC, .slice o.pA o.v.p.length o.pC, strV o.v.s, .slice o.sA o.v.ss.length o.sC, .int .i64 o.most, .int .i64 o.each]] :: [row rb 95 [.slice A l.length c, .int .i64 (p : Int), .int .i64 (y : Int)]] :: X :: [row sb 68 [bv, rv, lb, wb, .int .i64 hb, .bool false, lt, wt, .int .i64 ht, .bool false, ld, wd, .int .i64 hd, .bool false]] :: YB :: YT :: YD :: R) w22 := hA23
      rw [hvl] at hZ1
      obtain ⟨A1, c1, rfl, _, hR1⟩ := hZ1.rc (w0 := w0) (R := [Z1]) (List.mem_cons_self ..)
      have hkk : ((fun r => textsR r o.most o.each) (leftOf l p y)).why 0 = 0 → k1 = ((fun r => textsR r o.most o.each) (leftOf l p y)).pl 0 0 := by rw [← hll]; exact hk1
      have hee : (textsR ll o.most o.each).why 0 = ((fun r => textsR r o.most o.each) (leftOf l p y)).why 0 := by rw [← hll]
      refine vc_y hF rfl rfl (by decide) _ (y_move rfl rfl) (fun a hF => ?_)
      refine vc_y hF rfl rfl (by decide) _ (y_extract (v := .slice A1 DS.length c1) rfl rfl rfl) (fun a hF => ?_)
      refine vc_y hF rfl rfl (by decide) _ (y_extract (v := .int .i64 ((k1 : Nat) : Int)) rfl rfl rfl) (fun a hF => ?_)
      refine vc_y hF rfl rfl (by decide) _ (y_extract (v := .int .i64 (((textsR ll o.most o.each).why 0 : Nat) : Int)) rfl rfl rfl) (fun a hF => ?_)
      refine vc_y hF rfl rfl (by decide) _ (y_assign rfl rfl) (fun a hF => ?_)
      refine vc_y hF rfl rfl (by decide) _ (y_assign rfl rfl) (fun a hF => ?_)
      refine vc_y hF rfl rfl (by decide) _ (y_assign rfl rfl) (fun a hF => ?_)
      refine vc_nil ?_
      refine hK13 _ _ ?_; clear  hK13 K13
      apply wp_seq_k; intro K14 hK14
      refine wp_region_lit ?_
      refine vc_y hF rfl rfl (by decide) _ (y_move rfl rfl) (fun a hF => ?_)
      refine vc_y hF rfl rfl (by decide) _ (y_field rfl Try.underlying38 rfl sz3_rd (by decide) rfl (rfl : (⟨_, 0 + _, none⟩ : Addr) = ⟨_, 10, none⟩)) (fun a hF => ?_)
      refine vc_y hF rfl rfl (by decide) _ (y_ld rfl hA23.q rfl 1 rfl rfl nr3_rd) (fun a hF => ?_)
      refine vc_y hF rfl rfl (by decide) _ (y_field rfl Try.underlying38 rfl sz3_rd (by decide) rfl (rfl : (⟨_, 0 + _, none⟩ : Addr) = ⟨_, 11, none⟩)) (fun a hF => ?_)
      refine vc_y hF rfl rfl (by decide) _ (y_ld rfl hA23.q rfl 1 rfl rfl nr3_rd) (fun a hF => ?_)
      have hA24 : Hp w0 ([row rb 95 [.slice A l.length c, .int .i64 (p : Int), .int .i64 (y : Int)]] :: X :: Z1 :: [row b2 38 [.int .i64 o.kind, .int .i64 o.at_, .int .u64 (o.v.n : Int), .int .i64 o.many, .bool o.v.b, .slice o.dA o.v.ds.length o.dC, .slice o.qA o.ps.length o.qC, .slice o.pA o.v.p.length o.pC, strV o.v.s, .slice o.sA o.v.ss.length o.sC, .int .i64 o.most, .int .i64 o.each]] :: [row sb 68 [bv, rv, lb, wb, .int .i64 hb, .bool false, lt, wt, .int .i64 ht, .bool false, ld, wd, .int .i64 hd, .bool false]] :: YB :: YT :: YD :: R) w22 := Hp.ord [Z1, [row b2 38 [.int .i64 o.kind, .int .i64 o.at_, .int .u64 (o.v.n : Int), .int .i64 o.many, .bool o.v.b, .slice o.dA o.v.ds.length o.dC, .slice o.qA o.ps.length o.qC, .slice o.pA o.v.p.length o.pC, strV o.v.s, .slice o.sA o.v.ss.length o.sC, .int .i64 o.most, .int .i64 o.each]], [row rb 95 [.slice A l.length c, .int .i64 (p : Int), .int .i64 (y : Int)]], X, [row sb 68 [bv, rv, lb, wb, .int .i64 hb, .bool false, lt, wt, .int .i64 ht, .bool false, ld, wd, .int .i64 hd, .bool false]], YB, YT, YD] R [2, 3, 0, 1, 4, 5, 6, 7] hA23 rfl
      refine vc_op rfl (fun K hK => ws_call hF rfl (by decide) cl78_rd rfl rfl ?_)
      with_reducible refine (hr_texts w0 _ _ rb A l c p y X o.most o.each hO hA24 hp hl ).mono ?_
      rintro e' w25 ⟨v2, Z2, rfl, hZ2, hA26⟩
      refine ⟨_, rfl, fun a hF => hK _ _ ?_⟩
      clear hK K
      replace hA26 : Hp w0 (Z2 :: [row rb 95 [.slice A l.length c, .int .i64 (((textsR (l.drop p) o.most o.each).pl p y : Nat) : Int), .int .i64 (((textsR (l.drop p) o.most o.each).why y : Nat) : Int)]] :: X :: Z1 :: [row b2 38 [.int .i64 o.kind, .int .i64 o.at_, .int .u64 (o.v.n : Int), .int .i64 o.many, .bool o.v.b, .slice o.dA o.v.ds.length o.dC, .slice o.qA o.ps.length o.qC, .slice o.pA o.v.p.length o.pC, strV o.v.s, .slice o.sA o.v.ss.length o.sC, .int .i64 o.most, .int .i64 o.each]] :: [row sb 68 [bv, rv, lb, wb, .int .i64 hb, .bool false, lt, wt, .int .i64 ht, .bool false, ld, wd, .int .i64 hd, .bool false]] :: YB :: YT :: YD :: R) w25 := hA26
      rw [← hDS] at hZ2
      obtain ⟨A2, c2, rfl, _, hR2⟩ := hZ2.rc (w0 := w0) (R := [Z2]) (List.mem_cons_self ..)
      refine vc_y hF rfl rfl (by decide) _ (y_assign rfl rfl) (fun a hF => ?_)
      refine vc_nil ?_
      refine hK14 _ _ ?_; clear  hK14 K14
      apply wp_seq_k; intro K15 hK15
      refine wp_region_lit ?_
      refine vc_y hF rfl rfl (by decide) _ (y_move rfl rfl) (fun a hF => ?_)
      refine vc_y hF rfl rfl (by decide) _ (y_move rfl rfl) (fun a hF => ?_)
      refine vc_op rfl (fun K hK => ws_call hF rfl (by decide) cl72_rd rfl rfl ?_)
      with_reducible refine (rs_same_string w0 _ (Z2 :: [row rb 95 [.slice A l.length c, .int .i64 (((textsR (l.drop p) o.most o.each).pl p y : Nat) : Int), .int .i64 (((textsR (l.drop p) o.most o.each).why y : Nat) : Int)]] :: X :: Z1 :: [row b2 38 [.int .i64 o.kind, .int .i64 o.at_, .int .u64 (o.v.n : Int), .int .i64 o.many, .bool o.v.b, .slice o.dA o.v.ds.length o.dC, .slice o.qA o.ps.length o.qC, .slice o.pA o.v.p.length o.pC, strV o.v.s, .slice o.sA o.v.ss.length o.sC, .int .i64 o.most, .int .i64 o.each]] :: [row sb 68 [bv, rv, lb, wb, .int .i64 hb, .bool false, lt, wt, .int .i64 ht, .bool false, ld, wd, .int .i64 hd, .bool false]] :: YB :: YT :: YD :: R) A1 A2 DS c1 c2 (hR1.mono (sub1 (List.mem_cons_of_mem _ (List.mem_cons_of_mem _ (List.mem_cons_of_mem _ ((List.mem_cons_self ..))))))) (hR2.mono (sub1 ((List.mem_cons_self ..)))) hA26 (by omega) ).mono ?_
      rintro e' w27 ⟨rfl, hA28⟩
      refine ⟨_, rfl, fun a hF => hK _ _ ?_⟩
      clear hK K
      replace hA28 : Hp w0 (Z2 :: [row rb 95 [.slice A l.length c, .int .i64 (((textsR (l.drop p) o.most o.each).pl p y : Nat) : Int), .int .i64 (((textsR (l.drop p) o.most o.each).why y : Nat) : Int)]] :: X :: Z1 :: [row b2 38 [.int .i64 o.kind, .int .i64 o.at_, .int .u64 (o.v.n : Int), .int .i64 o.many, .bool o.v.b, .slice o.dA o.v.ds.length o.dC, .slice o.qA o.ps.length o.qC, .slice o.pA o.v.p.length o.pC, strV o.v.s, .slice o.sA o.v.ss.length o.sC, .int .i64 o.most, .int .i64 o.each]] :: [row sb 68 [bv, rv, lb, wb, .int .i64 hb, .bool false, lt, wt, .int .i64 ht, .bool false, ld, wd, .int .i64 hd, .bool false]] :: YB :: YT :: YD :: R) w27 := hA28
      refine vc_y hF rfl rfl (by decide) _ (y_assign rfl rfl) (fun a hF => ?_)
      refine vc_nil ?_
      refine hK15 _ _ ?_; clear  hK15 K15
      apply wp_seq_k; intro K16 hK16
      refine wp_region_lit ?_
      refine vc_y hF rfl rfl (by decide) _ (y_move rfl rfl) (fun a hF => ?_)
      refine vc_y hF rfl rfl (by decide) _ (y_nilCheck rfl rfl) (fun a hF => ?_)
      refine vc_y hF rfl rfl (by decide) _ (y_field rfl Try.underlying68 rfl sz63_rd (by decide) rfl (rfl : (⟨_, 0 + _, none⟩ : Addr) = ⟨_, 6, none⟩)) (fun a hF => ?_)
      refine vc_y hF rfl rfl (by decide) _ (y_move rfl rfl) (fun a hF => ?_)
      have hA29 : Hp w0 (Z2 :: [row sb 68 [bv, rv, lb, wb, .int .i64 hb, .bool false, lt, wt, .int .i64 ht, .bool false, ld, wd, .int .i64 hd, .bool false]] :: YT :: [row rb 95 [.slice A l.length c, .int .i64 (((textsR (l.drop p) o.most o.each).pl p y : Nat) : Int), .int .i64 (((textsR (l.drop p) o.most o.each).why y : Nat) : Int)]] :: X :: Z1 :: [row b2 38 [.int .i64 o.kind, .int .i64 o.at_, .int .u64 (o.v.n : Int), .int .i64 o.many, .bool o.v.b, .slice o.dA o.v.ds.length o.dC, .slice o.qA o.ps.length o.qC, .slice o.pA o.v.p.length o.pC, strV o.v.s, .slice o.sA o.v.ss.length o.sC, .int .i64 o.most, .int .i64 o.each]] :: YB :: YD :: R) w27 := Hp.ord [Z2, [row rb 95 [.slice A l.length c, .int .i64 (((textsR (l.drop p) o.most o.each).pl p y : Nat) : Int), .int .i64 (((textsR (l.drop p) o.most o.each).why y : Nat) : Int)]], X, Z1, [row b2 38 [.int .i64 o.kind, .int .i64 o.at_, .int .u64 (o.v.n : Int), .int .i64 o.many, .bool o.v.b, .slice o.dA o.v.ds.length o.dC, .slice o.qA o.ps.length o.qC, .slice o.pA o.v.p.length o.pC, strV o.v.s, .slice o.sA o.v.ss.length o.sC, .int .i64 o.most, .int .i64 o.each]], [row sb 68 [bv, rv, lb, wb, .int .i64 hb, .bool false, lt, wt, .int .i64 ht, .bool false, ld, wd, .int .i64 hd, .bool false]], YB, YT, YD] R [0, 5, 7, 1, 2, 3, 4, 6, 8] hA28 rfl
      refine vc_op rfl (fun K hK => ws_call hF rfl (by decide) cl98_rd rfl rfl ?_)
      with_reducible refine (kb_keep_string_6_4 w0 _ _ sb kt YT Z2 _ DS hT (by rw [← cel_str]; exact hZ2) (fun _ _ => rfl) (by omega) (rs_grow16 hdl2) hA29 ).mono ?_
      rintro e' w30 ⟨kt2, lt2, wt2, ht2, YT2, rfl, hT2, _, hA31⟩
      refine ⟨_, rfl, fun a hF => hK _ _ ?_⟩
      clear hK K
      replace hA31 : Hp w0 ([row sb 68 [bv, rv, lb, wb, .int .i64 hb, .bool false, lt2, wt2, .int .i64 ht2, .bool false, ld, wd, .int .i64 hd, .bool false]] :: YT2 :: [row rb 95 [.slice A l.length c, .int .i64 (((textsR (l.drop p) o.most o.each).pl p y : Nat) : Int), .int .i64 (((textsR (l.drop p) o.most o.each).why y : Nat) : Int)]] :: X :: Z1 :: [row b2 38 [.int .i64 o.kind, .int .i64 o.at_, .int .u64 (o.v.n : Int), .int .i64 o.many, .bool o.v.b, .slice o.dA o.v.ds.length o.dC, .slice o.qA o.ps.length o.qC, .slice o.pA o.v.p.length o.pC, strV o.v.s, .slice o.sA o.v.ss.length o.sC, .int .i64 o.most, .int .i64 o.each]] :: YB :: YD :: R) w30 := hA31
      refine vc_nil ?_
      refine hK16 _ _ ?_; clear  hK16 K16
      apply wp_seq_k; intro K17 hK17
      refine wp_region_lit ?_
      refine vc_y hF rfl rfl (by decide) _ (y_move rfl rfl) (fun a hF => ?_)
      refine vc_y hF rfl rfl (by decide) _ (y_move rfl rfl) (fun a hF => ?_)
      refine vc_y hF rfl rfl (by decide) _ (y_move rfl rfl) (fun a hF => ?_)
      refine vc_y hF rfl rfl (by decide) _ (y_assign rfl rfl) (fun a hF => ?_)
      refine vc_y hF rfl rfl (by decide) _ (y_assign rfl rfl) (fun a hF => ?_)
      refine vc_y hF rfl rfl (by decide) _ (y_assign rfl rfl) (fun a hF => ?_)
      refine vc_nil ?_
      refine hK17 _ _ ?_; clear  hK17 K17
      apply wp_ret
      refine vc_ret3 hF Try.results62 rfl rfl rfl ?_
      have hA32 : Hp w0 ([row rb 95 [.slice A l.length c, .int .i64 (((textsR (l.drop p) o.most o.each).pl p y : Nat) : Int), .int .i64 (((textsR (l.drop p) o.most o.each).why y : Nat) : Int)]] :: X :: [row sb 68 [bv, rv, lb, wb, .int .i64 hb, .bool false, lt2, wt2, .int .i64 ht2, .bool false, ld, wd, .int .i64 hd, .bool false]] :: YB :: YT2 :: YD :: R) w30 := Hp.sel [[row sb 68 [bv, rv, lb, wb, .int .i64 hb, .bool false, lt2, wt2, .int .i64 ht2, .bool false, ld, wd, .int .i64 hd, .bool false]], YT2, [row rb 95 [.slice A l.length c, .int .i64 (((textsR (l.drop p) o.most o.each).pl p y : Nat) : Int), .int .i64 (((textsR (l.drop p) o.most o.each).why y : Nat) : Int)]], X, Z1, [row b2 38 [.int .i64 o.kind, .int .i64 o.at_, .int .u64 (o.v.n : Int), .int .i64 o.many, .bool o.v.b, .slice o.dA o.v.ds.length o.dC, .slice o.qA o.ps.length o.qC, .slice o.pA o.v.p.length o.pC, strV o.v.s, .slice o.sA o.v.ss.length o.sC, .int .i64 o.most, .int .i64 o.each]], YB, YD] R [2, 3, 0, 6, 1, 7] [4, 5] hA31 rfl
      exact ⟨_, _, _, _, _, rfl, step_ok (G := (fun r => textsR r o.most o.each)) [] hkk hee (fun _ _ h => texts_len h) (fun _ h => texts_no h) hp, ⟨lb, wb, lt2, wt2, ld, wd, hb, ht2, hd, kb, kt2, kd, YB, YT2, YD, hB, hT2, hD, rfl⟩, hA32.cast (by simp)⟩
end Go.Proofs.Ythphfbohhbkdgaa
