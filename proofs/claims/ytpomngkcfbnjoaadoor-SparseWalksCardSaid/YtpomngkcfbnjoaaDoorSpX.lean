/- The radix tree made: put, settle. -/
import Derived.Test.YtpomngkcfbnjoaaDoorSpV
namespace Go.Proofs.YtpomngkcfbnjoaaDoor
open Go.RowKit Go.Dk

/-! ### small laws -/
theorem Rx.ins_join {i : Itm} {t : Rx} (hp : partsN i.k t.key < t.bit) : t.ins i = t.join (.leaf i) (partsN i.k t.key) := by
  cases t with
  | leaf j => exact if_pos hp
  | fork b l r => exact if_pos hp
theorem Rx.ins_leaf {i j : Itm} (hp : ¬ partsN i.k j.k < 256) : (Rx.leaf j).ins i = .leaf i := if_neg hp
theorem Rx.ins_l {i : Itm} {b : Nat} {l r : Rx} (hp : ¬ partsN i.k l.key < b) (h0 : keyBit i.k b = 0) : (Rx.fork b l r).ins i = .fork b (l.ins i) r := (if_neg hp).trans (if_pos h0)
theorem Rx.ins_r {i : Itm} {b : Nat} {l r : Rx} (hp : ¬ partsN i.k l.key < b) (h0 : ¬ keyBit i.k b = 0) : (Rx.fork b l r).ins i = .fork b l (r.ins i) := (if_neg hp).trans (if_neg h0)
theorem Rx.join_size (a c : Rx) (p : Nat) : (a.join c p).size = a.size + c.size := by
  unfold Rx.join
  split
  · show c.size + a.size = _; omega
  · rfl
theorem Rx.ins_size (i : Itm) : ∀ t : Rx, (t.ins i).size ≤ t.size + 1
  | .leaf j => by
    by_cases hp : partsN i.k j.k < 256
    · rw [Rx.ins_join (t := .leaf j) hp, Rx.join_size]; exact Nat.le_refl _
    · rw [Rx.ins_leaf hp]; exact Nat.le_succ _
  | .fork b l r => by
    have h1 := Rx.ins_size i l
    have h2 := Rx.ins_size i r
    by_cases hp : partsN i.k l.key < b
    · rw [Rx.ins_join (t := .fork b l r) hp, Rx.join_size]; exact Nat.le_refl _
    · by_cases h0 : keyBit i.k b = 0
      · rw [Rx.ins_l hp h0]; show (l.ins i).size + r.size ≤ l.size + r.size + 1; omega
      · rw [Rx.ins_r hp h0]; show l.size + (r.ins i).size ≤ l.size + r.size + 1; omega
theorem nodeC_one {k : List UInt8} {E s : List Value} {p q : Value} (hE : ∀ v ∈ E, v.oneCell' = true) (hs : ∀ v ∈ s, v.oneCell' = true) (hp : p.oneCell' = true) (hq : q.oneCell' = true) (sz b : Int) : ∀ v ∈ nodeC k E sz b p q s, v.oneCell' = true := fun v hv => by
  unfold nodeC at hv
  rcases List.mem_append.1 hv with h | h
  · exact dc_one _ v h
  · rcases List.mem_append.1 h with h | h
    · exact hE v h
    · rcases List.mem_append.1 h with h | h
      · simp only [List.mem_cons, List.not_mem_nil, or_false] at h
        rcases h with rfl | rfl | rfl | rfl
        · rfl
        · rfl
        · exact hp
        · exact hq
      · exact hs v h
theorem nodeC_pre {k : List UInt8} {E s : List Value} (h : NodeL k E s) (j : Nat) (sz b : Int) (p q u : Value) : (nodeC k E sz b p q s).set (65 + j) u = dc k ++ (E ++ (([.int .i64 sz, .int .i64 b, p, q] ++ s).set j u)) := by
  unfold nodeC
  rw [List.set_append, if_neg (by rw [dc_length, h.k]; omega), List.set_append, if_neg (by rw [dc_length, h.k, h.e]; omega), dc_length, h.k, h.e, show 65 + j - 32 - 33 = j by omega]
theorem nodeC_put0 {k : List UInt8} {E s : List Value} (h : NodeL k E s) (sz b : Int) (p q u : Value) : (nodeC k E sz b p q s).set 67 u = nodeC k E sz b u q s := nodeC_pre h 2 sz b p q u
theorem nodeC_put1 {k : List UInt8} {E s : List Value} (h : NodeL k E s) (sz b : Int) (p q u : Value) : (nodeC k E sz b p q s).set 68 u = nodeC k E sz b p u s := nodeC_pre h 3 sz b p q u
theorem nodeC_putZ {k : List UInt8} {E s : List Value} (h : NodeL k E s) (sz b : Int) (p q : Value) (z : Int) : (nodeC k E sz b p q s).set 65 (.int .i64 z) = nodeC k E z b p q s := nodeC_pre h 0 sz b p q _
theorem nodeC_putK {k k2 : List UInt8} {E s : List Value} (h : NodeL k E s) (h2 : k2.length = 32) (sz b : Int) (p q : Value) : splice (nodeC k E sz b p q s) 0 (dc k2) = nodeC k2 E sz b p q s := by
  unfold splice nodeC
  rw [List.take_zero, List.nil_append, Nat.zero_add, dc_length, h2, List.drop_left' (by rw [dc_length, h.k])]
theorem nodeC_tail {k : List UInt8} {E s : List Value} (h : NodeL k E s) (sz b : Int) (p q : Value) (j : Nat) : (nodeC k E sz b p q s).take (69 + j) = dc k ++ (E ++ ([.int .i64 sz, .int .i64 b, p, q] ++ s.take j)) := by
  unfold nodeC
  rw [List.take_append, List.take_of_length_le (by rw [dc_length, h.k]; omega), List.take_append, List.take_of_length_le (by rw [h.e, dc_length, h.k]; omega), dc_length, h.k, h.e, show 69 + j - 32 - 33 = 4 + j by omega, List.take_append, List.take_of_length_le (by simp)]
  simp
theorem nodeC_putS {k : List UInt8} {E s s2 : List Value} (h : NodeL k E s) (j : Nat) (hj : j + s2.length ≤ 64) (sz b : Int) (p q : Value) : splice (nodeC k E sz b p q s) (69 + j) s2 = nodeC k E sz b p q (splice s j s2) := by
  unfold splice
  rw [nodeC_tail h, show 69 + j + s2.length = 65 + (4 + (j + s2.length)) by omega, nodeC_drop h, show ([.int .i64 sz, .int .i64 b, p, q] ++ s : List Value).drop (4 + (j + s2.length)) = s.drop (j + s2.length) by rw [← List.drop_drop]; rfl]
  unfold nodeC
  simp only [List.append_assoc]
def zeros (n : Nat) : List Value := List.replicate n (.int .u8 0)
theorem splice_lo {s t u : List Value} (h : u.length = s.length) : splice (s ++ t) 0 u = u ++ t := by
  unfold splice
  rw [List.take_zero, List.nil_append, Nat.zero_add, List.drop_left' h.symm]
theorem splice_hi {s t u : List Value} {n : Nat} (hn : s.length = n) (h : u.length = t.length) : splice (s ++ t) n u = s ++ u := by
  unfold splice
  rw [List.take_left' hn, List.drop_of_length_le (by rw [List.length_append]; omega), List.append_nil]
theorem rx_kids (a b : Nat) (w : World) : (Instr.build 104 #[(0, ptr a), (1, ptr b)]).run Tryd.prog w = .ok (.agg ([ptr a, ptr b] : List Value).toArray) w := by kernel_rfl
set_option maxRecDepth 100000 in
theorem rx_fork0 (f : Nat → UInt8) (sz b : Int) (g h : Nat) (w : World) : (Instr.build 107 #[(0, .agg (dc ((List.range 32).map f)).toArray), (2, .int .i64 sz), (3, .int .i64 b), (4, .agg ([ptr g, ptr h] : List Value).toArray)]).run Tryd.prog w = .ok (.agg (nodeC ((List.range 32).map f) ent0 sz b (ptr g) (ptr h) (zeros 64)).toArray) w := by kernel_rfl
theorem rx_fork {k : List UInt8} (hk : k.length = 32) (sz b : Int) (g h : Nat) (w : World) : (Instr.build 107 #[(0, .agg (dc k).toArray), (2, .int .i64 sz), (3, .int .i64 b), (4, .agg ([ptr g, ptr h] : List Value).toArray)]).run Tryd.prog w = .ok (.agg (nodeC k ent0 sz b (ptr g) (ptr h) (zeros 64)).toArray) w := by
  have h1 := rx_fork0 (bAt k) sz b g h w
  rw [list32 hk] at h1
  exact h1
theorem sumsC_f (b : Nat) (l r : Rx) : sumsC false b l r = zeros 64 := rfl
/-- a fork's cells -/
def forkC (q : Bool) (b : Nat) (l r : Rx) (gl gr : Nat) : List Value := nodeC l.key ent0 ((l.size + r.size : Nat) : Int) (b : Int) (ptr gl) (ptr gr) (sumsC q b l r)
def JoinR (q : Bool) (p : Nat) (ta tb : Rx) (ga gb g : Nat) (Y : Seg) : Prop := keyBit ta.key p = 1 ∧ Y = [row g 107 (forkC q p tb ta gb ga)] ∨ ¬ keyBit ta.key p = 1 ∧ Y = [row g 107 (forkC q p ta tb ga gb)]
theorem JoinR.tr {w0 : World} {q : Bool} {p : Nat} {ta tb : Rx} {ga gb g : Nat} {Y : Seg} {G : List Seg} (h : JoinR q p ta tb ga gb g Y) (hY : ∀ x ∈ Y, ∃ Z ∈ G, x ∈ Z) (ha : Tr w0 G q ta ga) (hb : Tr w0 G q tb gb) : Tr w0 G q (ta.join tb p) g := by
  unfold Rx.join
  rcases h with ⟨h1, rfl⟩ | ⟨h1, rfl⟩
  · rw [if_pos h1]
    obtain ⟨Z, hZ, hm⟩ := hY _ (List.mem_singleton.2 rfl)
    exact ⟨gb, ga, Rw.ofMem hZ hm, hb, ha⟩
  · rw [if_neg h1]
    obtain ⟨Z, hZ, hm⟩ := hY _ (List.mem_singleton.2 rfl)
    exact ⟨ga, gb, Rw.ofMem hZ hm, ha, hb⟩
theorem JoinR.tro {p : Nat} {ta tb : Rx} {q : Bool} {ga gb g : Nat} {Y Ya Yb : Seg} (h : JoinR q p ta tb ga gb g Y) (ha : TrO q ta ga Ya) (hb : TrO q tb gb Yb) : ∃ Z, TrO q (ta.join tb p) g Z ∧ (Y ++ (Ya ++ Yb)).Perm Z := by
  unfold Rx.join
  rcases h with ⟨h1, rfl⟩ | ⟨h1, rfl⟩
  · rw [if_pos h1]
    exact ⟨_, ⟨gb, ga, Yb, Ya, rfl, hb, ha⟩, List.Perm.cons _ (show (Ya ++ Yb).Perm (Yb ++ Ya) from List.perm_append_comm)⟩
  · rw [if_neg h1]
    exact ⟨_, ⟨ga, gb, Ya, Yb, rfl, ha, hb⟩, .refl _⟩
theorem nr3_s12 : notRow Tryd.prog 3 = true := by kernel_rfl
theorem nr43_s12 : notRow Tryd.prog 43 = true := by kernel_rfl
theorem rw23_s12 : isRow Tryd.prog 23 32 = true := by kernel_rfl
theorem rw25_s12 : isRow Tryd.prog 25 33 = true := by kernel_rfl
theorem rw104_s12 : isRow Tryd.prog 104 2 = true := by kernel_rfl
theorem rw107_s12 : isRow Tryd.prog 107 133 = true := by kernel_rfl
theorem sz3_s12 : (Tryd.prog.info? 3).map (·.size) = some 1 := by kernel_rfl
theorem sz23_s12 : (Tryd.prog.info? 23).map (·.size) = some 32 := by kernel_rfl
theorem sz43_s12 : (Tryd.prog.info? 43).map (·.size) = some 1 := by kernel_rfl
theorem sz104_s12 : (Tryd.prog.info? 104).map (·.size) = some 2 := by kernel_rfl
theorem sz105_s12 : (Tryd.prog.info? 105).map (·.size) = some 64 := by kernel_rfl
theorem sz107_s12 : (Tryd.prog.info? 107).map (·.size) = some 133 := by kernel_rfl
theorem cl55_s12 : CallsTo Tryd.prog 55 := ⟨_, Tryd.func55, by kernel_rfl, by kernel_rfl⟩
theorem cl57_s12 : CallsTo Tryd.prog 57 := ⟨_, Tryd.func57, by kernel_rfl, by kernel_rfl⟩
theorem cl65_s12 : CallsTo Tryd.prog 65 := ⟨_, Tryd.func65, by kernel_rfl, by kernel_rfl⟩
theorem cl76_s12 : CallsTo Tryd.prog 76 := ⟨_, Tryd.func76, by kernel_rfl, by kernel_rfl⟩
theorem cl85_s12 : CallsTo Tryd.prog 85 := ⟨_, Tryd.func85, by kernel_rfl, by kernel_rfl⟩
theorem cl87_s12 : CallsTo Tryd.prog 87 := ⟨_, Tryd.func87, by kernel_rfl, by kernel_rfl⟩
theorem cl88_s12 : CallsTo Tryd.prog 88 := ⟨_, Tryd.func88, by kernel_rfl, by kernel_rfl⟩

theorem zr107_s12 : zeroIs Tryd.prog 107 (.agg ([.int .u8 0, .int .u8 0, .int .u8 0, .int .u8 0, .int .u8 0, .int .u8 0, .int .u8 0, .int .u8 0, .int .u8 0, .int .u8 0, .int .u8 0, .int .u8 0, .int .u8 0, .int .u8 0, .int .u8 0, .int .u8 0, .int .u8 0, .int .u8 0, .int .u8 0, .int .u8 0, .int .u8 0, .int .u8 0, .int .u8 0, .int .u8 0, .int .u8 0, .int .u8 0, .int .u8 0, .int .u8 0, .int .u8 0, .int .u8 0, .int .u8 0, .int .u8 0, .int .i64 0, .int .u8 0, .int .u8 0, .int .u8 0, .int .u8 0, .int .u8 0, .int .u8 0, .int .u8 0, .int .u8 0, .int .u8 0, .int .u8 0, .int .u8 0, .int .u8 0, .int .u8 0, .int .u8 0, .int .u8 0, .int .u8 0, .int .u8 0, .int .u8 0, .int .u8 0, .int .u8 0, .int .u8 0, .int .u8 0, .int .u8 0, .int .u8 0, .int .u8 0, .int .u8 0, .int .u8 0, .int .u8 0, .int .u8 0, .int .u8 0, .int .u8 0, .int .u8 0, .int .i64 0, .int .i64 0, .pointer none, .pointer none, .int .u8 0, .int .u8 0, .int .u8 0, .int .u8 0, .int .u8 0, .int .u8 0, .int .u8 0, .int .u8 0, .int .u8 0, .int .u8 0, .int .u8 0, .int .u8 0, .int .u8 0, .int .u8 0, .int .u8 0, .int .u8 0, .int .u8 0, .int .u8 0, .int .u8 0, .int .u8 0, .int .u8 0, .int .u8 0, .int .u8 0, .int .u8 0, .int .u8 0, .int .u8 0, .int .u8 0, .int .u8 0, .int .u8 0, .int .u8 0, .int .u8 0, .int .u8 0, .int .u8 0, .int .u8 0, .int .u8 0, .int .u8 0, .int .u8 0, .int .u8 0, .int .u8 0, .int .u8 0, .int .u8 0, .int .u8 0, .int .u8 0, .int .u8 0, .int .u8 0, .int .u8 0, .int .u8 0, .int .u8 0, .int .u8 0, .int .u8 0, .int .u8 0, .int .u8 0, .int .u8 0, .int .u8 0, .int .u8 0, .int .u8 0, .int .u8 0, .int .u8 0, .int .u8 0, .int .u8 0, .int .u8 0, .int .u8 0, .int .u8 0, .int .u8 0] : List Value).toArray) := by unfold zeroIs; kernel_rfl

set_option maxRecDepth 100000 in
set_option maxHeartbeats 2000000 in
theorem rt_joinN (w0 w : World) (R G : List Seg) (hG : G ⊆ R) (ta tb : Rx) (hga : ta.Good) (hgb : tb.Good) (ga gb : Nat) (p : Nat) (hpa : p < ta.bit) (hpb : p < tb.bit) (hsz : ta.size + tb.size ≤ 1000000) (Ea sa : List Value) (pa qa : Value) (hLa : NodeL ta.key Ea sa) (hNa : Rw w0 G ga (nodeC ta.key Ea (ta.size : Int) (ta.bit : Int) pa qa sa)) (Eb sb : List Value) (pb qb : Value) (hLb : NodeL tb.key Eb sb) (hNb : Rw w0 G gb (nodeC tb.key Eb (tb.size : Int) (tb.bit : Int) pb qb sb)) (hA : Hp w0 R w) : Calls Tryd.prog 88 #[.pointer (some ⟨ga, 0, none⟩), .pointer (some ⟨gb, 0, none⟩), .int .i64 (p : Int), .pointer none] w fun e w' => ∃ g Y, e = .returned (.pointer (some ⟨g, 0, none⟩)) ∧ JoinR false p ta tb ga gb g Y ∧ Hp w0 (Y :: R) w' := by
  have hka := hga.key
  have hkb := hgb.key
  have hba := Rx.bit_le hga
  have hbb := Rx.bit_le hgb
  have hpp : p < 256 := by omega
  refine vc_enter Tryd.func88 rfl Tryd.ntmps88 (Nat.le_of_ble_eq_true rfl) (fun a hF => ?_)
  apply wp_seq_k; intro K1 hK1
  refine wp_region_lit ?_
  refine vc_y hF rfl rfl (by decide) _ (y_assign rfl rfl) (fun a hF => ?_)
  refine vc_nil ?_
  refine hK1 _ _ ?_; clear  hK1 K1
  apply wp_seq_k; intro K2 hK2
  apply wp_seq_k; intro K3 hK3
  by_cases hkz : keyBit ta.key p = 1
  · refine wp_region_lit ?_
    refine vc_y hF rfl rfl (by decide) _ (y_move rfl rfl) (fun a hF => ?_)
    refine vc_y hF rfl rfl (by decide) _ (y_nilCheck rfl rfl) (fun a hF => ?_)
    refine vc_y hF rfl rfl (by decide) _ (y_field rfl Tryd.underlying107 rfl sz23_s12 (by decide) rfl (rfl : (⟨_, 0 + _, none⟩ : Addr) = ⟨_, 0, none⟩)) (fun a hF => ?_)
    refine vc_y hF rfl rfl (by decide) _ (y_ldRowC rfl (Hq.sub hA.q (List.Subset.trans hG (sub0))) rfl hNa 0 (by rw [nodeC_len hLa]; decide) rfl (nodeC_key hLa _ _ _ _) rw23_s12) (fun a hF => ?_)
    refine vc_y hF rfl rfl (by decide) _ (y_move rfl rfl) (fun a hF => ?_)
    refine vc_op rfl (fun K hK => ws_call hF rfl (by decide) cl76_s12 rfl rfl ?_)
    with_reducible refine (sp_bit_is (w0 := w0) (R := R) (z := 1) hkz hka hpp hA ).mono ?_
    rintro e' w1 ⟨rfl, hA2⟩
    refine ⟨_, rfl, fun a hF => hK _ _ ?_⟩
    clear hK K
    replace hA2 : Hp w0 (R) w1 := hA2
    rw [show ((1 : Nat) : Int) = 1 from rfl] at hF
    refine vc_y hF rfl rfl (by decide) _ (y_cmp rfl rfl rfl rfl (eql_t (by omega))) (fun a hF => ?_)
    refine vc_nil ?_
    refine hK3 _ _ ?_; clear  hK3 K3
    refine vc_true hF rfl ?_
    refine wp_region_lit ?_
    refine vc_y hF rfl rfl (by decide) _ (y_move rfl rfl) (fun a hF => ?_)
    refine vc_y hF rfl rfl (by decide) _ (y_move rfl rfl) (fun a hF => ?_)
    refine vc_y hF rfl rfl (by decide) _ (y_assign rfl rfl) (fun a hF => ?_)
    refine vc_y hF rfl rfl (by decide) _ (y_assign rfl rfl) (fun a hF => ?_)
    refine vc_nil ?_
    refine hK2 _ _ ?_; clear  hK2 K2
    apply wp_seq_k; intro K4 hK4
    have hLn : NodeL tb.key ent0 (zeros 64) := ⟨hkb, ent0_len, List.length_replicate ..⟩
    refine wp_region_plan 19 [18,19] [0,1,2,3,4,5,6,7,8,9,10,11,12,13,14,15,16,17,18,19] (fun x => Hq w0 (R) x) (by kernel_rfl) (by kernel_rfl) (Hq.drew (Hp.qp [] R [] hA2)) ?_
    have hA3 := Hl.drew hA2
    refine vp_y hF rfl rfl rfl rfl (by decide) _ (fun x hx => y_move rfl rfl) (fun a hF => ?_)
    refine vp_y hF rfl rfl rfl rfl (by decide) _ (fun x hx => y_nilCheck rfl rfl) (fun a hF => ?_)
    refine vp_y hF rfl rfl rfl rfl (by decide) _ (fun x hx => y_field rfl Tryd.underlying107 rfl sz23_s12 (by decide) rfl (rfl : (⟨_, 0 + _, none⟩ : Addr) = ⟨_, 0, none⟩)) (fun a hF => ?_)
    refine vp_y hF rfl rfl rfl rfl (by decide) _ (fun x hx => y_ldRowC rfl (Hq.sub hx (List.Subset.trans hG (sub0))) rfl hNb 0 (by rw [nodeC_len hLb]; decide) rfl (nodeC_key hLb _ _ _ _) rw23_s12) (fun a hF => ?_)
    refine vp_y hF rfl rfl rfl rfl (by decide) _ (fun x hx => y_move rfl rfl) (fun a hF => ?_)
    refine vp_y hF rfl rfl rfl rfl (by decide) _ (fun x hx => y_nilCheck rfl rfl) (fun a hF => ?_)
    refine vp_y hF rfl rfl rfl rfl (by decide) _ (fun x hx => y_field rfl Tryd.underlying107 rfl sz3_s12 (by decide) rfl (rfl : (⟨_, 0 + _, none⟩ : Addr) = ⟨_, 65, none⟩)) (fun a hF => ?_)
    refine vp_y hF rfl rfl rfl rfl (by decide) _ (fun x hx => y_ldC rfl (Hq.sub hx (List.Subset.trans hG (sub0))) rfl hNb 65 (by rw [nodeC_len hLb]; decide) rfl (nodeC_size hLb _ _ _ _) nr3_s12) (fun a hF => ?_)
    refine vp_y hF rfl rfl rfl rfl (by decide) _ (fun x hx => y_move rfl rfl) (fun a hF => ?_)
    refine vp_y hF rfl rfl rfl rfl (by decide) _ (fun x hx => y_nilCheck rfl rfl) (fun a hF => ?_)
    refine vp_y hF rfl rfl rfl rfl (by decide) _ (fun x hx => y_field rfl Tryd.underlying107 rfl sz3_s12 (by decide) rfl (rfl : (⟨_, 0 + _, none⟩ : Addr) = ⟨_, 65, none⟩)) (fun a hF => ?_)
    refine vp_y hF rfl rfl rfl rfl (by decide) _ (fun x hx => y_ldC rfl (Hq.sub hx (List.Subset.trans hG (sub0))) rfl hNa 65 (by rw [nodeC_len hLa]; decide) rfl (nodeC_size hLa _ _ _ _) nr3_s12) (fun a hF => ?_)
    refine vp_y hF rfl rfl rfl rfl (by decide) _ (fun x hx => y_add rfl rfl rfl (show IntKind.i64.wrap (((tb.size : Nat) : Int) + ((ta.size : Nat) : Int)) = ((tb.size + ta.size : Nat) : Int) by rw [IntWalk.i64_in _ (by omega)]; omega)) (fun a hF => ?_)
    refine vp_y hF rfl rfl rfl rfl (by decide) _ (fun x hx => y_move rfl rfl) (fun a hF => ?_)
    refine vp_y hF rfl rfl rfl rfl (by decide) _ (fun x hx => y_move rfl rfl) (fun a hF => ?_)
    refine vp_y hF rfl rfl rfl rfl (by decide) _ (fun x hx => y_move rfl rfl) (fun a hF => ?_)
    refine vp_y hF rfl rfl rfl rfl (by decide) _ (fun x hx => y_build (qs := #[(0, ptr gb), (1, ptr ga)]) rfl rfl (rx_kids _ _)) (fun a hF => ?_)
    refine vp_y hF rfl rfl rfl rfl (by decide) _ (fun x hx => y_build (v := .agg (nodeC tb.key ent0 ((tb.size + ta.size : Nat) : Int) (p : Int) (ptr gb) (ptr ga) (zeros 64)).toArray) (qs := #[(0, .agg (dc tb.key).toArray), (2, .int .i64 ((tb.size + ta.size : Nat) : Int)), (3, .int .i64 (p : Int)), (4, .agg ([ptr gb, ptr ga] : List Value).toArray)]) rfl rfl (by exact rx_fork hkb _ _ _ _)) (fun a hF => ?_)
    refine vp_l rfl rfl rfl (fun K hK => hs_box (cs := nodeC tb.key ent0 ((tb.size + ta.size : Nat) : Int) (p : Int) (ptr gb) (ptr ga) (zeros 64)) hF rfl (by decide) rfl hA3 rfl (fun b4 w5 a hb4 hF hA6 => hK _ _ (fun _ => ?_) ?_))
    · exact Hp.qp [[row b4 107 (nodeC tb.key ent0 ((tb.size + ta.size : Nat) : Int) (p : Int) (ptr gb) (ptr ga) (zeros 64))]] R [] hA6
    clear hK K
    replace hA6 : Hp w0 ([row b4 107 (nodeC tb.key ent0 ((tb.size + ta.size : Nat) : Int) (p : Int) (ptr gb) (ptr ga) (zeros 64))] :: R) w5 := hA6
    refine vp_ly hF rfl rfl rfl rfl (by decide) _ (y_assign rfl rfl) (fun h => absurd h (by decide)) (fun a hF => ?_)
    refine plan_end ?_
    refine hK4 _ _ ?_; clear  hK4 K4
    apply wp_seq_k; intro K5 hK5
    apply wp_seq_k; intro K6 hK6
    refine wp_region_lit ?_
    refine vc_y hF rfl rfl (by decide) _ (y_move rfl rfl) (fun a hF => ?_)
    refine vc_y hF rfl rfl (by decide) _ (y_neNilT rfl (by kernel_rfl) rfl rfl) (fun a hF => ?_)
    refine vc_nil ?_
    refine hK6 _ _ ?_; clear  hK6 K6
    refine vc_false hF rfl ?_
    apply wp_skip
    refine hK5 _ _ ?_; clear  hK5 K5
    apply wp_seq_k; intro K7 hK7
    refine wp_region_lit ?_
    refine vc_y hF rfl rfl (by decide) _ (y_move rfl rfl) (fun a hF => ?_)
    refine vc_y hF rfl rfl (by decide) _ (y_assign rfl rfl) (fun a hF => ?_)
    refine vc_nil ?_
    refine hK7 _ _ ?_; clear  hK7 K7
    apply wp_ret
    refine vc_ret1 hF Tryd.results88 rfl ?_
    exact ⟨b4, _, rfl, .inl ⟨hkz, rfl⟩, hA6⟩
  · have hkz0 : keyBit ta.key p = 0 := by have := keyBit_lt ta.key p; omega
    refine wp_region_lit ?_
    refine vc_y hF rfl rfl (by decide) _ (y_move rfl rfl) (fun a hF => ?_)
    refine vc_y hF rfl rfl (by decide) _ (y_nilCheck rfl rfl) (fun a hF => ?_)
    refine vc_y hF rfl rfl (by decide) _ (y_field rfl Tryd.underlying107 rfl sz23_s12 (by decide) rfl (rfl : (⟨_, 0 + _, none⟩ : Addr) = ⟨_, 0, none⟩)) (fun a hF => ?_)
    refine vc_y hF rfl rfl (by decide) _ (y_ldRowC rfl (Hq.sub hA.q (List.Subset.trans hG (sub0))) rfl hNa 0 (by rw [nodeC_len hLa]; decide) rfl (nodeC_key hLa _ _ _ _) rw23_s12) (fun a hF => ?_)
    refine vc_y hF rfl rfl (by decide) _ (y_move rfl rfl) (fun a hF => ?_)
    refine vc_op rfl (fun K hK => ws_call hF rfl (by decide) cl76_s12 rfl rfl ?_)
    with_reducible refine (sp_bit_is (w0 := w0) (R := R) (z := 0) hkz0 hka hpp hA ).mono ?_
    rintro e' w7 ⟨rfl, hA8⟩
    refine ⟨_, rfl, fun a hF => hK _ _ ?_⟩
    clear hK K
    replace hA8 : Hp w0 (R) w7 := hA8
    rw [show ((0 : Nat) : Int) = 0 from rfl] at hF
    refine vc_y hF rfl rfl (by decide) _ (y_cmp rfl rfl rfl rfl (eql_f (by omega))) (fun a hF => ?_)
    refine vc_nil ?_
    refine hK3 _ _ ?_; clear  hK3 K3
    refine vc_false hF rfl ?_
    apply wp_skip
    refine hK2 _ _ ?_; clear  hK2 K2
    apply wp_seq_k; intro K8 hK8
    have hLn : NodeL ta.key ent0 (zeros 64) := ⟨hka, ent0_len, List.length_replicate ..⟩
    refine wp_region_plan 19 [18,19] [0,1,2,3,4,5,6,7,8,9,10,11,12,13,14,15,16,17,18,19] (fun x => Hq w0 (R) x) (by kernel_rfl) (by kernel_rfl) (Hq.drew (Hp.qp [] R [] hA8)) ?_
    have hA9 := Hl.drew hA8
    refine vp_y hF rfl rfl rfl rfl (by decide) _ (fun x hx => y_move rfl rfl) (fun a hF => ?_)
    refine vp_y hF rfl rfl rfl rfl (by decide) _ (fun x hx => y_nilCheck rfl rfl) (fun a hF => ?_)
    refine vp_y hF rfl rfl rfl rfl (by decide) _ (fun x hx => y_field rfl Tryd.underlying107 rfl sz23_s12 (by decide) rfl (rfl : (⟨_, 0 + _, none⟩ : Addr) = ⟨_, 0, none⟩)) (fun a hF => ?_)
    refine vp_y hF rfl rfl rfl rfl (by decide) _ (fun x hx => y_ldRowC rfl (Hq.sub hx (List.Subset.trans hG (sub0))) rfl hNa 0 (by rw [nodeC_len hLa]; decide) rfl (nodeC_key hLa _ _ _ _) rw23_s12) (fun a hF => ?_)
    refine vp_y hF rfl rfl rfl rfl (by decide) _ (fun x hx => y_move rfl rfl) (fun a hF => ?_)
    refine vp_y hF rfl rfl rfl rfl (by decide) _ (fun x hx => y_nilCheck rfl rfl) (fun a hF => ?_)
    refine vp_y hF rfl rfl rfl rfl (by decide) _ (fun x hx => y_field rfl Tryd.underlying107 rfl sz3_s12 (by decide) rfl (rfl : (⟨_, 0 + _, none⟩ : Addr) = ⟨_, 65, none⟩)) (fun a hF => ?_)
    refine vp_y hF rfl rfl rfl rfl (by decide) _ (fun x hx => y_ldC rfl (Hq.sub hx (List.Subset.trans hG (sub0))) rfl hNa 65 (by rw [nodeC_len hLa]; decide) rfl (nodeC_size hLa _ _ _ _) nr3_s12) (fun a hF => ?_)
    refine vp_y hF rfl rfl rfl rfl (by decide) _ (fun x hx => y_move rfl rfl) (fun a hF => ?_)
    refine vp_y hF rfl rfl rfl rfl (by decide) _ (fun x hx => y_nilCheck rfl rfl) (fun a hF => ?_)
    refine vp_y hF rfl rfl rfl rfl (by decide) _ (fun x hx => y_field rfl Tryd.underlying107 rfl sz3_s12 (by decide) rfl (rfl : (⟨_, 0 + _, none⟩ : Addr) = ⟨_, 65, none⟩)) (fun a hF => ?_)
    refine vp_y hF rfl rfl rfl rfl (by decide) _ (fun x hx => y_ldC rfl (Hq.sub hx (List.Subset.trans hG (sub0))) rfl hNb 65 (by rw [nodeC_len hLb]; decide) rfl (nodeC_size hLb _ _ _ _) nr3_s12) (fun a hF => ?_)
    refine vp_y hF rfl rfl rfl rfl (by decide) _ (fun x hx => y_add rfl rfl rfl (show IntKind.i64.wrap (((ta.size : Nat) : Int) + ((tb.size : Nat) : Int)) = ((ta.size + tb.size : Nat) : Int) by rw [IntWalk.i64_in _ (by omega)]; omega)) (fun a hF => ?_)
    refine vp_y hF rfl rfl rfl rfl (by decide) _ (fun x hx => y_move rfl rfl) (fun a hF => ?_)
    refine vp_y hF rfl rfl rfl rfl (by decide) _ (fun x hx => y_move rfl rfl) (fun a hF => ?_)
    refine vp_y hF rfl rfl rfl rfl (by decide) _ (fun x hx => y_move rfl rfl) (fun a hF => ?_)
    refine vp_y hF rfl rfl rfl rfl (by decide) _ (fun x hx => y_build (qs := #[(0, ptr ga), (1, ptr gb)]) rfl rfl (rx_kids _ _)) (fun a hF => ?_)
    refine vp_y hF rfl rfl rfl rfl (by decide) _ (fun x hx => y_build (v := .agg (nodeC ta.key ent0 ((ta.size + tb.size : Nat) : Int) (p : Int) (ptr ga) (ptr gb) (zeros 64)).toArray) (qs := #[(0, .agg (dc ta.key).toArray), (2, .int .i64 ((ta.size + tb.size : Nat) : Int)), (3, .int .i64 (p : Int)), (4, .agg ([ptr ga, ptr gb] : List Value).toArray)]) rfl rfl (by exact rx_fork hka _ _ _ _)) (fun a hF => ?_)
    refine vp_l rfl rfl rfl (fun K hK => hs_box (cs := nodeC ta.key ent0 ((ta.size + tb.size : Nat) : Int) (p : Int) (ptr ga) (ptr gb) (zeros 64)) hF rfl (by decide) rfl hA9 rfl (fun b10 w11 a hb10 hF hA12 => hK _ _ (fun _ => ?_) ?_))
    · exact Hp.qp [[row b10 107 (nodeC ta.key ent0 ((ta.size + tb.size : Nat) : Int) (p : Int) (ptr ga) (ptr gb) (zeros 64))]] R [] hA12
    clear hK K
    replace hA12 : Hp w0 ([row b10 107 (nodeC ta.key ent0 ((ta.size + tb.size : Nat) : Int) (p : Int) (ptr ga) (ptr gb) (zeros 64))] :: R) w11 := hA12
    refine vp_ly hF rfl rfl rfl rfl (by decide) _ (y_assign rfl rfl) (fun h => absurd h (by decide)) (fun a hF => ?_)
    refine plan_end ?_
    refine hK8 _ _ ?_; clear  hK8 K8
    apply wp_seq_k; intro K9 hK9
    apply wp_seq_k; intro K10 hK10
    refine wp_region_lit ?_
    refine vc_y hF rfl rfl (by decide) _ (y_move rfl rfl) (fun a hF => ?_)
    refine vc_y hF rfl rfl (by decide) _ (y_neNilT rfl (by kernel_rfl) rfl rfl) (fun a hF => ?_)
    refine vc_nil ?_
    refine hK10 _ _ ?_; clear  hK10 K10
    refine vc_false hF rfl ?_
    apply wp_skip
    refine hK9 _ _ ?_; clear  hK9 K9
    apply wp_seq_k; intro K11 hK11
    refine wp_region_lit ?_
    refine vc_y hF rfl rfl (by decide) _ (y_move rfl rfl) (fun a hF => ?_)
    refine vc_y hF rfl rfl (by decide) _ (y_assign rfl rfl) (fun a hF => ?_)
    refine vc_nil ?_
    refine hK11 _ _ ?_; clear  hK11 K11
    apply wp_ret
    refine vc_ret1 hF Tryd.results88 rfl ?_
    exact ⟨b10, _, rfl, .inr ⟨hkz, rfl⟩, hA12⟩

/-- put at a tree of one's own, sums left for later -/
abbrev PutN (w0 : World) (i : Itm) (t : Rx) : Prop := ∀ (w : World) (R : List Seg) (Y : Seg) (gn : Nat), TrO false t gn Y → Hp w0 (Y :: R) w → Calls Tryd.prog 57 #[.pointer (some ⟨gn, 0, none⟩), .agg (dc i.k).toArray, .agg (.int .i64 i.ct :: dc i.ch).toArray, .pointer none] w fun e w' => ∃ g Y2, e = .returned (.pointer (some ⟨g, 0, none⟩)) ∧ TrO false (t.ins i) g Y2 ∧ Hp w0 (Y2 :: R) w'
theorem flat_join {A X : Seg} {G : List Seg} : (X :: G).flatten ⊆ ((A ++ X) :: G).flatten := fun r hr => by
  rw [List.flatten_cons] at hr ⊢
  rcases List.mem_append.1 hr with h | h
  · exact List.mem_append_left _ (List.mem_append_right _ h)
  · exact List.mem_append_right _ h
theorem Rw.monoF {w0 : World} {R T : List Seg} {g : Nat} {W : List Value} (h : Rw w0 R g W) (hs : R.flatten ⊆ T.flatten) : Rw w0 T g W := fun x hx => h x (hx.subF hs)
theorem Tr.monoF {w0 : World} {R T : List Seg} {q : Bool} (hs : R.flatten ⊆ T.flatten) : ∀ {t : Rx} {g : Nat}, Tr w0 R q t g → Tr w0 T q t g
  | .leaf _, _, h => Rw.monoF h hs
  | .fork _ _ _, _, ⟨gl, gr, h1, h2, h3⟩ => ⟨gl, gr, Rw.monoF h1 hs, Tr.monoF hs h2, Tr.monoF hs h3⟩
theorem Tr.join {w0 : World} {A X : Seg} {G : List Seg} {q : Bool} {t : Rx} {g : Nat} (h : Tr w0 (X :: G) q t g) : Tr w0 ((A ++ X) :: G) q t g := Tr.monoF flat_join h

set_option maxRecDepth 100000 in
set_option maxHeartbeats 2000000 in
theorem rt_putN_leaf (w0 : World) (i : Itm) (hi : i.OK) (j : Itm) (hg : j.OK) (w : World) (R : List Seg) (gn : Nat) (hA : Hp w0 ([row gn 107 (leafC j)] :: R) w) : Calls Tryd.prog 57 #[.pointer (some ⟨gn, 0, none⟩), .agg (dc i.k).toArray, .agg (.int .i64 i.ct :: dc i.ch).toArray, .pointer none] w fun e w' => ∃ g Y2, e = .returned (.pointer (some ⟨g, 0, none⟩)) ∧ TrO false ((Rx.leaf j).ins i) g Y2 ∧ Hp w0 (Y2 :: R) w' := by
  have hdk : (dc i.k).length = 32 := by rw [dc_length, hi.k]
  have hde : (Value.int .i64 i.ct :: dc i.ch).length = 33 := by rw [List.length_cons, dc_length, hi.ch]
  have hL := NodeL.leaf hg
  have hkl := hg.k
  have hN : Rw w0 [[row gn 107 (leafC j)]] gn (nodeC j.k j.ent 1 256 (.pointer none) (.pointer none) (List.replicate 64 (.int .u8 0))) := Rw.ofRow (i := 0) rfl
  have hsj : (Rx.leaf j).size = 1 := rfl
  have hsi : (Rx.leaf i).size = 1 := rfl
  refine vc_enter Tryd.func57 rfl Tryd.ntmps57 (Nat.le_of_ble_eq_true rfl) (fun a hF => ?_)
  apply wp_seq_k; intro K1 hK1
  refine wp_region_lit ?_
  refine vc_op rfl (fun K hK => hs_box (cs := dc i.k) hF rfl (by decide) rfl hA rfl (fun b1 w2 a hb1 hF hA3 => hK _ _ ?_))
  clear hK K
  replace hA3 : Hp w0 ([row b1 23 (dc i.k)] :: [row gn 107 (leafC j)] :: R) w2 := hA3
  refine vc_op rfl (fun K hK => hs_box (cs := .int .i64 i.ct :: dc i.ch) hF rfl (by decide) rfl hA3 rfl (fun b4 w5 a hb4 hF hA6 => hK _ _ ?_))
  clear hK K
  replace hA6 : Hp w0 ([row b4 25 (.int .i64 i.ct :: dc i.ch)] :: [row b1 23 (dc i.k)] :: [row gn 107 (leafC j)] :: R) w5 := hA6
  refine vc_y hF rfl rfl (by decide) _ (y_assign rfl rfl) (fun a hF => ?_)
  refine vc_nil ?_
  refine hK1 _ _ ?_; clear  hK1 K1
  apply wp_seq_k; intro K2 hK2
  refine wp_region_lit ?_
  refine vc_y hF rfl rfl (by decide) _ (y_ldRow (new := dc i.k) rfl hA6.q rfl 1 rfl rw23_s12 (by rw [hdk]; exact Nat.le_refl _) (by rw [List.drop_zero]; exact List.take_of_length_le (by rw [hdk]; exact Nat.le_refl _))) (fun a hF => ?_)
  refine vc_y hF rfl rfl (by decide) _ (y_ldRow (new := .int .i64 i.ct :: dc i.ch) rfl hA6.q rfl 0 rfl rw25_s12 (by rw [hde]; exact Nat.le_refl _) (by rw [List.drop_zero]; exact List.take_of_length_le (by rw [hde]; exact Nat.le_refl _))) (fun a hF => ?_)
  refine vc_y hF rfl rfl (by decide) _ (y_build (v := .agg (leafC i).toArray) (qs := #[(0, .agg (dc i.k).toArray), (1, .agg (.int .i64 i.ct :: dc i.ch).toArray), (2, .int .i64 1), (3, .int .i64 256)]) rfl rfl (by exact rx_node hi)) (fun a hF => ?_)
  refine vc_op rfl (fun K hK => hs_box (cs := leafC i) hF rfl (by decide) rfl hA6 rfl (fun b7 w8 a hb7 hF hA9 => hK _ _ ?_))
  clear hK K
  replace hA9 : Hp w0 ([row b7 107 (leafC i)] :: [row b4 25 (.int .i64 i.ct :: dc i.ch)] :: [row b1 23 (dc i.k)] :: [row gn 107 (leafC j)] :: R) w8 := hA9
  refine vc_y hF rfl rfl (by decide) _ (y_assign rfl rfl) (fun a hF => ?_)
  refine vc_nil ?_
  refine hK2 _ _ ?_; clear  hK2 K2
  apply wp_seq_k; intro K3 hK3
  apply wp_seq_k; intro K4 hK4
  refine wp_region_lit ?_
  refine vc_y hF rfl rfl (by decide) _ (y_move rfl rfl) (fun a hF => ?_)
  refine vc_y hF rfl rfl (by decide) _ (y_eqNil rfl (by kernel_rfl) rfl rfl) (fun a hF => ?_)
  refine vc_nil ?_
  refine hK4 _ _ ?_; clear  hK4 K4
  refine vc_false hF rfl ?_
  apply wp_skip
  refine hK3 _ _ ?_; clear  hK3 K3
  apply wp_seq_k; intro K5 hK5
  refine wp_region_plan 6 [5,6] [0,1,2,3,4,5,6] (fun x => Hq w0 ([row b7 107 (leafC i)] :: [row b4 25 (.int .i64 i.ct :: dc i.ch)] :: [row b1 23 (dc i.k)] :: [row gn 107 (leafC j)] :: R) x) (by kernel_rfl) (by kernel_rfl) (Hq.drew (Hp.qp [[row b7 107 (leafC i)], [row b4 25 (.int .i64 i.ct :: dc i.ch)], [row b1 23 (dc i.k)], [row gn 107 (leafC j)]] R [0, 1, 2, 3] hA9)) ?_
  have hA10 := Hl.drew hA9
  refine vp_y hF rfl rfl rfl rfl (by decide) _ (fun x hx => y_ldRow (new := dc i.k) rfl hx rfl 2 rfl rw23_s12 (by rw [hdk]; exact Nat.le_refl _) (by rw [List.drop_zero]; exact List.take_of_length_le (by rw [hdk]; exact Nat.le_refl _))) (fun a hF => ?_)
  refine vp_y hF rfl rfl rfl rfl (by decide) _ (fun x hx => y_move rfl rfl) (fun a hF => ?_)
  refine vp_y hF rfl rfl rfl rfl (by decide) _ (fun x hx => y_nilCheck rfl rfl) (fun a hF => ?_)
  refine vp_y hF rfl rfl rfl rfl (by decide) _ (fun x hx => y_field rfl Tryd.underlying107 rfl sz23_s12 (by decide) rfl (rfl : (⟨_, 0 + _, none⟩ : Addr) = ⟨_, 0, none⟩)) (fun a hF => ?_)
  refine vp_y hF rfl rfl rfl rfl (by decide) _ (fun x hx => y_ldRowC rfl (Hq.sub hx (sub1 (List.mem_cons_of_mem _ (List.mem_cons_of_mem _ (List.mem_cons_of_mem _ ((List.mem_cons_self ..))))))) rfl hN 0 (by rw [nodeC_len hL]; decide) rfl (nodeC_key hL _ _ _ _) rw23_s12) (fun a hF => ?_)
  refine vp_l rfl rfl rfl (fun K hK => ws_call hF rfl (by decide) cl87_s12 rfl rfl ?_)
  with_reducible refine (rt_parts w0 _ ([row b7 107 (leafC i)] :: [row b4 25 (.int .i64 i.ct :: dc i.ch)] :: [row b1 23 (dc i.k)] :: [row gn 107 (leafC j)] :: R) i.k j.k hi.k hkl hA10 ).mono ?_
  rintro e' w11 ⟨rfl, hA12⟩
  refine ⟨_, rfl, fun a hF => hK _ _ (fun _ => ?_) ?_⟩
  · exact Hp.qp [[row b7 107 (leafC i)], [row b4 25 (.int .i64 i.ct :: dc i.ch)], [row b1 23 (dc i.k)], [row gn 107 (leafC j)]] R [0, 1, 2, 3] hA12
  clear hK K
  replace hA12 : Hp w0 ([row b7 107 (leafC i)] :: [row b4 25 (.int .i64 i.ct :: dc i.ch)] :: [row b1 23 (dc i.k)] :: [row gn 107 (leafC j)] :: R) w11 := hA12
  refine vp_ly hF rfl rfl rfl rfl (by decide) _ (y_assign rfl rfl) (fun h => absurd h (by decide)) (fun a hF => ?_)
  refine plan_end ?_
  refine hK5 _ _ ?_; clear  hK5 K5
  apply wp_seq_k; intro K6 hK6
  apply wp_seq_k; intro K7 hK7
  refine wp_region_lit ?_
  refine vc_y hF rfl rfl (by decide) _ (y_move rfl rfl) (fun a hF => ?_)
  refine vc_y hF rfl rfl (by decide) _ (y_move rfl rfl) (fun a hF => ?_)
  refine vc_y hF rfl rfl (by decide) _ (y_nilCheck rfl rfl) (fun a hF => ?_)
  refine vc_y hF rfl rfl (by decide) _ (y_field rfl Tryd.underlying107 rfl sz3_s12 (by decide) rfl (rfl : (⟨_, 0 + _, none⟩ : Addr) = ⟨_, 66, none⟩)) (fun a hF => ?_)
  refine vc_y hF rfl rfl (by decide) _ (y_ldC rfl (Hq.sub hA12.q (sub1 (List.mem_cons_of_mem _ (List.mem_cons_of_mem _ (List.mem_cons_of_mem _ ((List.mem_cons_self ..))))))) rfl hN 66 (by rw [nodeC_len hL]; decide) rfl (nodeC_bit hL _ _ _ _) nr3_s12) (fun a hF => ?_)
  refine vc_y hF rfl rfl (by decide) _ (y_cmp rfl rfl rfl rfl rfl) (fun a hF => ?_)
  refine vc_nil ?_
  refine hK7 _ _ ?_; clear  hK7 K7
  by_cases hp : partsN i.k j.k < 256
  · refine vc_trueB hF rfl (lss_t (by omega)) ?_
    have hgA : (Rx.leaf j).Good := hg
    have hgI : (Rx.leaf i).Good := hi
    have hpa : partsN i.k j.k < (Rx.leaf j).bit := hp
    have hpb : partsN i.k j.k < (Rx.leaf i).bit := by show _ < 256; omega
    apply wp_seq_k; intro K8 hK8
    refine wp_region_lit ?_
    refine vc_y hF rfl rfl (by decide) _ (y_move rfl rfl) (fun a hF => ?_)
    refine vc_y hF rfl rfl (by decide) _ (y_move rfl rfl) (fun a hF => ?_)
    refine vc_y hF rfl rfl (by decide) _ (y_move rfl rfl) (fun a hF => ?_)
    refine vc_y hF rfl rfl (by decide) _ (y_move rfl rfl) (fun a hF => ?_)
    have hLa : NodeL (Rx.leaf j).key j.ent (List.replicate 64 (.int .u8 0)) := hL
    have hNa : Rw w0 ([row b7 107 (leafC i)] :: [row b4 25 (.int .i64 i.ct :: dc i.ch)] :: [row b1 23 (dc i.k)] :: [row gn 107 (leafC j)] :: R) gn (nodeC (Rx.leaf j).key j.ent ((Rx.leaf j).size : Int) ((Rx.leaf j).bit : Int) (.pointer none) (.pointer none) (List.replicate 64 (.int .u8 0))) := Rw.ofMem (List.mem_cons_of_mem _ (List.mem_cons_of_mem _ (List.mem_cons_of_mem _ ((List.mem_cons_self ..))))) (List.mem_singleton.2 rfl)
    have hLb : NodeL (Rx.leaf i).key i.ent (List.replicate 64 (.int .u8 0)) := NodeL.leaf hi
    have hNb : Rw w0 ([row b7 107 (leafC i)] :: [row b4 25 (.int .i64 i.ct :: dc i.ch)] :: [row b1 23 (dc i.k)] :: [row gn 107 (leafC j)] :: R) b7 (nodeC (Rx.leaf i).key i.ent ((Rx.leaf i).size : Int) ((Rx.leaf i).bit : Int) (.pointer none) (.pointer none) (List.replicate 64 (.int .u8 0))) := Rw.ofMem ((List.mem_cons_self ..)) (List.mem_singleton.2 rfl)
    refine vc_op rfl (fun K hK => ws_call hF rfl (by decide) cl88_s12 rfl rfl ?_)
    with_reducible refine (rt_joinN w0 _ ([row b7 107 (leafC i)] :: [row b4 25 (.int .i64 i.ct :: dc i.ch)] :: [row b1 23 (dc i.k)] :: [row gn 107 (leafC j)] :: R) _ sub0 (Rx.leaf j) (.leaf i) hgA hgI gn b7 (partsN i.k j.k) hpa hpb (by rw [hsj, hsi]; omega) j.ent (List.replicate 64 (.int .u8 0)) (.pointer none) (.pointer none) hLa hNa i.ent (List.replicate 64 (.int .u8 0)) (.pointer none) (.pointer none) hLb hNb hA12 ).mono ?_
    rintro e' w13 ⟨gj, J, rfl, hJ, hA14⟩
    refine ⟨_, rfl, fun a hF => hK _ _ ?_⟩
    clear hK K
    replace hA14 : Hp w0 (J :: [row b7 107 (leafC i)] :: [row b4 25 (.int .i64 i.ct :: dc i.ch)] :: [row b1 23 (dc i.k)] :: [row gn 107 (leafC j)] :: R) w13 := hA14
    refine vc_y hF rfl rfl (by decide) _ (y_assign rfl rfl) (fun a hF => ?_)
    refine vc_nil ?_
    refine hK8 _ _ ?_; clear  hK8 K8
    apply wp_ret
    simp only [Exit.then]
    refine vc_ret1 hF Tryd.results57 rfl ?_
    rw [Rx.ins_join (t := (Rx.leaf j)) hp]
    have hA15 : Hp w0 (J :: [row gn 107 (leafC j)] :: [row b7 107 (leafC i)] :: R) w13 := Hp.sel [J, [row b7 107 (leafC i)], [row b4 25 (.int .i64 i.ct :: dc i.ch)], [row b1 23 (dc i.k)], [row gn 107 (leafC j)]] R [0, 4, 1] [2, 3] hA14 rfl
    obtain ⟨Z, hZ, hZp⟩ := hJ.tro (Ya := [row gn 107 (leafC j)]) (Yb := [row b7 107 (leafC i)]) rfl rfl
    exact ⟨gj, Z, rfl, hZ, Hp.permHead (Hp.cast hA15 (S' := (J ++ ([row gn 107 (leafC j)] ++ [row b7 107 (leafC i)])) :: R) (by simp only [List.flatten_cons, List.append_assoc, List.cons_append, List.nil_append])) hZp⟩
  · refine vc_falseB hF rfl (lss_f (by omega)) ?_
    apply wp_skip
    refine hK6 _ _ ?_; clear  hK6 K6
    apply wp_seq_k; intro K9 hK9
    apply wp_seq_k; intro K10 hK10
    refine wp_region_lit ?_
    refine vc_y hF rfl rfl (by decide) _ (y_move rfl rfl) (fun a hF => ?_)
    refine vc_y hF rfl rfl (by decide) _ (y_nilCheck rfl rfl) (fun a hF => ?_)
    refine vc_y hF rfl rfl (by decide) _ (y_field rfl Tryd.underlying107 rfl sz3_s12 (by decide) rfl (rfl : (⟨_, 0 + _, none⟩ : Addr) = ⟨_, 66, none⟩)) (fun a hF => ?_)
    refine vc_y hF rfl rfl (by decide) _ (y_ldC rfl (Hq.sub hA12.q (sub1 (List.mem_cons_of_mem _ (List.mem_cons_of_mem _ (List.mem_cons_of_mem _ ((List.mem_cons_self ..))))))) rfl hN 66 (by rw [nodeC_len hL]; decide) rfl (nodeC_bit hL _ _ _ _) nr3_s12) (fun a hF => ?_)
    refine vc_y hF rfl rfl (by decide) _ (y_cmp rfl rfl rfl rfl (eql_t (by omega))) (fun a hF => ?_)
    refine vc_nil ?_
    refine hK10 _ _ ?_; clear  hK10 K10
    refine vc_true hF rfl ?_
    apply wp_seq_k; intro K11 hK11
    refine wp_region_lit ?_
    refine vc_y hF rfl rfl (by decide) _ (y_move rfl rfl) (fun a hF => ?_)
    refine vc_y hF rfl rfl (by decide) _ (y_assign rfl rfl) (fun a hF => ?_)
    refine vc_nil ?_
    refine hK11 _ _ ?_; clear  hK11 K11
    apply wp_ret
    simp only [Exit.then]
    refine vc_ret1 hF Tryd.results57 rfl ?_
    have hA16 : Hp w0 ([row b7 107 (leafC i)] :: R) w11 := Hp.sel [[row b7 107 (leafC i)], [row b4 25 (.int .i64 i.ct :: dc i.ch)], [row b1 23 (dc i.k)], [row gn 107 (leafC j)]] R [0] [1, 2, 3] hA12 rfl
    rw [Rx.ins_leaf hp]
    exact ⟨b7, _, rfl, rfl, hA16⟩

set_option maxRecDepth 100000 in
set_option maxHeartbeats 2000000 in
theorem rt_putN_fork (w0 : World) (i : Itm) (hi : i.OK) (b : Nat) (l r : Rx) (hg : (Rx.fork b l r).Good) (hsz : (Rx.fork b l r).size ≤ 100000) (ihl : PutN w0 i l) (ihr : PutN w0 i r) (w : World) (R : List Seg) (gn gl gr : Nat) (Yl Yr : Seg) (hl : TrO false l gl Yl) (hr : TrO false r gr Yr) (hA : Hp w0 ([row gn 107 (nodeC l.key ent0 ((l.size + r.size : Nat) : Int) (b : Int) (ptr gl) (ptr gr) (sumsC false b l r))] :: Yl :: Yr :: R) w) : Calls Tryd.prog 57 #[.pointer (some ⟨gn, 0, none⟩), .agg (dc i.k).toArray, .agg (.int .i64 i.ct :: dc i.ch).toArray, .pointer none] w fun e w' => ∃ g Y2, e = .returned (.pointer (some ⟨g, 0, none⟩)) ∧ TrO false ((Rx.fork b l r).ins i) g Y2 ∧ Hp w0 (Y2 :: R) w' := by
  have hdk : (dc i.k).length = 32 := by rw [dc_length, hi.k]
  have hde : (Value.int .i64 i.ct :: dc i.ch).length = 33 := by rw [List.length_cons, dc_length, hi.ch]
  have hkl : l.key.length = 32 := hg.key
  obtain ⟨hgl, hgr, hbl, hbr, hil, hir⟩ := id hg
  have hll := Rx.bit_le hgl
  have hrr := Rx.bit_le hgr
  have hb : b < 256 := by omega
  have hsl := Rx.ins_size i l
  have hsr := Rx.ins_size i r
  have hsF : (Rx.fork b l r).size = l.size + r.size := rfl
  have hsi : (Rx.leaf i).size = 1 := rfl
  have hL : NodeL l.key ent0 (sumsC false b l r) := ⟨hkl, ent0_len, sumsC_len ..⟩
  have hN : Rw w0 [[row gn 107 (nodeC l.key ent0 ((l.size + r.size : Nat) : Int) (b : Int) (ptr gl) (ptr gr) (sumsC false b l r))]] gn (nodeC l.key ent0 ((l.size + r.size : Nat) : Int) (b : Int) (ptr gl) (ptr gr) (sumsC false b l r)) := Rw.ofRow (i := 0) rfl
  refine vc_enter Tryd.func57 rfl Tryd.ntmps57 (Nat.le_of_ble_eq_true rfl) (fun a hF => ?_)
  apply wp_seq_k; intro K1 hK1
  refine wp_region_lit ?_
  refine vc_op rfl (fun K hK => hs_box (cs := dc i.k) hF rfl (by decide) rfl hA rfl (fun b1 w2 a hb1 hF hA3 => hK _ _ ?_))
  clear hK K
  replace hA3 : Hp w0 ([row b1 23 (dc i.k)] :: [row gn 107 (nodeC l.key ent0 ((l.size + r.size : Nat) : Int) (b : Int) (ptr gl) (ptr gr) (sumsC false b l r))] :: Yl :: Yr :: R) w2 := hA3
  refine vc_op rfl (fun K hK => hs_box (cs := .int .i64 i.ct :: dc i.ch) hF rfl (by decide) rfl hA3 rfl (fun b4 w5 a hb4 hF hA6 => hK _ _ ?_))
  clear hK K
  replace hA6 : Hp w0 ([row b4 25 (.int .i64 i.ct :: dc i.ch)] :: [row b1 23 (dc i.k)] :: [row gn 107 (nodeC l.key ent0 ((l.size + r.size : Nat) : Int) (b : Int) (ptr gl) (ptr gr) (sumsC false b l r))] :: Yl :: Yr :: R) w5 := hA6
  refine vc_y hF rfl rfl (by decide) _ (y_assign rfl rfl) (fun a hF => ?_)
  refine vc_nil ?_
  refine hK1 _ _ ?_; clear  hK1 K1
  apply wp_seq_k; intro K2 hK2
  refine wp_region_lit ?_
  refine vc_y hF rfl rfl (by decide) _ (y_ldRow (new := dc i.k) rfl hA6.q rfl 1 rfl rw23_s12 (by rw [hdk]; exact Nat.le_refl _) (by rw [List.drop_zero]; exact List.take_of_length_le (by rw [hdk]; exact Nat.le_refl _))) (fun a hF => ?_)
  refine vc_y hF rfl rfl (by decide) _ (y_ldRow (new := .int .i64 i.ct :: dc i.ch) rfl hA6.q rfl 0 rfl rw25_s12 (by rw [hde]; exact Nat.le_refl _) (by rw [List.drop_zero]; exact List.take_of_length_le (by rw [hde]; exact Nat.le_refl _))) (fun a hF => ?_)
  refine vc_y hF rfl rfl (by decide) _ (y_build (v := .agg (leafC i).toArray) (qs := #[(0, .agg (dc i.k).toArray), (1, .agg (.int .i64 i.ct :: dc i.ch).toArray), (2, .int .i64 1), (3, .int .i64 256)]) rfl rfl (by exact rx_node hi)) (fun a hF => ?_)
  refine vc_op rfl (fun K hK => hs_box (cs := leafC i) hF rfl (by decide) rfl hA6 rfl (fun b7 w8 a hb7 hF hA9 => hK _ _ ?_))
  clear hK K
  replace hA9 : Hp w0 ([row b7 107 (leafC i)] :: [row b4 25 (.int .i64 i.ct :: dc i.ch)] :: [row b1 23 (dc i.k)] :: [row gn 107 (nodeC l.key ent0 ((l.size + r.size : Nat) : Int) (b : Int) (ptr gl) (ptr gr) (sumsC false b l r))] :: Yl :: Yr :: R) w8 := hA9
  refine vc_y hF rfl rfl (by decide) _ (y_assign rfl rfl) (fun a hF => ?_)
  refine vc_nil ?_
  refine hK2 _ _ ?_; clear  hK2 K2
  apply wp_seq_k; intro K3 hK3
  apply wp_seq_k; intro K4 hK4
  refine wp_region_lit ?_
  refine vc_y hF rfl rfl (by decide) _ (y_move rfl rfl) (fun a hF => ?_)
  refine vc_y hF rfl rfl (by decide) _ (y_eqNil rfl (by kernel_rfl) rfl rfl) (fun a hF => ?_)
  refine vc_nil ?_
  refine hK4 _ _ ?_; clear  hK4 K4
  refine vc_false hF rfl ?_
  apply wp_skip
  refine hK3 _ _ ?_; clear  hK3 K3
  apply wp_seq_k; intro K5 hK5
  refine wp_region_plan 6 [5,6] [0,1,2,3,4,5,6] (fun x => Hq w0 ([row b7 107 (leafC i)] :: [row b4 25 (.int .i64 i.ct :: dc i.ch)] :: [row b1 23 (dc i.k)] :: [row gn 107 (nodeC l.key ent0 ((l.size + r.size : Nat) : Int) (b : Int) (ptr gl) (ptr gr) (sumsC false b l r))] :: Yl :: Yr :: R) x) (by kernel_rfl) (by kernel_rfl) (Hq.drew (Hp.qp [[row b7 107 (leafC i)], [row b4 25 (.int .i64 i.ct :: dc i.ch)], [row b1 23 (dc i.k)], [row gn 107 (nodeC l.key ent0 ((l.size + r.size : Nat) : Int) (b : Int) (ptr gl) (ptr gr) (sumsC false b l r))], Yl, Yr] R [0, 1, 2, 3, 4, 5] hA9)) ?_
  have hA10 := Hl.drew hA9
  refine vp_y hF rfl rfl rfl rfl (by decide) _ (fun x hx => y_ldRow (new := dc i.k) rfl hx rfl 2 rfl rw23_s12 (by rw [hdk]; exact Nat.le_refl _) (by rw [List.drop_zero]; exact List.take_of_length_le (by rw [hdk]; exact Nat.le_refl _))) (fun a hF => ?_)
  refine vp_y hF rfl rfl rfl rfl (by decide) _ (fun x hx => y_move rfl rfl) (fun a hF => ?_)
  refine vp_y hF rfl rfl rfl rfl (by decide) _ (fun x hx => y_nilCheck rfl rfl) (fun a hF => ?_)
  refine vp_y hF rfl rfl rfl rfl (by decide) _ (fun x hx => y_field rfl Tryd.underlying107 rfl sz23_s12 (by decide) rfl (rfl : (⟨_, 0 + _, none⟩ : Addr) = ⟨_, 0, none⟩)) (fun a hF => ?_)
  refine vp_y hF rfl rfl rfl rfl (by decide) _ (fun x hx => y_ldRowC rfl (Hq.sub hx (sub1 (List.mem_cons_of_mem _ (List.mem_cons_of_mem _ (List.mem_cons_of_mem _ ((List.mem_cons_self ..))))))) rfl hN 0 (by rw [nodeC_len hL]; decide) rfl (nodeC_key hL _ _ _ _) rw23_s12) (fun a hF => ?_)
  refine vp_l rfl rfl rfl (fun K hK => ws_call hF rfl (by decide) cl87_s12 rfl rfl ?_)
  with_reducible refine (rt_parts w0 _ ([row b7 107 (leafC i)] :: [row b4 25 (.int .i64 i.ct :: dc i.ch)] :: [row b1 23 (dc i.k)] :: [row gn 107 (nodeC l.key ent0 ((l.size + r.size : Nat) : Int) (b : Int) (ptr gl) (ptr gr) (sumsC false b l r))] :: Yl :: Yr :: R) i.k l.key hi.k hkl hA10 ).mono ?_
  rintro e' w11 ⟨rfl, hA12⟩
  refine ⟨_, rfl, fun a hF => hK _ _ (fun _ => ?_) ?_⟩
  · exact Hp.qp [[row b7 107 (leafC i)], [row b4 25 (.int .i64 i.ct :: dc i.ch)], [row b1 23 (dc i.k)], [row gn 107 (nodeC l.key ent0 ((l.size + r.size : Nat) : Int) (b : Int) (ptr gl) (ptr gr) (sumsC false b l r))], Yl, Yr] R [0, 1, 2, 3, 4, 5] hA12
  clear hK K
  replace hA12 : Hp w0 ([row b7 107 (leafC i)] :: [row b4 25 (.int .i64 i.ct :: dc i.ch)] :: [row b1 23 (dc i.k)] :: [row gn 107 (nodeC l.key ent0 ((l.size + r.size : Nat) : Int) (b : Int) (ptr gl) (ptr gr) (sumsC false b l r))] :: Yl :: Yr :: R) w11 := hA12
  refine vp_ly hF rfl rfl rfl rfl (by decide) _ (y_assign rfl rfl) (fun h => absurd h (by decide)) (fun a hF => ?_)
  refine plan_end ?_
  refine hK5 _ _ ?_; clear  hK5 K5
  apply wp_seq_k; intro K6 hK6
  apply wp_seq_k; intro K7 hK7
  refine wp_region_lit ?_
  refine vc_y hF rfl rfl (by decide) _ (y_move rfl rfl) (fun a hF => ?_)
  refine vc_y hF rfl rfl (by decide) _ (y_move rfl rfl) (fun a hF => ?_)
  refine vc_y hF rfl rfl (by decide) _ (y_nilCheck rfl rfl) (fun a hF => ?_)
  refine vc_y hF rfl rfl (by decide) _ (y_field rfl Tryd.underlying107 rfl sz3_s12 (by decide) rfl (rfl : (⟨_, 0 + _, none⟩ : Addr) = ⟨_, 66, none⟩)) (fun a hF => ?_)
  refine vc_y hF rfl rfl (by decide) _ (y_ldC rfl (Hq.sub hA12.q (sub1 (List.mem_cons_of_mem _ (List.mem_cons_of_mem _ (List.mem_cons_of_mem _ ((List.mem_cons_self ..))))))) rfl hN 66 (by rw [nodeC_len hL]; decide) rfl (nodeC_bit hL _ _ _ _) nr3_s12) (fun a hF => ?_)
  refine vc_y hF rfl rfl (by decide) _ (y_cmp rfl rfl rfl rfl rfl) (fun a hF => ?_)
  refine vc_nil ?_
  refine hK7 _ _ ?_; clear  hK7 K7
  by_cases hp : partsN i.k l.key < b
  · refine vc_trueB hF rfl (lss_t (by omega)) ?_
    have hgA : (Rx.fork b l r).Good := hg
    have hgI : (Rx.leaf i).Good := hi
    have hpa : partsN i.k l.key < (Rx.fork b l r).bit := hp
    have hpb : partsN i.k l.key < (Rx.leaf i).bit := by show _ < 256; omega
    apply wp_seq_k; intro K8 hK8
    refine wp_region_lit ?_
    refine vc_y hF rfl rfl (by decide) _ (y_move rfl rfl) (fun a hF => ?_)
    refine vc_y hF rfl rfl (by decide) _ (y_move rfl rfl) (fun a hF => ?_)
    refine vc_y hF rfl rfl (by decide) _ (y_move rfl rfl) (fun a hF => ?_)
    refine vc_y hF rfl rfl (by decide) _ (y_move rfl rfl) (fun a hF => ?_)
    have hLa : NodeL (Rx.fork b l r).key ent0 (sumsC false b l r) := hL
    have hNa : Rw w0 ([row b7 107 (leafC i)] :: [row b4 25 (.int .i64 i.ct :: dc i.ch)] :: [row b1 23 (dc i.k)] :: [row gn 107 (nodeC l.key ent0 ((l.size + r.size : Nat) : Int) (b : Int) (ptr gl) (ptr gr) (sumsC false b l r))] :: Yl :: Yr :: R) gn (nodeC (Rx.fork b l r).key ent0 ((Rx.fork b l r).size : Int) ((Rx.fork b l r).bit : Int) (ptr gl) (ptr gr) (sumsC false b l r)) := Rw.ofMem (List.mem_cons_of_mem _ (List.mem_cons_of_mem _ (List.mem_cons_of_mem _ ((List.mem_cons_self ..))))) (List.mem_singleton.2 rfl)
    have hLb : NodeL (Rx.leaf i).key i.ent (List.replicate 64 (.int .u8 0)) := NodeL.leaf hi
    have hNb : Rw w0 ([row b7 107 (leafC i)] :: [row b4 25 (.int .i64 i.ct :: dc i.ch)] :: [row b1 23 (dc i.k)] :: [row gn 107 (nodeC l.key ent0 ((l.size + r.size : Nat) : Int) (b : Int) (ptr gl) (ptr gr) (sumsC false b l r))] :: Yl :: Yr :: R) b7 (nodeC (Rx.leaf i).key i.ent ((Rx.leaf i).size : Int) ((Rx.leaf i).bit : Int) (.pointer none) (.pointer none) (List.replicate 64 (.int .u8 0))) := Rw.ofMem ((List.mem_cons_self ..)) (List.mem_singleton.2 rfl)
    refine vc_op rfl (fun K hK => ws_call hF rfl (by decide) cl88_s12 rfl rfl ?_)
    with_reducible refine (rt_joinN w0 _ ([row b7 107 (leafC i)] :: [row b4 25 (.int .i64 i.ct :: dc i.ch)] :: [row b1 23 (dc i.k)] :: [row gn 107 (nodeC l.key ent0 ((l.size + r.size : Nat) : Int) (b : Int) (ptr gl) (ptr gr) (sumsC false b l r))] :: Yl :: Yr :: R) _ sub0 (Rx.fork b l r) (.leaf i) hgA hgI gn b7 (partsN i.k l.key) hpa hpb (by rw [hsF, hsi]; omega) ent0 (sumsC false b l r) (ptr gl) (ptr gr) hLa hNa i.ent (List.replicate 64 (.int .u8 0)) (.pointer none) (.pointer none) hLb hNb hA12 ).mono ?_
    rintro e' w13 ⟨gj, J, rfl, hJ, hA14⟩
    refine ⟨_, rfl, fun a hF => hK _ _ ?_⟩
    clear hK K
    replace hA14 : Hp w0 (J :: [row b7 107 (leafC i)] :: [row b4 25 (.int .i64 i.ct :: dc i.ch)] :: [row b1 23 (dc i.k)] :: [row gn 107 (nodeC l.key ent0 ((l.size + r.size : Nat) : Int) (b : Int) (ptr gl) (ptr gr) (sumsC false b l r))] :: Yl :: Yr :: R) w13 := hA14
    refine vc_y hF rfl rfl (by decide) _ (y_assign rfl rfl) (fun a hF => ?_)
    refine vc_nil ?_
    refine hK8 _ _ ?_; clear  hK8 K8
    apply wp_ret
    simp only [Exit.then]
    refine vc_ret1 hF Tryd.results57 rfl ?_
    rw [Rx.ins_join (t := (Rx.fork b l r)) hp]
    have hA15 : Hp w0 (J :: [row gn 107 (nodeC l.key ent0 ((l.size + r.size : Nat) : Int) (b : Int) (ptr gl) (ptr gr) (sumsC false b l r))] :: Yl :: Yr :: [row b7 107 (leafC i)] :: R) w13 := Hp.sel [J, [row b7 107 (leafC i)], [row b4 25 (.int .i64 i.ct :: dc i.ch)], [row b1 23 (dc i.k)], [row gn 107 (nodeC l.key ent0 ((l.size + r.size : Nat) : Int) (b : Int) (ptr gl) (ptr gr) (sumsC false b l r))], Yl, Yr] R [0, 4, 5, 6, 1] [2, 3] hA14 rfl
    obtain ⟨Z, hZ, hZp⟩ := hJ.tro (Ya := row gn 107 (nodeC l.key ent0 ((l.size + r.size : Nat) : Int) (b : Int) (ptr gl) (ptr gr) (sumsC false b l r)) :: (Yl ++ Yr)) (Yb := [row b7 107 (leafC i)]) ⟨gl, gr, Yl, Yr, rfl, hl, hr⟩ rfl
    exact ⟨gj, Z, rfl, hZ, Hp.permHead (Hp.cast hA15 (S' := (J ++ ((row gn 107 (nodeC l.key ent0 ((l.size + r.size : Nat) : Int) (b : Int) (ptr gl) (ptr gr) (sumsC false b l r)) :: (Yl ++ Yr)) ++ [row b7 107 (leafC i)])) :: R) (by simp only [List.flatten_cons, List.append_assoc, List.cons_append, List.nil_append])) hZp⟩
  · refine vc_falseB hF rfl (lss_f (by omega)) ?_
    apply wp_skip
    refine hK6 _ _ ?_; clear  hK6 K6
    apply wp_seq_k; intro K9 hK9
    apply wp_seq_k; intro K10 hK10
    refine wp_region_lit ?_
    refine vc_y hF rfl rfl (by decide) _ (y_move rfl rfl) (fun a hF => ?_)
    refine vc_y hF rfl rfl (by decide) _ (y_nilCheck rfl rfl) (fun a hF => ?_)
    refine vc_y hF rfl rfl (by decide) _ (y_field rfl Tryd.underlying107 rfl sz3_s12 (by decide) rfl (rfl : (⟨_, 0 + _, none⟩ : Addr) = ⟨_, 66, none⟩)) (fun a hF => ?_)
    refine vc_y hF rfl rfl (by decide) _ (y_ldC rfl (Hq.sub hA12.q (sub1 (List.mem_cons_of_mem _ (List.mem_cons_of_mem _ (List.mem_cons_of_mem _ ((List.mem_cons_self ..))))))) rfl hN 66 (by rw [nodeC_len hL]; decide) rfl (nodeC_bit hL _ _ _ _) nr3_s12) (fun a hF => ?_)
    refine vc_y hF rfl rfl (by decide) _ (y_cmp rfl rfl rfl rfl (eql_f (by omega))) (fun a hF => ?_)
    refine vc_nil ?_
    refine hK10 _ _ ?_; clear  hK10 K10
    refine vc_false hF rfl ?_
    apply wp_skip
    refine hK9 _ _ ?_; clear  hK9 K9
    apply wp_seq_k; intro K11 hK11
    refine wp_region_lit ?_
    refine vc_y hF rfl rfl (by decide) _ (y_move rfl rfl) (fun a hF => ?_)
    refine vc_y hF rfl rfl (by decide) _ (y_nilCheck rfl rfl) (fun a hF => ?_)
    refine vc_y hF rfl rfl (by decide) _ (y_ldRowC rfl (Hq.sub hA12.q (sub1 (List.mem_cons_of_mem _ (List.mem_cons_of_mem _ (List.mem_cons_of_mem _ ((List.mem_cons_self ..))))))) rfl hN 0 (by rw [nodeC_len hL]; decide) rfl (nodeC_all hL _ _ _ _) rw107_s12) (fun a hF => ?_)
    refine vc_op rfl (fun K hK => hs_alloc hF rfl (by decide) rfl hA12 (zr107_s12) (fun b16 w17 a hb16 hF hA18 => hK _ _ ?_))
    clear hK K
    replace hA18 : Hp w0 ([row b16 107 [.int .u8 0, .int .u8 0, .int .u8 0, .int .u8 0, .int .u8 0, .int .u8 0, .int .u8 0, .int .u8 0, .int .u8 0, .int .u8 0, .int .u8 0, .int .u8 0, .int .u8 0, .int .u8 0, .int .u8 0, .int .u8 0, .int .u8 0, .int .u8 0, .int .u8 0, .int .u8 0, .int .u8 0, .int .u8 0, .int .u8 0, .int .u8 0, .int .u8 0, .int .u8 0, .int .u8 0, .int .u8 0, .int .u8 0, .int .u8 0, .int .u8 0, .int .u8 0, .int .i64 0, .int .u8 0, .int .u8 0, .int .u8 0, .int .u8 0, .int .u8 0, .int .u8 0, .int .u8 0, .int .u8 0, .int .u8 0, .int .u8 0, .int .u8 0, .int .u8 0, .int .u8 0, .int .u8 0, .int .u8 0, .int .u8 0, .int .u8 0, .int .u8 0, .int .u8 0, .int .u8 0, .int .u8 0, .int .u8 0, .int .u8 0, .int .u8 0, .int .u8 0, .int .u8 0, .int .u8 0, .int .u8 0, .int .u8 0, .int .u8 0, .int .u8 0, .int .u8 0, .int .i64 0, .int .i64 0, .pointer none, .pointer none, .int .u8 0, .int .u8 0, .int .u8 0, .int .u8 0, .int .u8 0, .int .u8 0, .int .u8 0, .int .u8 0, .int .u8 0, .int .u8 0, .int .u8 0, .int .u8 0, .int .u8 0, .int .u8 0, .int .u8 0, .int .u8 0, .int .u8 0, .int .u8 0, .int .u8 0, .int .u8 0, .int .u8 0, .int .u8 0, .int .u8 0, .int .u8 0, .int .u8 0, .int .u8 0, .int .u8 0, .int .u8 0, .int .u8 0, .int .u8 0, .int .u8 0, .int .u8 0, .int .u8 0, .int .u8 0, .int .u8 0, .int .u8 0, .int .u8 0, .int .u8 0, .int .u8 0, .int .u8 0, .int .u8 0, .int .u8 0, .int .u8 0, .int .u8 0, .int .u8 0, .int .u8 0, .int .u8 0, .int .u8 0, .int .u8 0, .int .u8 0, .int .u8 0, .int .u8 0, .int .u8 0, .int .u8 0, .int .u8 0, .int .u8 0, .int .u8 0, .int .u8 0, .int .u8 0, .int .u8 0, .int .u8 0, .int .u8 0, .int .u8 0, .int .u8 0]] :: [row b7 107 (leafC i)] :: [row b4 25 (.int .i64 i.ct :: dc i.ch)] :: [row b1 23 (dc i.k)] :: [row gn 107 (nodeC l.key ent0 ((l.size + r.size : Nat) : Int) (b : Int) (ptr gl) (ptr gr) (sumsC false b l r))] :: Yl :: Yr :: R) w17 := hA18
    refine vc_op rfl (fun K hK => hs_storeAll (new := nodeC l.key ent0 ((l.size + r.size : Nat) : Int) (b : Int) (ptr gl) (ptr gr) (sumsC false b l r)) hF rfl rfl hA18 rfl rfl 0 rfl (by rw [nodeC_len hL]; rfl) (nodeC_one ent0_one (sumsC_one _ _ _ _) rfl rfl _ _) (by exact sz107_s12) (fun w19 hA20 => hK _ _ ?_))
    clear hK K
    replace hA20 : Hp w0 ([row b16 107 (nodeC l.key ent0 ((l.size + r.size : Nat) : Int) (b : Int) (ptr gl) (ptr gr) (sumsC false b l r))] :: [row b7 107 (leafC i)] :: [row b4 25 (.int .i64 i.ct :: dc i.ch)] :: [row b1 23 (dc i.k)] :: [row gn 107 (nodeC l.key ent0 ((l.size + r.size : Nat) : Int) (b : Int) (ptr gl) (ptr gr) (sumsC false b l r))] :: Yl :: Yr :: R) w19 := hA20
    refine vc_nil ?_
    refine hK11 _ _ ?_; clear  hK11 K11
    apply wp_seq_k; intro K12 hK12
    by_cases hkb : keyBit i.k b = 0
    · have hgF : (Rx.fork b (l.ins i) r).Good := by have h := (Rx.ins_good hi hg).1; rw [Rx.ins_l hp hkb] at h; exact h
      obtain ⟨hgl2, hgr2, hbl2, hbr2, _, _⟩ := id hgF
      have hll2 := Rx.bit_le hgl2
      have hrr2 := Rx.bit_le hgr2
      refine wp_region_plan 6 [5,6] [0,1,2,3,4,5,6] (fun x => Hq w0 ([row b16 107 (nodeC l.key ent0 ((l.size + r.size : Nat) : Int) (b : Int) (ptr gl) (ptr gr) (sumsC false b l r))] :: [row b7 107 (leafC i)] :: [row b4 25 (.int .i64 i.ct :: dc i.ch)] :: [row b1 23 (dc i.k)] :: [row gn 107 (nodeC l.key ent0 ((l.size + r.size : Nat) : Int) (b : Int) (ptr gl) (ptr gr) (sumsC false b l r))] :: Yl :: Yr :: R) x) (by kernel_rfl) (by kernel_rfl) (Hq.drew (Hp.qp [[row b16 107 (nodeC l.key ent0 ((l.size + r.size : Nat) : Int) (b : Int) (ptr gl) (ptr gr) (sumsC false b l r))], [row b7 107 (leafC i)], [row b4 25 (.int .i64 i.ct :: dc i.ch)], [row b1 23 (dc i.k)], [row gn 107 (nodeC l.key ent0 ((l.size + r.size : Nat) : Int) (b : Int) (ptr gl) (ptr gr) (sumsC false b l r))], Yl, Yr] R [0, 1, 2, 3, 4, 5, 6] hA20)) ?_
      have hA21 := Hl.drew hA20
      refine vp_y hF rfl rfl rfl rfl (by decide) _ (fun x hx => y_ldRow (new := dc i.k) rfl hx rfl 3 rfl rw23_s12 (by rw [hdk]; exact Nat.le_refl _) (by rw [List.drop_zero]; exact List.take_of_length_le (by rw [hdk]; exact Nat.le_refl _))) (fun a hF => ?_)
      refine vp_y hF rfl rfl rfl rfl (by decide) _ (fun x hx => y_move rfl rfl) (fun a hF => ?_)
      refine vp_y hF rfl rfl rfl rfl (by decide) _ (fun x hx => y_nilCheck rfl rfl) (fun a hF => ?_)
      refine vp_y hF rfl rfl rfl rfl (by decide) _ (fun x hx => y_field rfl Tryd.underlying107 rfl sz3_s12 (by decide) rfl (rfl : (⟨_, 0 + _, none⟩ : Addr) = ⟨_, 66, none⟩)) (fun a hF => ?_)
      refine vp_y hF rfl rfl rfl rfl (by decide) _ (fun x hx => y_ldC rfl (Hq.sub hx (sub1 (List.mem_cons_of_mem _ (List.mem_cons_of_mem _ (List.mem_cons_of_mem _ (List.mem_cons_of_mem _ ((List.mem_cons_self ..)))))))) rfl hN 66 (by rw [nodeC_len hL]; decide) rfl (nodeC_bit hL _ _ _ _) nr3_s12) (fun a hF => ?_)
      refine vp_l rfl rfl rfl (fun K hK => ws_call hF rfl (by decide) cl76_s12 rfl rfl ?_)
      with_reducible refine (sp_bit_is (w0 := w0) (R := ([row b16 107 (nodeC l.key ent0 ((l.size + r.size : Nat) : Int) (b : Int) (ptr gl) (ptr gr) (sumsC false b l r))] :: [row b7 107 (leafC i)] :: [row b4 25 (.int .i64 i.ct :: dc i.ch)] :: [row b1 23 (dc i.k)] :: [row gn 107 (nodeC l.key ent0 ((l.size + r.size : Nat) : Int) (b : Int) (ptr gl) (ptr gr) (sumsC false b l r))] :: Yl :: Yr :: R)) (z := 0) hkb hi.k hb hA21 ).mono ?_
      rintro e' w22 ⟨rfl, hA23⟩
      refine ⟨_, rfl, fun a hF => hK _ _ (fun _ => ?_) ?_⟩
      · exact Hp.qp [[row b16 107 (nodeC l.key ent0 ((l.size + r.size : Nat) : Int) (b : Int) (ptr gl) (ptr gr) (sumsC false b l r))], [row b7 107 (leafC i)], [row b4 25 (.int .i64 i.ct :: dc i.ch)], [row b1 23 (dc i.k)], [row gn 107 (nodeC l.key ent0 ((l.size + r.size : Nat) : Int) (b : Int) (ptr gl) (ptr gr) (sumsC false b l r))], Yl, Yr] R [0, 1, 2, 3, 4, 5, 6] hA23
      clear hK K
      replace hA23 : Hp w0 ([row b16 107 (nodeC l.key ent0 ((l.size + r.size : Nat) : Int) (b : Int) (ptr gl) (ptr gr) (sumsC false b l r))] :: [row b7 107 (leafC i)] :: [row b4 25 (.int .i64 i.ct :: dc i.ch)] :: [row b1 23 (dc i.k)] :: [row gn 107 (nodeC l.key ent0 ((l.size + r.size : Nat) : Int) (b : Int) (ptr gl) (ptr gr) (sumsC false b l r))] :: Yl :: Yr :: R) w22 := hA23
      rw [show ((0 : Nat) : Int) = 0 from rfl] at hF
      refine vp_ly hF rfl rfl rfl rfl (by decide) _ (y_assign rfl rfl) (fun h => absurd h (by decide)) (fun a hF => ?_)
      refine plan_end ?_
      refine hK12 _ _ ?_; clear  hK12 K12
      apply wp_seq_k; intro K13 hK13
      refine wp_region_plan 13 [10,13] [0,1,2,3,4,5,6,7,8,9,11,10,12,13] (fun x => Hq w0 ([row b16 107 (nodeC l.key ent0 ((l.size + r.size : Nat) : Int) (b : Int) (ptr gl) (ptr gr) (sumsC false b l r))] :: [row b7 107 (leafC i)] :: [row b4 25 (.int .i64 i.ct :: dc i.ch)] :: [row b1 23 (dc i.k)] :: [row gn 107 (nodeC l.key ent0 ((l.size + r.size : Nat) : Int) (b : Int) (ptr gl) (ptr gr) (sumsC false b l r))] :: Yr :: R) x) (by kernel_rfl) (by kernel_rfl) (Hq.drew (Hp.qp [[row b16 107 (nodeC l.key ent0 ((l.size + r.size : Nat) : Int) (b : Int) (ptr gl) (ptr gr) (sumsC false b l r))], [row b7 107 (leafC i)], [row b4 25 (.int .i64 i.ct :: dc i.ch)], [row b1 23 (dc i.k)], [row gn 107 (nodeC l.key ent0 ((l.size + r.size : Nat) : Int) (b : Int) (ptr gl) (ptr gr) (sumsC false b l r))], Yl, Yr] R [0, 1, 2, 3, 4, 6] hA23)) ?_
      have hA24 := Hl.drew hA23
      refine vp_y hF rfl rfl rfl rfl (by decide) _ (fun x hx => y_move rfl rfl) (fun a hF => ?_)
      refine vp_y hF rfl rfl rfl rfl (by decide) _ (fun x hx => y_move rfl rfl) (fun a hF => ?_)
      refine vp_y hF rfl rfl rfl rfl (by decide) _ (fun x hx => y_move rfl rfl) (fun a hF => ?_)
      refine vp_y hF rfl rfl rfl rfl (by decide) _ (fun x hx => y_nilCheck rfl rfl) (fun a hF => ?_)
      refine vp_y hF rfl rfl rfl rfl (by decide) _ (fun x hx => y_field rfl Tryd.underlying107 rfl sz104_s12 (by decide) rfl (rfl : (⟨_, 0 + _, none⟩ : Addr) = ⟨_, 67, none⟩)) (fun a hF => ?_)
      refine vp_y hF rfl rfl rfl rfl (by decide) _ (fun x hx => y_ixArr rfl Tryd.underlying104 sz43_s12 rfl rfl 0 rfl (by decide) (rfl : (⟨_, 67 + 0 * 1, none⟩ : Addr) = ⟨_, 67, none⟩) (rfl : (none : Option Nat) = none)) (fun a hF => ?_)
      refine vp_y hF rfl rfl rfl rfl (by decide) _ (fun x hx => y_ldC rfl (Hq.sub hx (sub1 (List.mem_cons_of_mem _ (List.mem_cons_of_mem _ (List.mem_cons_of_mem _ (List.mem_cons_of_mem _ ((List.mem_cons_self ..)))))))) rfl hN 67 (by rw [nodeC_len hL]; decide) rfl (nodeC_kid0 hL _ _ _ _) nr43_s12) (fun a hF => ?_)
      refine vp_y hF rfl rfl rfl rfl (by decide) _ (fun x hx => y_ldRow (new := dc i.k) rfl hx rfl 3 rfl rw23_s12 (by rw [hdk]; exact Nat.le_refl _) (by rw [List.drop_zero]; exact List.take_of_length_le (by rw [hdk]; exact Nat.le_refl _))) (fun a hF => ?_)
      refine vp_y hF rfl rfl rfl rfl (by decide) _ (fun x hx => y_ldRow (new := .int .i64 i.ct :: dc i.ch) rfl hx rfl 2 rfl rw25_s12 (by rw [hde]; exact Nat.le_refl _) (by rw [List.drop_zero]; exact List.take_of_length_le (by rw [hde]; exact Nat.le_refl _))) (fun a hF => ?_)
      refine vp_y hF rfl rfl rfl rfl (by decide) _ (fun x hx => y_move rfl rfl) (fun a hF => ?_)
      refine vp_y hF rfl rfl rfl rfl (by decide) _ (fun x hx => y_field rfl Tryd.underlying107 rfl sz104_s12 (by decide) rfl (rfl : (⟨_, 0 + _, none⟩ : Addr) = ⟨_, 67, none⟩)) (fun a hF => ?_)
      have hA25 : Hp w0 (Yl :: [row b16 107 (nodeC l.key ent0 ((l.size + r.size : Nat) : Int) (b : Int) (ptr gl) (ptr gr) (sumsC false b l r))] :: [row b7 107 (leafC i)] :: [row b4 25 (.int .i64 i.ct :: dc i.ch)] :: [row b1 23 (dc i.k)] :: [row gn 107 (nodeC l.key ent0 ((l.size + r.size : Nat) : Int) (b : Int) (ptr gl) (ptr gr) (sumsC false b l r))] :: Yr :: R) w22.drew := Hp.ord [[row b16 107 (nodeC l.key ent0 ((l.size + r.size : Nat) : Int) (b : Int) (ptr gl) (ptr gr) (sumsC false b l r))], [row b7 107 (leafC i)], [row b4 25 (.int .i64 i.ct :: dc i.ch)], [row b1 23 (dc i.k)], [row gn 107 (nodeC l.key ent0 ((l.size + r.size : Nat) : Int) (b : Int) (ptr gl) (ptr gr) (sumsC false b l r))], Yl, Yr] R [5, 0, 1, 2, 3, 4, 6] hA24 rfl
      refine vp_l rfl rfl rfl (fun K hK => ws_call hF rfl (by decide) cl57_s12 rfl rfl ?_)
      with_reducible refine (ihl _ ([row b16 107 (nodeC l.key ent0 ((l.size + r.size : Nat) : Int) (b : Int) (ptr gl) (ptr gr) (sumsC false b l r))] :: [row b7 107 (leafC i)] :: [row b4 25 (.int .i64 i.ct :: dc i.ch)] :: [row b1 23 (dc i.k)] :: [row gn 107 (nodeC l.key ent0 ((l.size + r.size : Nat) : Int) (b : Int) (ptr gl) (ptr gr) (sumsC false b l r))] :: Yr :: R) Yl gl hl hA25 ).mono ?_
      rintro e' w26 ⟨g2, Y2, rfl, h2, hA27⟩
      refine ⟨_, rfl, fun a hF => hK _ _ (fun _ => ?_) ?_⟩
      · exact Hp.qp [Y2, [row b16 107 (nodeC l.key ent0 ((l.size + r.size : Nat) : Int) (b : Int) (ptr gl) (ptr gr) (sumsC false b l r))], [row b7 107 (leafC i)], [row b4 25 (.int .i64 i.ct :: dc i.ch)], [row b1 23 (dc i.k)], [row gn 107 (nodeC l.key ent0 ((l.size + r.size : Nat) : Int) (b : Int) (ptr gl) (ptr gr) (sumsC false b l r))], Yr] R [1, 2, 3, 4, 5, 6] hA27
      clear hK K
      replace hA27 : Hp w0 (Y2 :: [row b16 107 (nodeC l.key ent0 ((l.size + r.size : Nat) : Int) (b : Int) (ptr gl) (ptr gr) (sumsC false b l r))] :: [row b7 107 (leafC i)] :: [row b4 25 (.int .i64 i.ct :: dc i.ch)] :: [row b1 23 (dc i.k)] :: [row gn 107 (nodeC l.key ent0 ((l.size + r.size : Nat) : Int) (b : Int) (ptr gl) (ptr gr) (sumsC false b l r))] :: Yr :: R) w26 := hA27
      refine vp_y hF rfl rfl rfl rfl (by decide) _ (fun x hx => y_ixArr rfl Tryd.underlying104 sz43_s12 rfl rfl 0 rfl (by decide) (rfl : (⟨_, 67 + 0 * 1, none⟩ : Addr) = ⟨_, 67, none⟩) (rfl : (none : Option Nat) = none)) (fun a hF => ?_)
      refine vp_l rfl rfl rfl (fun K hK => hs_store1 hF rfl rfl hA27 rfl rfl 1 rfl (by rw [nodeC_len hL]; decide) rfl sz43_s12 (fun w28 hA29 => hK _ _ (fun h => absurd h (by decide)) ?_))
      clear hK K
      replace hA29 : Hp w0 (Y2 :: [row b16 107 ((nodeC l.key ent0 ((l.size + r.size : Nat) : Int) (b : Int) (ptr gl) (ptr gr) (sumsC false b l r)).set 67 (ptr g2))] :: [row b7 107 (leafC i)] :: [row b4 25 (.int .i64 i.ct :: dc i.ch)] :: [row b1 23 (dc i.k)] :: [row gn 107 (nodeC l.key ent0 ((l.size + r.size : Nat) : Int) (b : Int) (ptr gl) (ptr gr) (sumsC false b l r))] :: Yr :: R) w28 := hA29
      have hA30 : Hp w0 (Y2 :: [row b16 107 (nodeC l.key ent0 ((l.size + r.size : Nat) : Int) (b : Int) (ptr g2) (ptr gr) (sumsC false b l r))] :: [row b7 107 (leafC i)] :: [row b4 25 (.int .i64 i.ct :: dc i.ch)] :: [row b1 23 (dc i.k)] :: [row gn 107 (nodeC l.key ent0 ((l.size + r.size : Nat) : Int) (b : Int) (ptr gl) (ptr gr) (sumsC false b l r))] :: Yr :: R) w28 := by
        rw [← show (nodeC l.key ent0 ((l.size + r.size : Nat) : Int) (b : Int) (ptr gl) (ptr gr) (sumsC false b l r)).set 67 (ptr g2) = nodeC l.key ent0 ((l.size + r.size : Nat) : Int) (b : Int) (ptr g2) (ptr gr) (sumsC false b l r) from (nodeC_put0 hL _ _ _ _ _)]
        exact hA29
      refine plan_end ?_
      refine hK13 _ _ ?_; clear  hK13 K13
      apply wp_seq_k; intro K14 hK14
      obtain ⟨E2, p2, q2, s2, hL2, hN2⟩ := Tr.view hgl2 (h2.tr (w0 := w0) (R := [Y2]) (List.mem_singleton.2 rfl))
      obtain ⟨E3, p3, q3, s3, hL3, hN3⟩ := Tr.view hgr2 (hr.tr (w0 := w0) (R := [Yr]) (List.mem_singleton.2 rfl))
      have hM : Rw w0 (Y2 :: [row b16 107 (nodeC l.key ent0 ((l.size + r.size : Nat) : Int) (b : Int) (ptr g2) (ptr gr) (sumsC false b l r))] :: [row b7 107 (leafC i)] :: [row b4 25 (.int .i64 i.ct :: dc i.ch)] :: [row b1 23 (dc i.k)] :: [row gn 107 (nodeC l.key ent0 ((l.size + r.size : Nat) : Int) (b : Int) (ptr gl) (ptr gr) (sumsC false b l r))] :: Yr :: R) b16 (nodeC l.key ent0 ((l.size + r.size : Nat) : Int) (b : Int) (ptr g2) (ptr gr) (sumsC false b l r)) := Rw.ofRow (i := 1) rfl
      refine wp_region_plan 14 [14] [0,1,2,3,4,5,6,7,8,9,10,11,12,13,14] (fun x => Hq w0 (Y2 :: [row b16 107 (nodeC l.key ent0 ((l.size + r.size : Nat) : Int) (b : Int) (ptr g2) (ptr gr) (sumsC false b l r))] :: [row b7 107 (leafC i)] :: [row b4 25 (.int .i64 i.ct :: dc i.ch)] :: [row b1 23 (dc i.k)] :: [row gn 107 (nodeC l.key ent0 ((l.size + r.size : Nat) : Int) (b : Int) (ptr gl) (ptr gr) (sumsC false b l r))] :: Yr :: R) x) (by kernel_rfl) (by kernel_rfl) (Hq.drew (Hp.qp [Y2, [row b16 107 (nodeC l.key ent0 ((l.size + r.size : Nat) : Int) (b : Int) (ptr g2) (ptr gr) (sumsC false b l r))], [row b7 107 (leafC i)], [row b4 25 (.int .i64 i.ct :: dc i.ch)], [row b1 23 (dc i.k)], [row gn 107 (nodeC l.key ent0 ((l.size + r.size : Nat) : Int) (b : Int) (ptr gl) (ptr gr) (sumsC false b l r))], Yr] R [0, 1, 2, 3, 4, 5, 6] hA30)) ?_
      have hA31 := Hl.drew hA30
      refine vp_y hF rfl rfl rfl rfl (by decide) _ (fun x hx => y_field rfl Tryd.underlying107 rfl sz104_s12 (by decide) rfl (rfl : (⟨_, 0 + _, none⟩ : Addr) = ⟨_, 67, none⟩)) (fun a hF => ?_)
      refine vp_y hF rfl rfl rfl rfl (by decide) _ (fun x hx => y_ixArr rfl Tryd.underlying104 sz43_s12 rfl rfl 0 rfl (by decide) (rfl : (⟨_, 67 + 0 * 1, none⟩ : Addr) = ⟨_, 67, none⟩) (rfl : (none : Option Nat) = none)) (fun a hF => ?_)
      refine vp_y hF rfl rfl rfl rfl (by decide) _ (fun x hx => y_ldC rfl hx rfl hM 67 (by rw [nodeC_len hL]; decide) rfl (nodeC_kid0 hL _ _ _ _) nr43_s12) (fun a hF => ?_)
      refine vp_y hF rfl rfl rfl rfl (by decide) _ (fun x hx => y_nilCheck rfl rfl) (fun a hF => ?_)
      refine vp_y hF rfl rfl rfl rfl (by decide) _ (fun x hx => y_field rfl Tryd.underlying107 rfl sz3_s12 (by decide) rfl (rfl : (⟨_, 0 + _, none⟩ : Addr) = ⟨_, 65, none⟩)) (fun a hF => ?_)
      refine vp_y hF rfl rfl rfl rfl (by decide) _ (fun x hx => y_ldC rfl (Hq.sub hx (sub1 ((List.mem_cons_self ..)))) rfl hN2 65 (by rw [nodeC_len hL2]; decide) rfl (nodeC_size hL2 _ _ _ _) nr3_s12) (fun a hF => ?_)
      refine vp_y hF rfl rfl rfl rfl (by decide) _ (fun x hx => y_field rfl Tryd.underlying107 rfl sz104_s12 (by decide) rfl (rfl : (⟨_, 0 + _, none⟩ : Addr) = ⟨_, 67, none⟩)) (fun a hF => ?_)
      refine vp_y hF rfl rfl rfl rfl (by decide) _ (fun x hx => y_ixArr rfl Tryd.underlying104 sz43_s12 rfl rfl 1 rfl (by decide) (rfl : (⟨_, 67 + 1 * 1, none⟩ : Addr) = ⟨_, 68, none⟩) (rfl : (none : Option Nat) = none)) (fun a hF => ?_)
      refine vp_y hF rfl rfl rfl rfl (by decide) _ (fun x hx => y_ldC rfl hx rfl hM 68 (by rw [nodeC_len hL]; decide) rfl (nodeC_kid1 hL _ _ _ _) nr43_s12) (fun a hF => ?_)
      refine vp_y hF rfl rfl rfl rfl (by decide) _ (fun x hx => y_nilCheck rfl rfl) (fun a hF => ?_)
      refine vp_y hF rfl rfl rfl rfl (by decide) _ (fun x hx => y_field rfl Tryd.underlying107 rfl sz3_s12 (by decide) rfl (rfl : (⟨_, 0 + _, none⟩ : Addr) = ⟨_, 65, none⟩)) (fun a hF => ?_)
      refine vp_y hF rfl rfl rfl rfl (by decide) _ (fun x hx => y_ldC rfl (Hq.sub hx (sub1 (List.mem_cons_of_mem _ (List.mem_cons_of_mem _ (List.mem_cons_of_mem _ (List.mem_cons_of_mem _ (List.mem_cons_of_mem _ (List.mem_cons_of_mem _ ((List.mem_cons_self ..)))))))))) rfl hN3 65 (by rw [nodeC_len hL3]; decide) rfl (nodeC_size hL3 _ _ _ _) nr3_s12) (fun a hF => ?_)
      refine vp_y hF rfl rfl rfl rfl (by decide) _ (fun x hx => y_add rfl rfl rfl (show IntKind.i64.wrap ((((l.ins i).size : Nat) : Int) + ((r.size : Nat) : Int)) = (((l.ins i).size + r.size : Nat) : Int) by rw [IntWalk.i64_in _ (by omega)]; omega)) (fun a hF => ?_)
      refine vp_y hF rfl rfl rfl rfl (by decide) _ (fun x hx => y_field rfl Tryd.underlying107 rfl sz3_s12 (by decide) rfl (rfl : (⟨_, 0 + _, none⟩ : Addr) = ⟨_, 65, none⟩)) (fun a hF => ?_)
      refine vp_l rfl rfl rfl (fun K hK => hs_store1 hF rfl rfl hA31 rfl rfl 1 rfl (by rw [nodeC_len hL]; decide) rfl sz3_s12 (fun w32 hA33 => hK _ _ (fun h => absurd h (by decide)) ?_))
      clear hK K
      replace hA33 : Hp w0 (Y2 :: [row b16 107 ((nodeC l.key ent0 ((l.size + r.size : Nat) : Int) (b : Int) (ptr g2) (ptr gr) (sumsC false b l r)).set 65 (.int .i64 (((l.ins i).size + r.size : Nat) : Int)))] :: [row b7 107 (leafC i)] :: [row b4 25 (.int .i64 i.ct :: dc i.ch)] :: [row b1 23 (dc i.k)] :: [row gn 107 (nodeC l.key ent0 ((l.size + r.size : Nat) : Int) (b : Int) (ptr gl) (ptr gr) (sumsC false b l r))] :: Yr :: R) w32 := hA33
      have hA34 : Hp w0 (Y2 :: [row b16 107 (nodeC l.key ent0 (((l.ins i).size + r.size : Nat) : Int) (b : Int) (ptr g2) (ptr gr) (sumsC false b l r))] :: [row b7 107 (leafC i)] :: [row b4 25 (.int .i64 i.ct :: dc i.ch)] :: [row b1 23 (dc i.k)] :: [row gn 107 (nodeC l.key ent0 ((l.size + r.size : Nat) : Int) (b : Int) (ptr gl) (ptr gr) (sumsC false b l r))] :: Yr :: R) w32 := by
        rw [← show (nodeC l.key ent0 ((l.size + r.size : Nat) : Int) (b : Int) (ptr g2) (ptr gr) (sumsC false b l r)).set 65 (.int .i64 (((l.ins i).size + r.size : Nat) : Int)) = nodeC l.key ent0 (((l.ins i).size + r.size : Nat) : Int) (b : Int) (ptr g2) (ptr gr) (sumsC false b l r) from (nodeC_putZ hL _ _ _ _ _)]
        exact hA33
      refine plan_end ?_
      refine hK14 _ _ ?_; clear  hK14 K14
      apply wp_seq_k; intro K15 hK15
      have hM2 : Rw w0 (Y2 :: [row b16 107 (nodeC l.key ent0 (((l.ins i).size + r.size : Nat) : Int) (b : Int) (ptr g2) (ptr gr) (sumsC false b l r))] :: [row b7 107 (leafC i)] :: [row b4 25 (.int .i64 i.ct :: dc i.ch)] :: [row b1 23 (dc i.k)] :: [row gn 107 (nodeC l.key ent0 ((l.size + r.size : Nat) : Int) (b : Int) (ptr gl) (ptr gr) (sumsC false b l r))] :: Yr :: R) b16 (nodeC l.key ent0 (((l.ins i).size + r.size : Nat) : Int) (b : Int) (ptr g2) (ptr gr) (sumsC false b l r)) := Rw.ofRow (i := 1) rfl
      have hk2 : (l.ins i).key.length = 32 := hgl2.key
      have hdk2 : (dc (l.ins i).key).length = 32 := by rw [dc_length, hk2]
      have hLm : NodeL (l.ins i).key ent0 (sumsC false b l r) := ⟨hk2, ent0_len, sumsC_len ..⟩
      refine wp_region_lit ?_
      refine vc_y hF rfl rfl (by decide) _ (y_field rfl Tryd.underlying107 rfl sz104_s12 (by decide) rfl (rfl : (⟨_, 0 + _, none⟩ : Addr) = ⟨_, 67, none⟩)) (fun a hF => ?_)
      refine vc_y hF rfl rfl (by decide) _ (y_ixArr rfl Tryd.underlying104 sz43_s12 rfl rfl 0 rfl (by decide) (rfl : (⟨_, 67 + 0 * 1, none⟩ : Addr) = ⟨_, 67, none⟩) (rfl : (none : Option Nat) = none)) (fun a hF => ?_)
      refine vc_y hF rfl rfl (by decide) _ (y_ldC rfl hA34.q rfl hM2 67 (by rw [nodeC_len hL]; decide) rfl (nodeC_kid0 hL _ _ _ _) nr43_s12) (fun a hF => ?_)
      refine vc_y hF rfl rfl (by decide) _ (y_nilCheck rfl rfl) (fun a hF => ?_)
      refine vc_y hF rfl rfl (by decide) _ (y_field rfl Tryd.underlying107 rfl sz23_s12 (by decide) rfl (rfl : (⟨_, 0 + _, none⟩ : Addr) = ⟨_, 0, none⟩)) (fun a hF => ?_)
      refine vc_y hF rfl rfl (by decide) _ (y_ldRowC rfl (Hq.sub hA34.q (sub1 ((List.mem_cons_self ..)))) rfl hN2 0 (by rw [nodeC_len hL2]; decide) rfl (nodeC_key hL2 _ _ _ _) rw23_s12) (fun a hF => ?_)
      refine vc_y hF rfl rfl (by decide) _ (y_field rfl Tryd.underlying107 rfl sz23_s12 (by decide) rfl (rfl : (⟨_, 0 + _, none⟩ : Addr) = ⟨_, 0, none⟩)) (fun a hF => ?_)
      refine vc_op rfl (fun K hK => hs_storeRow (new := dc (l.ins i).key) hF rfl rfl hA34 rfl rfl 1 rfl (by rw [hdk2, nodeC_len hL]; decide) (dc_one _) (by rw [hdk2]; exact sz23_s12) (fun w35 hA36 => hK _ _ ?_))
      clear hK K
      replace hA36 : Hp w0 (Y2 :: [row b16 107 (splice (nodeC l.key ent0 (((l.ins i).size + r.size : Nat) : Int) (b : Int) (ptr g2) (ptr gr) (sumsC false b l r)) 0 (dc (l.ins i).key))] :: [row b7 107 (leafC i)] :: [row b4 25 (.int .i64 i.ct :: dc i.ch)] :: [row b1 23 (dc i.k)] :: [row gn 107 (nodeC l.key ent0 ((l.size + r.size : Nat) : Int) (b : Int) (ptr gl) (ptr gr) (sumsC false b l r))] :: Yr :: R) w35 := hA36
      have hA37 : Hp w0 (Y2 :: [row b16 107 (nodeC (l.ins i).key ent0 (((l.ins i).size + r.size : Nat) : Int) (b : Int) (ptr g2) (ptr gr) (sumsC false b l r))] :: [row b7 107 (leafC i)] :: [row b4 25 (.int .i64 i.ct :: dc i.ch)] :: [row b1 23 (dc i.k)] :: [row gn 107 (nodeC l.key ent0 ((l.size + r.size : Nat) : Int) (b : Int) (ptr gl) (ptr gr) (sumsC false b l r))] :: Yr :: R) w35 := by
        rw [← show splice (nodeC l.key ent0 (((l.ins i).size + r.size : Nat) : Int) (b : Int) (ptr g2) (ptr gr) (sumsC false b l r)) 0 (dc (l.ins i).key) = nodeC (l.ins i).key ent0 (((l.ins i).size + r.size : Nat) : Int) (b : Int) (ptr g2) (ptr gr) (sumsC false b l r) from (nodeC_putK hL hk2 _ _ _ _)]
        exact hA36
      refine vc_nil ?_
      refine hK15 _ _ ?_; clear  hK15 K15
      apply wp_seq_k; intro K16 hK16
      apply wp_seq_k; intro K17 hK17
      refine wp_region_lit ?_
      refine vc_y hF rfl rfl (by decide) _ (y_move rfl rfl) (fun a hF => ?_)
      refine vc_y hF rfl rfl (by decide) _ (y_neNilT rfl (by kernel_rfl) rfl rfl) (fun a hF => ?_)
      refine vc_nil ?_
      refine hK17 _ _ ?_; clear  hK17 K17
      refine vc_false hF rfl ?_
      have hA38 : Hp w0 (Y2 :: [row b16 107 (nodeC (l.ins i).key ent0 (((l.ins i).size + r.size : Nat) : Int) (b : Int) (ptr g2) (ptr gr) (sumsC false b (l.ins i) r))] :: [row b7 107 (leafC i)] :: [row b4 25 (.int .i64 i.ct :: dc i.ch)] :: [row b1 23 (dc i.k)] :: [row gn 107 (nodeC l.key ent0 ((l.size + r.size : Nat) : Int) (b : Int) (ptr gl) (ptr gr) (sumsC false b l r))] :: Yr :: R) w35 := by
        rw [← show nodeC (l.ins i).key ent0 (((l.ins i).size + r.size : Nat) : Int) (b : Int) (ptr g2) (ptr gr) (sumsC false b l r) = nodeC (l.ins i).key ent0 (((l.ins i).size + r.size : Nat) : Int) (b : Int) (ptr g2) (ptr gr) (sumsC false b (l.ins i) r) from rfl]
        exact hA37
      apply wp_skip
      refine hK16 _ _ ?_; clear  hK16 K16
      apply wp_seq_k; intro K18 hK18
      refine wp_region_lit ?_
      refine vc_y hF rfl rfl (by decide) _ (y_assign rfl rfl) (fun a hF => ?_)
      refine vc_nil ?_
      refine hK18 _ _ ?_; clear  hK18 K18
      apply wp_ret
      refine vc_ret1 hF Tryd.results57 rfl ?_
      rw [Rx.ins_l hp hkb]
      have hA39 : Hp w0 ([row b16 107 (nodeC (l.ins i).key ent0 (((l.ins i).size + r.size : Nat) : Int) (b : Int) (ptr g2) (ptr gr) (sumsC false b (l.ins i) r))] :: Y2 :: Yr :: R) w35 := Hp.sel [Y2, [row b16 107 (nodeC (l.ins i).key ent0 (((l.ins i).size + r.size : Nat) : Int) (b : Int) (ptr g2) (ptr gr) (sumsC false b (l.ins i) r))], [row b7 107 (leafC i)], [row b4 25 (.int .i64 i.ct :: dc i.ch)], [row b1 23 (dc i.k)], [row gn 107 (nodeC l.key ent0 ((l.size + r.size : Nat) : Int) (b : Int) (ptr gl) (ptr gr) (sumsC false b l r))], Yr] R [1, 0, 6] [2, 3, 4, 5] hA38 rfl
      exact ⟨b16, _, rfl, ⟨g2, gr, Y2, Yr, rfl, h2, hr⟩, Hp.cast hA39 (by simp only [List.flatten_cons, List.append_assoc, List.cons_append, List.nil_append])⟩
    · have hkb1 : keyBit i.k b = 1 := by have := keyBit_lt i.k b; omega
      have hgF : (Rx.fork b l (r.ins i)).Good := by have h := (Rx.ins_good hi hg).1; rw [Rx.ins_r hp hkb] at h; exact h
      obtain ⟨hgl2, hgr2, hbl2, hbr2, _, _⟩ := id hgF
      have hll2 := Rx.bit_le hgl2
      have hrr2 := Rx.bit_le hgr2
      refine wp_region_plan 6 [5,6] [0,1,2,3,4,5,6] (fun x => Hq w0 ([row b16 107 (nodeC l.key ent0 ((l.size + r.size : Nat) : Int) (b : Int) (ptr gl) (ptr gr) (sumsC false b l r))] :: [row b7 107 (leafC i)] :: [row b4 25 (.int .i64 i.ct :: dc i.ch)] :: [row b1 23 (dc i.k)] :: [row gn 107 (nodeC l.key ent0 ((l.size + r.size : Nat) : Int) (b : Int) (ptr gl) (ptr gr) (sumsC false b l r))] :: Yl :: Yr :: R) x) (by kernel_rfl) (by kernel_rfl) (Hq.drew (Hp.qp [[row b16 107 (nodeC l.key ent0 ((l.size + r.size : Nat) : Int) (b : Int) (ptr gl) (ptr gr) (sumsC false b l r))], [row b7 107 (leafC i)], [row b4 25 (.int .i64 i.ct :: dc i.ch)], [row b1 23 (dc i.k)], [row gn 107 (nodeC l.key ent0 ((l.size + r.size : Nat) : Int) (b : Int) (ptr gl) (ptr gr) (sumsC false b l r))], Yl, Yr] R [0, 1, 2, 3, 4, 5, 6] hA20)) ?_
      have hA40 := Hl.drew hA20
      refine vp_y hF rfl rfl rfl rfl (by decide) _ (fun x hx => y_ldRow (new := dc i.k) rfl hx rfl 3 rfl rw23_s12 (by rw [hdk]; exact Nat.le_refl _) (by rw [List.drop_zero]; exact List.take_of_length_le (by rw [hdk]; exact Nat.le_refl _))) (fun a hF => ?_)
      refine vp_y hF rfl rfl rfl rfl (by decide) _ (fun x hx => y_move rfl rfl) (fun a hF => ?_)
      refine vp_y hF rfl rfl rfl rfl (by decide) _ (fun x hx => y_nilCheck rfl rfl) (fun a hF => ?_)
      refine vp_y hF rfl rfl rfl rfl (by decide) _ (fun x hx => y_field rfl Tryd.underlying107 rfl sz3_s12 (by decide) rfl (rfl : (⟨_, 0 + _, none⟩ : Addr) = ⟨_, 66, none⟩)) (fun a hF => ?_)
      refine vp_y hF rfl rfl rfl rfl (by decide) _ (fun x hx => y_ldC rfl (Hq.sub hx (sub1 (List.mem_cons_of_mem _ (List.mem_cons_of_mem _ (List.mem_cons_of_mem _ (List.mem_cons_of_mem _ ((List.mem_cons_self ..)))))))) rfl hN 66 (by rw [nodeC_len hL]; decide) rfl (nodeC_bit hL _ _ _ _) nr3_s12) (fun a hF => ?_)
      refine vp_l rfl rfl rfl (fun K hK => ws_call hF rfl (by decide) cl76_s12 rfl rfl ?_)
      with_reducible refine (sp_bit_is (w0 := w0) (R := ([row b16 107 (nodeC l.key ent0 ((l.size + r.size : Nat) : Int) (b : Int) (ptr gl) (ptr gr) (sumsC false b l r))] :: [row b7 107 (leafC i)] :: [row b4 25 (.int .i64 i.ct :: dc i.ch)] :: [row b1 23 (dc i.k)] :: [row gn 107 (nodeC l.key ent0 ((l.size + r.size : Nat) : Int) (b : Int) (ptr gl) (ptr gr) (sumsC false b l r))] :: Yl :: Yr :: R)) (z := 1) hkb1 hi.k hb hA40 ).mono ?_
      rintro e' w41 ⟨rfl, hA42⟩
      refine ⟨_, rfl, fun a hF => hK _ _ (fun _ => ?_) ?_⟩
      · exact Hp.qp [[row b16 107 (nodeC l.key ent0 ((l.size + r.size : Nat) : Int) (b : Int) (ptr gl) (ptr gr) (sumsC false b l r))], [row b7 107 (leafC i)], [row b4 25 (.int .i64 i.ct :: dc i.ch)], [row b1 23 (dc i.k)], [row gn 107 (nodeC l.key ent0 ((l.size + r.size : Nat) : Int) (b : Int) (ptr gl) (ptr gr) (sumsC false b l r))], Yl, Yr] R [0, 1, 2, 3, 4, 5, 6] hA42
      clear hK K
      replace hA42 : Hp w0 ([row b16 107 (nodeC l.key ent0 ((l.size + r.size : Nat) : Int) (b : Int) (ptr gl) (ptr gr) (sumsC false b l r))] :: [row b7 107 (leafC i)] :: [row b4 25 (.int .i64 i.ct :: dc i.ch)] :: [row b1 23 (dc i.k)] :: [row gn 107 (nodeC l.key ent0 ((l.size + r.size : Nat) : Int) (b : Int) (ptr gl) (ptr gr) (sumsC false b l r))] :: Yl :: Yr :: R) w41 := hA42
      rw [show ((1 : Nat) : Int) = 1 from rfl] at hF
      refine vp_ly hF rfl rfl rfl rfl (by decide) _ (y_assign rfl rfl) (fun h => absurd h (by decide)) (fun a hF => ?_)
      refine plan_end ?_
      refine hK12 _ _ ?_; clear  hK12 K12
      apply wp_seq_k; intro K19 hK19
      refine wp_region_plan 13 [10,13] [0,1,2,3,4,5,6,7,8,9,11,10,12,13] (fun x => Hq w0 ([row b16 107 (nodeC l.key ent0 ((l.size + r.size : Nat) : Int) (b : Int) (ptr gl) (ptr gr) (sumsC false b l r))] :: [row b7 107 (leafC i)] :: [row b4 25 (.int .i64 i.ct :: dc i.ch)] :: [row b1 23 (dc i.k)] :: [row gn 107 (nodeC l.key ent0 ((l.size + r.size : Nat) : Int) (b : Int) (ptr gl) (ptr gr) (sumsC false b l r))] :: Yl :: R) x) (by kernel_rfl) (by kernel_rfl) (Hq.drew (Hp.qp [[row b16 107 (nodeC l.key ent0 ((l.size + r.size : Nat) : Int) (b : Int) (ptr gl) (ptr gr) (sumsC false b l r))], [row b7 107 (leafC i)], [row b4 25 (.int .i64 i.ct :: dc i.ch)], [row b1 23 (dc i.k)], [row gn 107 (nodeC l.key ent0 ((l.size + r.size : Nat) : Int) (b : Int) (ptr gl) (ptr gr) (sumsC false b l r))], Yl, Yr] R [0, 1, 2, 3, 4, 5] hA42)) ?_
      have hA43 := Hl.drew hA42
      refine vp_y hF rfl rfl rfl rfl (by decide) _ (fun x hx => y_move rfl rfl) (fun a hF => ?_)
      refine vp_y hF rfl rfl rfl rfl (by decide) _ (fun x hx => y_move rfl rfl) (fun a hF => ?_)
      refine vp_y hF rfl rfl rfl rfl (by decide) _ (fun x hx => y_move rfl rfl) (fun a hF => ?_)
      refine vp_y hF rfl rfl rfl rfl (by decide) _ (fun x hx => y_nilCheck rfl rfl) (fun a hF => ?_)
      refine vp_y hF rfl rfl rfl rfl (by decide) _ (fun x hx => y_field rfl Tryd.underlying107 rfl sz104_s12 (by decide) rfl (rfl : (⟨_, 0 + _, none⟩ : Addr) = ⟨_, 67, none⟩)) (fun a hF => ?_)
      refine vp_y hF rfl rfl rfl rfl (by decide) _ (fun x hx => y_ixArr rfl Tryd.underlying104 sz43_s12 rfl rfl 1 rfl (by decide) (rfl : (⟨_, 67 + 1 * 1, none⟩ : Addr) = ⟨_, 68, none⟩) (rfl : (none : Option Nat) = none)) (fun a hF => ?_)
      refine vp_y hF rfl rfl rfl rfl (by decide) _ (fun x hx => y_ldC rfl (Hq.sub hx (sub1 (List.mem_cons_of_mem _ (List.mem_cons_of_mem _ (List.mem_cons_of_mem _ (List.mem_cons_of_mem _ ((List.mem_cons_self ..)))))))) rfl hN 68 (by rw [nodeC_len hL]; decide) rfl (nodeC_kid1 hL _ _ _ _) nr43_s12) (fun a hF => ?_)
      refine vp_y hF rfl rfl rfl rfl (by decide) _ (fun x hx => y_ldRow (new := dc i.k) rfl hx rfl 3 rfl rw23_s12 (by rw [hdk]; exact Nat.le_refl _) (by rw [List.drop_zero]; exact List.take_of_length_le (by rw [hdk]; exact Nat.le_refl _))) (fun a hF => ?_)
      refine vp_y hF rfl rfl rfl rfl (by decide) _ (fun x hx => y_ldRow (new := .int .i64 i.ct :: dc i.ch) rfl hx rfl 2 rfl rw25_s12 (by rw [hde]; exact Nat.le_refl _) (by rw [List.drop_zero]; exact List.take_of_length_le (by rw [hde]; exact Nat.le_refl _))) (fun a hF => ?_)
      refine vp_y hF rfl rfl rfl rfl (by decide) _ (fun x hx => y_move rfl rfl) (fun a hF => ?_)
      refine vp_y hF rfl rfl rfl rfl (by decide) _ (fun x hx => y_field rfl Tryd.underlying107 rfl sz104_s12 (by decide) rfl (rfl : (⟨_, 0 + _, none⟩ : Addr) = ⟨_, 67, none⟩)) (fun a hF => ?_)
      have hA44 : Hp w0 (Yr :: [row b16 107 (nodeC l.key ent0 ((l.size + r.size : Nat) : Int) (b : Int) (ptr gl) (ptr gr) (sumsC false b l r))] :: [row b7 107 (leafC i)] :: [row b4 25 (.int .i64 i.ct :: dc i.ch)] :: [row b1 23 (dc i.k)] :: [row gn 107 (nodeC l.key ent0 ((l.size + r.size : Nat) : Int) (b : Int) (ptr gl) (ptr gr) (sumsC false b l r))] :: Yl :: R) w41.drew := Hp.ord [[row b16 107 (nodeC l.key ent0 ((l.size + r.size : Nat) : Int) (b : Int) (ptr gl) (ptr gr) (sumsC false b l r))], [row b7 107 (leafC i)], [row b4 25 (.int .i64 i.ct :: dc i.ch)], [row b1 23 (dc i.k)], [row gn 107 (nodeC l.key ent0 ((l.size + r.size : Nat) : Int) (b : Int) (ptr gl) (ptr gr) (sumsC false b l r))], Yl, Yr] R [6, 0, 1, 2, 3, 4, 5] hA43 rfl
      refine vp_l rfl rfl rfl (fun K hK => ws_call hF rfl (by decide) cl57_s12 rfl rfl ?_)
      with_reducible refine (ihr _ ([row b16 107 (nodeC l.key ent0 ((l.size + r.size : Nat) : Int) (b : Int) (ptr gl) (ptr gr) (sumsC false b l r))] :: [row b7 107 (leafC i)] :: [row b4 25 (.int .i64 i.ct :: dc i.ch)] :: [row b1 23 (dc i.k)] :: [row gn 107 (nodeC l.key ent0 ((l.size + r.size : Nat) : Int) (b : Int) (ptr gl) (ptr gr) (sumsC false b l r))] :: Yl :: R) Yr gr hr hA44 ).mono ?_
      rintro e' w45 ⟨g2, Y2, rfl, h2, hA46⟩
      refine ⟨_, rfl, fun a hF => hK _ _ (fun _ => ?_) ?_⟩
      · exact Hp.qp [Y2, [row b16 107 (nodeC l.key ent0 ((l.size + r.size : Nat) : Int) (b : Int) (ptr gl) (ptr gr) (sumsC false b l r))], [row b7 107 (leafC i)], [row b4 25 (.int .i64 i.ct :: dc i.ch)], [row b1 23 (dc i.k)], [row gn 107 (nodeC l.key ent0 ((l.size + r.size : Nat) : Int) (b : Int) (ptr gl) (ptr gr) (sumsC false b l r))], Yl] R [1, 2, 3, 4, 5, 6] hA46
      clear hK K
      replace hA46 : Hp w0 (Y2 :: [row b16 107 (nodeC l.key ent0 ((l.size + r.size : Nat) : Int) (b : Int) (ptr gl) (ptr gr) (sumsC false b l r))] :: [row b7 107 (leafC i)] :: [row b4 25 (.int .i64 i.ct :: dc i.ch)] :: [row b1 23 (dc i.k)] :: [row gn 107 (nodeC l.key ent0 ((l.size + r.size : Nat) : Int) (b : Int) (ptr gl) (ptr gr) (sumsC false b l r))] :: Yl :: R) w45 := hA46
      refine vp_y hF rfl rfl rfl rfl (by decide) _ (fun x hx => y_ixArr rfl Tryd.underlying104 sz43_s12 rfl rfl 1 rfl (by decide) (rfl : (⟨_, 67 + 1 * 1, none⟩ : Addr) = ⟨_, 68, none⟩) (rfl : (none : Option Nat) = none)) (fun a hF => ?_)
      refine vp_l rfl rfl rfl (fun K hK => hs_store1 hF rfl rfl hA46 rfl rfl 1 rfl (by rw [nodeC_len hL]; decide) rfl sz43_s12 (fun w47 hA48 => hK _ _ (fun h => absurd h (by decide)) ?_))
      clear hK K
      replace hA48 : Hp w0 (Y2 :: [row b16 107 ((nodeC l.key ent0 ((l.size + r.size : Nat) : Int) (b : Int) (ptr gl) (ptr gr) (sumsC false b l r)).set 68 (ptr g2))] :: [row b7 107 (leafC i)] :: [row b4 25 (.int .i64 i.ct :: dc i.ch)] :: [row b1 23 (dc i.k)] :: [row gn 107 (nodeC l.key ent0 ((l.size + r.size : Nat) : Int) (b : Int) (ptr gl) (ptr gr) (sumsC false b l r))] :: Yl :: R) w47 := hA48
      have hA49 : Hp w0 (Y2 :: [row b16 107 (nodeC l.key ent0 ((l.size + r.size : Nat) : Int) (b : Int) (ptr gl) (ptr g2) (sumsC false b l r))] :: [row b7 107 (leafC i)] :: [row b4 25 (.int .i64 i.ct :: dc i.ch)] :: [row b1 23 (dc i.k)] :: [row gn 107 (nodeC l.key ent0 ((l.size + r.size : Nat) : Int) (b : Int) (ptr gl) (ptr gr) (sumsC false b l r))] :: Yl :: R) w47 := by
        rw [← show (nodeC l.key ent0 ((l.size + r.size : Nat) : Int) (b : Int) (ptr gl) (ptr gr) (sumsC false b l r)).set 68 (ptr g2) = nodeC l.key ent0 ((l.size + r.size : Nat) : Int) (b : Int) (ptr gl) (ptr g2) (sumsC false b l r) from (nodeC_put1 hL _ _ _ _ _)]
        exact hA48
      refine plan_end ?_
      refine hK19 _ _ ?_; clear  hK19 K19
      apply wp_seq_k; intro K20 hK20
      obtain ⟨E2, p2, q2, s2, hL2, hN2⟩ := Tr.view hgr2 (h2.tr (w0 := w0) (R := [Y2]) (List.mem_singleton.2 rfl))
      obtain ⟨E3, p3, q3, s3, hL3, hN3⟩ := Tr.view hgl2 (hl.tr (w0 := w0) (R := [Yl]) (List.mem_singleton.2 rfl))
      have hM : Rw w0 (Y2 :: [row b16 107 (nodeC l.key ent0 ((l.size + r.size : Nat) : Int) (b : Int) (ptr gl) (ptr g2) (sumsC false b l r))] :: [row b7 107 (leafC i)] :: [row b4 25 (.int .i64 i.ct :: dc i.ch)] :: [row b1 23 (dc i.k)] :: [row gn 107 (nodeC l.key ent0 ((l.size + r.size : Nat) : Int) (b : Int) (ptr gl) (ptr gr) (sumsC false b l r))] :: Yl :: R) b16 (nodeC l.key ent0 ((l.size + r.size : Nat) : Int) (b : Int) (ptr gl) (ptr g2) (sumsC false b l r)) := Rw.ofRow (i := 1) rfl
      refine wp_region_plan 14 [14] [0,1,2,3,4,5,6,7,8,9,10,11,12,13,14] (fun x => Hq w0 (Y2 :: [row b16 107 (nodeC l.key ent0 ((l.size + r.size : Nat) : Int) (b : Int) (ptr gl) (ptr g2) (sumsC false b l r))] :: [row b7 107 (leafC i)] :: [row b4 25 (.int .i64 i.ct :: dc i.ch)] :: [row b1 23 (dc i.k)] :: [row gn 107 (nodeC l.key ent0 ((l.size + r.size : Nat) : Int) (b : Int) (ptr gl) (ptr gr) (sumsC false b l r))] :: Yl :: R) x) (by kernel_rfl) (by kernel_rfl) (Hq.drew (Hp.qp [Y2, [row b16 107 (nodeC l.key ent0 ((l.size + r.size : Nat) : Int) (b : Int) (ptr gl) (ptr g2) (sumsC false b l r))], [row b7 107 (leafC i)], [row b4 25 (.int .i64 i.ct :: dc i.ch)], [row b1 23 (dc i.k)], [row gn 107 (nodeC l.key ent0 ((l.size + r.size : Nat) : Int) (b : Int) (ptr gl) (ptr gr) (sumsC false b l r))], Yl] R [0, 1, 2, 3, 4, 5, 6] hA49)) ?_
      have hA50 := Hl.drew hA49
      refine vp_y hF rfl rfl rfl rfl (by decide) _ (fun x hx => y_field rfl Tryd.underlying107 rfl sz104_s12 (by decide) rfl (rfl : (⟨_, 0 + _, none⟩ : Addr) = ⟨_, 67, none⟩)) (fun a hF => ?_)
      refine vp_y hF rfl rfl rfl rfl (by decide) _ (fun x hx => y_ixArr rfl Tryd.underlying104 sz43_s12 rfl rfl 0 rfl (by decide) (rfl : (⟨_, 67 + 0 * 1, none⟩ : Addr) = ⟨_, 67, none⟩) (rfl : (none : Option Nat) = none)) (fun a hF => ?_)
      refine vp_y hF rfl rfl rfl rfl (by decide) _ (fun x hx => y_ldC rfl hx rfl hM 67 (by rw [nodeC_len hL]; decide) rfl (nodeC_kid0 hL _ _ _ _) nr43_s12) (fun a hF => ?_)
      refine vp_y hF rfl rfl rfl rfl (by decide) _ (fun x hx => y_nilCheck rfl rfl) (fun a hF => ?_)
      refine vp_y hF rfl rfl rfl rfl (by decide) _ (fun x hx => y_field rfl Tryd.underlying107 rfl sz3_s12 (by decide) rfl (rfl : (⟨_, 0 + _, none⟩ : Addr) = ⟨_, 65, none⟩)) (fun a hF => ?_)
      refine vp_y hF rfl rfl rfl rfl (by decide) _ (fun x hx => y_ldC rfl (Hq.sub hx (sub1 (List.mem_cons_of_mem _ (List.mem_cons_of_mem _ (List.mem_cons_of_mem _ (List.mem_cons_of_mem _ (List.mem_cons_of_mem _ (List.mem_cons_of_mem _ ((List.mem_cons_self ..)))))))))) rfl hN3 65 (by rw [nodeC_len hL3]; decide) rfl (nodeC_size hL3 _ _ _ _) nr3_s12) (fun a hF => ?_)
      refine vp_y hF rfl rfl rfl rfl (by decide) _ (fun x hx => y_field rfl Tryd.underlying107 rfl sz104_s12 (by decide) rfl (rfl : (⟨_, 0 + _, none⟩ : Addr) = ⟨_, 67, none⟩)) (fun a hF => ?_)
      refine vp_y hF rfl rfl rfl rfl (by decide) _ (fun x hx => y_ixArr rfl Tryd.underlying104 sz43_s12 rfl rfl 1 rfl (by decide) (rfl : (⟨_, 67 + 1 * 1, none⟩ : Addr) = ⟨_, 68, none⟩) (rfl : (none : Option Nat) = none)) (fun a hF => ?_)
      refine vp_y hF rfl rfl rfl rfl (by decide) _ (fun x hx => y_ldC rfl hx rfl hM 68 (by rw [nodeC_len hL]; decide) rfl (nodeC_kid1 hL _ _ _ _) nr43_s12) (fun a hF => ?_)
      refine vp_y hF rfl rfl rfl rfl (by decide) _ (fun x hx => y_nilCheck rfl rfl) (fun a hF => ?_)
      refine vp_y hF rfl rfl rfl rfl (by decide) _ (fun x hx => y_field rfl Tryd.underlying107 rfl sz3_s12 (by decide) rfl (rfl : (⟨_, 0 + _, none⟩ : Addr) = ⟨_, 65, none⟩)) (fun a hF => ?_)
      refine vp_y hF rfl rfl rfl rfl (by decide) _ (fun x hx => y_ldC rfl (Hq.sub hx (sub1 ((List.mem_cons_self ..)))) rfl hN2 65 (by rw [nodeC_len hL2]; decide) rfl (nodeC_size hL2 _ _ _ _) nr3_s12) (fun a hF => ?_)
      refine vp_y hF rfl rfl rfl rfl (by decide) _ (fun x hx => y_add rfl rfl rfl (show IntKind.i64.wrap (((l.size : Nat) : Int) + (((r.ins i).size : Nat) : Int)) = ((l.size + (r.ins i).size : Nat) : Int) by rw [IntWalk.i64_in _ (by omega)]; omega)) (fun a hF => ?_)
      refine vp_y hF rfl rfl rfl rfl (by decide) _ (fun x hx => y_field rfl Tryd.underlying107 rfl sz3_s12 (by decide) rfl (rfl : (⟨_, 0 + _, none⟩ : Addr) = ⟨_, 65, none⟩)) (fun a hF => ?_)
      refine vp_l rfl rfl rfl (fun K hK => hs_store1 hF rfl rfl hA50 rfl rfl 1 rfl (by rw [nodeC_len hL]; decide) rfl sz3_s12 (fun w51 hA52 => hK _ _ (fun h => absurd h (by decide)) ?_))
      clear hK K
      replace hA52 : Hp w0 (Y2 :: [row b16 107 ((nodeC l.key ent0 ((l.size + r.size : Nat) : Int) (b : Int) (ptr gl) (ptr g2) (sumsC false b l r)).set 65 (.int .i64 ((l.size + (r.ins i).size : Nat) : Int)))] :: [row b7 107 (leafC i)] :: [row b4 25 (.int .i64 i.ct :: dc i.ch)] :: [row b1 23 (dc i.k)] :: [row gn 107 (nodeC l.key ent0 ((l.size + r.size : Nat) : Int) (b : Int) (ptr gl) (ptr gr) (sumsC false b l r))] :: Yl :: R) w51 := hA52
      have hA53 : Hp w0 (Y2 :: [row b16 107 (nodeC l.key ent0 ((l.size + (r.ins i).size : Nat) : Int) (b : Int) (ptr gl) (ptr g2) (sumsC false b l r))] :: [row b7 107 (leafC i)] :: [row b4 25 (.int .i64 i.ct :: dc i.ch)] :: [row b1 23 (dc i.k)] :: [row gn 107 (nodeC l.key ent0 ((l.size + r.size : Nat) : Int) (b : Int) (ptr gl) (ptr gr) (sumsC false b l r))] :: Yl :: R) w51 := by
        rw [← show (nodeC l.key ent0 ((l.size + r.size : Nat) : Int) (b : Int) (ptr gl) (ptr g2) (sumsC false b l r)).set 65 (.int .i64 ((l.size + (r.ins i).size : Nat) : Int)) = nodeC l.key ent0 ((l.size + (r.ins i).size : Nat) : Int) (b : Int) (ptr gl) (ptr g2) (sumsC false b l r) from (nodeC_putZ hL _ _ _ _ _)]
        exact hA52
      refine plan_end ?_
      refine hK20 _ _ ?_; clear  hK20 K20
      apply wp_seq_k; intro K21 hK21
      have hM2 : Rw w0 (Y2 :: [row b16 107 (nodeC l.key ent0 ((l.size + (r.ins i).size : Nat) : Int) (b : Int) (ptr gl) (ptr g2) (sumsC false b l r))] :: [row b7 107 (leafC i)] :: [row b4 25 (.int .i64 i.ct :: dc i.ch)] :: [row b1 23 (dc i.k)] :: [row gn 107 (nodeC l.key ent0 ((l.size + r.size : Nat) : Int) (b : Int) (ptr gl) (ptr gr) (sumsC false b l r))] :: Yl :: R) b16 (nodeC l.key ent0 ((l.size + (r.ins i).size : Nat) : Int) (b : Int) (ptr gl) (ptr g2) (sumsC false b l r)) := Rw.ofRow (i := 1) rfl
      have hk2 : l.key.length = 32 := hgl2.key
      have hdk2 : (dc l.key).length = 32 := by rw [dc_length, hk2]
      have hLm : NodeL l.key ent0 (sumsC false b l r) := ⟨hk2, ent0_len, sumsC_len ..⟩
      refine wp_region_lit ?_
      refine vc_y hF rfl rfl (by decide) _ (y_field rfl Tryd.underlying107 rfl sz104_s12 (by decide) rfl (rfl : (⟨_, 0 + _, none⟩ : Addr) = ⟨_, 67, none⟩)) (fun a hF => ?_)
      refine vc_y hF rfl rfl (by decide) _ (y_ixArr rfl Tryd.underlying104 sz43_s12 rfl rfl 0 rfl (by decide) (rfl : (⟨_, 67 + 0 * 1, none⟩ : Addr) = ⟨_, 67, none⟩) (rfl : (none : Option Nat) = none)) (fun a hF => ?_)
      refine vc_y hF rfl rfl (by decide) _ (y_ldC rfl hA53.q rfl hM2 67 (by rw [nodeC_len hL]; decide) rfl (nodeC_kid0 hL _ _ _ _) nr43_s12) (fun a hF => ?_)
      refine vc_y hF rfl rfl (by decide) _ (y_nilCheck rfl rfl) (fun a hF => ?_)
      refine vc_y hF rfl rfl (by decide) _ (y_field rfl Tryd.underlying107 rfl sz23_s12 (by decide) rfl (rfl : (⟨_, 0 + _, none⟩ : Addr) = ⟨_, 0, none⟩)) (fun a hF => ?_)
      refine vc_y hF rfl rfl (by decide) _ (y_ldRowC rfl (Hq.sub hA53.q (sub1 (List.mem_cons_of_mem _ (List.mem_cons_of_mem _ (List.mem_cons_of_mem _ (List.mem_cons_of_mem _ (List.mem_cons_of_mem _ (List.mem_cons_of_mem _ ((List.mem_cons_self ..)))))))))) rfl hN3 0 (by rw [nodeC_len hL3]; decide) rfl (nodeC_key hL3 _ _ _ _) rw23_s12) (fun a hF => ?_)
      refine vc_y hF rfl rfl (by decide) _ (y_field rfl Tryd.underlying107 rfl sz23_s12 (by decide) rfl (rfl : (⟨_, 0 + _, none⟩ : Addr) = ⟨_, 0, none⟩)) (fun a hF => ?_)
      refine vc_op rfl (fun K hK => hs_storeRow (new := dc l.key) hF rfl rfl hA53 rfl rfl 1 rfl (by rw [hdk2, nodeC_len hL]; decide) (dc_one _) (by rw [hdk2]; exact sz23_s12) (fun w54 hA55 => hK _ _ ?_))
      clear hK K
      replace hA55 : Hp w0 (Y2 :: [row b16 107 (splice (nodeC l.key ent0 ((l.size + (r.ins i).size : Nat) : Int) (b : Int) (ptr gl) (ptr g2) (sumsC false b l r)) 0 (dc l.key))] :: [row b7 107 (leafC i)] :: [row b4 25 (.int .i64 i.ct :: dc i.ch)] :: [row b1 23 (dc i.k)] :: [row gn 107 (nodeC l.key ent0 ((l.size + r.size : Nat) : Int) (b : Int) (ptr gl) (ptr gr) (sumsC false b l r))] :: Yl :: R) w54 := hA55
      have hA56 : Hp w0 (Y2 :: [row b16 107 (nodeC l.key ent0 ((l.size + (r.ins i).size : Nat) : Int) (b : Int) (ptr gl) (ptr g2) (sumsC false b l r))] :: [row b7 107 (leafC i)] :: [row b4 25 (.int .i64 i.ct :: dc i.ch)] :: [row b1 23 (dc i.k)] :: [row gn 107 (nodeC l.key ent0 ((l.size + r.size : Nat) : Int) (b : Int) (ptr gl) (ptr gr) (sumsC false b l r))] :: Yl :: R) w54 := by
        rw [← show splice (nodeC l.key ent0 ((l.size + (r.ins i).size : Nat) : Int) (b : Int) (ptr gl) (ptr g2) (sumsC false b l r)) 0 (dc l.key) = nodeC l.key ent0 ((l.size + (r.ins i).size : Nat) : Int) (b : Int) (ptr gl) (ptr g2) (sumsC false b l r) from (nodeC_putK hL hk2 _ _ _ _)]
        exact hA55
      refine vc_nil ?_
      refine hK21 _ _ ?_; clear  hK21 K21
      apply wp_seq_k; intro K22 hK22
      apply wp_seq_k; intro K23 hK23
      refine wp_region_lit ?_
      refine vc_y hF rfl rfl (by decide) _ (y_move rfl rfl) (fun a hF => ?_)
      refine vc_y hF rfl rfl (by decide) _ (y_neNilT rfl (by kernel_rfl) rfl rfl) (fun a hF => ?_)
      refine vc_nil ?_
      refine hK23 _ _ ?_; clear  hK23 K23
      refine vc_false hF rfl ?_
      have hA57 : Hp w0 (Y2 :: [row b16 107 (nodeC l.key ent0 ((l.size + (r.ins i).size : Nat) : Int) (b : Int) (ptr gl) (ptr g2) (sumsC false b l (r.ins i)))] :: [row b7 107 (leafC i)] :: [row b4 25 (.int .i64 i.ct :: dc i.ch)] :: [row b1 23 (dc i.k)] :: [row gn 107 (nodeC l.key ent0 ((l.size + r.size : Nat) : Int) (b : Int) (ptr gl) (ptr gr) (sumsC false b l r))] :: Yl :: R) w54 := by
        rw [← show nodeC l.key ent0 ((l.size + (r.ins i).size : Nat) : Int) (b : Int) (ptr gl) (ptr g2) (sumsC false b l r) = nodeC l.key ent0 ((l.size + (r.ins i).size : Nat) : Int) (b : Int) (ptr gl) (ptr g2) (sumsC false b l (r.ins i)) from rfl]
        exact hA56
      apply wp_skip
      refine hK22 _ _ ?_; clear  hK22 K22
      apply wp_seq_k; intro K24 hK24
      refine wp_region_lit ?_
      refine vc_y hF rfl rfl (by decide) _ (y_assign rfl rfl) (fun a hF => ?_)
      refine vc_nil ?_
      refine hK24 _ _ ?_; clear  hK24 K24
      apply wp_ret
      refine vc_ret1 hF Tryd.results57 rfl ?_
      rw [Rx.ins_r hp hkb]
      have hA58 : Hp w0 ([row b16 107 (nodeC l.key ent0 ((l.size + (r.ins i).size : Nat) : Int) (b : Int) (ptr gl) (ptr g2) (sumsC false b l (r.ins i)))] :: Yl :: Y2 :: R) w54 := Hp.sel [Y2, [row b16 107 (nodeC l.key ent0 ((l.size + (r.ins i).size : Nat) : Int) (b : Int) (ptr gl) (ptr g2) (sumsC false b l (r.ins i)))], [row b7 107 (leafC i)], [row b4 25 (.int .i64 i.ct :: dc i.ch)], [row b1 23 (dc i.k)], [row gn 107 (nodeC l.key ent0 ((l.size + r.size : Nat) : Int) (b : Int) (ptr gl) (ptr gr) (sumsC false b l r))], Yl] R [1, 6, 0] [2, 3, 4, 5] hA57 rfl
      exact ⟨b16, _, rfl, ⟨gl, g2, Yl, Y2, rfl, hl, h2⟩, Hp.cast hA58 (by simp only [List.flatten_cons, List.append_assoc, List.cons_append, List.nil_append])⟩

theorem rt_putN (w0 : World) (i : Itm) (hi : i.OK) : ∀ t : Rx, t.Good → t.size ≤ 100000 → PutN w0 i t
  | .leaf j, hg, _ => fun w R Y gn hT hA => by
    have hY : Y = [row gn 107 (leafC j)] := hT
    subst hY
    exact rt_putN_leaf w0 i hi j hg w R gn hA
  | .fork b l r, hg, hs => fun w R Y gn hT hA => by
    obtain ⟨gl, gr, Yl, Yr, hY, hl, hr⟩ := hT
    subst hY
    exact rt_putN_fork w0 i hi b l r hg hs (rt_putN w0 i hi l hg.1 (Nat.le_trans (Nat.le_add_right _ _) hs)) (rt_putN w0 i hi r hg.2.1 (Nat.le_trans (Nat.le_add_left _ _) hs)) w R gn gl gr Yl Yr hl hr (Hp.cast hA (by simp only [List.flatten_cons, List.append_assoc, List.cons_append, List.nil_append]))

/-- settle at a tree of one's own -/
abbrev SettC (w0 : World) (t : Rx) : Prop := ∀ (w : World) (R G : List Seg), G ⊆ R → ∀ (Y : Seg) (gs gn : Nat), Sm w0 G 82 gs 32 → TrO false t gn Y → Hp w0 (Y :: R) w → Calls Tryd.prog 65 #[.pointer (some ⟨gn, 0, none⟩), .pointer (some ⟨gs, 0, none⟩)] w fun e w' => e = .returned (.tuple #[]) ∧ ∃ Y2, TrO true t gn Y2 ∧ Hp w0 (Y2 :: R) w'
def sumsU (m : Nat) (l r : Rx) (b : Nat) : List Value := match m with
  | 0 => zeros 64
  | 1 => dc (l.lift 32 (255 - b)) ++ zeros 32
  | _ => dc (l.lift 32 (255 - b)) ++ dc (r.lift 32 (255 - b))

set_option maxRecDepth 100000 in
set_option maxHeartbeats 2000000 in
theorem rt_settle_fork (w0 : World) (hT : Tab w0) (b : Nat) (l r : Rx) (hg : (Rx.fork b l r).Good) (ihl : SettC w0 l) (ihr : SettC w0 r) (w : World) (R G : List Seg) (hG : G ⊆ R) (gs gn gl gr : Nat) (Yl Yr : Seg) (hSm : Sm w0 G 82 gs 32) (hl : TrO false l gl Yl) (hr : TrO false r gr Yr) (hA : Hp w0 ([row gn 107 (nodeC l.key ent0 ((l.size + r.size : Nat) : Int) (b : Int) (ptr gl) (ptr gr) (zeros 64))] :: Yl :: Yr :: R) w) : Calls Tryd.prog 65 #[.pointer (some ⟨gn, 0, none⟩), .pointer (some ⟨gs, 0, none⟩)] w fun e w' => e = .returned (.tuple #[]) ∧ ∃ Y2, TrO true (.fork b l r) gn Y2 ∧ Hp w0 (Y2 :: R) w' := by
  have hkl : l.key.length = 32 := hg.key
  obtain ⟨hgl, hgr, hbl, hbr, hil, hir⟩ := id hg
  have hll := Rx.bit_le hgl
  have hrr := Rx.bit_le hgr
  have hb : b < 256 := by omega
  have hL : NodeL l.key ent0 (zeros 64) := ⟨hkl, ent0_len, List.length_replicate ..⟩
  have hN : Rw w0 [[row gn 107 (nodeC l.key ent0 ((l.size + r.size : Nat) : Int) (b : Int) (ptr gl) (ptr gr) (zeros 64))]] gn (nodeC l.key ent0 ((l.size + r.size : Nat) : Int) (b : Int) (ptr gl) (ptr gr) (zeros 64)) := Rw.ofRow (i := 0) rfl
  refine vc_enter Tryd.func65 rfl Tryd.ntmps65 (Nat.le_of_ble_eq_true rfl) (fun a hF => ?_)
  apply wp_seq_k; intro K1 hK1
  apply wp_seq_k; intro K2 hK2
  refine wp_region_lit ?_
  refine vc_y hF rfl rfl (by decide) _ (y_move rfl rfl) (fun a hF => ?_)
  refine vc_y hF rfl rfl (by decide) _ (y_eqNil rfl (by kernel_rfl) rfl rfl) (fun a hF => ?_)
  refine vc_y hF rfl rfl (by decide) _ (y_move rfl rfl) (fun a hF => ?_)
  refine vc_yg hF rfl rfl rfl rfl rfl (by decide) _ (y_move rfl rfl) (fun a hF => ?_)
  refine vc_yg hF rfl rfl rfl rfl rfl (by decide) _ (y_nilCheck rfl rfl) (fun a hF => ?_)
  refine vc_yg hF rfl rfl rfl rfl rfl (by decide) _ (y_field rfl Tryd.underlying107 rfl sz3_s12 (by decide) rfl (rfl : (⟨_, 0 + _, none⟩ : Addr) = ⟨_, 66, none⟩)) (fun a hF => ?_)
  refine vc_yg hF rfl rfl rfl rfl rfl (by decide) _ (y_ldC rfl (Hq.sub hA.q (sub1 ((List.mem_cons_self ..)))) rfl hN 66 (by rw [nodeC_len hL]; decide) rfl (nodeC_bit hL _ _ _ _) nr3_s12) (fun a hF => ?_)
  refine vc_yg hF rfl rfl rfl rfl rfl (by decide) _ (y_cmp rfl rfl rfl rfl (eql_f (by omega))) (fun a hF => ?_)
  refine vc_y hF rfl rfl (by decide) _ (y_pick rfl rfl rfl) (fun a hF => ?_)
  refine vc_nil ?_
  refine hK2 _ _ ?_; clear  hK2 K2
  refine vc_false hF rfl ?_
  apply wp_skip
  refine hK1 _ _ ?_; clear  hK1 K1
  apply wp_seq_k; intro K3 hK3
  refine wp_region_lit ?_
  refine vc_y hF rfl rfl (by decide) _ (y_move rfl rfl) (fun a hF => ?_)
  refine vc_y hF rfl rfl (by decide) _ (y_nilCheck rfl rfl) (fun a hF => ?_)
  refine vc_y hF rfl rfl (by decide) _ (y_field rfl Tryd.underlying107 rfl sz104_s12 (by decide) rfl (rfl : (⟨_, 0 + _, none⟩ : Addr) = ⟨_, 67, none⟩)) (fun a hF => ?_)
  refine vc_y hF rfl rfl (by decide) _ (y_ldRowC rfl (Hq.sub hA.q (sub1 ((List.mem_cons_self ..)))) rfl hN 67 (by rw [nodeC_len hL]; decide) rfl (nodeC_kids hL _ _ _ _) rw104_s12) (fun a hF => ?_)
  refine vc_y hF rfl rfl (by decide) _ (y_move rfl rfl) (fun a hF => ?_)
  refine vc_nil ?_
  refine hK3 _ _ ?_; clear  hK3 K3
  apply wp_block
  refine vc_loop (G := Nat × Seg × Seg) (fun gh a x => gh.1 ≤ 2 ∧ TrO (decide (0 < gh.1)) l gl gh.2.1 ∧ TrO (decide (1 < gh.1)) r gr gh.2.2 ∧ Fr 38 [(19, .int .i64 (gh.1 : Int)), (18, .agg ([ptr gl, ptr gr] : List Value).toArray), (0, .pointer (some ⟨gn, 0, none⟩)), (1, .pointer (some ⟨gs, 0, none⟩))] a ∧ Hp w0 ([row gn 107 (nodeC l.key ent0 ((l.size + r.size : Nat) : Int) (b : Int) (ptr gl) (ptr gr) (sumsU gh.1 l r b))] :: gh.2.1 :: gh.2.2 :: R) x) (fun gh => 2 - gh.1) (0, Yl, Yr) (⟨Nat.zero_le _, hl, hr, hF.keep [19, 18, 0, 1] rfl, hA⟩) ?_
  clear hF
  rintro gh a w2 ⟨hm, hl1, hr1, hF, hA1⟩
  obtain ⟨m, Yl1, Yr1⟩ := gh
  simp only at hm hl1 hr1 hF
  have hA3 : Hp w0 ([row gn 107 (nodeC l.key ent0 ((l.size + r.size : Nat) : Int) (b : Int) (ptr gl) (ptr gr) (sumsU m l r b))] :: Yl1 :: Yr1 :: R) w2 := hA1
  apply wp_seq_k; intro K4 hK4
  refine wp_region_lit ?_
  refine vc_y hF rfl rfl (by decide) _ (y_cmp rfl rfl rfl rfl rfl) (fun a hF => ?_)
  refine vc_nil ?_
  refine hK4 _ _ ?_; clear  hK4 K4
  apply wp_seq_k; intro K5 hK5
  by_cases hlt : m < 2
  · refine vc_trueB hF rfl (lss_t (by omega)) ?_
    by_cases hm0 : m = 0
    · obtain rfl : m = 0 := by omega
      have hA4 : Hp w0 ([row gn 107 (nodeC l.key ent0 ((l.size + r.size : Nat) : Int) (b : Int) (ptr gl) (ptr gr) (zeros 64))] :: Yl1 :: Yr1 :: R) w2 := hA3
      have hdl : (dc (l.lift 32 (255 - b))).length = 32 := by rw [dc_length, Rx.lift_length]
      have hLz : NodeL l.key ent0 (zeros 64) := ⟨hkl, ent0_len, List.length_replicate ..⟩
      have hNz : Rw w0 [[row gn 107 (nodeC l.key ent0 ((l.size + r.size : Nat) : Int) (b : Int) (ptr gl) (ptr gr) (zeros 64))]] gn (nodeC l.key ent0 ((l.size + r.size : Nat) : Int) (b : Int) (ptr gl) (ptr gr) (zeros 64)) := Rw.ofRow (i := 0) rfl
      have hkt : TrO false l gl Yl1 := hl1
      apply wp_skip
      refine hK5 _ _ ?_; clear  hK5 K5
      apply wp_seq_k; intro K6 hK6
      apply wp_block
      apply wp_seq_k; intro K7 hK7
      refine wp_region_lit ?_
      refine vc_y hF rfl rfl (by decide) _ (y_move rfl rfl) (fun a hF => ?_)
      refine vc_y hF rfl rfl (by decide) _ (y_indexP rfl Tryd.underlying104 Tryd.underlying43 sz43_s12 rfl rfl 0 rfl (by decide) rfl) (fun a hF => ?_)
      refine vc_y hF rfl rfl (by decide) _ (y_assign rfl rfl) (fun a hF => ?_)
      refine vc_y hF rfl rfl (by decide) _ (y_assign rfl rfl) (fun a hF => ?_)
      refine vc_nil ?_
      refine hK7 _ _ ?_; clear  hK7 K7
      apply wp_seq_k; intro K8 hK8
      refine wp_region_lit ?_
      refine vc_y hF rfl rfl (by decide) _ (y_move rfl rfl) (fun a hF => ?_)
      refine vc_y hF rfl rfl (by decide) _ (y_move rfl rfl) (fun a hF => ?_)
      have hG2 : G ⊆ ([row gn 107 (nodeC l.key ent0 ((l.size + r.size : Nat) : Int) (b : Int) (ptr gl) (ptr gr) (zeros 64))] :: Yr1 :: R) := List.Subset.trans hG (subC (subC (sub0)))
      have hA5 : Hp w0 (Yl1 :: [row gn 107 (nodeC l.key ent0 ((l.size + r.size : Nat) : Int) (b : Int) (ptr gl) (ptr gr) (zeros 64))] :: Yr1 :: R) w2 := Hp.ord [[row gn 107 (nodeC l.key ent0 ((l.size + r.size : Nat) : Int) (b : Int) (ptr gl) (ptr gr) (zeros 64))], Yl1, Yr1] R [1, 0, 2] hA4 rfl
      refine vc_op rfl (fun K hK => ws_call hF rfl (by decide) cl65_s12 rfl rfl ?_)
      with_reducible refine (ihl _ ([row gn 107 (nodeC l.key ent0 ((l.size + r.size : Nat) : Int) (b : Int) (ptr gl) (ptr gr) (zeros 64))] :: Yr1 :: R) G hG2 Yl1 gs gl hSm hkt hA5 ).mono ?_
      rintro e' w6 ⟨rfl, Y2, h2, hA7⟩
      refine ⟨_, rfl, fun a hF => hK _ _ ?_⟩
      clear hK K
      replace hA7 : Hp w0 (Y2 :: [row gn 107 (nodeC l.key ent0 ((l.size + r.size : Nat) : Int) (b : Int) (ptr gl) (ptr gr) (zeros 64))] :: Yr1 :: R) w6 := hA7
      refine vc_nil ?_
      refine hK8 _ _ ?_; clear  hK8 K8
      refine wp_region_plan 11 [5,7,11] [0,1,2,3,4,8,9,5,6,7,10,11] (fun x => Hq w0 (Y2 :: [row gn 107 (nodeC l.key ent0 ((l.size + r.size : Nat) : Int) (b : Int) (ptr gl) (ptr gr) (zeros 64))] :: Yr1 :: R) x) (by kernel_rfl) (by kernel_rfl) (Hq.drew (Hp.qp [Y2, [row gn 107 (nodeC l.key ent0 ((l.size + r.size : Nat) : Int) (b : Int) (ptr gl) (ptr gr) (zeros 64))], Yr1] R [0, 1, 2] hA7)) ?_
      have hA8 := Hl.drew hA7
      refine vp_y hF rfl rfl rfl rfl (by decide) _ (fun x hx => y_move rfl rfl) (fun a hF => ?_)
      refine vp_y hF rfl rfl rfl rfl (by decide) _ (fun x hx => y_move rfl rfl) (fun a hF => ?_)
      refine vp_y hF rfl rfl rfl rfl (by decide) _ (fun x hx => y_move rfl rfl) (fun a hF => ?_)
      refine vp_y hF rfl rfl rfl rfl (by decide) _ (fun x hx => y_move rfl rfl) (fun a hF => ?_)
      refine vp_y hF rfl rfl rfl rfl (by decide) _ (fun x hx => y_move rfl rfl) (fun a hF => ?_)
      refine vp_y hF rfl rfl rfl rfl (by decide) _ (fun x hx => y_nilCheck rfl rfl) (fun a hF => ?_)
      refine vp_y hF rfl rfl rfl rfl (by decide) _ (fun x hx => y_field rfl Tryd.underlying107 rfl sz105_s12 (by decide) rfl (rfl : (⟨_, 0 + _, none⟩ : Addr) = ⟨_, 69, none⟩)) (fun a hF => ?_)
      refine vp_l rfl rfl rfl (fun K hK => ws_call hF rfl (by decide) cl85_s12 rfl rfl ?_)
      with_reducible refine (rt_height w0 _ (Y2 :: [row gn 107 (nodeC l.key ent0 ((l.size + r.size : Nat) : Int) (b : Int) (ptr gl) (ptr gr) (zeros 64))] :: Yr1 :: R) _ sub0 l.key ent0 (zeros 64) _ b (ptr gl) (ptr gr) hLz gn (Rw.ofRow (i := 1) rfl) (by omega) hA8 ).mono ?_
      rintro e' w9 ⟨rfl, hA10⟩
      refine ⟨_, rfl, fun a hF => hK _ _ (fun _ => ?_) ?_⟩
      · exact Hp.qp [Y2, [row gn 107 (nodeC l.key ent0 ((l.size + r.size : Nat) : Int) (b : Int) (ptr gl) (ptr gr) (zeros 64))], Yr1] R [0, 1, 2] hA10
      clear hK K
      replace hA10 : Hp w0 (Y2 :: [row gn 107 (nodeC l.key ent0 ((l.size + r.size : Nat) : Int) (b : Int) (ptr gl) (ptr gr) (zeros 64))] :: Yr1 :: R) w9 := hA10
      refine vp_y hF rfl rfl rfl rfl (by decide) _ (fun x hx => y_sub rfl rfl rfl (show IntKind.i64.wrap (((256 - b : Nat) : Int) - 1) = ((255 - b : Nat) : Int) by rw [IntWalk.i64_in _ (by omega)]; omega)) (fun a hF => ?_)
      refine vp_l rfl rfl rfl (fun K hK => ws_call hF rfl (by decide) cl55_s12 rfl rfl ?_)
      with_reducible refine (rt_lift w0 _ (Y2 :: [row gn 107 (nodeC l.key ent0 ((l.size + r.size : Nat) : Int) (b : Int) (ptr gl) (ptr gr) (zeros 64))] :: Yr1 :: R) _ sub0 l hgl gl gs 32 (255 - b) (by omega) (by omega) (hSm.mono (List.Subset.trans hG (subC (subC (subC (sub0)))))) (h2.tr ((List.mem_cons_self ..))) hT hA10 ).mono ?_
      rintro e' w11 ⟨rfl, hA12⟩
      refine ⟨_, rfl, fun a hF => hK _ _ (fun _ => ?_) ?_⟩
      · exact Hp.qp [Y2, [row gn 107 (nodeC l.key ent0 ((l.size + r.size : Nat) : Int) (b : Int) (ptr gl) (ptr gr) (zeros 64))], Yr1] R [0, 1, 2] hA12
      clear hK K
      replace hA12 : Hp w0 (Y2 :: [row gn 107 (nodeC l.key ent0 ((l.size + r.size : Nat) : Int) (b : Int) (ptr gl) (ptr gr) (zeros 64))] :: Yr1 :: R) w11 := hA12
      refine vp_y hF rfl rfl rfl rfl (by decide) _ (fun x hx => y_ixArr rfl Tryd.underlying105 sz23_s12 rfl rfl 0 rfl (by decide) (rfl : (⟨_, 69 + 0 * 32, none⟩ : Addr) = ⟨_, 69, none⟩) (rfl : (none : Option Nat) = none)) (fun a hF => ?_)
      refine vp_l rfl rfl rfl (fun K hK => hs_storeRow (new := dc (l.lift 32 (255 - b))) hF rfl rfl hA12 rfl rfl 1 rfl (by rw [hdl, nodeC_len hLz]; decide) (dc_one _) (by rw [hdl]; exact sz23_s12) (fun w13 hA14 => hK _ _ (fun h => absurd h (by decide)) ?_))
      clear hK K
      replace hA14 : Hp w0 (Y2 :: [row gn 107 (splice (nodeC l.key ent0 ((l.size + r.size : Nat) : Int) (b : Int) (ptr gl) (ptr gr) (zeros 64)) 69 (dc (l.lift 32 (255 - b))))] :: Yr1 :: R) w13 := hA14
      have hA15 : Hp w0 (Y2 :: [row gn 107 (nodeC l.key ent0 ((l.size + r.size : Nat) : Int) (b : Int) (ptr gl) (ptr gr) (dc (l.lift 32 (255 - b)) ++ zeros 32))] :: Yr1 :: R) w13 := by
        rw [← show splice (nodeC l.key ent0 ((l.size + r.size : Nat) : Int) (b : Int) (ptr gl) (ptr gr) (zeros 64)) 69 (dc (l.lift 32 (255 - b))) = nodeC l.key ent0 ((l.size + r.size : Nat) : Int) (b : Int) (ptr gl) (ptr gr) (dc (l.lift 32 (255 - b)) ++ zeros 32) from ((nodeC_putS hLz 0 (by rw [hdl]; decide) _ _ _ _).trans (congrArg (nodeC _ _ _ _ _ _) (splice_lo (s := zeros 32) (t := zeros 32) (by rw [hdl]; exact (List.length_replicate ..).symm))))]
        exact hA14
      refine plan_end ?_
      refine hK6 _ _ ?_; clear  hK6 K6
      refine wp_region_lit ?_
      refine vc_y hF rfl rfl (by decide) _ (y_add rfl rfl rfl (show IntKind.i64.wrap (((0 : Nat) : Int) + 1) = ((1 : Nat) : Int) by rw [IntWalk.i64_in _ (by omega)]; rfl)) (fun a hF => ?_)
      refine vc_y hF rfl rfl (by decide) _ (y_move rfl rfl) (fun a hF => ?_)
      refine vc_nil ?_
      have hA16 : Hp w0 ([row gn 107 (nodeC l.key ent0 ((l.size + r.size : Nat) : Int) (b : Int) (ptr gl) (ptr gr) (dc (l.lift 32 (255 - b)) ++ zeros 32))] :: Y2 :: Yr1 :: R) w13 := Hp.ord [Y2, [row gn 107 (nodeC l.key ent0 ((l.size + r.size : Nat) : Int) (b : Int) (ptr gl) (ptr gr) (dc (l.lift 32 (255 - b)) ++ zeros 32))], Yr1] R [1, 0, 2] hA15 rfl
      exact ⟨(1, Y2, Yr1), (by show 2 - 1 < 2 - 0; decide), (by show 1 ≤ 2; decide), h2, hr1, hF.keep [19, 18, 0, 1] rfl, hA16⟩
    · obtain rfl : m = 1 := by omega
      have hA17 : Hp w0 ([row gn 107 (nodeC l.key ent0 ((l.size + r.size : Nat) : Int) (b : Int) (ptr gl) (ptr gr) (dc (l.lift 32 (255 - b)) ++ zeros 32))] :: Yl1 :: Yr1 :: R) w2 := hA3
      have hdl : (dc (r.lift 32 (255 - b))).length = 32 := by rw [dc_length, Rx.lift_length]
      have hLz : NodeL l.key ent0 (dc (l.lift 32 (255 - b)) ++ zeros 32) := ⟨hkl, ent0_len, by rw [List.length_append, dc_length, Rx.lift_length]; rfl⟩
      have hNz : Rw w0 [[row gn 107 (nodeC l.key ent0 ((l.size + r.size : Nat) : Int) (b : Int) (ptr gl) (ptr gr) (dc (l.lift 32 (255 - b)) ++ zeros 32))]] gn (nodeC l.key ent0 ((l.size + r.size : Nat) : Int) (b : Int) (ptr gl) (ptr gr) (dc (l.lift 32 (255 - b)) ++ zeros 32)) := Rw.ofRow (i := 0) rfl
      have hkt : TrO false r gr Yr1 := hr1
      apply wp_skip
      refine hK5 _ _ ?_; clear  hK5 K5
      apply wp_seq_k; intro K9 hK9
      apply wp_block
      apply wp_seq_k; intro K10 hK10
      refine wp_region_lit ?_
      refine vc_y hF rfl rfl (by decide) _ (y_move rfl rfl) (fun a hF => ?_)
      refine vc_y hF rfl rfl (by decide) _ (y_indexP rfl Tryd.underlying104 Tryd.underlying43 sz43_s12 rfl rfl 1 rfl (by decide) rfl) (fun a hF => ?_)
      refine vc_y hF rfl rfl (by decide) _ (y_assign rfl rfl) (fun a hF => ?_)
      refine vc_y hF rfl rfl (by decide) _ (y_assign rfl rfl) (fun a hF => ?_)
      refine vc_nil ?_
      refine hK10 _ _ ?_; clear  hK10 K10
      apply wp_seq_k; intro K11 hK11
      refine wp_region_lit ?_
      refine vc_y hF rfl rfl (by decide) _ (y_move rfl rfl) (fun a hF => ?_)
      refine vc_y hF rfl rfl (by decide) _ (y_move rfl rfl) (fun a hF => ?_)
      have hG2 : G ⊆ ([row gn 107 (nodeC l.key ent0 ((l.size + r.size : Nat) : Int) (b : Int) (ptr gl) (ptr gr) (dc (l.lift 32 (255 - b)) ++ zeros 32))] :: Yl1 :: R) := List.Subset.trans hG (subC (subC (sub0)))
      have hA18 : Hp w0 (Yr1 :: [row gn 107 (nodeC l.key ent0 ((l.size + r.size : Nat) : Int) (b : Int) (ptr gl) (ptr gr) (dc (l.lift 32 (255 - b)) ++ zeros 32))] :: Yl1 :: R) w2 := Hp.ord [[row gn 107 (nodeC l.key ent0 ((l.size + r.size : Nat) : Int) (b : Int) (ptr gl) (ptr gr) (dc (l.lift 32 (255 - b)) ++ zeros 32))], Yl1, Yr1] R [2, 0, 1] hA17 rfl
      refine vc_op rfl (fun K hK => ws_call hF rfl (by decide) cl65_s12 rfl rfl ?_)
      with_reducible refine (ihr _ ([row gn 107 (nodeC l.key ent0 ((l.size + r.size : Nat) : Int) (b : Int) (ptr gl) (ptr gr) (dc (l.lift 32 (255 - b)) ++ zeros 32))] :: Yl1 :: R) G hG2 Yr1 gs gr hSm hkt hA18 ).mono ?_
      rintro e' w19 ⟨rfl, Y2, h2, hA20⟩
      refine ⟨_, rfl, fun a hF => hK _ _ ?_⟩
      clear hK K
      replace hA20 : Hp w0 (Y2 :: [row gn 107 (nodeC l.key ent0 ((l.size + r.size : Nat) : Int) (b : Int) (ptr gl) (ptr gr) (dc (l.lift 32 (255 - b)) ++ zeros 32))] :: Yl1 :: R) w19 := hA20
      refine vc_nil ?_
      refine hK11 _ _ ?_; clear  hK11 K11
      refine wp_region_plan 11 [5,7,11] [0,1,2,3,4,8,9,5,6,7,10,11] (fun x => Hq w0 (Y2 :: [row gn 107 (nodeC l.key ent0 ((l.size + r.size : Nat) : Int) (b : Int) (ptr gl) (ptr gr) (dc (l.lift 32 (255 - b)) ++ zeros 32))] :: Yl1 :: R) x) (by kernel_rfl) (by kernel_rfl) (Hq.drew (Hp.qp [Y2, [row gn 107 (nodeC l.key ent0 ((l.size + r.size : Nat) : Int) (b : Int) (ptr gl) (ptr gr) (dc (l.lift 32 (255 - b)) ++ zeros 32))], Yl1] R [0, 1, 2] hA20)) ?_
      have hA21 := Hl.drew hA20
      refine vp_y hF rfl rfl rfl rfl (by decide) _ (fun x hx => y_move rfl rfl) (fun a hF => ?_)
      refine vp_y hF rfl rfl rfl rfl (by decide) _ (fun x hx => y_move rfl rfl) (fun a hF => ?_)
      refine vp_y hF rfl rfl rfl rfl (by decide) _ (fun x hx => y_move rfl rfl) (fun a hF => ?_)
      refine vp_y hF rfl rfl rfl rfl (by decide) _ (fun x hx => y_move rfl rfl) (fun a hF => ?_)
      refine vp_y hF rfl rfl rfl rfl (by decide) _ (fun x hx => y_move rfl rfl) (fun a hF => ?_)
      refine vp_y hF rfl rfl rfl rfl (by decide) _ (fun x hx => y_nilCheck rfl rfl) (fun a hF => ?_)
      refine vp_y hF rfl rfl rfl rfl (by decide) _ (fun x hx => y_field rfl Tryd.underlying107 rfl sz105_s12 (by decide) rfl (rfl : (⟨_, 0 + _, none⟩ : Addr) = ⟨_, 69, none⟩)) (fun a hF => ?_)
      refine vp_l rfl rfl rfl (fun K hK => ws_call hF rfl (by decide) cl85_s12 rfl rfl ?_)
      with_reducible refine (rt_height w0 _ (Y2 :: [row gn 107 (nodeC l.key ent0 ((l.size + r.size : Nat) : Int) (b : Int) (ptr gl) (ptr gr) (dc (l.lift 32 (255 - b)) ++ zeros 32))] :: Yl1 :: R) _ sub0 l.key ent0 (dc (l.lift 32 (255 - b)) ++ zeros 32) _ b (ptr gl) (ptr gr) hLz gn (Rw.ofRow (i := 1) rfl) (by omega) hA21 ).mono ?_
      rintro e' w22 ⟨rfl, hA23⟩
      refine ⟨_, rfl, fun a hF => hK _ _ (fun _ => ?_) ?_⟩
      · exact Hp.qp [Y2, [row gn 107 (nodeC l.key ent0 ((l.size + r.size : Nat) : Int) (b : Int) (ptr gl) (ptr gr) (dc (l.lift 32 (255 - b)) ++ zeros 32))], Yl1] R [0, 1, 2] hA23
      clear hK K
      replace hA23 : Hp w0 (Y2 :: [row gn 107 (nodeC l.key ent0 ((l.size + r.size : Nat) : Int) (b : Int) (ptr gl) (ptr gr) (dc (l.lift 32 (255 - b)) ++ zeros 32))] :: Yl1 :: R) w22 := hA23
      refine vp_y hF rfl rfl rfl rfl (by decide) _ (fun x hx => y_sub rfl rfl rfl (show IntKind.i64.wrap (((256 - b : Nat) : Int) - 1) = ((255 - b : Nat) : Int) by rw [IntWalk.i64_in _ (by omega)]; omega)) (fun a hF => ?_)
      refine vp_l rfl rfl rfl (fun K hK => ws_call hF rfl (by decide) cl55_s12 rfl rfl ?_)
      with_reducible refine (rt_lift w0 _ (Y2 :: [row gn 107 (nodeC l.key ent0 ((l.size + r.size : Nat) : Int) (b : Int) (ptr gl) (ptr gr) (dc (l.lift 32 (255 - b)) ++ zeros 32))] :: Yl1 :: R) _ sub0 r hgr gr gs 32 (255 - b) (by omega) (by omega) (hSm.mono (List.Subset.trans hG (subC (subC (subC (sub0)))))) (h2.tr ((List.mem_cons_self ..))) hT hA23 ).mono ?_
      rintro e' w24 ⟨rfl, hA25⟩
      refine ⟨_, rfl, fun a hF => hK _ _ (fun _ => ?_) ?_⟩
      · exact Hp.qp [Y2, [row gn 107 (nodeC l.key ent0 ((l.size + r.size : Nat) : Int) (b : Int) (ptr gl) (ptr gr) (dc (l.lift 32 (255 - b)) ++ zeros 32))], Yl1] R [0, 1, 2] hA25
      clear hK K
      replace hA25 : Hp w0 (Y2 :: [row gn 107 (nodeC l.key ent0 ((l.size + r.size : Nat) : Int) (b : Int) (ptr gl) (ptr gr) (dc (l.lift 32 (255 - b)) ++ zeros 32))] :: Yl1 :: R) w24 := hA25
      refine vp_y hF rfl rfl rfl rfl (by decide) _ (fun x hx => y_ixArr rfl Tryd.underlying105 sz23_s12 rfl rfl 1 rfl (by decide) (rfl : (⟨_, 69 + 1 * 32, none⟩ : Addr) = ⟨_, 101, none⟩) (rfl : (none : Option Nat) = none)) (fun a hF => ?_)
      refine vp_l rfl rfl rfl (fun K hK => hs_storeRow (new := dc (r.lift 32 (255 - b))) hF rfl rfl hA25 rfl rfl 1 rfl (by rw [hdl, nodeC_len hLz]; decide) (dc_one _) (by rw [hdl]; exact sz23_s12) (fun w26 hA27 => hK _ _ (fun h => absurd h (by decide)) ?_))
      clear hK K
      replace hA27 : Hp w0 (Y2 :: [row gn 107 (splice (nodeC l.key ent0 ((l.size + r.size : Nat) : Int) (b : Int) (ptr gl) (ptr gr) (dc (l.lift 32 (255 - b)) ++ zeros 32)) 101 (dc (r.lift 32 (255 - b))))] :: Yl1 :: R) w26 := hA27
      have hA28 : Hp w0 (Y2 :: [row gn 107 (nodeC l.key ent0 ((l.size + r.size : Nat) : Int) (b : Int) (ptr gl) (ptr gr) (dc (l.lift 32 (255 - b)) ++ dc (r.lift 32 (255 - b))))] :: Yl1 :: R) w26 := by
        rw [← show splice (nodeC l.key ent0 ((l.size + r.size : Nat) : Int) (b : Int) (ptr gl) (ptr gr) (dc (l.lift 32 (255 - b)) ++ zeros 32)) 101 (dc (r.lift 32 (255 - b))) = nodeC l.key ent0 ((l.size + r.size : Nat) : Int) (b : Int) (ptr gl) (ptr gr) (dc (l.lift 32 (255 - b)) ++ dc (r.lift 32 (255 - b))) from ((nodeC_putS hLz 32 (by rw [hdl]; decide) _ _ _ _).trans (congrArg (nodeC _ _ _ _ _ _) (splice_hi (by rw [dc_length, Rx.lift_length]) (by rw [hdl]; exact (List.length_replicate ..).symm))))]
        exact hA27
      refine plan_end ?_
      refine hK9 _ _ ?_; clear  hK9 K9
      refine wp_region_lit ?_
      refine vc_y hF rfl rfl (by decide) _ (y_add rfl rfl rfl (show IntKind.i64.wrap (((1 : Nat) : Int) + 1) = ((2 : Nat) : Int) by rw [IntWalk.i64_in _ (by omega)]; rfl)) (fun a hF => ?_)
      refine vc_y hF rfl rfl (by decide) _ (y_move rfl rfl) (fun a hF => ?_)
      refine vc_nil ?_
      have hA29 : Hp w0 ([row gn 107 (nodeC l.key ent0 ((l.size + r.size : Nat) : Int) (b : Int) (ptr gl) (ptr gr) (dc (l.lift 32 (255 - b)) ++ dc (r.lift 32 (255 - b))))] :: Yl1 :: Y2 :: R) w26 := Hp.ord [Y2, [row gn 107 (nodeC l.key ent0 ((l.size + r.size : Nat) : Int) (b : Int) (ptr gl) (ptr gr) (dc (l.lift 32 (255 - b)) ++ dc (r.lift 32 (255 - b))))], Yl1] R [1, 2, 0] hA28 rfl
      exact ⟨(2, Yl1, Y2), (by show 2 - 2 < 2 - 1; decide), (by show 2 ≤ 2; decide), hl1, h2, hF.keep [19, 18, 0, 1] rfl, hA29⟩
  · refine vc_falseB hF rfl (lss_f (by omega)) ?_
    obtain rfl : m = 2 := by omega
    apply wp_exit
    simp only [Exit.then, Exit.inBlock, ↓reduceIte]
    refine vc_end0 hF Tryd.results65 ?_
    exact ⟨rfl, _, ⟨gl, gr, Yl1, Yr1, rfl, hl1, hr1⟩, Hp.cast (S := [row gn 107 (nodeC l.key ent0 ((l.size + r.size : Nat) : Int) (b : Int) (ptr gl) (ptr gr) (sumsC true b l r))] :: Yl1 :: Yr1 :: R) hA3 (by simp only [List.flatten_cons, List.append_assoc, List.cons_append, List.nil_append])⟩

set_option maxRecDepth 100000 in
set_option maxHeartbeats 2000000 in
theorem rt_settle_leaf (w0 : World) (j : Itm) (hg : j.OK) (w : World) (R : List Seg) (gs gn : Nat) (hA : Hp w0 ([row gn 107 (leafC j)] :: R) w) : Calls Tryd.prog 65 #[.pointer (some ⟨gn, 0, none⟩), .pointer (some ⟨gs, 0, none⟩)] w fun e w' => e = .returned (.tuple #[]) ∧ ∃ Y2, TrO true (.leaf j) gn Y2 ∧ Hp w0 (Y2 :: R) w' := by
  have hL := NodeL.leaf hg
  have hN : Rw w0 [[row gn 107 (leafC j)]] gn (nodeC j.k j.ent 1 256 (.pointer none) (.pointer none) (List.replicate 64 (.int .u8 0))) := Rw.ofRow (i := 0) rfl
  refine vc_enter Tryd.func65 rfl Tryd.ntmps65 (Nat.le_of_ble_eq_true rfl) (fun a hF => ?_)
  apply wp_seq_k; intro K1 hK1
  apply wp_seq_k; intro K2 hK2
  refine wp_region_lit ?_
  refine vc_y hF rfl rfl (by decide) _ (y_move rfl rfl) (fun a hF => ?_)
  refine vc_y hF rfl rfl (by decide) _ (y_eqNil rfl (by kernel_rfl) rfl rfl) (fun a hF => ?_)
  refine vc_y hF rfl rfl (by decide) _ (y_move rfl rfl) (fun a hF => ?_)
  refine vc_yg hF rfl rfl rfl rfl rfl (by decide) _ (y_move rfl rfl) (fun a hF => ?_)
  refine vc_yg hF rfl rfl rfl rfl rfl (by decide) _ (y_nilCheck rfl rfl) (fun a hF => ?_)
  refine vc_yg hF rfl rfl rfl rfl rfl (by decide) _ (y_field rfl Tryd.underlying107 rfl sz3_s12 (by decide) rfl (rfl : (⟨_, 0 + _, none⟩ : Addr) = ⟨_, 66, none⟩)) (fun a hF => ?_)
  refine vc_yg hF rfl rfl rfl rfl rfl (by decide) _ (y_ldC rfl (Hq.sub hA.q (sub1 ((List.mem_cons_self ..)))) rfl hN 66 (by rw [nodeC_len hL]; decide) rfl (nodeC_bit hL _ _ _ _) nr3_s12) (fun a hF => ?_)
  refine vc_yg hF rfl rfl rfl rfl rfl (by decide) _ (y_cmp rfl rfl rfl rfl (eql_t (by omega))) (fun a hF => ?_)
  refine vc_y hF rfl rfl (by decide) _ (y_pick rfl rfl rfl) (fun a hF => ?_)
  refine vc_nil ?_
  refine hK2 _ _ ?_; clear  hK2 K2
  refine vc_true hF rfl ?_
  apply wp_ret
  simp only [Exit.then]
  refine vc_ret0 hF rfl ?_
  exact ⟨rfl, _, rfl, hA⟩

theorem rt_settle (w0 : World) (hT : Tab w0) : ∀ t : Rx, t.Good → SettC w0 t
  | .leaf j, hg => fun w R G _ Y gs gn _ hTr hA => by
    have hY : Y = [row gn 107 (leafC j)] := hTr
    subst hY
    exact rt_settle_leaf w0 j hg w R gs gn hA
  | .fork b l r, hg => fun w R G hG Y gs gn hSm hTr hA => by
    obtain ⟨gl, gr, Yl, Yr, hY, hl, hr⟩ := hTr
    subst hY
    exact rt_settle_fork w0 hT b l r hg (rt_settle w0 hT l hg.1) (rt_settle w0 hT r hg.2.1) w R G hG gs gn gl gr Yl Yr hSm hl hr (Hp.cast hA (by simp only [List.flatten_cons, List.append_assoc, List.cons_append, List.nil_append, sumsC_f]))
end Go.Proofs.YtpomngkcfbnjoaaDoor
