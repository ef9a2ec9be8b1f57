/- The radix tree in memory: what reads it. -/
import Derived.Test.YtpomngkcfbnjoaaDoorSp9
import Derived.Test.YtpomngkcfbnjoaaDoorSpU
import Derived.Test.YtpomngkcfbnjoaaDoorRt
import Derived.Lib.BitFns
namespace Go.Proofs.YtpomngkcfbnjoaaDoor
open Go.RowKit Go.Dk

/-! ### a node in memory -/
def nodeC (k : List UInt8) (E : List Value) (sz b : Int) (p q : Value) (s : List Value) : List Value := dc k ++ (E ++ ([.int .i64 sz, .int .i64 b, p, q] ++ s))
structure NodeL (k : List UInt8) (E s : List Value) : Prop where
  k : k.length = 32
  e : E.length = 33
  s : s.length = 64
theorem nodeC_len {k : List UInt8} {E s : List Value} (h : NodeL k E s) (sz b : Int) (p q : Value) : (nodeC k E sz b p q s).length = 133 := by
  unfold nodeC
  simp only [List.length_append, List.length_cons, dc_length, h.k, h.e, h.s, List.length_nil]
theorem nodeC_key {k : List UInt8} {E s : List Value} (h : NodeL k E s) (sz b : Int) (p q : Value) : ((nodeC k E sz b p q s).drop 0).take 32 = dc k := by unfold nodeC; rw [List.drop_zero]; exact List.take_left' (by rw [dc_length, h.k])
theorem nodeC_ent {k : List UInt8} {E s : List Value} (h : NodeL k E s) (sz b : Int) (p q : Value) : ((nodeC k E sz b p q s).drop 32).take 33 = E := by
  unfold nodeC
  rw [List.drop_left' (by rw [dc_length, h.k])]
  exact List.take_left' h.e
theorem nodeC_drop {k : List UInt8} {E s : List Value} (h : NodeL k E s) (sz b : Int) (p q : Value) (j : Nat) : (nodeC k E sz b p q s).drop (65 + j) = ([.int .i64 sz, .int .i64 b, p, q] ++ s).drop j := by
  unfold nodeC
  rw [← List.append_assoc, ← List.drop_drop, List.drop_left' (by rw [List.length_append, dc_length, h.k, h.e])]
theorem nodeC_at {k : List UInt8} {E s : List Value} (h : NodeL k E s) (sz b : Int) (p q : Value) (j : Nat) : (nodeC k E sz b p q s)[65 + j]? = ([.int .i64 sz, .int .i64 b, p, q] ++ s)[j]? := by
  have e := congrArg (fun l : List Value => l[0]?) (nodeC_drop h sz b p q j)
  simpa only [List.getElem?_drop, Nat.add_zero] using e
theorem nodeC_size {k : List UInt8} {E s : List Value} (h : NodeL k E s) (sz b : Int) (p q : Value) : (nodeC k E sz b p q s)[65]? = some (.int .i64 sz) := nodeC_at h sz b p q 0
theorem nodeC_bit {k : List UInt8} {E s : List Value} (h : NodeL k E s) (sz b : Int) (p q : Value) : (nodeC k E sz b p q s)[66]? = some (.int .i64 b) := nodeC_at h sz b p q 1
theorem nodeC_kid0 {k : List UInt8} {E s : List Value} (h : NodeL k E s) (sz b : Int) (p q : Value) : (nodeC k E sz b p q s)[67]? = some p := nodeC_at h sz b p q 2
theorem nodeC_kid1 {k : List UInt8} {E s : List Value} (h : NodeL k E s) (sz b : Int) (p q : Value) : (nodeC k E sz b p q s)[68]? = some q := nodeC_at h sz b p q 3
theorem nodeC_kids {k : List UInt8} {E s : List Value} (h : NodeL k E s) (sz b : Int) (p q : Value) : ((nodeC k E sz b p q s).drop 67).take 2 = [p, q] := by rw [nodeC_drop h sz b p q 2]; rfl
theorem nodeC_s0 {k : List UInt8} {E s : List Value} (h : NodeL k E s) (sz b : Int) (p q : Value) : ((nodeC k E sz b p q s).drop 69).take 32 = s.take 32 := by rw [nodeC_drop h sz b p q 4]; rfl
theorem nodeC_s1 {k : List UInt8} {E s : List Value} (h : NodeL k E s) (sz b : Int) (p q : Value) : ((nodeC k E sz b p q s).drop 101).take 32 = (s.drop 32).take 32 := by rw [nodeC_drop h sz b p q 36]; rfl
theorem nodeC_all {k : List UInt8} {E s : List Value} (h : NodeL k E s) (sz b : Int) (p q : Value) : ((nodeC k E sz b p q s).drop 0).take 133 = nodeC k E sz b p q s := by rw [List.drop_zero]; exact List.take_of_length_le (by rw [nodeC_len h]; exact Nat.le_refl _)
def ent0 : List Value := .int .i64 0 :: dc (List.replicate 32 0)
theorem ent0_len : ent0.length = 33 := by unfold ent0; rw [List.length_cons, dc_length, List.length_replicate]
theorem ent0_one : ∀ v ∈ ent0, v.oneCell' = true := fun v hv => by
  rcases List.mem_cons.1 hv with rfl | h
  · rfl
  · exact dc_one _ v h
/-- a fork's two sums: worked out (true), or not yet (false) -/
def sumsC (q : Bool) (b : Nat) (l r : Rx) : List Value := if q then dc (l.lift 32 (255 - b)) ++ dc (r.lift 32 (255 - b)) else List.replicate 64 (.int .u8 0)
theorem sumsC_len (q : Bool) (b : Nat) (l r : Rx) : (sumsC q b l r).length = 64 := by
  unfold sumsC
  split
  · rw [List.length_append, dc_length, dc_length, Rx.lift_length, Rx.lift_length]
  · exact List.length_replicate ..
theorem sumsC_one (q : Bool) (b : Nat) (l r : Rx) : ∀ v ∈ sumsC q b l r, v.oneCell' = true := fun v hv => by
  unfold sumsC at hv
  split at hv
  · rcases List.mem_append.1 hv with h | h <;> exact dc_one _ v h
  · rw [List.eq_of_mem_replicate hv]; rfl
theorem sumsC_0 (b : Nat) (l r : Rx) : (sumsC true b l r).take 32 = dc (l.lift 32 (255 - b)) := List.take_left' (by rw [dc_length, Rx.lift_length])
theorem sumsC_1 (b : Nat) (l r : Rx) : ((sumsC true b l r).drop 32).take 32 = dc (r.lift 32 (255 - b)) := by
  unfold sumsC
  rw [if_pos rfl, List.drop_left' (by rw [dc_length, Rx.lift_length]), List.take_of_length_le (by rw [dc_length, Rx.lift_length]; exact Nat.le_refl _)]
abbrev ptr (g : Nat) : Value := .pointer (some ⟨g, 0, none⟩)
/-- a tree that can be read at a pointer -/
def Tr (w0 : World) (R : List Seg) (q : Bool) : Rx → Nat → Prop
  | .leaf i, g => Rw w0 R g (leafC i)
  | .fork b l r, g => ∃ gl gr, Rw w0 R g (nodeC l.key ent0 ((l.size + r.size : Nat) : Int) (b : Int) (ptr gl) (ptr gr) (sumsC q b l r)) ∧ Tr w0 R q l gl ∧ Tr w0 R q r gr
theorem Tr.mono {w0 : World} {R S : List Seg} {q : Bool} (hs : R ⊆ S) : ∀ {t : Rx} {g : Nat}, Tr w0 R q t g → Tr w0 S q t g
  | .leaf _, _, h => Rw.mono h hs
  | .fork _ _ _, _, ⟨gl, gr, h1, h2, h3⟩ => ⟨gl, gr, h1.mono hs, Tr.mono hs h2, Tr.mono hs h3⟩
/-- a tree whose nodes are a segment of one's own -/
def TrO (q : Bool) : Rx → Nat → Seg → Prop
  | .leaf i, g, Y => Y = [row g 107 (leafC i)]
  | .fork b l r, g, Y => ∃ gl gr Yl Yr, Y = row g 107 (nodeC l.key ent0 ((l.size + r.size : Nat) : Int) (b : Int) (ptr gl) (ptr gr) (sumsC q b l r)) :: (Yl ++ Yr) ∧ TrO q l gl Yl ∧ TrO q r gr Yr
theorem TrO.trIn {w0 : World} {R : List Seg} {q : Bool} {Y : Seg} (hY : Y ∈ R) : ∀ {t : Rx} {g : Nat} {X : Seg}, TrO q t g X → (∀ x ∈ X, x ∈ Y) → Tr w0 R q t g
  | .leaf i, g, X, h, hs => by
    have h' : X = [row g 107 (leafC i)] := h
    subst h'
    exact Rw.ofMem hY (hs _ (List.mem_cons_self ..))
  | .fork _ _ _, g, X, ⟨gl, gr, Yl, Yr, h, h2, h3⟩, hs => by
    subst h
    exact ⟨gl, gr, Rw.ofMem hY (hs _ (List.mem_cons_self ..)), TrO.trIn hY h2 (fun x hx => hs x (List.mem_cons_of_mem _ (List.mem_append_left _ hx))), TrO.trIn hY h3 (fun x hx => hs x (List.mem_cons_of_mem _ (List.mem_append_right _ hx)))⟩
theorem TrO.tr {w0 : World} {R : List Seg} {q : Bool} {Y : Seg} {t : Rx} {g : Nat} (h : TrO q t g Y) (hY : Y ∈ R) : Tr w0 R q t g := TrO.trIn hY h fun _ hx => hx
/-- a node, whatever it is -/
theorem Tr.view {w0 : World} {R : List Seg} {q : Bool} {t : Rx} {g : Nat} (hg : t.Good) (h : Tr w0 R q t g) : ∃ E p p' s, NodeL t.key E s ∧ Rw w0 R g (nodeC t.key E (t.size : Int) (t.bit : Int) p p' s) := by
  cases t with
  | leaf i => exact ⟨i.ent, .pointer none, .pointer none, List.replicate 64 (.int .u8 0), ⟨hg.k, by unfold Itm.ent; rw [List.length_cons, dc_length, hg.ch], List.length_replicate ..⟩, h⟩
  | fork b l r =>
    obtain ⟨gl, gr, h1, _, _⟩ := h
    exact ⟨ent0, ptr gl, ptr gr, _, ⟨hg.key, ent0_len, sumsC_len ..⟩, h1⟩
theorem Tr.viewF {w0 : World} {R : List Seg} {q : Bool} {b : Nat} {l r : Rx} {g : Nat} (hg : (Rx.fork b l r).Good) (h : Tr w0 R q (.fork b l r) g) : NodeL l.key ent0 (sumsC q b l r) ∧ ∃ gl gr, Rw w0 R g (nodeC l.key ent0 ((l.size + r.size : Nat) : Int) (b : Int) (ptr gl) (ptr gr) (sumsC q b l r)) ∧ Tr w0 R q l gl ∧ Tr w0 R q r gr := ⟨⟨hg.key, ent0_len, sumsC_len ..⟩, h⟩
theorem NodeL.leaf {i : Itm} (hi : i.OK) : NodeL i.k i.ent (List.replicate 64 (.int .u8 0)) := ⟨hi.k, by unfold Itm.ent; rw [List.length_cons, dc_length, hi.ch], List.length_replicate ..⟩
theorem Rx.lift_self (width : Int) (t : Rx) : t.lift width (256 - t.bit) = t.own width := by unfold Rx.lift; rw [Nat.sub_self]; rfl
theorem Rx.lift_next (width : Int) (t : Rx) {h : Nat} (hh : 256 - t.bit ≤ h) : t.lift width (h + 1) = sideD width t.key (t.lift width h) (emptyL width h) h := by
  unfold Rx.lift
  rw [show h + 1 - (256 - t.bit) = (h - (256 - t.bit)) + 1 by omega]
  show sideD width t.key _ (emptyL width (256 - t.bit + (h - (256 - t.bit)))) (256 - t.bit + (h - (256 - t.bit))) = _
  rw [show 256 - t.bit + (h - (256 - t.bit)) = h by omega]
theorem Rx.isLeaf {t : Rx} (h : t.Good) (hb : t.bit = 256) : ∃ i, t = .leaf i := by
  cases t with
  | leaf i => exact ⟨i, rfl⟩
  | fork b l r =>
    obtain ⟨h1, _, h3, _⟩ := h
    have := Rx.bit_le h1
    have hb' : b = 256 := hb
    omega
theorem Rx.isFork {t : Rx} (hb : ¬ t.bit = 256) : ∃ b l r, t = .fork b l r := by
  cases t with
  | leaf i => exact absurd rfl hb
  | fork b l r => exact ⟨b, l, r, rfl⟩
/-! ### the first bit that parts two bytes -/
set_option maxRecDepth 100000 in
theorem byte_first : ∀ z : Fin 256, z.val ≠ 0 → 8 - Lib.bitLen z.val < 8 ∧ (∀ j : Fin 8, j.val < 8 - Lib.bitLen z.val → z.val / 2 ^ (7 - j.val) % 2 = 0) ∧ z.val / 2 ^ (7 - (8 - Lib.bitLen z.val)) % 2 = 1 := by decide +kernel
theorem xor_bit (x y m : Nat) : (x ^^^ y) / 2 ^ m % 2 = (x / 2 ^ m % 2 + y / 2 ^ m % 2) % 2 := by
  have h := Nat.testBit_xor x y m
  simp only [Nat.testBit_eq_decide_div_mod_eq] at h
  rcases Nat.mod_two_eq_zero_or_one (x / 2 ^ m) with h1 | h1 <;> rcases Nat.mod_two_eq_zero_or_one (y / 2 ^ m) with h2 | h2 <;> rcases Nat.mod_two_eq_zero_or_one ((x ^^^ y) / 2 ^ m) with h3 | h3 <;> rw [h1, h2, h3] at h <;> rw [h1, h2, h3] <;> simp at h <;> rfl
def lzN (x y : UInt8) : Nat := 8 - Lib.bitLen (x ^^^ y).toNat
theorem lzN_spec {x y : UInt8} (h : x ≠ y) : lzN x y < 8 ∧ (∀ j, j < lzN x y → x.toNat / 2 ^ (7 - j) % 2 = y.toNat / 2 ^ (7 - j) % 2) ∧ x.toNat / 2 ^ (7 - lzN x y) % 2 ≠ y.toNat / 2 ^ (7 - lzN x y) % 2 := by
  have hz : (x ^^^ y).toNat ≠ 0 := fun e => h (by
    have e2 : x ^^^ y = 0 := UInt8.toNat_inj.1 e
    exact UInt8.xor_eq_zero_iff.1 e2)
  obtain ⟨h1, h2, h3⟩ := byte_first ⟨(x ^^^ y).toNat, (x ^^^ y).toNat_lt⟩ hz
  refine ⟨h1, fun j hj => ?_, ?_⟩
  · have e := h2 ⟨j, Nat.lt_trans hj h1⟩ hj
    simp only [UInt8.toNat_xor] at e
    rw [xor_bit] at e
    have := Nat.mod_lt (x.toNat / 2 ^ (7 - j)) (by decide : 0 < 2)
    have := Nat.mod_lt (y.toNat / 2 ^ (7 - j)) (by decide : 0 < 2)
    omega
  · have e : (x ^^^ y).toNat / 2 ^ (7 - lzN x y) % 2 = 1 := h3
    rw [UInt8.toNat_xor, xor_bit] at e
    have := Nat.mod_lt (x.toNat / 2 ^ (7 - lzN x y)) (by decide : 0 < 2)
    have := Nat.mod_lt (y.toNat / 2 ^ (7 - lzN x y)) (by decide : 0 < 2)
    omega
theorem partsN_at {a b : List UInt8} {i : Nat} (hi : i < 32) (h : ∀ j, j < i → bAt a j = bAt b j) (hne : bAt a i ≠ bAt b i) : partsN a b = 8 * i + lzN (bAt a i) (bAt b i) := by
  obtain ⟨h1, h2, h3⟩ := lzN_spec hne
  refine partsN_eq (by omega) (fun j hj => ?_) (fun _ => ?_)
  · unfold keyBit
    rcases Nat.lt_or_ge (j / 8) i with h4 | h4
    · rw [h _ h4]
    · obtain rfl : j / 8 = i := by omega
      exact h2 (j % 8) (by omega)
  · unfold keyBit
    rw [show (8 * i + lzN (bAt a i) (bAt b i)) / 8 = i by omega, show (8 * i + lzN (bAt a i) (bAt b i)) % 8 = lzN (bAt a i) (bAt b i) by omega]
    exact h3
theorem partsN_none {a b : List UInt8} (h : ∀ j, j < 32 → bAt a j = bAt b j) : partsN a b = 256 :=
  partsN_eq (Nat.le_refl _) (fun j hj => by unfold keyBit; rw [h _ (by omega)]) (fun h => absurd h (Nat.lt_irrefl _))
theorem u8_ne {x y : UInt8} (h : x ≠ y) : ((x.toNat : Int)) ≠ (y.toNat : Int) := fun e => h (UInt8.toNat_inj.1 (by omega))
theorem u8_xor (x y : UInt8) : bits .xor .u8 (x.toNat : Int) (y.toNat : Int) = ((x ^^^ y).toNat : Int) := by
  rw [u8_xor_nat _ _ x.toNat_lt y.toNat_lt, UInt8.toNat_xor]
set_option maxRecDepth 100000 in
theorem rt_len8 (w0 w : World) (R : List Seg) (b : UInt8) (hA : Hp w0 R w) : Calls Tryd.prog 108 #[.int .u8 (b.toNat : Int)] w fun e w' => e = .returned (.int .i64 ((Lib.bitLen b.toNat : Nat) : Int)) ∧ Hp w0 R w' := by
  have h0 : (0 : Int) ≤ (b.toNat : Int) := by omega
  have h1 : (b.toNat : Int) ≤ 255 := by have := b.toNat_lt; omega
  have h2 : Calls Tryd.prog 108 #[.int .u8 (b.toNat : Int)] w fun e w' => e = .returned (.int .i64 (Lib.bitLen (b.toNat : Int).toNat)) ∧ w' = w := by
    rw [← Lib.len8_int _ h0 h1]
    go_enter Tryd.func108, Tryd.ntmps108
    go_wp2
    go_ret
    exact ⟨by simp [wrap64], rfl⟩
  refine h2.mono ?_
  rintro e w' ⟨rfl, rfl⟩
  exact ⟨rfl, hA⟩
theorem sp_bit_is {w0 w : World} {R : List Seg} {k : List UInt8} {i : Nat} {z : Nat} (hz : keyBit k i = z) (hk : k.length = 32) (hi : i < 256) (hA : Hp w0 R w) : Calls Tryd.prog 76 #[.agg (dc k).toArray, .int .i64 (i : Int)] w fun e w' => e = .returned (.int .i64 (z : Int)) ∧ Hp w0 R w' := by subst hz; exact sp_bit w0 w R k i hk hi hA
theorem nr3_s11 : notRow Tryd.prog 3 = true := by kernel_rfl
theorem nr5_s11 : notRow Tryd.prog 5 = true := by kernel_rfl
theorem nr26_s11 : notRow Tryd.prog 26 = true := by kernel_rfl
theorem nr43_s11 : notRow Tryd.prog 43 = true := by kernel_rfl
theorem rw23_s11 : isRow Tryd.prog 23 32 = true := by kernel_rfl
theorem sz3_s11 : (Tryd.prog.info? 3).map (·.size) = some 1 := by kernel_rfl
theorem sz5_s11 : (Tryd.prog.info? 5).map (·.size) = some 1 := by kernel_rfl
theorem sz23_s11 : (Tryd.prog.info? 23).map (·.size) = some 32 := by kernel_rfl
theorem sz26_s11 : (Tryd.prog.info? 26).map (·.size) = some 1 := by kernel_rfl
theorem sz43_s11 : (Tryd.prog.info? 43).map (·.size) = some 1 := by kernel_rfl
theorem sz104_s11 : (Tryd.prog.info? 104).map (·.size) = some 2 := by kernel_rfl
theorem sz105_s11 : (Tryd.prog.info? 105).map (·.size) = some 64 := by kernel_rfl
theorem cl55_s11 : CallsTo Tryd.prog 55 := ⟨_, Tryd.func55, by kernel_rfl, by kernel_rfl⟩
theorem cl76_s11 : CallsTo Tryd.prog 76 := ⟨_, Tryd.func76, by kernel_rfl, by kernel_rfl⟩
theorem cl84_s11 : CallsTo Tryd.prog 84 := ⟨_, Tryd.func84, by kernel_rfl, by kernel_rfl⟩
theorem cl85_s11 : CallsTo Tryd.prog 85 := ⟨_, Tryd.func85, by kernel_rfl, by kernel_rfl⟩
theorem cl86_s11 : CallsTo Tryd.prog 86 := ⟨_, Tryd.func86, by kernel_rfl, by kernel_rfl⟩
theorem cl93_s11 : CallsTo Tryd.prog 93 := ⟨_, Tryd.func93, by kernel_rfl, by kernel_rfl⟩
theorem cl96_s11 : CallsTo Tryd.prog 96 := ⟨_, Tryd.func96, by kernel_rfl, by kernel_rfl⟩
theorem cl103_s11 : CallsTo Tryd.prog 103 := ⟨_, Tryd.func103, by kernel_rfl, by kernel_rfl⟩
theorem cl108_s11 : CallsTo Tryd.prog 108 := ⟨_, Tryd.func108, by kernel_rfl, by kernel_rfl⟩

theorem zr23_s11 : zeroIs Tryd.prog 23 (.agg (dc (List.replicate 32 0)).toArray) := by unfold zeroIs; kernel_rfl

set_option maxRecDepth 100000 in
set_option maxHeartbeats 2000000 in
theorem rt_lz8 (w0 w : World) (R : List Seg) (b : UInt8) (hA : Hp w0 R w) : Calls Tryd.prog 103 #[.int .u8 (b.toNat : Int)] w fun e w' => e = .returned (.int .i64 ((8 - Lib.bitLen b.toNat : Nat) : Int)) ∧ Hp w0 R w' := by
  have hb8 := Lib.bitLen_le8' (b.toNat : Int) (by omega) (by have := b.toNat_lt; omega)
  rw [Int.toNat_natCast] at hb8
  refine vc_enter Tryd.func103 rfl Tryd.ntmps103 (Nat.le_of_ble_eq_true rfl) (fun a hF => ?_)
  apply wp_seq_k; intro K1 hK1
  refine wp_region_lit ?_
  refine vc_y hF rfl rfl (by decide) _ (y_assign rfl rfl) (fun a hF => ?_)
  refine vc_nil ?_
  refine hK1 _ _ ?_; clear  hK1 K1
  apply wp_seq_k; intro K2 hK2
  refine wp_region_lit ?_
  refine vc_y hF rfl rfl (by decide) _ (y_move rfl rfl) (fun a hF => ?_)
  refine vc_op rfl (fun K hK => ws_call hF rfl (by decide) cl108_s11 rfl rfl ?_)
  with_reducible refine (rt_len8 w0 _ R b hA ).mono ?_
  rintro e' w1 ⟨rfl, hA2⟩
  refine ⟨_, rfl, fun a hF => hK _ _ ?_⟩
  clear hK K
  replace hA2 : Hp w0 (R) w1 := hA2
  refine vc_y hF rfl rfl (by decide) _ (y_sub rfl rfl rfl (show IntKind.i64.wrap (8 - ((Lib.bitLen b.toNat : Nat) : Int)) = ((8 - Lib.bitLen b.toNat : Nat) : Int) by rw [IntWalk.i64_in _ (by omega)]; omega)) (fun a hF => ?_)
  refine vc_y hF rfl rfl (by decide) _ (y_assign rfl rfl) (fun a hF => ?_)
  refine vc_nil ?_
  refine hK2 _ _ ?_; clear  hK2 K2
  apply wp_ret
  refine vc_ret1 hF Tryd.results103 rfl ?_
  exact ⟨rfl, hA2⟩

set_option maxRecDepth 100000 in
set_option maxHeartbeats 2000000 in
theorem rt_parts (w0 w : World) (R : List Seg) (kx ky : List UInt8) (ha : kx.length = 32) (hb : ky.length = 32) (hA : Hp w0 R w) : Calls Tryd.prog 87 #[.agg (dc kx).toArray, .agg (dc ky).toArray] w fun e w' => e = .returned (.int .i64 ((partsN kx ky : Nat) : Int)) ∧ Hp w0 R w' := by
  have hda : (dc kx).length = 32 := by rw [dc_length, ha]
  have hdb : (dc ky).length = 32 := by rw [dc_length, hb]
  refine vc_enter Tryd.func87 rfl Tryd.ntmps87 (Nat.le_of_ble_eq_true rfl) (fun a hF => ?_)
  apply wp_seq_k; intro K1 hK1
  refine wp_region_lit ?_
  refine vc_op rfl (fun K hK => hs_box (cs := dc kx) hF rfl (by decide) rfl hA rfl (fun b1 w2 a hb1 hF hA3 => hK _ _ ?_))
  clear hK K
  replace hA3 : Hp w0 ([row b1 23 (dc kx)] :: R) w2 := hA3
  refine vc_op rfl (fun K hK => hs_box (cs := dc ky) hF rfl (by decide) rfl hA3 rfl (fun b4 w5 a hb4 hF hA6 => hK _ _ ?_))
  clear hK K
  replace hA6 : Hp w0 ([row b4 23 (dc ky)] :: [row b1 23 (dc kx)] :: R) w5 := hA6
  refine vc_y hF rfl rfl (by decide) _ (y_assign rfl rfl) (fun a hF => ?_)
  refine vc_nil ?_
  refine hK1 _ _ ?_; clear  hK1 K1
  apply wp_seq_k; intro K2 hK2
  apply wp_seq_k; intro K3 hK3
  refine wp_region_lit ?_
  refine vc_y hF rfl rfl (by decide) _ (y_move rfl rfl) (fun a hF => ?_)
  refine vc_nil ?_
  refine hK3 _ _ ?_; clear  hK3 K3
  apply wp_block
  refine vc_loop (G := Nat) (fun i a x => i ≤ 32 ∧ (∀ j, j < i → bAt kx j = bAt ky j) ∧ Fr 28 [(6, .int .i64 (i : Int)), (2, .pointer (some ⟨b1, 0, none⟩)), (3, .pointer (some ⟨b4, 0, none⟩))] a ∧ Hp w0 ([row b4 23 (dc ky)] :: [row b1 23 (dc kx)] :: R) x) (fun i => 32 - i) 0 (⟨Nat.zero_le _, (fun j hj => absurd hj (Nat.not_lt_zero _)), hF.keep [6, 2, 3] rfl, hA6⟩) ?_
  clear hF
  rintro i a w8 ⟨hi, hall, hF, hA7⟩
  apply wp_seq_k; intro K4 hK4
  refine wp_region_lit ?_
  refine vc_y hF rfl rfl (by decide) _ (y_cmp rfl rfl rfl rfl rfl) (fun a hF => ?_)
  refine vc_nil ?_
  refine hK4 _ _ ?_; clear  hK4 K4
  apply wp_seq_k; intro K5 hK5
  by_cases hlt : i < 32
  · refine vc_trueB hF rfl (lss_t (by omega)) ?_
    by_cases hne : bAt kx i ≠ bAt ky i
    · have hnn := u8_ne hne
      apply wp_skip
      refine hK5 _ _ ?_; clear  hK5 K5
      apply wp_seq_k; intro K6 hK6
      apply wp_block
      apply wp_seq_k; intro K7 hK7
      refine wp_region_lit ?_
      refine vc_y hF rfl rfl (by decide) _ (y_move rfl rfl) (fun a hF => ?_)
      refine vc_y hF rfl rfl (by decide) _ (y_assign rfl rfl) (fun a hF => ?_)
      refine vc_nil ?_
      refine hK7 _ _ ?_; clear  hK7 K7
      apply wp_seq_k; intro K8 hK8
      refine wp_region_plan 6 [6] [0,1,2,3,4,5,6] (fun x => Hq w0 ([row b4 23 (dc ky)] :: [row b1 23 (dc kx)] :: R) x) (by kernel_rfl) (by kernel_rfl) (Hq.drew (Hp.qp [[row b4 23 (dc ky)], [row b1 23 (dc kx)]] R [0, 1] hA7)) ?_
      have hA9 := Hl.drew hA7
      refine vp_y hF rfl rfl rfl rfl (by decide) _ (fun x hx => y_move rfl rfl) (fun a hF => ?_)
      refine vp_y hF rfl rfl rfl rfl (by decide) _ (fun x hx => y_ixArr rfl Tryd.underlying23 sz5_s11 rfl rfl i rfl hlt (ad1 _ _) (rfl : (none : Option Nat) = none)) (fun a hF => ?_)
      refine vp_y hF rfl rfl rfl rfl (by decide) _ (fun x hx => y_ld rfl hx rfl 1 rfl (dc_at (by rw [ha]; exact hlt)) nr5_s11) (fun a hF => ?_)
      refine vp_y hF rfl rfl rfl rfl (by decide) _ (fun x hx => y_move rfl rfl) (fun a hF => ?_)
      refine vp_y hF rfl rfl rfl rfl (by decide) _ (fun x hx => y_ixArr rfl Tryd.underlying23 sz5_s11 rfl rfl i rfl hlt (ad1 _ _) (rfl : (none : Option Nat) = none)) (fun a hF => ?_)
      refine vp_y hF rfl rfl rfl rfl (by decide) _ (fun x hx => y_ld rfl hx rfl 0 rfl (dc_at (by rw [hb]; exact hlt)) nr5_s11) (fun a hF => ?_)
      refine vp_ly hF rfl rfl rfl rfl (by decide) _ (y_cmp rfl rfl rfl rfl (neq_t (by omega))) (fun h => absurd h (by decide)) (fun a hF => ?_)
      refine plan_end ?_
      refine hK8 _ _ ?_; clear  hK8 K8
      refine vc_true hF rfl ?_
      have hlz := (lzN_spec hne).1
      have hpa := partsN_at (a := kx) (b := ky) hlt hall hne
      apply wp_seq_k; intro K9 hK9
      refine wp_region_plan 11 [9,11] [0,1,2,3,4,5,6,7,8,9,10,11] (fun x => Hq w0 ([row b4 23 (dc ky)] :: [row b1 23 (dc kx)] :: R) x) (by kernel_rfl) (by kernel_rfl) (Hq.drew (Hp.qp [[row b4 23 (dc ky)], [row b1 23 (dc kx)]] R [0, 1] hA9)) ?_
      have hA10 := Hl.drew hA9
      refine vp_y hF rfl rfl rfl rfl (by decide) _ (fun x hx => y_move rfl rfl) (fun a hF => ?_)
      refine vp_y hF rfl rfl rfl rfl (by decide) _ (fun x hx => y_mul rfl rfl rfl (show IntKind.i64.wrap (8 * (i : Int)) = ((8 * i : Nat) : Int) by rw [IntWalk.i64_in _ (by omega)]; omega)) (fun a hF => ?_)
      refine vp_y hF rfl rfl rfl rfl (by decide) _ (fun x hx => y_move rfl rfl) (fun a hF => ?_)
      refine vp_y hF rfl rfl rfl rfl (by decide) _ (fun x hx => y_ixArr rfl Tryd.underlying23 sz5_s11 rfl rfl i rfl hlt (ad1 _ _) (rfl : (none : Option Nat) = none)) (fun a hF => ?_)
      refine vp_y hF rfl rfl rfl rfl (by decide) _ (fun x hx => y_ld rfl hx rfl 1 rfl (dc_at (by rw [ha]; exact hlt)) nr5_s11) (fun a hF => ?_)
      refine vp_y hF rfl rfl rfl rfl (by decide) _ (fun x hx => y_move rfl rfl) (fun a hF => ?_)
      refine vp_y hF rfl rfl rfl rfl (by decide) _ (fun x hx => y_ixArr rfl Tryd.underlying23 sz5_s11 rfl rfl i rfl hlt (ad1 _ _) (rfl : (none : Option Nat) = none)) (fun a hF => ?_)
      refine vp_y hF rfl rfl rfl rfl (by decide) _ (fun x hx => y_ld rfl hx rfl 0 rfl (dc_at (by rw [hb]; exact hlt)) nr5_s11) (fun a hF => ?_)
      refine vp_y hF rfl rfl rfl rfl (by decide) _ (fun x hx => y_xor rfl rfl rfl (u8_xor _ _)) (fun a hF => ?_)
      refine vp_l rfl rfl rfl (fun K hK => ws_call hF rfl (by decide) cl103_s11 rfl rfl ?_)
      with_reducible refine (rt_lz8 w0 _ ([row b4 23 (dc ky)] :: [row b1 23 (dc kx)] :: R) (bAt kx i ^^^ bAt ky i) hA10 ).mono ?_
      rintro e' w11 ⟨rfl, hA12⟩
      refine ⟨_, rfl, fun a hF => hK _ _ (fun _ => ?_) ?_⟩
      · exact Hp.qp [[row b4 23 (dc ky)], [row b1 23 (dc kx)]] R [0, 1] hA12
      clear hK K
      replace hA12 : Hp w0 ([row b4 23 (dc ky)] :: [row b1 23 (dc kx)] :: R) w11 := hA12
      rw [show 8 - Lib.bitLen (bAt kx i ^^^ bAt ky i).toNat = lzN (bAt kx i) (bAt ky i) from rfl] at hF
      refine vp_y hF rfl rfl rfl rfl (by decide) _ (fun x hx => y_add rfl rfl rfl (show IntKind.i64.wrap (((8 * i : Nat) : Int) + ((lzN (bAt kx i) (bAt ky i) : Nat) : Int)) = ((partsN kx ky : Nat) : Int) by rw [IntWalk.i64_in _ (by omega), hpa]; omega)) (fun a hF => ?_)
      refine vp_ly hF rfl rfl rfl rfl (by decide) _ (y_assign rfl rfl) (fun h => absurd h (by decide)) (fun a hF => ?_)
      refine plan_end ?_
      refine hK9 _ _ ?_; clear  hK9 K9
      apply wp_ret
      simp only [Exit.then, Exit.inBlock]
      refine vc_ret1 hF Tryd.results87 rfl ?_
      have hA13 : Hp w0 (R) w11 := Hp.sel [[row b4 23 (dc ky)], [row b1 23 (dc kx)]] R [] [0, 1] hA12 rfl
      exact ⟨rfl, hA13⟩
    · have hee : ((bAt kx i).toNat : Int) = ((bAt ky i).toNat : Int) := by rw [Decidable.not_not.1 hne]
      apply wp_skip
      refine hK5 _ _ ?_; clear  hK5 K5
      apply wp_seq_k; intro K10 hK10
      apply wp_block
      apply wp_seq_k; intro K11 hK11
      refine wp_region_lit ?_
      refine vc_y hF rfl rfl (by decide) _ (y_move rfl rfl) (fun a hF => ?_)
      refine vc_y hF rfl rfl (by decide) _ (y_assign rfl rfl) (fun a hF => ?_)
      refine vc_nil ?_
      refine hK11 _ _ ?_; clear  hK11 K11
      apply wp_seq_k; intro K12 hK12
      refine wp_region_plan 6 [6] [0,1,2,3,4,5,6] (fun x => Hq w0 ([row b4 23 (dc ky)] :: [row b1 23 (dc kx)] :: R) x) (by kernel_rfl) (by kernel_rfl) (Hq.drew (Hp.qp [[row b4 23 (dc ky)], [row b1 23 (dc kx)]] R [0, 1] hA7)) ?_
      have hA14 := Hl.drew hA7
      refine vp_y hF rfl rfl rfl rfl (by decide) _ (fun x hx => y_move rfl rfl) (fun a hF => ?_)
      refine vp_y hF rfl rfl rfl rfl (by decide) _ (fun x hx => y_ixArr rfl Tryd.underlying23 sz5_s11 rfl rfl i rfl hlt (ad1 _ _) (rfl : (none : Option Nat) = none)) (fun a hF => ?_)
      refine vp_y hF rfl rfl rfl rfl (by decide) _ (fun x hx => y_ld rfl hx rfl 1 rfl (dc_at (by rw [ha]; exact hlt)) nr5_s11) (fun a hF => ?_)
      refine vp_y hF rfl rfl rfl rfl (by decide) _ (fun x hx => y_move rfl rfl) (fun a hF => ?_)
      refine vp_y hF rfl rfl rfl rfl (by decide) _ (fun x hx => y_ixArr rfl Tryd.underlying23 sz5_s11 rfl rfl i rfl hlt (ad1 _ _) (rfl : (none : Option Nat) = none)) (fun a hF => ?_)
      refine vp_y hF rfl rfl rfl rfl (by decide) _ (fun x hx => y_ld rfl hx rfl 0 rfl (dc_at (by rw [hb]; exact hlt)) nr5_s11) (fun a hF => ?_)
      refine vp_ly hF rfl rfl rfl rfl (by decide) _ (y_cmp rfl rfl rfl rfl (neq_f (by omega))) (fun h => absurd h (by decide)) (fun a hF => ?_)
      refine plan_end ?_
      refine hK12 _ _ ?_; clear  hK12 K12
      refine vc_false hF rfl ?_
      apply wp_skip
      refine hK10 _ _ ?_; clear  hK10 K10
      refine wp_region_lit ?_
      refine vc_y hF rfl rfl (by decide) _ (y_add rfl rfl rfl (IntWalk.i64_in _ (by omega))) (fun a hF => ?_)
      refine vc_y hF rfl rfl (by decide) _ (y_move rfl rfl) (fun a hF => ?_)
      refine vc_nil ?_
      exact ⟨i + 1, by omega, by omega, (fun j hj => by rcases Nat.lt_or_ge j i with h3 | h3; exact hall j h3; obtain rfl : j = i := (by omega); exact Decidable.not_not.1 hne), hF.keep [6, 2, 3] rfl, hA14⟩
  · refine vc_falseB hF rfl (lss_f (by omega)) ?_
    have hpa := partsN_none (a := kx) (b := ky) (fun j hj => hall j (by omega))
    apply wp_exit
    refine hK2 _ _ ?_; clear hK5 K5 hK2 K2
    apply wp_seq_k; intro K13 hK13
    refine wp_region_lit ?_
    refine vc_y hF rfl rfl (by decide) _ (y_assign rfl (show some (Value.int .i64 256) = some (.int .i64 ((partsN kx ky : Nat) : Int)) by rw [hpa]; rfl)) (fun a hF => ?_)
    refine vc_nil ?_
    refine hK13 _ _ ?_; clear  hK13 K13
    apply wp_ret
    refine vc_ret1 hF Tryd.results87 rfl ?_
    have hA15 : Hp w0 (R) w8 := Hp.sel [[row b4 23 (dc ky)], [row b1 23 (dc kx)]] R [] [0, 1] hA7 rfl
    exact ⟨rfl, hA15⟩

set_option maxRecDepth 100000 in
set_option maxHeartbeats 2000000 in
theorem rt_height (w0 w : World) (R G : List Seg) (hG : G ⊆ R) (k : List UInt8) (E s : List Value) (sz : Int) (b : Nat) (p q : Value) (hL : NodeL k E s) (gn : Nat) (hN : Rw w0 G gn (nodeC k E sz (b : Int) p q s)) (hb : b ≤ 256) (hA : Hp w0 R w) : Calls Tryd.prog 85 #[.pointer (some ⟨gn, 0, none⟩)] w fun e w' => e = .returned (.int .i64 ((256 - b : Nat) : Int)) ∧ Hp w0 R w' := by
  refine vc_enter Tryd.func85 rfl Tryd.ntmps85 (Nat.le_of_ble_eq_true rfl) (fun a hF => ?_)
  apply wp_seq_k; intro K1 hK1
  refine wp_region_lit ?_
  refine vc_y hF rfl rfl (by decide) _ (y_assign rfl rfl) (fun a hF => ?_)
  refine vc_nil ?_
  refine hK1 _ _ ?_; clear  hK1 K1
  apply wp_seq_k; intro K2 hK2
  refine wp_region_lit ?_
  refine vc_y hF rfl rfl (by decide) _ (y_move rfl rfl) (fun a hF => ?_)
  refine vc_y hF rfl rfl (by decide) _ (y_nilCheck rfl rfl) (fun a hF => ?_)
  refine vc_y hF rfl rfl (by decide) _ (y_field rfl Tryd.underlying107 rfl sz3_s11 (by decide) rfl (rfl : (⟨_, 0 + _, none⟩ : Addr) = ⟨_, 66, none⟩)) (fun a hF => ?_)
  refine vc_y hF rfl rfl (by decide) _ (y_ldC rfl (Hq.sub hA.q (List.Subset.trans hG (sub0))) rfl hN 66 (by rw [nodeC_len hL]; decide) rfl (nodeC_bit hL _ _ _ _) nr3_s11) (fun a hF => ?_)
  refine vc_y hF rfl rfl (by decide) _ (y_sub rfl rfl rfl (show IntKind.i64.wrap (256 - (b : Int)) = ((256 - b : Nat) : Int) by rw [IntWalk.i64_in _ (by omega)]; omega)) (fun a hF => ?_)
  refine vc_y hF rfl rfl (by decide) _ (y_assign rfl rfl) (fun a hF => ?_)
  refine vc_nil ?_
  refine hK2 _ _ ?_; clear  hK2 K2
  apply wp_ret
  refine vc_ret1 hF Tryd.results85 rfl ?_
  exact ⟨rfl, hA⟩

/-- own at a tree -/
abbrev OwnC (w0 : World) (width : Int) (t : Rx) : Prop := ∀ (w : World) (R G : List Seg), G ⊆ R → ∀ gs gn : Nat, Sm w0 G 82 gs width → Tr w0 G true t gn → Hp w0 R w → Calls Tryd.prog 84 #[.pointer (some ⟨gs, 0, none⟩), .pointer (some ⟨gn, 0, none⟩)] w fun e w' => e = .returned (.agg (dc (t.own width)).toArray) ∧ Hp w0 R w'

set_option maxRecDepth 100000 in
set_option maxHeartbeats 2000000 in
theorem rt_lift0 (w0 w : World) (R G : List Seg) (hG : G ⊆ R) (t : Rx) (hg : t.Good) (gn : Nat) (gs : Nat) (width : Int) (H : Nat) (hH : 256 - t.bit ≤ H) (hH2 : H ≤ 256) (hown : OwnC w0 width t) (hSm : Sm w0 G 82 gs width) (hTr : Tr w0 G true t gn) (hT : Tab w0) (hA : Hp w0 R w) : Calls Tryd.prog 55 #[.pointer (some ⟨gs, 0, none⟩), .pointer (some ⟨gn, 0, none⟩), .int .i64 (H : Int)] w fun e w' => e = .returned (.agg (dc (t.lift width H)).toArray) ∧ Hp w0 R w' := by
  have hSm2 := hSm
  obtain ⟨AE, cE, wb, hs1, hs2, hs3⟩ := hSm2
  have hbl := Rx.bit_le hg
  have hkl := hg.key
  obtain ⟨E, p, p', s, hL, hN⟩ := Tr.view hg hTr
  have hel : (t.own width).length = 32 := Rx.own_length width t
  have hdd : (dc (t.own width)).length = 32 := by rw [dc_length, hel]
  refine vc_enter Tryd.func55 rfl Tryd.ntmps55 (Nat.le_of_ble_eq_true rfl) (fun a hF => ?_)
  apply wp_seq_k; intro K1 hK1
  refine wp_region_lit ?_
  refine vc_op rfl (fun K hK => hs_alloc hF rfl (by decide) rfl hA (zr23_s11) (fun b1 w2 a hb1 hF hA3 => hK _ _ ?_))
  clear hK K
  replace hA3 : Hp w0 ([row b1 23 (dc (List.replicate 32 0))] :: R) w2 := hA3
  refine vc_nil ?_
  refine hK1 _ _ ?_; clear  hK1 K1
  apply wp_seq_k; intro K2 hK2
  refine wp_region_lit ?_
  refine vc_y hF rfl rfl (by decide) _ (y_move rfl rfl) (fun a hF => ?_)
  refine vc_y hF rfl rfl (by decide) _ (y_move rfl rfl) (fun a hF => ?_)
  refine vc_op rfl (fun K hK => ws_call hF rfl (by decide) cl84_s11 rfl rfl ?_)
  with_reducible refine (hown _ ([row b1 23 (dc (List.replicate 32 0))] :: R) G (List.Subset.trans hG (subC (sub0))) gs gn hSm hTr hA3 ).mono ?_
  rintro e' w4 ⟨rfl, hA5⟩
  refine ⟨_, rfl, fun a hF => hK _ _ ?_⟩
  clear hK K
  replace hA5 : Hp w0 ([row b1 23 (dc (List.replicate 32 0))] :: R) w4 := hA5
  refine vc_op rfl (fun K hK => hs_alloc hF rfl (by decide) rfl hA5 (zr23_s11) (fun b6 w7 a hb6 hF hA8 => hK _ _ ?_))
  clear hK K
  replace hA8 : Hp w0 ([row b6 23 (dc (List.replicate 32 0))] :: [row b1 23 (dc (List.replicate 32 0))] :: R) w7 := hA8
  refine vc_op rfl (fun K hK => hs_storeAll (new := dc (t.own width)) hF rfl rfl hA8 rfl rfl 0 rfl (by rw [hdd]; rfl) (dc_one _) sz23_s11 (fun w9 hA10 => hK _ _ ?_))
  clear hK K
  replace hA10 : Hp w0 ([row b6 23 (dc (t.own width))] :: [row b1 23 (dc (List.replicate 32 0))] :: R) w9 := hA10
  refine vc_nil ?_
  refine hK2 _ _ ?_; clear  hK2 K2
  apply wp_seq_k; intro K3 hK3
  apply wp_seq_k; intro K4 hK4
  refine wp_region_lit ?_
  refine vc_y hF rfl rfl (by decide) _ (y_move rfl rfl) (fun a hF => ?_)
  refine vc_op rfl (fun K hK => ws_call hF rfl (by decide) cl85_s11 rfl rfl ?_)
  with_reducible refine (rt_height w0 _ ([row b6 23 (dc (t.own width))] :: [row b1 23 (dc (List.replicate 32 0))] :: R) G (List.Subset.trans hG (subC (subC (sub0)))) t.key E s t.size t.bit p p' hL gn hN hbl hA10 ).mono ?_
  rintro e' w11 ⟨rfl, hA12⟩
  refine ⟨_, rfl, fun a hF => hK _ _ ?_⟩
  clear hK K
  replace hA12 : Hp w0 ([row b6 23 (dc (t.own width))] :: [row b1 23 (dc (List.replicate 32 0))] :: R) w11 := hA12
  refine vc_y hF rfl rfl (by decide) _ (y_assign rfl rfl) (fun a hF => ?_)
  refine vc_nil ?_
  refine hK4 _ _ ?_; clear  hK4 K4
  apply wp_block
  have hA13 : Hp w0 ([row b6 23 (dc (t.lift width (256 - t.bit)))] :: [row b1 23 (dc (List.replicate 32 0))] :: R) w11 := by rw [Rx.lift_self]; exact hA12
  refine vc_loop (G := Nat) (fun h a x => 256 - t.bit ≤ h ∧ h ≤ H ∧ Fr 35 [(8, .int .i64 (h : Int)), (0, .pointer (some ⟨gs, 0, none⟩)), (1, .pointer (some ⟨gn, 0, none⟩)), (2, .int .i64 ((H : Nat) : Int)), (6, .pointer (some ⟨b1, 0, none⟩)), (7, .pointer (some ⟨b6, 0, none⟩))] a ∧ Hp w0 ([row b6 23 (dc (t.lift width h))] :: [row b1 23 (dc (List.replicate 32 0))] :: R) x) (fun h => H - h) (256 - t.bit) (⟨Nat.le_refl _, hH, hF.keep [8, 0, 1, 2, 6, 7] rfl, hA13⟩) ?_
  clear hF
  rintro h a w15 ⟨h0h, hh, hF, hA14⟩
  apply wp_seq_k; intro K5 hK5
  apply wp_seq_k; intro K6 hK6
  refine wp_region_lit ?_
  refine vc_y hF rfl rfl (by decide) _ (y_move rfl rfl) (fun a hF => ?_)
  refine vc_y hF rfl rfl (by decide) _ (y_move rfl rfl) (fun a hF => ?_)
  refine vc_y hF rfl rfl (by decide) _ (y_cmp rfl rfl rfl rfl rfl) (fun a hF => ?_)
  refine vc_nil ?_
  refine hK6 _ _ ?_; clear  hK6 K6
  by_cases hlt : h < H
  · refine vc_trueB hF rfl (lss_t (by omega)) ?_
    have hl : (t.lift width h).length = 32 := Rx.lift_length width t h
    have hdl : (dc (t.lift width h)).length = 32 := by rw [dc_length, hl]
    have hdle := emptyL_length width
    obtain ⟨herd, hele⟩ := digs_rd (emptyL width) 257 h (fun i _ => hdle i) (by omega)
    obtain ⟨be_, qe, hAE, hce⟩ := hs3.ne (i := h * 32) (by omega)
    apply wp_skip
    refine hK5 _ _ ?_; clear  hK5 K5
    apply wp_seq_k; intro K7 hK7
    apply wp_block
    refine wp_region_plan 15 [14,15] [0,1,2,3,4,5,6,7,8,9,10,11,12,13,14,15] (fun x => Hq w0 ([row b6 23 (dc (t.lift width h))] :: [row b1 23 (dc (List.replicate 32 0))] :: R) x) (by kernel_rfl) (by kernel_rfl) (Hq.drew (Hp.qp [[row b6 23 (dc (t.lift width h))], [row b1 23 (dc (List.replicate 32 0))]] R [0, 1] hA14)) ?_
    have hA16 := Hl.drew hA14
    refine vp_y hF rfl rfl rfl rfl (by decide) _ (fun x hx => y_move rfl rfl) (fun a hF => ?_)
    refine vp_y hF rfl rfl rfl rfl (by decide) _ (fun x hx => y_move rfl rfl) (fun a hF => ?_)
    refine vp_y hF rfl rfl rfl rfl (by decide) _ (fun x hx => y_nilCheck rfl rfl) (fun a hF => ?_)
    refine vp_y hF rfl rfl rfl rfl (by decide) _ (fun x hx => y_field rfl Tryd.underlying107 rfl sz23_s11 (by decide) rfl (rfl : (⟨_, 0 + _, none⟩ : Addr) = ⟨_, 0, none⟩)) (fun a hF => ?_)
    refine vp_y hF rfl rfl rfl rfl (by decide) _ (fun x hx => y_ldRowC rfl (Hq.sub hx (List.Subset.trans hG (subC (subC (sub0))))) rfl hN 0 (by rw [nodeC_len hL]; decide) rfl (nodeC_key hL _ _ _ _) rw23_s11) (fun a hF => ?_)
    refine vp_y hF rfl rfl rfl rfl (by decide) _ (fun x hx => y_move rfl rfl) (fun a hF => ?_)
    refine vp_y hF rfl rfl rfl rfl (by decide) _ (fun x hx => y_ldRow (new := dc (t.lift width h)) rfl hx rfl 0 rfl rw23_s11 (by rw [hdl]; exact Nat.le_refl _) (by rw [List.drop_zero]; exact List.take_of_length_le (by rw [hdl]; exact Nat.le_refl _))) (fun a hF => ?_)
    refine vp_y hF rfl rfl rfl rfl (by decide) _ (fun x hx => y_move rfl rfl) (fun a hF => ?_)
    refine vp_y hF rfl rfl rfl rfl (by decide) _ (fun x hx => y_nilCheck rfl rfl) (fun a hF => ?_)
    refine vp_y hF rfl rfl rfl rfl (by decide) _ (fun x hx => y_field rfl Tryd.underlying102 rfl sz26_s11 (by decide) rfl (rfl : (⟨_, 0 + _, none⟩ : Addr) = ⟨_, 1, none⟩)) (fun a hF => ?_)
    refine vp_y hF rfl rfl rfl rfl (by decide) _ (fun x hx => y_ldC rfl (Hq.sub hx (List.Subset.trans hG (subC (subC (sub0))))) rfl hs1 1 (by simp) rfl rfl nr26_s11) (fun a hF => ?_)
    refine vp_y hF rfl rfl rfl rfl (by decide) _ (fun x hx => y_move rfl rfl) (fun a hF => ?_)
    refine vp_y hF rfl rfl rfl rfl (by decide) _ (fun x hx => y_ixSl rfl Tryd.underlying26 sz23_s11 (by exact congrArg (fun A => some (Value.slice A 257 cE)) hAE) rfl h rfl (by omega) rfl) (fun a hF => ?_)
    refine vp_y hF rfl rfl rfl rfl (by decide) _ (fun x hx => y_ldRowC rfl (Hq.sub hx (List.Subset.trans hG (subC (subC (sub0))))) rfl hce (h * 32) hele rfl herd rw23_s11) (fun a hF => ?_)
    refine vp_l rfl rfl rfl (fun K hK => ws_call hF rfl (by decide) cl86_s11 rfl rfl ?_)
    with_reducible refine (rx_branch w0 _ ([row b6 23 (dc (t.lift width h))] :: [row b1 23 (dc (List.replicate 32 0))] :: R) G (List.Subset.trans hG (subC (subC (sub0)))) gs width t.key (t.lift width h) (emptyL width h) h (by omega) hkl hl (hdle h) hSm hT hA16 ).mono ?_
    rintro e' w17 ⟨rfl, hA18⟩
    refine ⟨_, rfl, fun a hF => hK _ _ (fun _ => ?_) ?_⟩
    · exact Hp.qp [[row b6 23 (dc (t.lift width h))], [row b1 23 (dc (List.replicate 32 0))]] R [0, 1] hA18
    clear hK K
    replace hA18 : Hp w0 ([row b6 23 (dc (t.lift width h))] :: [row b1 23 (dc (List.replicate 32 0))] :: R) w17 := hA18
    rw [← Rx.lift_next width t h0h] at hF
    refine vp_l rfl rfl rfl (fun K hK => hs_storeAll (new := dc (t.lift width (h + 1))) hF rfl rfl hA18 rfl rfl 0 rfl (by rw [hdl, dc_length, Rx.lift_length]) (dc_one _) (by rw [hdl]; exact sz23_s11) (fun w19 hA20 => hK _ _ (fun h => absurd h (by decide)) ?_))
    clear hK K
    replace hA20 : Hp w0 ([row b6 23 (dc (t.lift width (h + 1)))] :: [row b1 23 (dc (List.replicate 32 0))] :: R) w19 := hA20
    refine plan_end ?_
    refine hK7 _ _ ?_; clear  hK7 K7
    refine wp_region_lit ?_
    refine vc_y hF rfl rfl (by decide) _ (y_move rfl rfl) (fun a hF => ?_)
    refine vc_y hF rfl rfl (by decide) _ (y_add rfl rfl rfl (IntWalk.i64_in _ (by omega))) (fun a hF => ?_)
    refine vc_y hF rfl rfl (by decide) _ (y_assign rfl rfl) (fun a hF => ?_)
    refine vc_nil ?_
    exact ⟨h + 1, by omega, by omega, by omega, hF.keep [8, 0, 1, 2, 6, 7] rfl, hA20⟩
  · refine vc_falseB hF rfl (lss_f (by omega)) ?_
    obtain rfl : h = H := by omega
    have hdl : (dc (t.lift width h)).length = 32 := by rw [dc_length, Rx.lift_length]
    apply wp_exit
    refine hK3 _ _ ?_; clear hK5 K5 hK3 K3
    apply wp_seq_k; intro K8 hK8
    refine wp_region_lit ?_
    refine vc_y hF rfl rfl (by decide) _ (y_ldRow (new := dc (t.lift width h)) rfl hA14.q rfl 0 rfl rw23_s11 (by rw [hdl]; exact Nat.le_refl _) (by rw [List.drop_zero]; exact List.take_of_length_le (by rw [hdl]; exact Nat.le_refl _))) (fun a hF => ?_)
    refine vc_op rfl (fun K hK => hs_storeAll (new := dc (t.lift width h)) hF rfl rfl hA14 rfl rfl 1 rfl (by rw [hdl]; rfl) (dc_one _) sz23_s11 (fun w21 hA22 => hK _ _ ?_))
    clear hK K
    replace hA22 : Hp w0 ([row b6 23 (dc (t.lift width h))] :: [row b1 23 (dc (t.lift width h))] :: R) w21 := hA22
    refine vc_nil ?_
    refine hK8 _ _ ?_; clear  hK8 K8
    apply wp_ret
    refine vc_retR hF Tryd.results55 hA22.q rfl 1 rfl (by rw [hdl]; exact rw23_s11) ?_
    have hA23 : Hp w0 (R) w21 := Hp.sel [[row b6 23 (dc (t.lift width h))], [row b1 23 (dc (t.lift width h))]] R [] [0, 1] hA22 rfl
    exact ⟨rfl, hA23⟩

set_option maxRecDepth 100000 in
set_option maxHeartbeats 2000000 in
theorem rt_part0 (w0 w : World) (R G : List Seg) (hG : G ⊆ R) (b : Nat) (l r : Rx) (hg : (Rx.fork b l r).Good) (gn gs : Nat) (width : Int) (hown : OwnC w0 width l) (hSm : Sm w0 G 82 gs width) (hTr : Tr w0 G true (.fork b l r) gn) (hT : Tab w0) (hA : Hp w0 R w) : Calls Tryd.prog 93 #[.pointer (some ⟨gs, 0, none⟩), .pointer (some ⟨gn, 0, none⟩), .int .i64 0] w fun e w' => e = .returned (.agg (dc (l.lift width (255 - b))).toArray) ∧ Hp w0 R w' := by
  have hSm2 := hSm
  obtain ⟨AE, cE, wb, hs1, hs2, hs3⟩ := hSm2
  have hg0 := hg
  obtain ⟨hgl, hgr, hbl, hbr, _, _⟩ := hg0
  have hll := Rx.bit_le hgl
  have hrr := Rx.bit_le hgr
  obtain ⟨hL, gl, gr, hN, hTl, hTr2⟩ := Tr.viewF hg hTr
  have hdd : (dc (l.lift width (255 - b))).length = 32 := by rw [dc_length, Rx.lift_length]
  refine vc_enter Tryd.func93 rfl Tryd.ntmps93 (Nat.le_of_ble_eq_true rfl) (fun a hF => ?_)
  apply wp_seq_k; intro K1 hK1
  refine wp_region_lit ?_
  refine vc_op rfl (fun K hK => hs_alloc hF rfl (by decide) rfl hA (zr23_s11) (fun b1 w2 a hb1 hF hA3 => hK _ _ ?_))
  clear hK K
  replace hA3 : Hp w0 ([row b1 23 (dc (List.replicate 32 0))] :: R) w2 := hA3
  refine vc_nil ?_
  refine hK1 _ _ ?_; clear  hK1 K1
  apply wp_seq_k; intro K2 hK2
  apply wp_seq_k; intro K3 hK3
  by_cases hw : width = 32
  · subst hw
    refine wp_region_lit ?_
    refine vc_y hF rfl rfl (by decide) _ (y_move rfl rfl) (fun a hF => ?_)
    refine vc_y hF rfl rfl (by decide) _ (y_nilCheck rfl rfl) (fun a hF => ?_)
    refine vc_y hF rfl rfl (by decide) _ (y_field rfl Tryd.underlying102 rfl sz3_s11 (by decide) rfl (rfl : (⟨_, 0 + _, none⟩ : Addr) = ⟨_, 0, none⟩)) (fun a hF => ?_)
    refine vc_y hF rfl rfl (by decide) _ (y_ldC rfl (Hq.sub hA3.q (List.Subset.trans hG (subC (sub0)))) rfl hs1 0 (by simp) rfl rfl nr3_s11) (fun a hF => ?_)
    refine vc_y hF rfl rfl (by decide) _ (y_cmp rfl rfl rfl rfl (eql_t (by omega))) (fun a hF => ?_)
    refine vc_nil ?_
    refine hK3 _ _ ?_; clear  hK3 K3
    refine vc_true hF rfl ?_
    apply wp_seq_k; intro K4 hK4
    refine wp_region_lit ?_
    refine vc_y hF rfl rfl (by decide) _ (y_move rfl rfl) (fun a hF => ?_)
    refine vc_y hF rfl rfl (by decide) _ (y_move rfl rfl) (fun a hF => ?_)
    refine vc_y hF rfl rfl (by decide) _ (y_nilCheck rfl rfl) (fun a hF => ?_)
    refine vc_y hF rfl rfl (by decide) _ (y_field rfl Tryd.underlying107 rfl sz105_s11 (by decide) rfl (rfl : (⟨_, 0 + _, none⟩ : Addr) = ⟨_, 69, none⟩)) (fun a hF => ?_)
    refine vc_y hF rfl rfl (by decide) _ (y_ixArr rfl Tryd.underlying105 sz23_s11 rfl rfl 0 rfl (by decide) (rfl : (⟨_, 69 + 0 * 32, none⟩ : Addr) = ⟨_, 69, none⟩) (rfl : (none : Option Nat) = none)) (fun a hF => ?_)
    refine vc_y hF rfl rfl (by decide) _ (y_ldRowC rfl (Hq.sub hA3.q (List.Subset.trans hG (subC (sub0)))) rfl hN 69 (by rw [nodeC_len hL]; decide) rfl ((nodeC_s0 hL _ _ _ _).trans (sumsC_0 b l r)) rw23_s11) (fun a hF => ?_)
    refine vc_op rfl (fun K hK => hs_storeAll (new := dc (l.lift 32 (255 - b))) hF rfl rfl hA3 rfl rfl 0 rfl (by rw [hdd]; rfl) (dc_one _) (by exact sz23_s11) (fun w4 hA5 => hK _ _ ?_))
    clear hK K
    replace hA5 : Hp w0 ([row b1 23 (dc (l.lift 32 (255 - b)))] :: R) w4 := hA5
    refine vc_nil ?_
    refine hK4 _ _ ?_; clear  hK4 K4
    apply wp_ret
    simp only [Exit.then]
    refine vc_retR hF Tryd.results93 hA5.q rfl 0 rfl (by rw [hdd]; exact rw23_s11) ?_
    have hA6 : Hp w0 (R) w4 := Hp.sel [[row b1 23 (dc (l.lift 32 (255 - b)))]] R [] [0] hA5 rfl
    exact ⟨rfl, hA6⟩
  · refine wp_region_lit ?_
    refine vc_y hF rfl rfl (by decide) _ (y_move rfl rfl) (fun a hF => ?_)
    refine vc_y hF rfl rfl (by decide) _ (y_nilCheck rfl rfl) (fun a hF => ?_)
    refine vc_y hF rfl rfl (by decide) _ (y_field rfl Tryd.underlying102 rfl sz3_s11 (by decide) rfl (rfl : (⟨_, 0 + _, none⟩ : Addr) = ⟨_, 0, none⟩)) (fun a hF => ?_)
    refine vc_y hF rfl rfl (by decide) _ (y_ldC rfl (Hq.sub hA3.q (List.Subset.trans hG (subC (sub0)))) rfl hs1 0 (by simp) rfl rfl nr3_s11) (fun a hF => ?_)
    refine vc_y hF rfl rfl (by decide) _ (y_cmp rfl rfl rfl rfl (eql_f (by omega))) (fun a hF => ?_)
    refine vc_nil ?_
    refine hK3 _ _ ?_; clear  hK3 K3
    refine vc_false hF rfl ?_
    apply wp_skip
    refine hK2 _ _ ?_; clear  hK2 K2
    apply wp_seq_k; intro K5 hK5
    refine wp_region_plan 11 [8,10,11] [0,1,2,3,4,5,6,7,8,9,10,11] (fun x => Hq w0 ([row b1 23 (dc (List.replicate 32 0))] :: R) x) (by kernel_rfl) (by kernel_rfl) (Hq.drew (Hp.qp [[row b1 23 (dc (List.replicate 32 0))]] R [0] hA3)) ?_
    have hA7 := Hl.drew hA3
    refine vp_y hF rfl rfl rfl rfl (by decide) _ (fun x hx => y_move rfl rfl) (fun a hF => ?_)
    refine vp_y hF rfl rfl rfl rfl (by decide) _ (fun x hx => y_move rfl rfl) (fun a hF => ?_)
    refine vp_y hF rfl rfl rfl rfl (by decide) _ (fun x hx => y_move rfl rfl) (fun a hF => ?_)
    refine vp_y hF rfl rfl rfl rfl (by decide) _ (fun x hx => y_nilCheck rfl rfl) (fun a hF => ?_)
    refine vp_y hF rfl rfl rfl rfl (by decide) _ (fun x hx => y_field rfl Tryd.underlying107 rfl sz104_s11 (by decide) rfl (rfl : (⟨_, 0 + _, none⟩ : Addr) = ⟨_, 67, none⟩)) (fun a hF => ?_)
    refine vp_y hF rfl rfl rfl rfl (by decide) _ (fun x hx => y_ixArr rfl Tryd.underlying104 sz43_s11 rfl rfl 0 rfl (by decide) (rfl : (⟨_, 67 + 0 * 1, none⟩ : Addr) = ⟨_, 67, none⟩) (rfl : (none : Option Nat) = none)) (fun a hF => ?_)
    refine vp_y hF rfl rfl rfl rfl (by decide) _ (fun x hx => y_ldC rfl (Hq.sub hx (List.Subset.trans hG (subC (sub0)))) rfl hN 67 (by rw [nodeC_len hL]; decide) rfl (nodeC_kid0 hL _ _ _ _) nr43_s11) (fun a hF => ?_)
    refine vp_y hF rfl rfl rfl rfl (by decide) _ (fun x hx => y_move rfl rfl) (fun a hF => ?_)
    refine vp_l rfl rfl rfl (fun K hK => ws_call hF rfl (by decide) cl85_s11 rfl rfl ?_)
    with_reducible refine (rt_height w0 _ ([row b1 23 (dc (List.replicate 32 0))] :: R) G (List.Subset.trans hG (subC (sub0))) l.key ent0 (sumsC true b l r) _ b (ptr gl) (ptr gr) hL gn hN (by omega) hA7 ).mono ?_
    rintro e' w8 ⟨rfl, hA9⟩
    refine ⟨_, rfl, fun a hF => hK _ _ (fun _ => ?_) ?_⟩
    · exact Hp.qp [[row b1 23 (dc (List.replicate 32 0))]] R [0] hA9
    clear hK K
    replace hA9 : Hp w0 ([row b1 23 (dc (List.replicate 32 0))] :: R) w8 := hA9
    refine vp_y hF rfl rfl rfl rfl (by decide) _ (fun x hx => y_sub rfl rfl rfl (show IntKind.i64.wrap (((256 - b : Nat) : Int) - 1) = ((255 - b : Nat) : Int) by rw [IntWalk.i64_in _ (by omega)]; omega)) (fun a hF => ?_)
    refine vp_l rfl rfl rfl (fun K hK => ws_call hF rfl (by decide) cl55_s11 rfl rfl ?_)
    with_reducible refine (rt_lift0 w0 _ ([row b1 23 (dc (List.replicate 32 0))] :: R) G (List.Subset.trans hG (subC (sub0))) l hgl gl gs width (255 - b) (by omega) (by omega) hown hSm hTl hT hA9 ).mono ?_
    rintro e' w10 ⟨rfl, hA11⟩
    refine ⟨_, rfl, fun a hF => hK _ _ (fun _ => ?_) ?_⟩
    · exact Hp.qp [[row b1 23 (dc (List.replicate 32 0))]] R [0] hA11
    clear hK K
    replace hA11 : Hp w0 ([row b1 23 (dc (List.replicate 32 0))] :: R) w10 := hA11
    refine vp_l rfl rfl rfl (fun K hK => hs_storeAll (new := dc (l.lift width (255 - b))) hF rfl rfl hA11 rfl rfl 0 rfl (by rw [hdd]; rfl) (dc_one _) (by exact sz23_s11) (fun w12 hA13 => hK _ _ (fun h => absurd h (by decide)) ?_))
    clear hK K
    replace hA13 : Hp w0 ([row b1 23 (dc (l.lift width (255 - b)))] :: R) w12 := hA13
    refine plan_end ?_
    refine hK5 _ _ ?_; clear  hK5 K5
    apply wp_ret
    refine vc_retR hF Tryd.results93 hA13.q rfl 0 rfl (by rw [hdd]; exact rw23_s11) ?_
    have hA14 : Hp w0 (R) w12 := Hp.sel [[row b1 23 (dc (l.lift width (255 - b)))]] R [] [0] hA13 rfl
    exact ⟨rfl, hA14⟩

set_option maxRecDepth 100000 in
set_option maxHeartbeats 2000000 in
theorem rt_part1 (w0 w : World) (R G : List Seg) (hG : G ⊆ R) (b : Nat) (l r : Rx) (hg : (Rx.fork b l r).Good) (gn gs : Nat) (width : Int) (hown : OwnC w0 width r) (hSm : Sm w0 G 82 gs width) (hTr : Tr w0 G true (.fork b l r) gn) (hT : Tab w0) (hA : Hp w0 R w) : Calls Tryd.prog 93 #[.pointer (some ⟨gs, 0, none⟩), .pointer (some ⟨gn, 0, none⟩), .int .i64 1] w fun e w' => e = .returned (.agg (dc (r.lift width (255 - b))).toArray) ∧ Hp w0 R w' := by
  have hSm2 := hSm
  obtain ⟨AE, cE, wb, hs1, hs2, hs3⟩ := hSm2
  have hg0 := hg
  obtain ⟨hgl, hgr, hbl, hbr, _, _⟩ := hg0
  have hll := Rx.bit_le hgl
  have hrr := Rx.bit_le hgr
  obtain ⟨hL, gl, gr, hN, hTl, hTr2⟩ := Tr.viewF hg hTr
  have hdd : (dc (r.lift width (255 - b))).length = 32 := by rw [dc_length, Rx.lift_length]
  refine vc_enter Tryd.func93 rfl Tryd.ntmps93 (Nat.le_of_ble_eq_true rfl) (fun a hF => ?_)
  apply wp_seq_k; intro K1 hK1
  refine wp_region_lit ?_
  refine vc_op rfl (fun K hK => hs_alloc hF rfl (by decide) rfl hA (zr23_s11) (fun b1 w2 a hb1 hF hA3 => hK _ _ ?_))
  clear hK K
  replace hA3 : Hp w0 ([row b1 23 (dc (List.replicate 32 0))] :: R) w2 := hA3
  refine vc_nil ?_
  refine hK1 _ _ ?_; clear  hK1 K1
  apply wp_seq_k; intro K2 hK2
  apply wp_seq_k; intro K3 hK3
  by_cases hw : width = 32
  · subst hw
    refine wp_region_lit ?_
    refine vc_y hF rfl rfl (by decide) _ (y_move rfl rfl) (fun a hF => ?_)
    refine vc_y hF rfl rfl (by decide) _ (y_nilCheck rfl rfl) (fun a hF => ?_)
    refine vc_y hF rfl rfl (by decide) _ (y_field rfl Tryd.underlying102 rfl sz3_s11 (by decide) rfl (rfl : (⟨_, 0 + _, none⟩ : Addr) = ⟨_, 0, none⟩)) (fun a hF => ?_)
    refine vc_y hF rfl rfl (by decide) _ (y_ldC rfl (Hq.sub hA3.q (List.Subset.trans hG (subC (sub0)))) rfl hs1 0 (by simp) rfl rfl nr3_s11) (fun a hF => ?_)
    refine vc_y hF rfl rfl (by decide) _ (y_cmp rfl rfl rfl rfl (eql_t (by omega))) (fun a hF => ?_)
    refine vc_nil ?_
    refine hK3 _ _ ?_; clear  hK3 K3
    refine vc_true hF rfl ?_
    apply wp_seq_k; intro K4 hK4
    refine wp_region_lit ?_
    refine vc_y hF rfl rfl (by decide) _ (y_move rfl rfl) (fun a hF => ?_)
    refine vc_y hF rfl rfl (by decide) _ (y_move rfl rfl) (fun a hF => ?_)
    refine vc_y hF rfl rfl (by decide) _ (y_nilCheck rfl rfl) (fun a hF => ?_)
    refine vc_y hF rfl rfl (by decide) _ (y_field rfl Tryd.underlying107 rfl sz105_s11 (by decide) rfl (rfl : (⟨_, 0 + _, none⟩ : Addr) = ⟨_, 69, none⟩)) (fun a hF => ?_)
    refine vc_y hF rfl rfl (by decide) _ (y_ixArr rfl Tryd.underlying105 sz23_s11 rfl rfl 1 rfl (by decide) (rfl : (⟨_, 69 + 1 * 32, none⟩ : Addr) = ⟨_, 101, none⟩) (rfl : (none : Option Nat) = none)) (fun a hF => ?_)
    refine vc_y hF rfl rfl (by decide) _ (y_ldRowC rfl (Hq.sub hA3.q (List.Subset.trans hG (subC (sub0)))) rfl hN 101 (by rw [nodeC_len hL]; decide) rfl ((nodeC_s1 hL _ _ _ _).trans (sumsC_1 b l r)) rw23_s11) (fun a hF => ?_)
    refine vc_op rfl (fun K hK => hs_storeAll (new := dc (r.lift 32 (255 - b))) hF rfl rfl hA3 rfl rfl 0 rfl (by rw [hdd]; rfl) (dc_one _) (by exact sz23_s11) (fun w4 hA5 => hK _ _ ?_))
    clear hK K
    replace hA5 : Hp w0 ([row b1 23 (dc (r.lift 32 (255 - b)))] :: R) w4 := hA5
    refine vc_nil ?_
    refine hK4 _ _ ?_; clear  hK4 K4
    apply wp_ret
    simp only [Exit.then]
    refine vc_retR hF Tryd.results93 hA5.q rfl 0 rfl (by rw [hdd]; exact rw23_s11) ?_
    have hA6 : Hp w0 (R) w4 := Hp.sel [[row b1 23 (dc (r.lift 32 (255 - b)))]] R [] [0] hA5 rfl
    exact ⟨rfl, hA6⟩
  · refine wp_region_lit ?_
    refine vc_y hF rfl rfl (by decide) _ (y_move rfl rfl) (fun a hF => ?_)
    refine vc_y hF rfl rfl (by decide) _ (y_nilCheck rfl rfl) (fun a hF => ?_)
    refine vc_y hF rfl rfl (by decide) _ (y_field rfl Tryd.underlying102 rfl sz3_s11 (by decide) rfl (rfl : (⟨_, 0 + _, none⟩ : Addr) = ⟨_, 0, none⟩)) (fun a hF => ?_)
    refine vc_y hF rfl rfl (by decide) _ (y_ldC rfl (Hq.sub hA3.q (List.Subset.trans hG (subC (sub0)))) rfl hs1 0 (by simp) rfl rfl nr3_s11) (fun a hF => ?_)
    refine vc_y hF rfl rfl (by decide) _ (y_cmp rfl rfl rfl rfl (eql_f (by omega))) (fun a hF => ?_)
    refine vc_nil ?_
    refine hK3 _ _ ?_; clear  hK3 K3
    refine vc_false hF rfl ?_
    apply wp_skip
    refine hK2 _ _ ?_; clear  hK2 K2
    apply wp_seq_k; intro K5 hK5
    refine wp_region_plan 11 [8,10,11] [0,1,2,3,4,5,6,7,8,9,10,11] (fun x => Hq w0 ([row b1 23 (dc (List.replicate 32 0))] :: R) x) (by kernel_rfl) (by kernel_rfl) (Hq.drew (Hp.qp [[row b1 23 (dc (List.replicate 32 0))]] R [0] hA3)) ?_
    have hA7 := Hl.drew hA3
    refine vp_y hF rfl rfl rfl rfl (by decide) _ (fun x hx => y_move rfl rfl) (fun a hF => ?_)
    refine vp_y hF rfl rfl rfl rfl (by decide) _ (fun x hx => y_move rfl rfl) (fun a hF => ?_)
    refine vp_y hF rfl rfl rfl rfl (by decide) _ (fun x hx => y_move rfl rfl) (fun a hF => ?_)
    refine vp_y hF rfl rfl rfl rfl (by decide) _ (fun x hx => y_nilCheck rfl rfl) (fun a hF => ?_)
    refine vp_y hF rfl rfl rfl rfl (by decide) _ (fun x hx => y_field rfl Tryd.underlying107 rfl sz104_s11 (by decide) rfl (rfl : (⟨_, 0 + _, none⟩ : Addr) = ⟨_, 67, none⟩)) (fun a hF => ?_)
    refine vp_y hF rfl rfl rfl rfl (by decide) _ (fun x hx => y_ixArr rfl Tryd.underlying104 sz43_s11 rfl rfl 1 rfl (by decide) (rfl : (⟨_, 67 + 1 * 1, none⟩ : Addr) = ⟨_, 68, none⟩) (rfl : (none : Option Nat) = none)) (fun a hF => ?_)
    refine vp_y hF rfl rfl rfl rfl (by decide) _ (fun x hx => y_ldC rfl (Hq.sub hx (List.Subset.trans hG (subC (sub0)))) rfl hN 68 (by rw [nodeC_len hL]; decide) rfl (nodeC_kid1 hL _ _ _ _) nr43_s11) (fun a hF => ?_)
    refine vp_y hF rfl rfl rfl rfl (by decide) _ (fun x hx => y_move rfl rfl) (fun a hF => ?_)
    refine vp_l rfl rfl rfl (fun K hK => ws_call hF rfl (by decide) cl85_s11 rfl rfl ?_)
    with_reducible refine (rt_height w0 _ ([row b1 23 (dc (List.replicate 32 0))] :: R) G (List.Subset.trans hG (subC (sub0))) l.key ent0 (sumsC true b l r) _ b (ptr gl) (ptr gr) hL gn hN (by omega) hA7 ).mono ?_
    rintro e' w8 ⟨rfl, hA9⟩
    refine ⟨_, rfl, fun a hF => hK _ _ (fun _ => ?_) ?_⟩
    · exact Hp.qp [[row b1 23 (dc (List.replicate 32 0))]] R [0] hA9
    clear hK K
    replace hA9 : Hp w0 ([row b1 23 (dc (List.replicate 32 0))] :: R) w8 := hA9
    refine vp_y hF rfl rfl rfl rfl (by decide) _ (fun x hx => y_sub rfl rfl rfl (show IntKind.i64.wrap (((256 - b : Nat) : Int) - 1) = ((255 - b : Nat) : Int) by rw [IntWalk.i64_in _ (by omega)]; omega)) (fun a hF => ?_)
    refine vp_l rfl rfl rfl (fun K hK => ws_call hF rfl (by decide) cl55_s11 rfl rfl ?_)
    with_reducible refine (rt_lift0 w0 _ ([row b1 23 (dc (List.replicate 32 0))] :: R) G (List.Subset.trans hG (subC (sub0))) r hgr gr gs width (255 - b) (by omega) (by omega) hown hSm hTr2 hT hA9 ).mono ?_
    rintro e' w10 ⟨rfl, hA11⟩
    refine ⟨_, rfl, fun a hF => hK _ _ (fun _ => ?_) ?_⟩
    · exact Hp.qp [[row b1 23 (dc (List.replicate 32 0))]] R [0] hA11
    clear hK K
    replace hA11 : Hp w0 ([row b1 23 (dc (List.replicate 32 0))] :: R) w10 := hA11
    refine vp_l rfl rfl rfl (fun K hK => hs_storeAll (new := dc (r.lift width (255 - b))) hF rfl rfl hA11 rfl rfl 0 rfl (by rw [hdd]; rfl) (dc_one _) (by exact sz23_s11) (fun w12 hA13 => hK _ _ (fun h => absurd h (by decide)) ?_))
    clear hK K
    replace hA13 : Hp w0 ([row b1 23 (dc (r.lift width (255 - b)))] :: R) w12 := hA13
    refine plan_end ?_
    refine hK5 _ _ ?_; clear  hK5 K5
    apply wp_ret
    refine vc_retR hF Tryd.results93 hA13.q rfl 0 rfl (by rw [hdd]; exact rw23_s11) ?_
    have hA14 : Hp w0 (R) w12 := Hp.sel [[row b1 23 (dc (r.lift width (255 - b)))]] R [] [0] hA13 rfl
    exact ⟨rfl, hA14⟩

set_option maxRecDepth 100000 in
set_option maxHeartbeats 2000000 in
theorem rt_ownF (w0 : World) (width : Int) (b : Nat) (l r : Rx) (hg : (Rx.fork b l r).Good) (hol : OwnC w0 width l) (hor : OwnC w0 width r) (hT : Tab w0) : OwnC w0 width (.fork b l r) := by
  intro w R G hG gs gn hSm hTr hA
  have hSm2 := hSm
  obtain ⟨AE, cE, wb, hs1, hs2, hs3⟩ := hSm2
  have hg0 := hg
  obtain ⟨hgl, hgr, hbl, hbr, _, _⟩ := hg0
  have hll := Rx.bit_le hgl
  obtain ⟨hL, gl, gr, hN, hTl, hTr2⟩ := Tr.viewF hg hTr
  have hdd : (dc ((Rx.fork b l r).own width)).length = 32 := by rw [dc_length, Rx.own_length]
  refine vc_enter Tryd.func84 rfl Tryd.ntmps84 (Nat.le_of_ble_eq_true rfl) (fun a hF => ?_)
  apply wp_seq_k; intro K1 hK1
  refine wp_region_lit ?_
  refine vc_op rfl (fun K hK => hs_alloc hF rfl (by decide) rfl hA (zr23_s11) (fun b1 w2 a hb1 hF hA3 => hK _ _ ?_))
  clear hK K
  replace hA3 : Hp w0 ([row b1 23 (dc (List.replicate 32 0))] :: R) w2 := hA3
  refine vc_nil ?_
  refine hK1 _ _ ?_; clear  hK1 K1
  apply wp_seq_k; intro K2 hK2
  apply wp_seq_k; intro K3 hK3
  refine wp_region_lit ?_
  refine vc_y hF rfl rfl (by decide) _ (y_move rfl rfl) (fun a hF => ?_)
  refine vc_y hF rfl rfl (by decide) _ (y_nilCheck rfl rfl) (fun a hF => ?_)
  refine vc_y hF rfl rfl (by decide) _ (y_field rfl Tryd.underlying107 rfl sz3_s11 (by decide) rfl (rfl : (⟨_, 0 + _, none⟩ : Addr) = ⟨_, 66, none⟩)) (fun a hF => ?_)
  refine vc_y hF rfl rfl (by decide) _ (y_ldC rfl (Hq.sub hA3.q (List.Subset.trans hG (subC (sub0)))) rfl hN 66 (by rw [nodeC_len hL]; decide) rfl (nodeC_bit hL _ _ _ _) nr3_s11) (fun a hF => ?_)
  refine vc_y hF rfl rfl (by decide) _ (y_cmp rfl rfl rfl rfl (eql_f (by omega))) (fun a hF => ?_)
  refine vc_nil ?_
  refine hK3 _ _ ?_; clear  hK3 K3
  refine vc_false hF rfl ?_
  apply wp_skip
  refine hK2 _ _ ?_; clear  hK2 K2
  apply wp_seq_k; intro K4 hK4
  refine wp_region_plan 11 [6,9,10,11] [0,1,2,3,4,5,7,8,6,9,10,11] (fun x => Hq w0 ([row b1 23 (dc (List.replicate 32 0))] :: R) x) (by kernel_rfl) (by kernel_rfl) (Hq.drew (Hp.qp [[row b1 23 (dc (List.replicate 32 0))]] R [0] hA3)) ?_
  have hA4 := Hl.drew hA3
  refine vp_y hF rfl rfl rfl rfl (by decide) _ (fun x hx => y_move rfl rfl) (fun a hF => ?_)
  refine vp_y hF rfl rfl rfl rfl (by decide) _ (fun x hx => y_nilCheck rfl rfl) (fun a hF => ?_)
  refine vp_y hF rfl rfl rfl rfl (by decide) _ (fun x hx => y_field rfl Tryd.underlying102 rfl sz3_s11 (by decide) rfl (rfl : (⟨_, 0 + _, none⟩ : Addr) = ⟨_, 0, none⟩)) (fun a hF => ?_)
  refine vp_y hF rfl rfl rfl rfl (by decide) _ (fun x hx => y_ldC rfl (Hq.sub hx (List.Subset.trans hG (subC (sub0)))) rfl hs1 0 (by simp) rfl rfl nr3_s11) (fun a hF => ?_)
  refine vp_y hF rfl rfl rfl rfl (by decide) _ (fun x hx => y_move rfl rfl) (fun a hF => ?_)
  refine vp_y hF rfl rfl rfl rfl (by decide) _ (fun x hx => y_move rfl rfl) (fun a hF => ?_)
  refine vp_y hF rfl rfl rfl rfl (by decide) _ (fun x hx => y_move rfl rfl) (fun a hF => ?_)
  refine vp_y hF rfl rfl rfl rfl (by decide) _ (fun x hx => y_move rfl rfl) (fun a hF => ?_)
  refine vp_l rfl rfl rfl (fun K hK => ws_call hF rfl (by decide) cl93_s11 rfl rfl ?_)
  with_reducible refine (rt_part0 w0 _ ([row b1 23 (dc (List.replicate 32 0))] :: R) G (List.Subset.trans hG (subC (sub0))) b l r hg gn gs width hol hSm hTr hT hA4 ).mono ?_
  rintro e' w5 ⟨rfl, hA6⟩
  refine ⟨_, rfl, fun a hF => hK _ _ (fun _ => ?_) ?_⟩
  · exact Hp.qp [[row b1 23 (dc (List.replicate 32 0))]] R [0] hA6
  clear hK K
  replace hA6 : Hp w0 ([row b1 23 (dc (List.replicate 32 0))] :: R) w5 := hA6
  refine vp_l rfl rfl rfl (fun K hK => ws_call hF rfl (by decide) cl93_s11 rfl rfl ?_)
  with_reducible refine (rt_part1 w0 _ ([row b1 23 (dc (List.replicate 32 0))] :: R) G (List.Subset.trans hG (subC (sub0))) b l r hg gn gs width hor hSm hTr hT hA6 ).mono ?_
  rintro e' w7 ⟨rfl, hA8⟩
  refine ⟨_, rfl, fun a hF => hK _ _ (fun _ => ?_) ?_⟩
  · exact Hp.qp [[row b1 23 (dc (List.replicate 32 0))]] R [0] hA8
  clear hK K
  replace hA8 : Hp w0 ([row b1 23 (dc (List.replicate 32 0))] :: R) w7 := hA8
  refine vp_l rfl rfl rfl (fun K hK => ws_call hF rfl (by decide) cl96_s11 rfl rfl ?_)
  with_reducible refine (tt_branch w0 _ ([row b1 23 (dc (List.replicate 32 0))] :: R) width (l.lift width (255 - b)) (r.lift width (255 - b)) (Rx.lift_length _ _ _) (Rx.lift_length _ _ _) hT hA8 ).mono ?_
  rintro e' w9 ⟨rfl, hA10⟩
  refine ⟨_, rfl, fun a hF => hK _ _ (fun _ => ?_) ?_⟩
  · exact Hp.qp [[row b1 23 (dc (List.replicate 32 0))]] R [0] hA10
  clear hK K
  replace hA10 : Hp w0 ([row b1 23 (dc (List.replicate 32 0))] :: R) w9 := hA10
  rw [show ofL width 4 (l.lift width (255 - b) ++ r.lift width (255 - b)) = (Rx.fork b l r).own width from (Rx.own_fork hg).symm] at hF
  refine vp_l rfl rfl rfl (fun K hK => hs_storeAll (new := dc ((Rx.fork b l r).own width)) hF rfl rfl hA10 rfl rfl 0 rfl (by rw [hdd]; rfl) (dc_one _) sz23_s11 (fun w11 hA12 => hK _ _ (fun h => absurd h (by decide)) ?_))
  clear hK K
  replace hA12 : Hp w0 ([row b1 23 (dc ((Rx.fork b l r).own width))] :: R) w11 := hA12
  refine plan_end ?_
  refine hK4 _ _ ?_; clear  hK4 K4
  apply wp_ret
  refine vc_retR hF Tryd.results84 hA12.q rfl 0 rfl (by rw [hdd]; exact rw23_s11) ?_
  have hA13 : Hp w0 (R) w11 := Hp.sel [[row b1 23 (dc ((Rx.fork b l r).own width))]] R [] [0] hA12 rfl
  exact ⟨rfl, hA13⟩

theorem rt_own (w0 : World) (width : Int) (hT : Tab w0) : ∀ t : Rx, t.Good → OwnC w0 width t
  | .leaf i, hg => fun w R G hG gs gn hSm hTr hA => rx_own w0 w R G hG i hg gn hTr gs width hSm hT hA
  | .fork b l r, hg => rt_ownF w0 width b l r hg (rt_own w0 width hT l hg.1) (rt_own w0 width hT r hg.2.1) hT
theorem rt_lift (w0 w : World) (R G : List Seg) (hG : G ⊆ R) (t : Rx) (hg : t.Good) (gn : Nat) (gs : Nat) (width : Int) (H : Nat) (hH : 256 - t.bit ≤ H) (hH2 : H ≤ 256) (hSm : Sm w0 G 82 gs width) (hTr : Tr w0 G true t gn) (hT : Tab w0) (hA : Hp w0 R w) : Calls Tryd.prog 55 #[.pointer (some ⟨gs, 0, none⟩), .pointer (some ⟨gn, 0, none⟩), .int .i64 (H : Int)] w fun e w' => e = .returned (.agg (dc (t.lift width H)).toArray) ∧ Hp w0 R w' :=
  rt_lift0 w0 w R G hG t hg gn gs width H hH hH2 (rt_own w0 width hT t hg) hSm hTr hT hA

set_option maxRecDepth 100000 in
set_option maxHeartbeats 2000000 in
theorem rt_find (w0 w : World) (R G : List Seg) (hG : G ⊆ R) (t : Rx) (hg : t.Good) (gn : Nat) (q : Bool) (k : List UInt8) (hk : k.length = 32) (hTr : Tr w0 G q t gn) (hA : Hp w0 R w) : Calls Tryd.prog 64 #[.pointer (some ⟨gn, 0, none⟩), .agg (dc k).toArray] w fun e w' => ((t.find k = none ∧ e = .returned (.pointer none)) ∨ (∃ i g, t.find k = some i ∧ e = .returned (.pointer (some ⟨g, 0, none⟩)) ∧ i.OK ∧ Rw w0 G g (leafC i))) ∧ Hp w0 R w' := by
  have hdk : (dc k).length = 32 := by rw [dc_length, hk]
  obtain ⟨g, hgn⟩ : ∃ g, g = gn := ⟨_, rfl⟩
  rw [← hgn] at hTr
  subst hgn
  refine vc_enter Tryd.func64 rfl Tryd.ntmps64 (Nat.le_of_ble_eq_true rfl) (fun a hF => ?_)
  apply wp_seq_k; intro K1 hK1
  refine wp_region_lit ?_
  refine vc_op rfl (fun K hK => hs_box (cs := dc k) hF rfl (by decide) rfl hA rfl (fun b1 w2 a hb1 hF hA3 => hK _ _ ?_))
  clear hK K
  replace hA3 : Hp w0 ([row b1 23 (dc k)] :: R) w2 := hA3
  refine vc_y hF rfl rfl (by decide) _ (y_assign rfl rfl) (fun a hF => ?_)
  refine vc_nil ?_
  refine hK1 _ _ ?_; clear  hK1 K1
  apply wp_seq_k; intro K2 hK2
  apply wp_block
  refine vc_loop (G := Rx × Nat) (fun gh a x => gh.1.Good ∧ Tr w0 G q gh.1 gh.2 ∧ gh.1.find k = t.find k ∧ Fr 36 [(0, .pointer (some ⟨gh.2, 0, none⟩)), (3, .pointer (some ⟨b1, 0, none⟩))] a ∧ Hp w0 ([row b1 23 (dc k)] :: R) x) (fun gh => gh.1.size) (t, g) (⟨hg, hTr, rfl, hF.keep [0, 3] rfl, hA3⟩) ?_
  clear hF
  rintro gh a w5 ⟨hgi, hTi, hfi, hF, hA4⟩
  obtain ⟨t', g'⟩ := gh
  simp only at hgi hTi hfi hF
  obtain ⟨E, p, p', s, hL, hN⟩ := Tr.view hgi hTi
  have hbl := Rx.bit_le hgi
  have hkl := hgi.key
  by_cases hlf : t'.bit = 256
  · apply wp_seq_k; intro K3 hK3
    apply wp_seq_k; intro K4 hK4
    refine wp_region_lit ?_
    refine vc_y hF rfl rfl (by decide) _ (y_move rfl rfl) (fun a hF => ?_)
    refine vc_y hF rfl rfl (by decide) _ (y_neNil rfl (by kernel_rfl) rfl rfl) (fun a hF => ?_)
    refine vc_y hF rfl rfl (by decide) _ (y_move rfl rfl) (fun a hF => ?_)
    refine vc_yg hF rfl rfl rfl rfl rfl (by decide) _ (y_move rfl rfl) (fun a hF => ?_)
    refine vc_yg hF rfl rfl rfl rfl rfl (by decide) _ (y_nilCheck rfl rfl) (fun a hF => ?_)
    refine vc_yg hF rfl rfl rfl rfl rfl (by decide) _ (y_field rfl Tryd.underlying107 rfl sz3_s11 (by decide) rfl (rfl : (⟨_, 0 + _, none⟩ : Addr) = ⟨_, 66, none⟩)) (fun a hF => ?_)
    refine vc_yg hF rfl rfl rfl rfl rfl (by decide) _ (y_ldC rfl (Hq.sub hA4.q (List.Subset.trans hG (subC (sub0)))) rfl hN 66 (by rw [nodeC_len hL]; decide) rfl (nodeC_bit hL _ _ _ _) nr3_s11) (fun a hF => ?_)
    refine vc_yg hF rfl rfl rfl rfl rfl (by decide) _ (y_cmp rfl rfl rfl rfl (lss_f (by omega))) (fun a hF => ?_)
    refine vc_y hF rfl rfl (by decide) _ (y_pick rfl rfl rfl) (fun a hF => ?_)
    refine vc_nil ?_
    refine hK4 _ _ ?_; clear  hK4 K4
    refine vc_false hF rfl ?_
    obtain ⟨i, rfl⟩ := Rx.isLeaf hgi hlf
    have hfi2 : (if i.k = k then some i else none) = t.find k := hfi
    have hL := NodeL.leaf hgi
    have hN : Rw w0 G g' (nodeC i.k i.ent 1 256 (.pointer none) (.pointer none) (List.replicate 64 (.int .u8 0))) := hTi
    by_cases hik : i.k = k
    · have hfk : t.find k = some i := by rw [← hfi2, if_pos hik]
      apply wp_exit
      refine hK2 _ _ ?_; clear hK3 K3 hK2 K2
      apply wp_seq_k; intro K5 hK5
      apply wp_seq_k; intro K6 hK6
      refine wp_region_plan 9 [9] [0,1,2,3,4,5,6,7,8,9] (fun x => Hq w0 ([row b1 23 (dc k)] :: R) x) (by kernel_rfl) (by kernel_rfl) (Hq.drew (Hp.qp [[row b1 23 (dc k)]] R [0] hA4)) ?_
      have hA6 := Hl.drew hA4
      refine vp_y hF rfl rfl rfl rfl (by decide) _ (fun x hx => y_move rfl rfl) (fun a hF => ?_)
      refine vp_y hF rfl rfl rfl rfl (by decide) _ (fun x hx => y_eqNil rfl (by kernel_rfl) rfl rfl) (fun a hF => ?_)
      refine vp_y hF rfl rfl rfl rfl (by decide) _ (fun x hx => y_move rfl rfl) (fun a hF => ?_)
      refine vp_yg hF rfl rfl rfl rfl rfl rfl rfl (by decide) _ (fun x hx => y_move rfl rfl) (fun a hF => ?_)
      refine vp_yg hF rfl rfl rfl rfl rfl rfl rfl (by decide) _ (fun x hx => y_nilCheck rfl rfl) (fun a hF => ?_)
      refine vp_yg hF rfl rfl rfl rfl rfl rfl rfl (by decide) _ (fun x hx => y_field rfl Tryd.underlying107 rfl sz23_s11 (by decide) rfl (rfl : (⟨_, 0 + _, none⟩ : Addr) = ⟨_, 0, none⟩)) (fun a hF => ?_)
      refine vp_yg hF rfl rfl rfl rfl rfl rfl rfl (by decide) _ (fun x hx => y_ldRowC rfl (Hq.sub hx (List.Subset.trans hG (subC (sub0)))) rfl hN 0 (by rw [nodeC_len hL]; decide) rfl (nodeC_key hL _ _ _ _) rw23_s11) (fun a hF => ?_)
      refine vp_yg hF rfl rfl rfl rfl rfl rfl rfl (by decide) _ (fun x hx => y_ldRow (new := dc k) rfl hx rfl 0 rfl rw23_s11 (by rw [hdk]; exact Nat.le_refl _) (by rw [List.drop_zero]; exact List.take_of_length_le (by rw [hdk]; exact Nat.le_refl _))) (fun a hF => ?_)
      refine vp_yg hF rfl rfl rfl rfl rfl rfl rfl (by decide) _ (fun x hx => y_neB rfl Tryd.underlying23 Tryd.underlying5 sz5_s11 (by kernel_rfl) rfl rfl hgi.k hk (show (!decide (i.k = k)) = false by rw [decide_eq_true hik]; rfl)) (fun a hF => ?_)
      refine vp_ly hF rfl rfl rfl rfl (by decide) _ (y_pick rfl rfl rfl) (fun h => absurd h (by decide)) (fun a hF => ?_)
      refine plan_end ?_
      refine hK6 _ _ ?_; clear  hK6 K6
      refine vc_false hF rfl ?_
      apply wp_skip
      refine hK5 _ _ ?_; clear  hK5 K5
      apply wp_seq_k; intro K7 hK7
      refine wp_region_lit ?_
      refine vc_y hF rfl rfl (by decide) _ (y_move rfl rfl) (fun a hF => ?_)
      refine vc_y hF rfl rfl (by decide) _ (y_assign rfl rfl) (fun a hF => ?_)
      refine vc_nil ?_
      refine hK7 _ _ ?_; clear  hK7 K7
      apply wp_ret
      refine vc_ret1 hF Tryd.results64 rfl ?_
      have hA7 : Hp w0 (R) w5.drew := Hp.sel [[row b1 23 (dc k)]] R [] [0] hA6 rfl
      exact ⟨.inr ⟨i, g', hfk, rfl, hgi, hTi⟩, hA7⟩
    · have hfk : t.find k = none := by rw [← hfi2, if_neg hik]
      apply wp_exit
      refine hK2 _ _ ?_; clear hK3 K3 hK2 K2
      apply wp_seq_k; intro K8 hK8
      apply wp_seq_k; intro K9 hK9
      refine wp_region_plan 9 [9] [0,1,2,3,4,5,6,7,8,9] (fun x => Hq w0 ([row b1 23 (dc k)] :: R) x) (by kernel_rfl) (by kernel_rfl) (Hq.drew (Hp.qp [[row b1 23 (dc k)]] R [0] hA4)) ?_
      have hA8 := Hl.drew hA4
      refine vp_y hF rfl rfl rfl rfl (by decide) _ (fun x hx => y_move rfl rfl) (fun a hF => ?_)
      refine vp_y hF rfl rfl rfl rfl (by decide) _ (fun x hx => y_eqNil rfl (by kernel_rfl) rfl rfl) (fun a hF => ?_)
      refine vp_y hF rfl rfl rfl rfl (by decide) _ (fun x hx => y_move rfl rfl) (fun a hF => ?_)
      refine vp_yg hF rfl rfl rfl rfl rfl rfl rfl (by decide) _ (fun x hx => y_move rfl rfl) (fun a hF => ?_)
      refine vp_yg hF rfl rfl rfl rfl rfl rfl rfl (by decide) _ (fun x hx => y_nilCheck rfl rfl) (fun a hF => ?_)
      refine vp_yg hF rfl rfl rfl rfl rfl rfl rfl (by decide) _ (fun x hx => y_field rfl Tryd.underlying107 rfl sz23_s11 (by decide) rfl (rfl : (⟨_, 0 + _, none⟩ : Addr) = ⟨_, 0, none⟩)) (fun a hF => ?_)
      refine vp_yg hF rfl rfl rfl rfl rfl rfl rfl (by decide) _ (fun x hx => y_ldRowC rfl (Hq.sub hx (List.Subset.trans hG (subC (sub0)))) rfl hN 0 (by rw [nodeC_len hL]; decide) rfl (nodeC_key hL _ _ _ _) rw23_s11) (fun a hF => ?_)
      refine vp_yg hF rfl rfl rfl rfl rfl rfl rfl (by decide) _ (fun x hx => y_ldRow (new := dc k) rfl hx rfl 0 rfl rw23_s11 (by rw [hdk]; exact Nat.le_refl _) (by rw [List.drop_zero]; exact List.take_of_length_le (by rw [hdk]; exact Nat.le_refl _))) (fun a hF => ?_)
      refine vp_yg hF rfl rfl rfl rfl rfl rfl rfl (by decide) _ (fun x hx => y_neB rfl Tryd.underlying23 Tryd.underlying5 sz5_s11 (by kernel_rfl) rfl rfl hgi.k hk (show (!decide (i.k = k)) = true by rw [decide_eq_false hik]; rfl)) (fun a hF => ?_)
      refine vp_ly hF rfl rfl rfl rfl (by decide) _ (y_pick rfl rfl rfl) (fun h => absurd h (by decide)) (fun a hF => ?_)
      refine plan_end ?_
      refine hK9 _ _ ?_; clear  hK9 K9
      refine vc_true hF rfl ?_
      apply wp_seq_k; intro K10 hK10
      refine wp_region_lit ?_
      refine vc_y hF rfl rfl (by decide) _ (y_assign rfl rfl) (fun a hF => ?_)
      refine vc_nil ?_
      refine hK10 _ _ ?_; clear  hK10 K10
      apply wp_ret
      simp only [Exit.then]
      refine vc_ret1 hF Tryd.results64 rfl ?_
      have hA9 : Hp w0 (R) w5.drew := Hp.sel [[row b1 23 (dc k)]] R [] [0] hA8 rfl
      exact ⟨.inl ⟨hfk, rfl⟩, hA9⟩
  · apply wp_seq_k; intro K11 hK11
    apply wp_seq_k; intro K12 hK12
    refine wp_region_lit ?_
    refine vc_y hF rfl rfl (by decide) _ (y_move rfl rfl) (fun a hF => ?_)
    refine vc_y hF rfl rfl (by decide) _ (y_neNil rfl (by kernel_rfl) rfl rfl) (fun a hF => ?_)
    refine vc_y hF rfl rfl (by decide) _ (y_move rfl rfl) (fun a hF => ?_)
    refine vc_yg hF rfl rfl rfl rfl rfl (by decide) _ (y_move rfl rfl) (fun a hF => ?_)
    refine vc_yg hF rfl rfl rfl rfl rfl (by decide) _ (y_nilCheck rfl rfl) (fun a hF => ?_)
    refine vc_yg hF rfl rfl rfl rfl rfl (by decide) _ (y_field rfl Tryd.underlying107 rfl sz3_s11 (by decide) rfl (rfl : (⟨_, 0 + _, none⟩ : Addr) = ⟨_, 66, none⟩)) (fun a hF => ?_)
    refine vc_yg hF rfl rfl rfl rfl rfl (by decide) _ (y_ldC rfl (Hq.sub hA4.q (List.Subset.trans hG (subC (sub0)))) rfl hN 66 (by rw [nodeC_len hL]; decide) rfl (nodeC_bit hL _ _ _ _) nr3_s11) (fun a hF => ?_)
    refine vc_yg hF rfl rfl rfl rfl rfl (by decide) _ (y_cmp rfl rfl rfl rfl (lss_t (by omega))) (fun a hF => ?_)
    refine vc_y hF rfl rfl (by decide) _ (y_pick rfl rfl rfl) (fun a hF => ?_)
    refine vc_nil ?_
    refine hK12 _ _ ?_; clear  hK12 K12
    refine vc_true hF rfl ?_
    obtain ⟨b, l, r, rfl⟩ := Rx.isFork hlf
    have hb : b < 256 := by show (Rx.fork b l r).bit < 256; omega
    obtain ⟨hL, gl, gr, hN, hTl, hTr2⟩ := Tr.viewF hgi hTi
    have hg1 := hgi.1
    have hg2 := hgi.2.1
    have hsl := l.size_pos
    have hsr := r.size_pos
    have hfi2 : (if keyBit k b = 0 then l.find k else r.find k) = t.find k := hfi
    by_cases hkb : keyBit k b = 0
    · apply wp_skip
      refine hK11 _ _ ?_; clear  hK11 K11
      apply wp_block
      refine wp_region_plan 11 [6,11] [0,1,2,3,4,5,7,8,6,9,10,11] (fun x => Hq w0 ([row b1 23 (dc k)] :: R) x) (by kernel_rfl) (by kernel_rfl) (Hq.drew (Hp.qp [[row b1 23 (dc k)]] R [0] hA4)) ?_
      have hA10 := Hl.drew hA4
      refine vp_y hF rfl rfl rfl rfl (by decide) _ (fun x hx => y_move rfl rfl) (fun a hF => ?_)
      refine vp_y hF rfl rfl rfl rfl (by decide) _ (fun x hx => y_ldRow (new := dc k) rfl hx rfl 0 rfl rw23_s11 (by rw [hdk]; exact Nat.le_refl _) (by rw [List.drop_zero]; exact List.take_of_length_le (by rw [hdk]; exact Nat.le_refl _))) (fun a hF => ?_)
      refine vp_y hF rfl rfl rfl rfl (by decide) _ (fun x hx => y_move rfl rfl) (fun a hF => ?_)
      refine vp_y hF rfl rfl rfl rfl (by decide) _ (fun x hx => y_nilCheck rfl rfl) (fun a hF => ?_)
      refine vp_y hF rfl rfl rfl rfl (by decide) _ (fun x hx => y_field rfl Tryd.underlying107 rfl sz3_s11 (by decide) rfl (rfl : (⟨_, 0 + _, none⟩ : Addr) = ⟨_, 66, none⟩)) (fun a hF => ?_)
      refine vp_y hF rfl rfl rfl rfl (by decide) _ (fun x hx => y_ldC rfl (Hq.sub hx (List.Subset.trans hG (subC (sub0)))) rfl hN 66 (by rw [nodeC_len hL]; decide) rfl (nodeC_bit hL _ _ _ _) nr3_s11) (fun a hF => ?_)
      refine vp_y hF rfl rfl rfl rfl (by decide) _ (fun x hx => y_nilCheck rfl rfl) (fun a hF => ?_)
      refine vp_y hF rfl rfl rfl rfl (by decide) _ (fun x hx => y_field rfl Tryd.underlying107 rfl sz104_s11 (by decide) rfl (rfl : (⟨_, 0 + _, none⟩ : Addr) = ⟨_, 67, none⟩)) (fun a hF => ?_)
      refine vp_l rfl rfl rfl (fun K hK => ws_call hF rfl (by decide) cl76_s11 rfl rfl ?_)
      with_reducible refine (sp_bit_is (w0 := w0) (R := ([row b1 23 (dc k)] :: R)) (z := 0) hkb hk hb hA10 ).mono ?_
      rintro e' w11 ⟨rfl, hA12⟩
      refine ⟨_, rfl, fun a hF => hK _ _ (fun _ => ?_) ?_⟩
      · exact Hp.qp [[row b1 23 (dc k)]] R [0] hA12
      clear hK K
      replace hA12 : Hp w0 ([row b1 23 (dc k)] :: R) w11 := hA12
      rw [show ((0 : Nat) : Int) = 0 from rfl] at hF
      refine vp_y hF rfl rfl rfl rfl (by decide) _ (fun x hx => y_ixArr rfl Tryd.underlying104 sz43_s11 rfl rfl 0 rfl (by decide) (rfl : (⟨_, 67 + 0 * 1, none⟩ : Addr) = ⟨_, 67, none⟩) (rfl : (none : Option Nat) = none)) (fun a hF => ?_)
      refine vp_y hF rfl rfl rfl rfl (by decide) _ (fun x hx => y_ldC rfl (Hq.sub hx (List.Subset.trans hG (subC (sub0)))) rfl hN 67 (by rw [nodeC_len hL]; decide) rfl (nodeC_kid0 hL _ _ _ _) nr43_s11) (fun a hF => ?_)
      refine vp_ly hF rfl rfl rfl rfl (by decide) _ (y_assign rfl rfl) (fun h => absurd h (by decide)) (fun a hF => ?_)
      refine plan_end ?_
      have hmm : l.size < (Rx.fork b l r).size := by show _ < l.size + r.size; omega
      exact ⟨(l, gl), hmm, hg1, hTl, (by rw [← hfi2, if_pos hkb]), hF.keep [0, 3] rfl, hA12⟩
    · have hkb1 : keyBit k b = 1 := by have := keyBit_lt k b; omega
      apply wp_skip
      refine hK11 _ _ ?_; clear  hK11 K11
      apply wp_block
      refine wp_region_plan 11 [6,11] [0,1,2,3,4,5,7,8,6,9,10,11] (fun x => Hq w0 ([row b1 23 (dc k)] :: R) x) (by kernel_rfl) (by kernel_rfl) (Hq.drew (Hp.qp [[row b1 23 (dc k)]] R [0] hA4)) ?_
      have hA13 := Hl.drew hA4
      refine vp_y hF rfl rfl rfl rfl (by decide) _ (fun x hx => y_move rfl rfl) (fun a hF => ?_)
      refine vp_y hF rfl rfl rfl rfl (by decide) _ (fun x hx => y_ldRow (new := dc k) rfl hx rfl 0 rfl rw23_s11 (by rw [hdk]; exact Nat.le_refl _) (by rw [List.drop_zero]; exact List.take_of_length_le (by rw [hdk]; exact Nat.le_refl _))) (fun a hF => ?_)
      refine vp_y hF rfl rfl rfl rfl (by decide) _ (fun x hx => y_move rfl rfl) (fun a hF => ?_)
      refine vp_y hF rfl rfl rfl rfl (by decide) _ (fun x hx => y_nilCheck rfl rfl) (fun a hF => ?_)
      refine vp_y hF rfl rfl rfl rfl (by decide) _ (fun x hx => y_field rfl Tryd.underlying107 rfl sz3_s11 (by decide) rfl (rfl : (⟨_, 0 + _, none⟩ : Addr) = ⟨_, 66, none⟩)) (fun a hF => ?_)
      refine vp_y hF rfl rfl rfl rfl (by decide) _ (fun x hx => y_ldC rfl (Hq.sub hx (List.Subset.trans hG (subC (sub0)))) rfl hN 66 (by rw [nodeC_len hL]; decide) rfl (nodeC_bit hL _ _ _ _) nr3_s11) (fun a hF => ?_)
      refine vp_y hF rfl rfl rfl rfl (by decide) _ (fun x hx => y_nilCheck rfl rfl) (fun a hF => ?_)
      refine vp_y hF rfl rfl rfl rfl (by decide) _ (fun x hx => y_field rfl Tryd.underlying107 rfl sz104_s11 (by decide) rfl (rfl : (⟨_, 0 + _, none⟩ : Addr) = ⟨_, 67, none⟩)) (fun a hF => ?_)
      refine vp_l rfl rfl rfl (fun K hK => ws_call hF rfl (by decide) cl76_s11 rfl rfl ?_)
      with_reducible refine (sp_bit_is (w0 := w0) (R := ([row b1 23 (dc k)] :: R)) (z := 1) hkb1 hk hb hA13 ).mono ?_
      rintro e' w14 ⟨rfl, hA15⟩
      refine ⟨_, rfl, fun a hF => hK _ _ (fun _ => ?_) ?_⟩
      · exact Hp.qp [[row b1 23 (dc k)]] R [0] hA15
      clear hK K
      replace hA15 : Hp w0 ([row b1 23 (dc k)] :: R) w14 := hA15
      rw [show ((1 : Nat) : Int) = 1 from rfl] at hF
      refine vp_y hF rfl rfl rfl rfl (by decide) _ (fun x hx => y_ixArr rfl Tryd.underlying104 sz43_s11 rfl rfl 1 rfl (by decide) (rfl : (⟨_, 67 + 1 * 1, none⟩ : Addr) = ⟨_, 68, none⟩) (rfl : (none : Option Nat) = none)) (fun a hF => ?_)
      refine vp_y hF rfl rfl rfl rfl (by decide) _ (fun x hx => y_ldC rfl (Hq.sub hx (List.Subset.trans hG (subC (sub0)))) rfl hN 68 (by rw [nodeC_len hL]; decide) rfl (nodeC_kid1 hL _ _ _ _) nr43_s11) (fun a hF => ?_)
      refine vp_ly hF rfl rfl rfl rfl (by decide) _ (y_assign rfl rfl) (fun h => absurd h (by decide)) (fun a hF => ?_)
      refine plan_end ?_
      have hmm : r.size < (Rx.fork b l r).size := by show _ < l.size + r.size; omega
      exact ⟨(r, gr), hmm, hg2, hTr2, (by rw [← hfi2, if_neg hkb]), hF.keep [0, 3] rfl, hA15⟩

set_option maxRecDepth 100000 in
set_option maxHeartbeats 2000000 in
theorem rt_find0 (w0 w : World) (R : List Seg) (k : List UInt8) (hA : Hp w0 R w) : Calls Tryd.prog 64 #[.pointer none, .agg (dc k).toArray] w fun e w' => e = .returned (.pointer none) ∧ Hp w0 R w' := by
  refine vc_enter Tryd.func64 rfl Tryd.ntmps64 (Nat.le_of_ble_eq_true rfl) (fun a hF => ?_)
  apply wp_seq_k; intro K1 hK1
  refine wp_region_lit ?_
  refine vc_op rfl (fun K hK => hs_box (cs := dc k) hF rfl (by decide) rfl hA rfl (fun b1 w2 a hb1 hF hA3 => hK _ _ ?_))
  clear hK K
  replace hA3 : Hp w0 ([row b1 23 (dc k)] :: R) w2 := hA3
  refine vc_y hF rfl rfl (by decide) _ (y_assign rfl rfl) (fun a hF => ?_)
  refine vc_nil ?_
  refine hK1 _ _ ?_; clear  hK1 K1
  apply wp_seq_k; intro K2 hK2
  apply wp_block
  refine vc_loop (G := Nat) (fun gh a x => True ∧ Fr 36 [(0, .pointer none), (3, .pointer (some ⟨b1, 0, none⟩))] a ∧ Hp w0 ([row b1 23 (dc k)] :: R) x) (fun gh => gh) 0 (⟨trivial, hF.keep [0, 3] rfl, hA3⟩) ?_
  clear hF
  rintro gh a w5 ⟨_, hF, hA4⟩
  apply wp_seq_k; intro K3 hK3
  apply wp_seq_k; intro K4 hK4
  refine wp_region_lit ?_
  refine vc_y hF rfl rfl (by decide) _ (y_move rfl rfl) (fun a hF => ?_)
  refine vc_y hF rfl rfl (by decide) _ (y_neNilT rfl (by kernel_rfl) rfl rfl) (fun a hF => ?_)
  refine vc_y hF rfl rfl (by decide) _ (y_move rfl rfl) (fun a hF => ?_)
  refine vc_skip hF rfl rfl rfl rfl rfl rfl (by decide) (fun a hF => ?_)
  refine vc_skip hF rfl rfl rfl rfl rfl rfl (by decide) (fun a hF => ?_)
  refine vc_skip hF rfl rfl rfl rfl rfl rfl (by decide) (fun a hF => ?_)
  refine vc_skip hF rfl rfl rfl rfl rfl rfl (by decide) (fun a hF => ?_)
  refine vc_skip hF rfl rfl rfl rfl rfl rfl (by decide) (fun a hF => ?_)
  refine vc_y hF rfl rfl (by decide) _ (y_pick rfl rfl rfl) (fun a hF => ?_)
  refine vc_nil ?_
  refine hK4 _ _ ?_; clear  hK4 K4
  refine vc_false hF rfl ?_
  apply wp_exit
  refine hK2 _ _ ?_; clear hK3 K3 hK2 K2
  apply wp_seq_k; intro K5 hK5
  apply wp_seq_k; intro K6 hK6
  refine wp_region_plan 9 [9] [0,1,2,3,4,5,6,7,8,9] (fun x => Hq w0 ([row b1 23 (dc k)] :: R) x) (by kernel_rfl) (by kernel_rfl) (Hq.drew (Hp.qp [[row b1 23 (dc k)]] R [0] hA4)) ?_
  have hA6 := Hl.drew hA4
  refine vp_y hF rfl rfl rfl rfl (by decide) _ (fun x hx => y_move rfl rfl) (fun a hF => ?_)
  refine vp_y hF rfl rfl rfl rfl (by decide) _ (fun x hx => y_eqNilT rfl (by kernel_rfl) rfl rfl) (fun a hF => ?_)
  refine vp_y hF rfl rfl rfl rfl (by decide) _ (fun x hx => y_move rfl rfl) (fun a hF => ?_)
  refine vp_skip hF rfl rfl rfl rfl rfl rfl rfl rfl (by decide) (fun a hF => ?_)
  refine vp_skip hF rfl rfl rfl rfl rfl rfl rfl rfl (by decide) (fun a hF => ?_)
  refine vp_skip hF rfl rfl rfl rfl rfl rfl rfl rfl (by decide) (fun a hF => ?_)
  refine vp_skip hF rfl rfl rfl rfl rfl rfl rfl rfl (by decide) (fun a hF => ?_)
  refine vp_skip hF rfl rfl rfl rfl rfl rfl rfl rfl (by decide) (fun a hF => ?_)
  refine vp_skip hF rfl rfl rfl rfl rfl rfl rfl rfl (by decide) (fun a hF => ?_)
  refine vp_ly hF rfl rfl rfl rfl (by decide) _ (y_pick rfl rfl rfl) (fun h => absurd h (by decide)) (fun a hF => ?_)
  refine plan_end ?_
  refine hK6 _ _ ?_; clear  hK6 K6
  refine vc_true hF rfl ?_
  apply wp_seq_k; intro K7 hK7
  refine wp_region_lit ?_
  refine vc_y hF rfl rfl (by decide) _ (y_assign rfl rfl) (fun a hF => ?_)
  refine vc_nil ?_
  refine hK7 _ _ ?_; clear  hK7 K7
  apply wp_ret
  simp only [Exit.then]
  refine vc_ret1 hF Tryd.results64 rfl ?_
  have hA7 : Hp w0 (R) w5.drew := Hp.sel [[row b1 23 (dc k)]] R [] [0] hA6 rfl
  exact ⟨rfl, hA7⟩
end Go.Proofs.YtpomngkcfbnjoaaDoor
