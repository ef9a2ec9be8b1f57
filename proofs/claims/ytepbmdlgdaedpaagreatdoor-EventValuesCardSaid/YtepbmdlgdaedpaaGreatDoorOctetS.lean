/- octet's Reader over segments. -/
import Derived.Test.YtepbmdlgdaedpaaGreatDoorOctetH
import Derived.Test.YtepbmdlgdaedpaaGreatDoorOctetR
namespace Go.Proofs.YtepbmdlgdaedpaaGreatDoor
open Go.RowKit Go.Dk

/-- what a taking call tells of the bytes from the place on: a value and how many bytes it took, or a refusal -/
inductive Res (α : Type) where
  | ok (v : α) (k : Nat)
  | no (e : Nat)
def Res.val {α : Type} (r : Res α) (d : α) (y : Nat) : α := if y = 0 then (match r with | .ok v _ => v | .no _ => d) else d
def Res.pl {α : Type} (r : Res α) (p y : Nat) : Nat := if y = 0 then (match r with | .ok _ k => p + k | .no _ => p) else p
def Res.why {α : Type} (r : Res α) (y : Nat) : Nat := if y = 0 then (match r with | .ok _ _ => 0 | .no e => e) else y
theorem Res.skip {α : Type} (r : Res α) (d : α) (p y : Nat) (h : y ≠ 0) : r.val d y = d ∧ r.pl p y = p ∧ r.why y = y := ⟨if_neg h, if_neg h, if_neg h⟩
/-- the forms' readings -/
def rawR (r : List UInt8) (n : Int) : Res (List UInt8) := if n < 0 ∨ (r.length : Int) < n then .no 8 else .ok (r.take n.toNat) n.toNat
def numR (K : Nat) (r : List UInt8) : Res Nat := if r.length < K then .no 8 else .ok (num (r.take K)) K
def flagR (r : List UInt8) : Res Bool := if r.length < 1 ∨ 1 < num (r.take 1) then .no 8 else .ok (num (r.take 1) == 1) 1
def sizedR (K e : Nat) (r : List UInt8) (b : Int) : Res (List UInt8) :=
  if r.length < K then .no 8 else if b < (num (r.take K) : Int) then .no e else if r.length - K < num (r.take K) then .no 8 else .ok ((r.drop K).take (num (r.take K))) (K + num (r.take K))
abbrev textR (r : List UInt8) (most : Int) : Res (List UInt8) := sizedR 2 6 r (bnd most 65535)
abbrev bytesR (r : List UInt8) (most : Int) : Res (List UInt8) := sizedR 4 6 r (bnd most 2147483647)
theorem nR (K : Nat) (l : List UInt8) (p y : Nat) (hp : p ≤ l.length) : tkN K l p y = (numR K (l.drop p)).val 0 y ∧ tkP K l p y = (numR K (l.drop p)).pl p y ∧ tkY K l p y = (numR K (l.drop p)).why y := by
  unfold tkN tkP tkY ahN ahTo numR Res.val Res.pl Res.why
  rw [List.length_drop]
  by_cases hy : y = 0
  · subst hy
    by_cases h : p + K ≤ l.length
    · have h4 : ¬ l.length - p < K := by omega
      simp [h, h4]
    · have h4 : l.length - p < K := by omega
      simp [h, h4]
  · simp [hy]
theorem fR (l : List UInt8) (p y : Nat) (hp : p ≤ l.length) : flB l p y = (flagR (l.drop p)).val false y ∧ flP l p y = (flagR (l.drop p)).pl p y ∧ flY l p y = (flagR (l.drop p)).why y := by
  unfold flB flP flY flOk flagR Res.val Res.pl Res.why ahOk ahN
  rw [List.length_drop]
  by_cases hy : y = 0
  · subst hy
    by_cases h : p + 1 ≤ l.length
    · by_cases h2 : num ((l.drop p).take 1) ≤ 1
      · have h3 : ¬ 1 < num ((l.drop p).take 1) := by omega
        have h4 : ¬ l.length - p < 1 := by omega
        simp [h, h2, h3, h4]
      · have h3 : 1 < num ((l.drop p).take 1) := by omega
        have h4 : ¬ num ((l.drop p).take 1) = 1 := by omega
        simp [h, h2, h3, h4]
    · have h4 : l.length - p < 1 := by omega
      simp [h, h4]
  · simp [hy]
theorem bridge {w0 w : World} {R : List Seg} {X : Seg} {rb : Nat} {vs : List Value} {A : Option Addr} {l : List UInt8} {c : Nat} (hA : Hp w0 ([row rb 152 vs] :: X :: R) w) (hO : Buf 5 1 X (.slice A l.length c) l.length (dc l)) :
    (∀ (v : List Value) (x : World), At w ((rb, 152, v) :: []) x → Bts x A l) ∧ l.length ≤ c ∧ Bts w A l ∧ Rd w0 (X :: R) A l := by
  obtain ⟨_, A', c', h1, h2, h3⟩ := hO.rd (w0 := w0) (R := X :: R) (List.mem_cons_self ..)
  injection h1 with h1 _ h1c
  subst h1 h1c
  have hB : Bts w A l := Rc.bts h3 (Hq.sub hA.q (fun _ h => List.mem_cons_of_mem _ h))
  refine ⟨fun v x hx => hB.at_ hx (fun r hr => ?_), h2, hB, h3⟩
  simp only [List.mem_cons, List.not_mem_nil, or_false] at hr
  subst hr
  rcases hO.2 with ⟨h4, _, _⟩ | ⟨g, c2, B, Z, h4, _, _, h5⟩
  · injection h4 with h4; intro ad he; rw [h4] at he; cases he
  · injection h4 with h4
    intro ad he
    rw [h4] at he
    injection he with he
    subst he
    have hd := hA.dist
    rw [h5] at hd
    simp only [List.flatten_cons, List.map_append, List.map_cons, List.map_nil, List.cons_append, List.nil_append, List.nodup_cons, List.mem_cons, not_or] at hd
    exact fun e => hd.1.1 e.symm
theorem nr3_hr : notRow Tryz.prog 3 = true := by kernel_rfl
theorem nr9_hr : notRow Tryz.prog 9 = true := by kernel_rfl
theorem nr27_hr : notRow Tryz.prog 27 = true := by kernel_rfl
theorem nr40_hr : notRow Tryz.prog 40 = true := by kernel_rfl
theorem rw29_hr : isRow Tryz.prog 29 32 = true := by kernel_rfl
theorem sz3_hr : (Tryz.prog.info? 3).map (·.size) = some 1 := by kernel_rfl
theorem sz9_hr : (Tryz.prog.info? 9).map (·.size) = some 1 := by kernel_rfl
theorem sz27_hr : (Tryz.prog.info? 27).map (·.size) = some 1 := by kernel_rfl
theorem sz29_hr : (Tryz.prog.info? 29).map (·.size) = some 32 := by kernel_rfl
theorem sz40_hr : (Tryz.prog.info? 40).map (·.size) = some 1 := by kernel_rfl
theorem cl34_hr : CallsTo Tryz.prog 34 := ⟨_, Tryz.func34, by kernel_rfl, by kernel_rfl⟩
theorem cl97_hr : CallsTo Tryz.prog 97 := ⟨_, Tryz.func97, by kernel_rfl, by kernel_rfl⟩
theorem cl98_hr : CallsTo Tryz.prog 98 := ⟨_, Tryz.func98, by kernel_rfl, by kernel_rfl⟩
theorem cl139_hr : CallsTo Tryz.prog 139 := ⟨_, Tryz.func139, by kernel_rfl, by kernel_rfl⟩
theorem cl141_hr : CallsTo Tryz.prog 141 := ⟨_, Tryz.func141, by kernel_rfl, by kernel_rfl⟩
theorem cl142_hr : CallsTo Tryz.prog 142 := ⟨_, Tryz.func142, by kernel_rfl, by kernel_rfl⟩

theorem zr29_hr : zeroIs Tryz.prog 29 (.agg (dc (List.replicate 32 0)).toArray) := by unfold zeroIs; kernel_rfl

theorem hr_take_uint8 (w0 w : World) (R : List Seg) (rb : Nat) (A : Option Addr) (l : List UInt8) (c p y : Nat) (X : Seg) (hO : Buf 5 1 X (.slice A l.length c) l.length (dc l)) (hA : Hp w0 ([row rb 152 [.slice A l.length c, .int .i64 (p : Nat), .int .i64 (y : Nat)]] :: X :: R) w) (hp : p ≤ l.length) (hl : l.length < 140737488354000) : Calls Tryz.prog 32 #[.pointer (some ⟨rb, 0, none⟩)] w fun e w' => e = .returned (.int .u8 ((numR 1 (l.drop p)).val 0 y : Nat)) ∧ Hp w0 ([row rb 152 [.slice A l.length c, .int .i64 ((numR 1 (l.drop p)).pl p y : Nat), .int .i64 ((numR 1 (l.drop p)).why y : Nat)]] :: X :: R) w' := by
  obtain ⟨hB, hc, _, _⟩ := bridge hA hO
  obtain ⟨e1, e2, e3⟩ := nR 1 l p y hp
  refine (or_take_uint8 w w rb [] A l c p y hB hc (hA.at1 (i := 0) rfl) hp hl).mono fun e w' ⟨h1, h2⟩ => ⟨by rw [h1, e1], ?_⟩
  have h3 := Hp.then1 hA (i := 0) rfl h2
  rw [e2, e3] at h3
  exact h3

theorem hr_take_uint64 (w0 w : World) (R : List Seg) (rb : Nat) (A : Option Addr) (l : List UInt8) (c p y : Nat) (X : Seg) (hO : Buf 5 1 X (.slice A l.length c) l.length (dc l)) (hA : Hp w0 ([row rb 152 [.slice A l.length c, .int .i64 (p : Nat), .int .i64 (y : Nat)]] :: X :: R) w) (hp : p ≤ l.length) (hl : l.length < 140737488354000) : Calls Tryz.prog 80 #[.pointer (some ⟨rb, 0, none⟩)] w fun e w' => e = .returned (.int .u64 ((numR 8 (l.drop p)).val 0 y : Nat)) ∧ Hp w0 ([row rb 152 [.slice A l.length c, .int .i64 ((numR 8 (l.drop p)).pl p y : Nat), .int .i64 ((numR 8 (l.drop p)).why y : Nat)]] :: X :: R) w' := by
  obtain ⟨hB, hc, _, _⟩ := bridge hA hO
  obtain ⟨e1, e2, e3⟩ := nR 8 l p y hp
  refine (or_take_uint64 w w rb [] A l c p y hB hc (hA.at1 (i := 0) rfl) hp hl).mono fun e w' ⟨h1, h2⟩ => ⟨by rw [h1, e1], ?_⟩
  have h3 := Hp.then1 hA (i := 0) rfl h2
  rw [e2, e3] at h3
  exact h3

theorem hr_ahead_uint16 (w0 w : World) (R : List Seg) (rb : Nat) (A : Option Addr) (l : List UInt8) (c p y : Nat) (X : Seg) (q : Nat) (hO : Buf 5 1 X (.slice A l.length c) l.length (dc l)) (hA : Hp w0 ([row rb 152 [.slice A l.length c, .int .i64 (p : Nat), .int .i64 (y : Nat)]] :: X :: R) w) (hl : l.length < 140737488354000) (hq : q ≤ l.length) : Calls Tryz.prog 98 #[.pointer (some ⟨rb, 0, none⟩), .int .i64 (q : Int)] w fun e w' => e = .returned (.tuple #[.int .u16 (ahN 2 l q : Int), .int .i64 (ahTo 2 l q : Int), .bool (ahOk 2 l q)]) ∧ w = w' := by
  obtain ⟨hB, hc, _, _⟩ := bridge hA hO
  exact or_ahead_uint16 w w rb [] A l c p y q hB hc (hA.at1 (i := 0) rfl) hl hq

theorem hr_ahead_uint32 (w0 w : World) (R : List Seg) (rb : Nat) (A : Option Addr) (l : List UInt8) (c p y : Nat) (X : Seg) (q : Nat) (hO : Buf 5 1 X (.slice A l.length c) l.length (dc l)) (hA : Hp w0 ([row rb 152 [.slice A l.length c, .int .i64 (p : Nat), .int .i64 (y : Nat)]] :: X :: R) w) (hl : l.length < 140737488354000) (hq : q ≤ l.length) : Calls Tryz.prog 142 #[.pointer (some ⟨rb, 0, none⟩), .int .i64 (q : Int)] w fun e w' => e = .returned (.tuple #[.int .u32 (ahN 4 l q : Int), .int .i64 (ahTo 4 l q : Int), .bool (ahOk 4 l q)]) ∧ w = w' := by
  obtain ⟨hB, hc, _, _⟩ := bridge hA hO
  exact or_ahead_uint32 w w rb [] A l c p y q hB hc (hA.at1 (i := 0) rfl) hl hq

theorem hr_refuse (w0 w : World) (R : List Seg) (rb : Nat) (A : Option Addr) (l : List UInt8) (c p y : Nat) (X : Seg) (e : Nat) (z : Int) (hz : z = e) (hy : y = 0) (hA : Hp w0 ([row rb 152 [.slice A l.length c, .int .i64 (p : Nat), .int .i64 (y : Nat)]] :: X :: R) w) : Calls Tryz.prog 97 #[.pointer (some ⟨rb, 0, none⟩), .int .i64 z] w fun e' w' => e' = .returned (.tuple #[]) ∧ Hp w0 ([row rb 152 [.slice A l.length c, .int .i64 (p : Nat), .int .i64 (e : Nat)]] :: X :: R) w' := by
  refine (or_refuse w w rb [] A l c p y e z hz (hA.at1 (i := 0) rfl)).mono fun e' w' ⟨h1, h2⟩ => ⟨h1, ?_⟩
  have h3 := Hp.then1 hA (i := 0) rfl h2
  rw [if_pos hy] at h3
  exact h3

theorem hr_flag (w0 w : World) (R : List Seg) (rb : Nat) (A : Option Addr) (l : List UInt8) (c p y : Nat) (X : Seg) (hO : Buf 5 1 X (.slice A l.length c) l.length (dc l)) (hA : Hp w0 ([row rb 152 [.slice A l.length c, .int .i64 (p : Nat), .int .i64 (y : Nat)]] :: X :: R) w) (hp : p ≤ l.length) (hl : l.length < 140737488354000) : Calls Tryz.prog 99 #[.pointer (some ⟨rb, 0, none⟩)] w fun e w' => e = .returned (.bool ((flagR (l.drop p)).val false y)) ∧ Hp w0 ([row rb 152 [.slice A l.length c, .int .i64 ((flagR (l.drop p)).pl p y : Nat), .int .i64 ((flagR (l.drop p)).why y : Nat)]] :: X :: R) w' := by
  obtain ⟨hB, hc, _, _⟩ := bridge hA hO
  obtain ⟨e1, e2, e3⟩ := fR l p y hp
  refine (or_flag w w rb [] A l c p y hB hc (hA.at1 (i := 0) rfl) hp hl).mono fun e w' ⟨h1, h2⟩ => ⟨by rw [h1, e1], ?_⟩
  have h3 := Hp.then1 hA (i := 0) rfl h2
  rw [e2, e3] at h3
  exact h3

theorem hr_left (w0 w : World) (R : List Seg) (rb : Nat) (A : Option Addr) (l : List UInt8) (c p y : Nat) (X : Seg) (hO : Buf 5 1 X (.slice A l.length c) l.length (dc l)) (hA : Hp w0 ([row rb 152 [.slice A l.length c, .int .i64 (p : Nat), .int .i64 (y : Nat)]] :: X :: R) w) (hp : p ≤ l.length) (hl : l.length < 140737488354000) : Calls Tryz.prog 52 #[.pointer (some ⟨rb, 0, none⟩)] w fun e w' => e = .returned (.int .i64 ((l.length - p : Nat) : Int)) ∧ Hp w0 ([row rb 152 [.slice A l.length c, .int .i64 (p : Nat), .int .i64 (y : Nat)]] :: X :: R) w' := by
  refine (or_left w w rb [] A l c p y (hA.at1 (i := 0) rfl) hp hl).mono fun e w' ⟨h1, h2⟩ => ⟨h1, ?_⟩
  exact Hp.then1 hA (i := 0) rfl h2

theorem hr_why (w0 w : World) (R : List Seg) (rb : Nat) (A : Option Addr) (l : List UInt8) (c p y : Nat) (X : Seg) (hO : Buf 5 1 X (.slice A l.length c) l.length (dc l)) (hA : Hp w0 ([row rb 152 [.slice A l.length c, .int .i64 (p : Nat), .int .i64 (y : Nat)]] :: X :: R) w) : Calls Tryz.prog 53 #[.pointer (some ⟨rb, 0, none⟩)] w fun e w' => e = .returned (.int .i64 (y : Int)) ∧ Hp w0 ([row rb 152 [.slice A l.length c, .int .i64 (p : Nat), .int .i64 (y : Nat)]] :: X :: R) w' := by
  refine (or_why w w rb [] A l c p y (hA.at1 (i := 0) rfl) ).mono fun e w' ⟨h1, h2⟩ => ⟨h1, ?_⟩
  exact Hp.then1 hA (i := 0) rfl h2

theorem hr_done (w0 w : World) (R : List Seg) (rb : Nat) (A : Option Addr) (l : List UInt8) (c p y : Nat) (X : Seg) (hO : Buf 5 1 X (.slice A l.length c) l.length (dc l)) (hA : Hp w0 ([row rb 152 [.slice A l.length c, .int .i64 (p : Nat), .int .i64 (y : Nat)]] :: X :: R) w) (hp : p ≤ l.length) (hl : l.length < 140737488354000) : Calls Tryz.prog 84 #[.pointer (some ⟨rb, 0, none⟩)] w fun e w' => e = .returned (.int .i64 ((if y = 0 ∧ p < l.length then 8 else y : Nat) : Int)) ∧ Hp w0 ([row rb 152 [.slice A l.length c, .int .i64 (p : Nat), .int .i64 (y : Nat)]] :: X :: R) w' := by
  refine (or_done w w rb [] A l c p y (hA.at1 (i := 0) rfl) hp hl).mono fun e w' ⟨h1, h2⟩ => ⟨h1, ?_⟩
  exact Hp.then1 hA (i := 0) rfl h2

set_option maxRecDepth 100000 in
set_option maxHeartbeats 1000000 in
theorem hr_read (w0 w : World) (R : List Seg) (A : Option Addr) (l : List UInt8) (c : Nat) (hB : Rd w0 R A l) (hA : Hp w0 R w) (hl : l.length < 140737488354000) : Calls Tryz.prog 31 #[.slice A l.length c] w fun e w' => ∃ g A2 c2 X, e = .returned (.pointer (some ⟨g, 0, none⟩)) ∧ Buf 5 1 X (.slice A2 l.length c2) l.length (dc l) ∧ Hp w0 ([row g 152 [.slice A2 l.length c2, .int .i64 (0 : Nat), .int .i64 (0 : Nat)]] :: X :: R) w' := by
  have hA0 := Hp.nil hA
  refine vc_enter Tryz.func31 rfl Tryz.ntmps31 (Nat.le_of_ble_eq_true rfl) (fun a hF => ?_)
  apply wp_seq_k; intro K1 hK1
  refine wp_region_lit ?_
  refine vc_y hF rfl rfl (by decide) _ (y_assign rfl rfl) (fun a hF => ?_)
  refine vc_nil ?_
  refine hK1 _ _ ?_; clear  hK1 K1
  apply wp_seq_k; intro K2 hK2
  refine wp_region_lit ?_
  refine vc_y hF rfl rfl (by decide) _ (y_move rfl rfl) (fun a hF => ?_)
  refine vc_op rfl (fun K hK => hs_append hF rfl (by decide) rfl hA0 0 rfl (Buf.nil 5 1) Tryz.underlying27 ow_elem5 rfl rfl ((hB.bts (Hq.sub hA0.q (fun _ h => List.mem_cons_of_mem _ h))).src Tryz.underlying27) (by omega) (by decide) (fun v2 X2 w1 a hO2 hF hA2 => hK _ _ ?_))
  clear hK K
  replace hA2 : Hp w0 (X2 :: R) w1 := hA2
  rw [List.nil_append, Nat.zero_add] at hO2
  obtain ⟨_, A2, c2, rfl, hc2, _⟩ := hO2.rd (w0 := w0) (R := [X2]) (List.mem_cons_self ..)
  refine vc_y hF rfl rfl (by decide) _ (y_build1 rfl rfl (or_build A2 l.length c2)) (fun a hF => ?_)
  refine vc_op rfl (fun K hK => hs_box (cs := [.slice A2 l.length c2, .int .i64 ((0 : Nat) : Int), .int .i64 ((0 : Nat) : Int)]) hF rfl (by decide) rfl hA2 rfl (fun b3 w4 a hb3 hF hA5 => hK _ _ ?_))
  clear hK K
  replace hA5 : Hp w0 ([row b3 152 [.slice A2 l.length c2, .int .i64 ((0 : Nat) : Int), .int .i64 ((0 : Nat) : Int)]] :: X2 :: R) w4 := hA5
  refine vc_y hF rfl rfl (by decide) _ (y_assign rfl rfl) (fun a hF => ?_)
  refine vc_nil ?_
  refine hK2 _ _ ?_; clear  hK2 K2
  apply wp_ret
  refine vc_ret1 hF Tryz.results31 rfl ?_
  exact ⟨_, A2, c2, X2, rfl, hO2, hA5⟩

set_option maxRecDepth 100000 in
set_option maxHeartbeats 1000000 in
theorem hr_raw (w0 w : World) (R : List Seg) (rb : Nat) (A : Option Addr) (l : List UInt8) (c p y : Nat) (X : Seg) (n : Int) (hO : Buf 5 1 X (.slice A l.length c) l.length (dc l)) (hA : Hp w0 ([row rb 152 [.slice A l.length c, .int .i64 (p : Nat), .int .i64 (y : Nat)]] :: X :: R) w) (hp : p ≤ l.length) (hl : l.length < 140737488354000) (hn64 : -9223372036854775808 ≤ n ∧ n ≤ 9223372036854775807) : Calls Tryz.prog 34 #[.pointer (some ⟨rb, 0, none⟩), .int .i64 n] w fun e w' => ∃ v Z, e = .returned v ∧ Buf 5 1 Z v ((rawR (l.drop p) n).val [] y).length (dc ((rawR (l.drop p) n).val [] y)) ∧ Hp w0 (Z :: [row rb 152 [.slice A l.length c, .int .i64 ((rawR (l.drop p) n).pl p y : Nat), .int .i64 ((rawR (l.drop p) n).why y : Nat)]] :: X :: R) w' := by
  refine vc_enter Tryz.func34 rfl Tryz.ntmps34 (Nat.le_of_ble_eq_true rfl) (fun a hF => ?_)
  apply wp_seq_k; intro K1 hK1
  refine wp_region_lit ?_
  refine vc_y hF rfl rfl (by decide) _ (y_assign rfl rfl) (fun a hF => ?_)
  refine vc_nil ?_
  refine hK1 _ _ ?_; clear  hK1 K1
  apply wp_seq_k; intro K2 hK2
  apply wp_seq_k; intro K3 hK3
  refine wp_region_lit ?_
  refine vc_y hF rfl rfl (by decide) _ (y_move rfl rfl) (fun a hF => ?_)
  refine vc_y hF rfl rfl (by decide) _ (y_nilCheck rfl rfl) (fun a hF => ?_)
  refine vc_y hF rfl rfl (by decide) _ (y_field rfl Tryz.underlying152 rfl sz40_hr (by decide) rfl (rfl : (⟨_, 0 + _, none⟩ : Addr) = ⟨_, 2, none⟩)) (fun a hF => ?_)
  refine vc_y hF rfl rfl (by decide) _ (y_ld rfl hA.q rfl 0 rfl rfl nr40_hr) (fun a hF => ?_)
  refine vc_y hF rfl rfl (by decide) _ (y_cmp rfl rfl rfl rfl rfl) (fun a hF => ?_)
  refine vc_nil ?_
  refine hK3 _ _ ?_; clear  hK3 K3
  by_cases hy : y ≠ 0
  · refine vc_trueB hF rfl (neq_t (by omega)) ?_
    apply wp_seq_k; intro K4 hK4
    refine wp_region_lit ?_
    refine vc_y hF rfl rfl (by decide) _ (y_assign rfl rfl) (fun a hF => ?_)
    refine vc_nil ?_
    refine hK4 _ _ ?_; clear  hK4 K4
    apply wp_ret
    simp only [Exit.then]
    refine vc_ret1 hF Tryz.results34 rfl ?_
    obtain ⟨e1, e2, e3⟩ := Res.skip (rawR (l.drop p) n) [] p y hy
    rw [e1, e2, e3]
    exact ⟨_, [], rfl, Buf.nil _ _, Hp.nil hA⟩
  · obtain rfl : y = 0 := by omega
    refine vc_falseB hF rfl (neq_f rfl) ?_
    by_cases hn : n < 0
    · have e1 : rawR (l.drop p) n = .no 8 := if_pos (.inl hn)
      apply wp_skip
      refine hK2 _ _ ?_; clear  hK2 K2
      apply wp_seq_k; intro K5 hK5
      apply wp_seq_k; intro K6 hK6
      refine wp_region_plan 15 [15] [0,1,2,3,4,5,6,7,8,9,10,11,12,13,14,15] (fun x => Hq w0 ([row rb 152 [.slice A l.length c, .int .i64 (p : Int), .int .i64 ((0 : Nat) : Int)]] :: X :: R) x) (by kernel_rfl) (by kernel_rfl) (Hq.drew (Hp.qp [[row rb 152 [.slice A l.length c, .int .i64 (p : Int), .int .i64 ((0 : Nat) : Int)]], X] R [0, 1] hA)) ?_
      have hA1 := Hl.drew hA
      refine vp_y hF rfl rfl rfl rfl (by decide) _ (fun x hx => y_move rfl rfl) (fun a hF => ?_)
      refine vp_y hF rfl rfl rfl rfl (by decide) _ (fun x hx => y_cmp rfl rfl rfl rfl (lss_t (by omega))) (fun a hF => ?_)
      refine vp_y hF rfl rfl rfl rfl (by decide) _ (fun x hx => y_move rfl rfl) (fun a hF => ?_)
      refine vp_skip hF rfl rfl rfl rfl rfl rfl rfl rfl (by decide) (fun a hF => ?_)
      refine vp_skip hF rfl rfl rfl rfl rfl rfl rfl rfl (by decide) (fun a hF => ?_)
      refine vp_skip hF rfl rfl rfl rfl rfl rfl rfl rfl (by decide) (fun a hF => ?_)
      refine vp_skip hF rfl rfl rfl rfl rfl rfl rfl rfl (by decide) (fun a hF => ?_)
      refine vp_skip hF rfl rfl rfl rfl rfl rfl rfl rfl (by decide) (fun a hF => ?_)
      refine vp_skip hF rfl rfl rfl rfl rfl rfl rfl rfl (by decide) (fun a hF => ?_)
      refine vp_skip hF rfl rfl rfl rfl rfl rfl rfl rfl (by decide) (fun a hF => ?_)
      refine vp_skip hF rfl rfl rfl rfl rfl rfl rfl rfl (by decide) (fun a hF => ?_)
      refine vp_skip hF rfl rfl rfl rfl rfl rfl rfl rfl (by decide) (fun a hF => ?_)
      refine vp_skip hF rfl rfl rfl rfl rfl rfl rfl rfl (by decide) (fun a hF => ?_)
      refine vp_skip hF rfl rfl rfl rfl rfl rfl rfl rfl (by decide) (fun a hF => ?_)
      refine vp_skip hF rfl rfl rfl rfl rfl rfl rfl rfl (by decide) (fun a hF => ?_)
      refine vp_ly hF rfl rfl rfl rfl (by decide) _ (y_pick rfl rfl rfl) (fun h => absurd h (by decide)) (fun a hF => ?_)
      refine plan_end ?_
      refine hK6 _ _ ?_; clear  hK6 K6
      refine vc_true hF rfl ?_
      apply wp_seq_k; intro K7 hK7
      refine wp_region_lit ?_
      refine vc_y hF rfl rfl (by decide) _ (y_move rfl rfl) (fun a hF => ?_)
      refine vc_op rfl (fun K hK => ws_call hF rfl (by decide) cl97_hr rfl rfl ?_)
      with_reducible refine (hr_refuse w0 _ _ rb A l c p _ X 8 8 rfl rfl hA1 ).mono ?_
      rintro e' w2 ⟨rfl, hA3⟩
      refine ⟨_, rfl, fun a hF => hK _ _ ?_⟩
      clear hK K
      replace hA3 : Hp w0 ([row rb 152 [.slice A l.length c, .int .i64 (p : Int), .int .i64 ((8 : Nat) : Int)]] :: X :: R) w2 := hA3
      refine vc_nil ?_
      refine hK7 _ _ ?_; clear  hK7 K7
      apply wp_seq_k; intro K8 hK8
      refine wp_region_lit ?_
      refine vc_y hF rfl rfl (by decide) _ (y_assign rfl rfl) (fun a hF => ?_)
      refine vc_nil ?_
      refine hK8 _ _ ?_; clear  hK8 K8
      apply wp_ret
      simp only [Exit.then]
      refine vc_ret1 hF Tryz.results34 rfl ?_
      rw [e1]
      exact ⟨_, [], rfl, Buf.nil _ _, Hp.nil hA3⟩
    · by_cases hg : (l.length : Int) - p < n
      · have e1 : rawR (l.drop p) n = .no 8 := if_pos (.inr (by rw [List.length_drop]; omega))
        apply wp_skip
        refine hK2 _ _ ?_; clear  hK2 K2
        apply wp_seq_k; intro K9 hK9
        apply wp_seq_k; intro K10 hK10
        refine wp_region_plan 15 [15] [0,1,2,3,4,5,6,7,8,9,10,11,12,13,14,15] (fun x => Hq w0 ([row rb 152 [.slice A l.length c, .int .i64 (p : Int), .int .i64 ((0 : Nat) : Int)]] :: X :: R) x) (by kernel_rfl) (by kernel_rfl) (Hq.drew (Hp.qp [[row rb 152 [.slice A l.length c, .int .i64 (p : Int), .int .i64 ((0 : Nat) : Int)]], X] R [0, 1] hA)) ?_
        have hA4 := Hl.drew hA
        refine vp_y hF rfl rfl rfl rfl (by decide) _ (fun x hx => y_move rfl rfl) (fun a hF => ?_)
        refine vp_y hF rfl rfl rfl rfl (by decide) _ (fun x hx => y_cmp rfl rfl rfl rfl (lss_f (by omega))) (fun a hF => ?_)
        refine vp_y hF rfl rfl rfl rfl (by decide) _ (fun x hx => y_move rfl rfl) (fun a hF => ?_)
        refine vp_yg hF rfl rfl rfl rfl rfl rfl rfl (by decide) _ (fun x hx => y_move rfl rfl) (fun a hF => ?_)
        refine vp_yg hF rfl rfl rfl rfl rfl rfl rfl (by decide) _ (fun x hx => y_move rfl rfl) (fun a hF => ?_)
        refine vp_yg hF rfl rfl rfl rfl rfl rfl rfl (by decide) _ (fun x hx => y_nilCheck rfl rfl) (fun a hF => ?_)
        refine vp_yg hF rfl rfl rfl rfl rfl rfl rfl (by decide) _ (fun x hx => y_field rfl Tryz.underlying152 rfl sz27_hr (by decide) rfl (rfl : (⟨_, 0 + _, none⟩ : Addr) = ⟨_, 0, none⟩)) (fun a hF => ?_)
        refine vp_yg hF rfl rfl rfl rfl rfl rfl rfl (by decide) _ (fun x hx => y_ld rfl hx rfl 0 rfl rfl nr27_hr) (fun a hF => ?_)
        refine vp_yg hF rfl rfl rfl rfl rfl rfl rfl (by decide) _ (fun x hx => y_lenSl rfl Tryz.underlying27 rfl rfl) (fun a hF => ?_)
        refine vp_yg hF rfl rfl rfl rfl rfl rfl rfl (by decide) _ (fun x hx => y_move rfl rfl) (fun a hF => ?_)
        refine vp_yg hF rfl rfl rfl rfl rfl rfl rfl (by decide) _ (fun x hx => y_nilCheck rfl rfl) (fun a hF => ?_)
        refine vp_yg hF rfl rfl rfl rfl rfl rfl rfl (by decide) _ (fun x hx => y_field rfl Tryz.underlying152 rfl sz3_hr (by decide) rfl (rfl : (⟨_, 0 + _, none⟩ : Addr) = ⟨_, 1, none⟩)) (fun a hF => ?_)
        refine vp_yg hF rfl rfl rfl rfl rfl rfl rfl (by decide) _ (fun x hx => y_ld rfl hx rfl 0 rfl rfl nr3_hr) (fun a hF => ?_)
        refine vp_yg hF rfl rfl rfl rfl rfl rfl rfl (by decide) _ (fun x hx => y_sub rfl rfl rfl (IntWalk.i64_in _ (by omega))) (fun a hF => ?_)
        refine vp_yg hF rfl rfl rfl rfl rfl rfl rfl (by decide) _ (fun x hx => y_cmp rfl rfl rfl rfl (gtr_t (by omega))) (fun a hF => ?_)
        refine vp_ly hF rfl rfl rfl rfl (by decide) _ (y_pick rfl rfl rfl) (fun h => absurd h (by decide)) (fun a hF => ?_)
        refine plan_end ?_
        refine hK10 _ _ ?_; clear  hK10 K10
        refine vc_true hF rfl ?_
        apply wp_seq_k; intro K11 hK11
        refine wp_region_lit ?_
        refine vc_y hF rfl rfl (by decide) _ (y_move rfl rfl) (fun a hF => ?_)
        refine vc_op rfl (fun K hK => ws_call hF rfl (by decide) cl97_hr rfl rfl ?_)
        with_reducible refine (hr_refuse w0 _ _ rb A l c p _ X 8 8 rfl rfl hA4 ).mono ?_
        rintro e' w5 ⟨rfl, hA6⟩
        refine ⟨_, rfl, fun a hF => hK _ _ ?_⟩
        clear hK K
        replace hA6 : Hp w0 ([row rb 152 [.slice A l.length c, .int .i64 (p : Int), .int .i64 ((8 : Nat) : Int)]] :: X :: R) w5 := hA6
        refine vc_nil ?_
        refine hK11 _ _ ?_; clear  hK11 K11
        apply wp_seq_k; intro K12 hK12
        refine wp_region_lit ?_
        refine vc_y hF rfl rfl (by decide) _ (y_assign rfl rfl) (fun a hF => ?_)
        refine vc_nil ?_
        refine hK12 _ _ ?_; clear  hK12 K12
        apply wp_ret
        simp only [Exit.then]
        refine vc_ret1 hF Tryz.results34 rfl ?_
        rw [e1]
        exact ⟨_, [], rfl, Buf.nil _ _, Hp.nil hA6⟩
      · obtain ⟨k, rfl⟩ := Int.eq_ofNat_of_zero_le (show 0 ≤ n by omega)
        have hk : p + k ≤ l.length := by omega
        have e1 : rawR (l.drop p) (k : Int) = .ok ((l.drop p).take k) k := if_neg (by rw [List.length_drop]; omega)
        obtain ⟨_, hc, _, hB⟩ := bridge hA hO
        apply wp_skip
        refine hK2 _ _ ?_; clear  hK2 K2
        apply wp_seq_k; intro K13 hK13
        apply wp_seq_k; intro K14 hK14
        refine wp_region_plan 15 [15] [0,1,2,3,4,5,6,7,8,9,10,11,12,13,14,15] (fun x => Hq w0 ([row rb 152 [.slice A l.length c, .int .i64 (p : Int), .int .i64 ((0 : Nat) : Int)]] :: X :: R) x) (by kernel_rfl) (by kernel_rfl) (Hq.drew (Hp.qp [[row rb 152 [.slice A l.length c, .int .i64 (p : Int), .int .i64 ((0 : Nat) : Int)]], X] R [0, 1] hA)) ?_
        have hA7 := Hl.drew hA
        refine vp_y hF rfl rfl rfl rfl (by decide) _ (fun x hx => y_move rfl rfl) (fun a hF => ?_)
        refine vp_y hF rfl rfl rfl rfl (by decide) _ (fun x hx => y_cmp rfl rfl rfl rfl (lss_f (by omega))) (fun a hF => ?_)
        refine vp_y hF rfl rfl rfl rfl (by decide) _ (fun x hx => y_move rfl rfl) (fun a hF => ?_)
        refine vp_yg hF rfl rfl rfl rfl rfl rfl rfl (by decide) _ (fun x hx => y_move rfl rfl) (fun a hF => ?_)
        refine vp_yg hF rfl rfl rfl rfl rfl rfl rfl (by decide) _ (fun x hx => y_move rfl rfl) (fun a hF => ?_)
        refine vp_yg hF rfl rfl rfl rfl rfl rfl rfl (by decide) _ (fun x hx => y_nilCheck rfl rfl) (fun a hF => ?_)
        refine vp_yg hF rfl rfl rfl rfl rfl rfl rfl (by decide) _ (fun x hx => y_field rfl Tryz.underlying152 rfl sz27_hr (by decide) rfl (rfl : (⟨_, 0 + _, none⟩ : Addr) = ⟨_, 0, none⟩)) (fun a hF => ?_)
        refine vp_yg hF rfl rfl rfl rfl rfl rfl rfl (by decide) _ (fun x hx => y_ld rfl hx rfl 0 rfl rfl nr27_hr) (fun a hF => ?_)
        refine vp_yg hF rfl rfl rfl rfl rfl rfl rfl (by decide) _ (fun x hx => y_lenSl rfl Tryz.underlying27 rfl rfl) (fun a hF => ?_)
        refine vp_yg hF rfl rfl rfl rfl rfl rfl rfl (by decide) _ (fun x hx => y_move rfl rfl) (fun a hF => ?_)
        refine vp_yg hF rfl rfl rfl rfl rfl rfl rfl (by decide) _ (fun x hx => y_nilCheck rfl rfl) (fun a hF => ?_)
        refine vp_yg hF rfl rfl rfl rfl rfl rfl rfl (by decide) _ (fun x hx => y_field rfl Tryz.underlying152 rfl sz3_hr (by decide) rfl (rfl : (⟨_, 0 + _, none⟩ : Addr) = ⟨_, 1, none⟩)) (fun a hF => ?_)
        refine vp_yg hF rfl rfl rfl rfl rfl rfl rfl (by decide) _ (fun x hx => y_ld rfl hx rfl 0 rfl rfl nr3_hr) (fun a hF => ?_)
        refine vp_yg hF rfl rfl rfl rfl rfl rfl rfl (by decide) _ (fun x hx => y_sub rfl rfl rfl (IntWalk.i64_in _ (by omega))) (fun a hF => ?_)
        refine vp_yg hF rfl rfl rfl rfl rfl rfl rfl (by decide) _ (fun x hx => y_cmp rfl rfl rfl rfl (gtr_f (by omega))) (fun a hF => ?_)
        refine vp_ly hF rfl rfl rfl rfl (by decide) _ (y_pick rfl rfl rfl) (fun h => absurd h (by decide)) (fun a hF => ?_)
        refine plan_end ?_
        refine hK14 _ _ ?_; clear  hK14 K14
        refine vc_false hF rfl ?_
        apply wp_skip
        refine hK13 _ _ ?_; clear  hK13 K13
        apply wp_seq_k; intro K15 hK15
        refine wp_region_lit ?_
        refine vc_y hF rfl rfl (by decide) _ (y_move rfl rfl) (fun a hF => ?_)
        refine vc_y hF rfl rfl (by decide) _ (y_nilCheck rfl rfl) (fun a hF => ?_)
        refine vc_y hF rfl rfl (by decide) _ (y_field rfl Tryz.underlying152 rfl sz3_hr (by decide) rfl (rfl : (⟨_, 0 + _, none⟩ : Addr) = ⟨_, 1, none⟩)) (fun a hF => ?_)
        refine vc_y hF rfl rfl (by decide) _ (y_ld rfl hA7.q rfl 0 rfl rfl nr3_hr) (fun a hF => ?_)
        refine vc_y hF rfl rfl (by decide) _ (y_move rfl rfl) (fun a hF => ?_)
        refine vc_y hF rfl rfl (by decide) _ (y_add rfl rfl rfl (show IntKind.i64.wrap ((p : Int) + (k : Int)) = ((p + k : Nat) : Int) by rw [IntWalk.i64_in _ (by omega)]; omega)) (fun a hF => ?_)
        refine vc_y hF rfl rfl (by decide) _ (y_nilCheck rfl rfl) (fun a hF => ?_)
        refine vc_y hF rfl rfl (by decide) _ (y_field rfl Tryz.underlying152 rfl sz3_hr (by decide) rfl (rfl : (⟨_, 0 + _, none⟩ : Addr) = ⟨_, 1, none⟩)) (fun a hF => ?_)
        refine vc_op rfl (fun K hK => hs_store1 hF rfl rfl hA7 rfl rfl 0 rfl (by simp) rfl sz3_hr (fun w8 hA9 => hK _ _ ?_))
        clear hK K
        replace hA9 : Hp w0 ([row rb 152 [.slice A l.length c, .int .i64 ((p + k : Nat) : Int), .int .i64 ((0 : Nat) : Int)]] :: X :: R) w8 := hA9
        refine vc_nil ?_
        refine hK15 _ _ ?_; clear  hK15 K15
        apply wp_seq_k; intro K16 hK16
        refine wp_region_plan 15 [15,16] [0,1,2,3,4,5,6,7,8,9,10,11,12,13,14,15,16] (fun x => Hq w0 ([row rb 152 [.slice A l.length c, .int .i64 ((p + k : Nat) : Int), .int .i64 ((0 : Nat) : Int)]] :: X :: R) x) (by kernel_rfl) (by kernel_rfl) (Hq.drew (Hp.qp [[row rb 152 [.slice A l.length c, .int .i64 ((p + k : Nat) : Int), .int .i64 ((0 : Nat) : Int)]], X] R [0, 1] hA9)) ?_
        have hA10 := Hl.drew hA9
        refine vp_y hF rfl rfl rfl rfl (by decide) _ (fun x hx => y_move rfl rfl) (fun a hF => ?_)
        refine vp_y hF rfl rfl rfl rfl (by decide) _ (fun x hx => y_nilCheck rfl rfl) (fun a hF => ?_)
        refine vp_y hF rfl rfl rfl rfl (by decide) _ (fun x hx => y_field rfl Tryz.underlying152 rfl sz27_hr (by decide) rfl (rfl : (⟨_, 0 + _, none⟩ : Addr) = ⟨_, 0, none⟩)) (fun a hF => ?_)
        refine vp_y hF rfl rfl rfl rfl (by decide) _ (fun x hx => y_ld rfl hx rfl 0 rfl rfl nr27_hr) (fun a hF => ?_)
        refine vp_y hF rfl rfl rfl rfl (by decide) _ (fun x hx => y_move rfl rfl) (fun a hF => ?_)
        refine vp_y hF rfl rfl rfl rfl (by decide) _ (fun x hx => y_nilCheck rfl rfl) (fun a hF => ?_)
        refine vp_y hF rfl rfl rfl rfl (by decide) _ (fun x hx => y_field rfl Tryz.underlying152 rfl sz3_hr (by decide) rfl (rfl : (⟨_, 0 + _, none⟩ : Addr) = ⟨_, 1, none⟩)) (fun a hF => ?_)
        refine vp_y hF rfl rfl rfl rfl (by decide) _ (fun x hx => y_ld rfl hx rfl 0 rfl rfl nr3_hr) (fun a hF => ?_)
        refine vp_y hF rfl rfl rfl rfl (by decide) _ (fun x hx => y_move rfl rfl) (fun a hF => ?_)
        refine vp_y hF rfl rfl rfl rfl (by decide) _ (fun x hx => y_sub rfl rfl rfl (show IntKind.i64.wrap (((p + k : Nat) : Int) - (k : Int)) = (p : Int) by rw [IntWalk.i64_in _ (by omega)]; omega)) (fun a hF => ?_)
        refine vp_y hF rfl rfl rfl rfl (by decide) _ (fun x hx => y_move rfl rfl) (fun a hF => ?_)
        refine vp_y hF rfl rfl rfl rfl (by decide) _ (fun x hx => y_nilCheck rfl rfl) (fun a hF => ?_)
        refine vp_y hF rfl rfl rfl rfl (by decide) _ (fun x hx => y_field rfl Tryz.underlying152 rfl sz3_hr (by decide) rfl (rfl : (⟨_, 0 + _, none⟩ : Addr) = ⟨_, 1, none⟩)) (fun a hF => ?_)
        refine vp_y hF rfl rfl rfl rfl (by decide) _ (fun x hx => y_ld rfl hx rfl 0 rfl rfl nr3_hr) (fun a hF => ?_)
        refine vp_y hF rfl rfl rfl rfl (by decide) _ (fun x hx => y_slice rfl Tryz.underlying27 ow_size5 rfl (.some rfl rfl) (.some rfl rfl) (Nat.le_add_right p k) (by omega) (show Value.slice (sub A p c 1) (p + k - p) (c - p) = .slice (sub A p c 1) ((l.drop p).take k).length (c - p) by rw [show p + k - p = ((l.drop p).take k).length by rw [List.length_take, List.length_drop]; omega])) (fun a hF => ?_)
        have hA11 : Hp w0 (([] : Seg) :: [row rb 152 [.slice A l.length c, .int .i64 ((p + k : Nat) : Int), .int .i64 ((0 : Nat) : Int)]] :: X :: R) w8.drew := Hp.nil hA10
        refine vp_l rfl rfl rfl (fun K hK => hs_append hF rfl (by decide) rfl hA11 0 rfl (Buf.nil 5 1) Tryz.underlying27 ow_elem5 rfl rfl (Rc.src ((hB.drop p hc).take k) (Hq.sub hA11.q (fun _ h => List.mem_cons_of_mem _ (List.mem_cons_of_mem _ h))) Tryz.underlying27) (by rw [List.length_take, List.length_drop]; omega) (by decide) (fun v2 X2 w12 a hO2 hF hA13 => hK _ _ (fun h => absurd h (by decide)) ?_))
        clear hK K
        replace hA13 : Hp w0 (X2 :: [row rb 152 [.slice A l.length c, .int .i64 ((p + k : Nat) : Int), .int .i64 ((0 : Nat) : Int)]] :: X :: R) w12 := hA13
        rw [List.nil_append, Nat.zero_add] at hO2
        refine vp_ly hF rfl rfl rfl rfl (by decide) _ (y_assign rfl rfl) (fun h => absurd h (by decide)) (fun a hF => ?_)
        refine plan_end ?_
        refine hK16 _ _ ?_; clear  hK16 K16
        apply wp_ret
        refine vc_ret1 hF Tryz.results34 rfl ?_
        rw [e1]
        exact ⟨v2, X2, rfl, hO2, hA13⟩

theorem raw32 (r : List UInt8) (y : Nat) : ((rawR r 32).val [] y = [] ∧ (rawR r 32).val (List.replicate 32 0) y = List.replicate 32 0) ∨ ((rawR r 32).val [] y = (rawR r 32).val (List.replicate 32 0) y ∧ ((rawR r 32).val (List.replicate 32 0) y).length = 32) := by
  unfold Res.val rawR
  by_cases hy : y = 0
  · by_cases h : (32 : Int) < 0 ∨ (r.length : Int) < 32
    · rw [if_pos hy, if_pos hy, if_pos h]; exact .inl ⟨rfl, rfl⟩
    · rw [if_pos hy, if_pos hy, if_neg h]
      refine .inr ⟨rfl, ?_⟩
      show (r.take 32).length = 32
      rw [List.length_take]; omega
  · rw [if_neg hy, if_neg hy]; exact .inl ⟨rfl, rfl⟩

set_option maxRecDepth 100000 in
set_option maxHeartbeats 1000000 in
theorem hr_digest (w0 w : World) (R : List Seg) (rb : Nat) (A : Option Addr) (l : List UInt8) (c p y : Nat) (X : Seg) (hO : Buf 5 1 X (.slice A l.length c) l.length (dc l)) (hA : Hp w0 ([row rb 152 [.slice A l.length c, .int .i64 (p : Nat), .int .i64 (y : Nat)]] :: X :: R) w) (hp : p ≤ l.length) (hl : l.length < 140737488354000) : Calls Tryz.prog 83 #[.pointer (some ⟨rb, 0, none⟩)] w fun e w' => e = .returned (.agg (dc ((rawR (l.drop p) 32).val (List.replicate 32 0) y)).toArray) ∧ Hp w0 ([row rb 152 [.slice A l.length c, .int .i64 ((rawR (l.drop p) 32).pl p y : Nat), .int .i64 ((rawR (l.drop p) 32).why y : Nat)]] :: X :: R) w' := by
  obtain ⟨V, hV⟩ : ∃ V, V = (rawR (l.drop p) 32).val [] y := ⟨_, rfl⟩
  obtain ⟨D, hD⟩ : ∃ D, D = (rawR (l.drop p) 32).val (List.replicate 32 0) y := ⟨_, rfl⟩
  have hVD := raw32 (l.drop p) y
  rw [← hV, ← hD] at hVD
  rw [← hD]
  refine vc_enter Tryz.func83 rfl Tryz.ntmps83 (Nat.le_of_ble_eq_true rfl) (fun a hF => ?_)
  apply wp_seq_k; intro K1 hK1
  refine wp_region_lit ?_
  refine vc_op rfl (fun K hK => hs_alloc hF rfl (by decide) rfl hA (zr29_hr) (fun b1 w2 a hb1 hF hA3 => hK _ _ ?_))
  clear hK K
  replace hA3 : Hp w0 ([row b1 29 (dc (List.replicate 32 0))] :: [row rb 152 [.slice A l.length c, .int .i64 (p : Int), .int .i64 (y : Int)]] :: X :: R) w2 := hA3
  refine vc_nil ?_
  refine hK1 _ _ ?_; clear  hK1 K1
  apply wp_seq_k; intro K2 hK2
  refine wp_region_lit ?_
  refine vc_op rfl (fun K hK => hs_alloc hF rfl (by decide) rfl hA3 (zr29_hr) (fun b4 w5 a hb4 hF hA6 => hK _ _ ?_))
  clear hK K
  replace hA6 : Hp w0 ([row b4 29 (dc (List.replicate 32 0))] :: [row b1 29 (dc (List.replicate 32 0))] :: [row rb 152 [.slice A l.length c, .int .i64 (p : Int), .int .i64 (y : Int)]] :: X :: R) w5 := hA6
  refine vc_nil ?_
  refine hK2 _ _ ?_; clear  hK2 K2
  apply wp_seq_k; intro K3 hK3
  refine wp_region_plan 3 [2,3] [0,1,2,3] (fun x => Hq w0 (R) x) (by kernel_rfl) (by kernel_rfl) (Hq.drew (Hp.qp [[row b4 29 (dc (List.replicate 32 0))], [row b1 29 (dc (List.replicate 32 0))], [row rb 152 [.slice A l.length c, .int .i64 (p : Int), .int .i64 (y : Int)]], X] R [] hA6)) ?_
  have hA7 := Hl.drew hA6
  refine vp_y hF rfl rfl rfl rfl (by decide) _ (fun x hx => y_sliceArr rfl Tryz.underlying29 ow_size5 rfl (.none 0) (.none 32) (by omega) (by omega) slice_to) (fun a hF => ?_)
  refine vp_y hF rfl rfl rfl rfl (by decide) _ (fun x hx => y_move rfl rfl) (fun a hF => ?_)
  have hA8 : Hp w0 ([row rb 152 [.slice A l.length c, .int .i64 (p : Int), .int .i64 (y : Int)]] :: X :: [row b4 29 (dc (List.replicate 32 0))] :: [row b1 29 (dc (List.replicate 32 0))] :: R) w5.drew := Hp.ord [[row b4 29 (dc (List.replicate 32 0))], [row b1 29 (dc (List.replicate 32 0))], [row rb 152 [.slice A l.length c, .int .i64 (p : Int), .int .i64 (y : Int)]], X] R [2, 3, 0, 1] hA7 rfl
  refine vp_l rfl rfl rfl (fun K hK => ws_call hF rfl (by decide) cl34_hr rfl rfl ?_)
  with_reducible refine (hr_raw w0 _ _ rb A l c p y X 32 hO hA8 hp hl (by decide) ).mono ?_
  rintro e' w9 ⟨v, Z, rfl, hZ, hA10⟩
  refine ⟨_, rfl, fun a hF => hK _ _ (fun _ => ?_) ?_⟩
  · exact Hp.qp [Z, [row rb 152 [.slice A l.length c, .int .i64 ((rawR (l.drop p) 32).pl p y : Nat), .int .i64 ((rawR (l.drop p) 32).why y : Nat)]], X, [row b4 29 (dc (List.replicate 32 0))], [row b1 29 (dc (List.replicate 32 0))]] R [] hA10
  clear hK K
  replace hA10 : Hp w0 (Z :: [row rb 152 [.slice A l.length c, .int .i64 ((rawR (l.drop p) 32).pl p y : Nat), .int .i64 ((rawR (l.drop p) 32).why y : Nat)]] :: X :: [row b4 29 (dc (List.replicate 32 0))] :: [row b1 29 (dc (List.replicate 32 0))] :: R) w9 := hA10
  rw [← hV] at hZ
  obtain ⟨_, A2, c2, rfl, hc2, hB2⟩ := hZ.rd (w0 := w0) (R := [Z]) (List.mem_cons_self ..)
  have hmin : V.length = Nat.min V.length 32 := by
    rcases hVD with ⟨h1, _⟩ | ⟨h1, h2⟩
    · rw [h1]; rfl
    · rw [h1, h2]; rfl
  have hfit : 0 + V.length ≤ (dc (List.replicate 32 0)).length := by
    rw [dc_length, List.length_replicate]
    rcases hVD with ⟨h1, _⟩ | ⟨h1, h2⟩
    · rw [h1]; decide
    · rw [h1, h2]; decide
  refine vp_l rfl rfl rfl (fun K hK => hs_copy hF rfl (by decide) rfl hA10 Tryz.underlying27 ow_size5 rfl rfl V hmin (hB2.bts (Hq.sub hA10.q (fun x hx => by rw [List.mem_singleton] at hx; subst hx; simp))) 0 3 rfl (fun _ => rfl) hfit (fun w11 a hF hA12 => hK _ _ (fun h => absurd h (by decide)) ?_))
  clear hK K
  replace hA12 : Hp w0 (Z :: [row rb 152 [.slice A l.length c, .int .i64 ((rawR (l.drop p) 32).pl p y : Nat), .int .i64 ((rawR (l.drop p) 32).why y : Nat)]] :: X :: [row b4 29 (splice (dc (List.replicate 32 0)) 0 (dc V))] :: [row b1 29 (dc (List.replicate 32 0))] :: R) w11 := hA12
  have hD32 : (dc D).length = 32 := by
    rw [dc_length]
    rcases hVD with ⟨_, h2⟩ | ⟨_, h2⟩
    · rw [h2]; rfl
    · exact h2
  have hsp : splice (dc (List.replicate 32 0)) 0 (dc V) = dc D := by
    rcases hVD with ⟨h1, h2⟩ | ⟨h1, h2⟩
    · rw [h1, h2]; rfl
    · rw [h1]; exact splice_all' _ _ (by rw [hD32, dc_length]; rfl)
  have hA13 : Hp w0 (Z :: [row rb 152 [.slice A l.length c, .int .i64 ((rawR (l.drop p) 32).pl p y : Nat), .int .i64 ((rawR (l.drop p) 32).why y : Nat)]] :: X :: [row b4 29 (dc D)] :: [row b1 29 (dc (List.replicate 32 0))] :: R) w11 := by rw [← hsp]; exact hA12
  refine plan_end ?_
  refine hK3 _ _ ?_; clear  hK3 K3
  apply wp_seq_k; intro K4 hK4

  refine wp_region_lit ?_
  refine vc_y hF rfl rfl (by decide) _ (y_ldRow (new := dc D) rfl hA13.q rfl 3 rfl rw29_hr (by rw [hD32]; exact Nat.le_refl _) (by rw [List.drop_zero]; exact List.take_of_length_le (by rw [hD32]; exact Nat.le_refl _))) (fun a hF => ?_)
  refine vc_op rfl (fun K hK => hs_storeAll (new := dc D) hF rfl rfl hA13 rfl rfl 4 rfl (by rw [hD32, dc_length, List.length_replicate]) (dc_one _) (by rw [dc_length, List.length_replicate]; exact sz29_hr) (fun w14 hA15 => hK _ _ ?_))
  clear hK K
  replace hA15 : Hp w0 (Z :: [row rb 152 [.slice A l.length c, .int .i64 ((rawR (l.drop p) 32).pl p y : Nat), .int .i64 ((rawR (l.drop p) 32).why y : Nat)]] :: X :: [row b4 29 (dc D)] :: [row b1 29 (dc D)] :: R) w14 := hA15
  refine vc_nil ?_
  refine hK4 _ _ ?_; clear  hK4 K4
  apply wp_ret
  refine vc_retR hF Tryz.results83 hA15.q rfl 4 rfl (by rw [hD32]; exact rw29_hr) ?_
  have hA16 : Hp w0 ([row rb 152 [.slice A l.length c, .int .i64 ((rawR (l.drop p) 32).pl p y : Nat), .int .i64 ((rawR (l.drop p) 32).why y : Nat)]] :: X :: R) w14 := Hp.sel [Z, [row rb 152 [.slice A l.length c, .int .i64 ((rawR (l.drop p) 32).pl p y : Nat), .int .i64 ((rawR (l.drop p) 32).why y : Nat)]], X, [row b4 29 (dc D)], [row b1 29 (dc D)]] R [1, 2] [0, 3, 4] hA15 rfl
  exact ⟨rfl, hA16⟩

theorem sized_short {K e : Nat} {r : List UInt8} {b : Int} (h : r.length < K) : sizedR K e r b = .no 8 := if_pos h
theorem sized_long {K e : Nat} {r : List UInt8} {b : Int} (h : ¬ r.length < K) (h2 : b < (num (r.take K) : Int)) : sizedR K e r b = .no e := by rw [sizedR, if_neg h, if_pos h2]
theorem sized_ends {K e : Nat} {r : List UInt8} {b : Int} (h : ¬ r.length < K) (h2 : ¬ b < (num (r.take K) : Int)) (h3 : r.length - K < num (r.take K)) : sizedR K e r b = .no 8 := by rw [sizedR, if_neg h, if_neg h2, if_pos h3]
theorem sized_ok {K e : Nat} {r : List UInt8} {b : Int} (h : ¬ r.length < K) (h2 : ¬ b < (num (r.take K) : Int)) (h3 : ¬ r.length - K < num (r.take K)) : sizedR K e r b = .ok ((r.drop K).take (num (r.take K))) (K + num (r.take K)) := by rw [sizedR, if_neg h, if_neg h2, if_neg h3]
theorem sized_no {K e e' : Nat} {r : List UInt8} {b : Int} (h : sizedR K e r b = .no e') : e' = 8 ∨ e' = e := by
  unfold sizedR at h
  split at h
  · injection h with h; exact .inl h.symm
  · split at h
    · injection h with h; exact .inr h.symm
    · split at h
      · injection h with h; exact .inl h.symm
      · cases h
theorem sized_le {K e k : Nat} {r v : List UInt8} {b : Int} (h : sizedR K e r b = .ok v k) : k ≤ r.length ∧ v.length ≤ k := by
  unfold sizedR at h
  split at h
  · cases h
  · split at h
    · cases h
    · split at h
      · cases h
      · injection h with h1 h2
        subst h1 h2
        rw [List.length_take, List.length_drop]
        omega
theorem num_two (l : List UInt8) : num (l.take 2) < 65536 := Nat.lt_of_lt_of_le (num_lt _) (Nat.le_trans (Nat.pow_le_pow_right (by decide) (show (l.take 2).length ≤ 2 by rw [List.length_take]; omega)) (by decide))
theorem num_four (l : List UInt8) : num (l.take 4) < 4294967296 := Nat.lt_of_lt_of_le (num_lt _) (Nat.le_trans (Nat.pow_le_pow_right (by decide) (show (l.take 4).length ≤ 4 by rw [List.length_take]; omega)) (by decide))
theorem ah_ok {K : Nat} {l : List UInt8} {q : Nat} (h : q + K ≤ l.length) : ahOk K l q = true ∧ ahTo K l q = q + K ∧ ahN K l q = num ((l.drop q).take K) := ⟨decide_eq_true h, if_pos h, if_pos h⟩
theorem ah_no {K : Nat} {l : List UInt8} {q : Nat} (h : ¬ q + K ≤ l.length) : ahOk K l q = false ∧ ahTo K l q = q ∧ ahN K l q = 0 := ⟨decide_eq_false h, if_neg h, if_neg h⟩

set_option maxRecDepth 100000 in
set_option maxHeartbeats 1000000 in
theorem hr_textAt (w0 w : World) (R : List Seg) (rb : Nat) (A : Option Addr) (l : List UInt8) (c p y : Nat) (X : Seg) (q : Nat) (most : Int) (hO : Buf 5 1 X (.slice A l.length c) l.length (dc l)) (hA : Hp w0 ([row rb 152 [.slice A l.length c, .int .i64 (p : Nat), .int .i64 (y : Nat)]] :: X :: R) w) (hl : l.length < 140737488354000) (hq : q ≤ l.length) : Calls Tryz.prog 141 #[.pointer (some ⟨rb, 0, none⟩), .int .i64 (q : Int), .int .i64 most] w fun e w' => ∃ to : Nat, e = .returned (.tuple #[strV ((textR (l.drop q) most).val [] 0), .int .i64 (to : Int), .int .i64 ((textR (l.drop q) most).why 0 : Nat)]) ∧ w = w' ∧ ∀ v k, textR (l.drop q) most = .ok v k → to = q + k := by
  have hn := num_two (l.drop q)
  have hbl := bnd_le most 65535
  have hlen : (l.drop q).length = l.length - q := List.length_drop
  by_cases hK : q + 2 ≤ l.length
  · have hs : ¬ (l.drop q).length < 2 := by omega
    obtain ⟨_, hc, hBw, _⟩ := bridge hA hO
    refine vc_enter Tryz.func141 rfl Tryz.ntmps141 (Nat.le_of_ble_eq_true rfl) (fun a hF => ?_)
    apply wp_seq_k; intro K1 hK1
    refine wp_region_lit ?_
    refine vc_y hF rfl rfl (by decide) _ (y_assign rfl rfl) (fun a hF => ?_)
    refine vc_y hF rfl rfl (by decide) _ (y_assign rfl rfl) (fun a hF => ?_)
    refine vc_y hF rfl rfl (by decide) _ (y_assign rfl rfl) (fun a hF => ?_)
    refine vc_nil ?_
    refine hK1 _ _ ?_; clear  hK1 K1
    apply wp_seq_k; intro K2 hK2
    refine wp_region_lit ?_
    refine vc_y hF rfl rfl (by decide) _ (y_move rfl rfl) (fun a hF => ?_)
    refine vc_y hF rfl rfl (by decide) _ (y_move rfl rfl) (fun a hF => ?_)
    refine vc_op rfl (fun K hK => ws_call hF rfl (by decide) cl98_hr rfl rfl ?_)
    with_reducible refine (hr_ahead_uint16 w0 _ R rb A l c p y X q hO hA hl (by omega) ).mono ?_
    rintro e' w3 ⟨rfl, rfl⟩
    refine ⟨_, rfl, fun a hF => hK _ _ ?_⟩
    clear hK K
    rw [(ah_ok (q := q) hK).1, (ah_ok (q := q) hK).2.1, (ah_ok (q := q) hK).2.2] at hF
    refine vc_y hF rfl rfl (by decide) _ (y_move rfl rfl) (fun a hF => ?_)
    refine vc_y hF rfl rfl (by decide) _ (y_extract (v := .int .u16 (num ((l.drop q).take 2) : Nat)) rfl rfl rfl) (fun a hF => ?_)
    refine vc_y hF rfl rfl (by decide) _ (y_extract (v := .int .i64 ((q + 2 : Nat) : Int)) rfl rfl rfl) (fun a hF => ?_)
    refine vc_y hF rfl rfl (by decide) _ (y_extract (v := .bool true) rfl rfl rfl) (fun a hF => ?_)
    refine vc_y hF rfl rfl (by decide) _ (y_assign rfl rfl) (fun a hF => ?_)
    refine vc_y hF rfl rfl (by decide) _ (y_assign rfl rfl) (fun a hF => ?_)
    refine vc_y hF rfl rfl (by decide) _ (y_assign rfl rfl) (fun a hF => ?_)
    refine vc_nil ?_
    refine hK2 _ _ ?_; clear  hK2 K2
    apply wp_seq_k; intro K3 hK3
    apply wp_block
    apply wp_seq_k; intro K4 hK4
    refine wp_region_lit ?_
    refine vc_y hF rfl rfl (by decide) _ (y_move rfl rfl) (fun a hF => ?_)
    refine vc_y hF rfl rfl (by decide) _ (y_not rfl rfl rfl) (fun a hF => ?_)
    refine vc_y hF rfl rfl (by decide) _ (y_assign rfl rfl) (fun a hF => ?_)
    refine vc_nil ?_
    refine hK4 _ _ ?_; clear  hK4 K4
    refine vc_false hF rfl ?_
    apply wp_seq_k; intro K5 hK5
    refine wp_region_lit ?_
    refine vc_y hF rfl rfl (by decide) _ (y_move rfl rfl) (fun a hF => ?_)
    refine vc_y hF rfl rfl (by decide) _ (y_conv rfl Tryz.underlying81 Tryz.underlying3 rfl (IntWalk.i64_in _ (by omega))) (fun a hF => ?_)
    refine vc_y hF rfl rfl (by decide) _ (y_move rfl rfl) (fun a hF => ?_)
    refine vc_op rfl (fun K hK => ws_call hF rfl (by decide) cl139_hr rfl rfl ?_)
    with_reducible refine (hw_bound w _ _ ).mono ?_
    rintro e' w6 ⟨rfl, rfl⟩
    refine ⟨_, rfl, fun a hF => hK _ _ ?_⟩
    clear hK K
    refine vc_y hF rfl rfl (by decide) _ (y_cmp rfl rfl rfl rfl rfl) (fun a hF => ?_)
    refine vc_y hF rfl rfl (by decide) _ (y_assign rfl rfl) (fun a hF => ?_)
    refine vc_nil ?_
    refine hK5 _ _ ?_; clear  hK5 K5
    by_cases h1 : bnd most 65535 < (num ((l.drop q).take 2) : Int)
    · refine vc_trueB hF rfl (gtr_t (by omega)) ?_
      apply wp_seq_k; intro K6 hK6
      refine wp_region_lit ?_
      refine vc_y hF rfl rfl (by decide) _ (y_move rfl rfl) (fun a hF => ?_)
      refine vc_y hF rfl rfl (by decide) _ (y_assign rfl rfl) (fun a hF => ?_)
      refine vc_y hF rfl rfl (by decide) _ (y_assign rfl rfl) (fun a hF => ?_)
      refine vc_y hF rfl rfl (by decide) _ (y_assign rfl rfl) (fun a hF => ?_)
      refine vc_nil ?_
      refine hK6 _ _ ?_; clear  hK6 K6
      apply wp_ret
      simp only [Exit.then, Exit.inBlock]
      refine vc_ret3 hF Tryz.results141 rfl rfl rfl ?_
      rw [textR, sized_long hs h1]
      exact ⟨_, rfl, rfl, fun _ _ h => by cases h⟩
    · refine vc_falseB hF rfl (gtr_f (by omega)) ?_
      apply wp_seq_k; intro K7 hK7
      refine wp_region_lit ?_
      refine vc_y hF rfl rfl (by decide) _ (y_move rfl rfl) (fun a hF => ?_)
      refine vc_y hF rfl rfl (by decide) _ (y_conv rfl Tryz.underlying81 Tryz.underlying3 rfl (IntWalk.i64_in _ (by omega))) (fun a hF => ?_)
      refine vc_y hF rfl rfl (by decide) _ (y_move rfl rfl) (fun a hF => ?_)
      refine vc_y hF rfl rfl (by decide) _ (y_nilCheck rfl rfl) (fun a hF => ?_)
      refine vc_y hF rfl rfl (by decide) _ (y_field rfl Tryz.underlying152 rfl sz27_hr (by decide) rfl (rfl : (⟨_, 0 + _, none⟩ : Addr) = ⟨_, 0, none⟩)) (fun a hF => ?_)
      refine vc_y hF rfl rfl (by decide) _ (y_ld rfl hA.q rfl 0 rfl rfl nr27_hr) (fun a hF => ?_)
      refine vc_y hF rfl rfl (by decide) _ (y_lenSl rfl Tryz.underlying27 rfl rfl) (fun a hF => ?_)
      refine vc_y hF rfl rfl (by decide) _ (y_move rfl rfl) (fun a hF => ?_)
      refine vc_y hF rfl rfl (by decide) _ (y_sub rfl rfl rfl (IntWalk.i64_in _ (by omega))) (fun a hF => ?_)
      refine vc_y hF rfl rfl (by decide) _ (y_cmp rfl rfl rfl rfl rfl) (fun a hF => ?_)
      refine vc_y hF rfl rfl (by decide) _ (y_assign rfl rfl) (fun a hF => ?_)
      refine vc_nil ?_
      refine hK7 _ _ ?_; clear  hK7 K7
      have hcm : ((num ((l.drop q).take 2) : Nat) : Int) > (l.length : Int) - ((q + 2 : Nat) : Int) ↔ l.length - (q + 2) < num ((l.drop q).take 2) := by omega
      by_cases h2 : l.length - (q + 2) < num ((l.drop q).take 2)
      · refine vc_trueB hF rfl (gtr_t (by omega)) ?_
        apply wp_seq_k; intro K8 hK8
        refine wp_region_lit ?_
        refine vc_y hF rfl rfl (by decide) _ (y_move rfl rfl) (fun a hF => ?_)
        refine vc_y hF rfl rfl (by decide) _ (y_assign rfl rfl) (fun a hF => ?_)
        refine vc_y hF rfl rfl (by decide) _ (y_assign rfl rfl) (fun a hF => ?_)
        refine vc_y hF rfl rfl (by decide) _ (y_assign rfl rfl) (fun a hF => ?_)
        refine vc_nil ?_
        refine hK8 _ _ ?_; clear  hK8 K8
        apply wp_ret
        simp only [Exit.then, Exit.inBlock]
        refine vc_ret3 hF Tryz.results141 rfl rfl rfl ?_
        rw [textR, sized_ends hs h1 (by omega)]
        exact ⟨_, rfl, rfl, fun _ _ h => by cases h⟩
      · refine vc_falseB hF rfl (gtr_f (by omega)) ?_
        obtain ⟨n, hnn⟩ : ∃ n, n = num ((l.drop q).take 2) := ⟨_, rfl⟩
        have hr := sized_ok (K := 2) (e := 6) hs h1 (by omega)
        rw [← hnn] at hr hn h1 h2
        rw [← hnn] at hF
        have hB2 : Bts w (sub A (q + 2) c 1) (((l.drop q).drop 2).take n) := by
          rw [List.drop_drop]
          exact (hBw.drop (q + 2) hc).take n
        apply wp_skip
        refine hK3 _ _ ?_; clear  hK3 K3
        apply wp_seq_k; intro K9 hK9
        refine wp_region_lit ?_
        refine vc_y hF rfl rfl (by decide) _ (y_move rfl rfl) (fun a hF => ?_)
        refine vc_y hF rfl rfl (by decide) _ (y_nilCheck rfl rfl) (fun a hF => ?_)
        refine vc_y hF rfl rfl (by decide) _ (y_field rfl Tryz.underlying152 rfl sz27_hr (by decide) rfl (rfl : (⟨_, 0 + _, none⟩ : Addr) = ⟨_, 0, none⟩)) (fun a hF => ?_)
        refine vc_y hF rfl rfl (by decide) _ (y_ld rfl hA.q rfl 0 rfl rfl nr27_hr) (fun a hF => ?_)
        refine vc_y hF rfl rfl (by decide) _ (y_move rfl rfl) (fun a hF => ?_)
        refine vc_y hF rfl rfl (by decide) _ (y_move rfl rfl) (fun a hF => ?_)
        refine vc_y hF rfl rfl (by decide) _ (y_move rfl rfl) (fun a hF => ?_)
        refine vc_y hF rfl rfl (by decide) _ (y_conv rfl Tryz.underlying81 Tryz.underlying3 rfl (IntWalk.i64_in _ (by omega))) (fun a hF => ?_)
        refine vc_y hF rfl rfl (by decide) _ (y_add rfl rfl rfl (show IntKind.i64.wrap (((q + 2 : Nat) : Int) + (n : Int)) = ((q + 2 + n : Nat) : Int) by rw [IntWalk.i64_in _ (by omega)]; omega)) (fun a hF => ?_)
        refine vc_y hF rfl rfl (by decide) _ (y_slice rfl Tryz.underlying27 ow_size5 rfl (.some rfl rfl) (.some rfl rfl) (Nat.le_add_right (q + 2) n) (by omega) (show Value.slice (sub A (q + 2) c 1) (q + 2 + n - (q + 2)) (c - (q + 2)) = .slice (sub A (q + 2) c 1) (((l.drop q).drop 2).take n).length (c - (q + 2)) by rw [show q + 2 + n - (q + 2) = (((l.drop q).drop 2).take n).length by rw [List.length_take, List.length_drop, List.length_drop]; omega])) (fun a hF => ?_)
        refine vc_y hF rfl rfl (by decide) _ (y_convStr rfl Tryz.underlying27 Tryz.underlying5 Tryz.underlying9 rfl rfl hB2) (fun a hF => ?_)
        refine vc_y hF rfl rfl (by decide) _ (y_move rfl rfl) (fun a hF => ?_)
        refine vc_y hF rfl rfl (by decide) _ (y_move rfl rfl) (fun a hF => ?_)
        refine vc_y hF rfl rfl (by decide) _ (y_conv rfl Tryz.underlying81 Tryz.underlying3 rfl (IntWalk.i64_in _ (by omega))) (fun a hF => ?_)
        refine vc_y hF rfl rfl (by decide) _ (y_add rfl rfl rfl (show IntKind.i64.wrap (((q + 2 : Nat) : Int) + (n : Int)) = ((q + 2 + n : Nat) : Int) by rw [IntWalk.i64_in _ (by omega)]; omega)) (fun a hF => ?_)
        refine vc_y hF rfl rfl (by decide) _ (y_assign rfl rfl) (fun a hF => ?_)
        refine vc_y hF rfl rfl (by decide) _ (y_assign rfl rfl) (fun a hF => ?_)
        refine vc_y hF rfl rfl (by decide) _ (y_assign rfl rfl) (fun a hF => ?_)
        refine vc_nil ?_
        refine hK9 _ _ ?_; clear  hK9 K9
        apply wp_ret
        refine vc_ret3 hF Tryz.results141 rfl rfl rfl ?_
        rw [textR, hr]
        refine ⟨q + 2 + n, rfl, rfl, fun v k h => ?_⟩
        injection h with _ h
        omega
  · refine vc_enter Tryz.func141 rfl Tryz.ntmps141 (Nat.le_of_ble_eq_true rfl) (fun a hF => ?_)
    apply wp_seq_k; intro K10 hK10
    refine wp_region_lit ?_
    refine vc_y hF rfl rfl (by decide) _ (y_assign rfl rfl) (fun a hF => ?_)
    refine vc_y hF rfl rfl (by decide) _ (y_assign rfl rfl) (fun a hF => ?_)
    refine vc_y hF rfl rfl (by decide) _ (y_assign rfl rfl) (fun a hF => ?_)
    refine vc_nil ?_
    refine hK10 _ _ ?_; clear  hK10 K10
    apply wp_seq_k; intro K11 hK11
    refine wp_region_lit ?_
    refine vc_y hF rfl rfl (by decide) _ (y_move rfl rfl) (fun a hF => ?_)
    refine vc_y hF rfl rfl (by decide) _ (y_move rfl rfl) (fun a hF => ?_)
    refine vc_op rfl (fun K hK => ws_call hF rfl (by decide) cl98_hr rfl rfl ?_)
    with_reducible refine (hr_ahead_uint16 w0 _ R rb A l c p y X q hO hA hl (by omega) ).mono ?_
    rintro e' w9 ⟨rfl, rfl⟩
    refine ⟨_, rfl, fun a hF => hK _ _ ?_⟩
    clear hK K
    rw [(ah_no (q := q) hK).1, (ah_no (q := q) hK).2.1, (ah_no (q := q) hK).2.2] at hF
    refine vc_y hF rfl rfl (by decide) _ (y_move rfl rfl) (fun a hF => ?_)
    refine vc_y hF rfl rfl (by decide) _ (y_extract (v := .int .u16 0) rfl rfl rfl) (fun a hF => ?_)
    refine vc_y hF rfl rfl (by decide) _ (y_extract (v := .int .i64 (q : Int)) rfl rfl rfl) (fun a hF => ?_)
    refine vc_y hF rfl rfl (by decide) _ (y_extract (v := .bool false) rfl rfl rfl) (fun a hF => ?_)
    refine vc_y hF rfl rfl (by decide) _ (y_assign rfl rfl) (fun a hF => ?_)
    refine vc_y hF rfl rfl (by decide) _ (y_assign rfl rfl) (fun a hF => ?_)
    refine vc_y hF rfl rfl (by decide) _ (y_assign rfl rfl) (fun a hF => ?_)
    refine vc_nil ?_
    refine hK11 _ _ ?_; clear  hK11 K11
    apply wp_seq_k; intro K12 hK12
    apply wp_block
    apply wp_seq_k; intro K13 hK13
    refine wp_region_lit ?_
    refine vc_y hF rfl rfl (by decide) _ (y_move rfl rfl) (fun a hF => ?_)
    refine vc_y hF rfl rfl (by decide) _ (y_not rfl rfl rfl) (fun a hF => ?_)
    refine vc_y hF rfl rfl (by decide) _ (y_assign rfl rfl) (fun a hF => ?_)
    refine vc_nil ?_
    refine hK13 _ _ ?_; clear  hK13 K13
    refine vc_true hF rfl ?_
    apply wp_seq_k; intro K14 hK14
    refine wp_region_lit ?_
    refine vc_y hF rfl rfl (by decide) _ (y_move rfl rfl) (fun a hF => ?_)
    refine vc_y hF rfl rfl (by decide) _ (y_assign rfl rfl) (fun a hF => ?_)
    refine vc_y hF rfl rfl (by decide) _ (y_assign rfl rfl) (fun a hF => ?_)
    refine vc_y hF rfl rfl (by decide) _ (y_assign rfl rfl) (fun a hF => ?_)
    refine vc_nil ?_
    refine hK14 _ _ ?_; clear  hK14 K14
    apply wp_ret
    simp only [Exit.then, Exit.inBlock]
    refine vc_ret3 hF Tryz.results141 rfl rfl rfl ?_
    rw [textR, sized_short (by omega)]
    exact ⟨_, rfl, rfl, fun _ _ h => by cases h⟩

set_option maxRecDepth 100000 in
set_option maxHeartbeats 1000000 in
theorem hr_text (w0 w : World) (R : List Seg) (rb : Nat) (A : Option Addr) (l : List UInt8) (c p y : Nat) (X : Seg) (most : Int) (hO : Buf 5 1 X (.slice A l.length c) l.length (dc l)) (hA : Hp w0 ([row rb 152 [.slice A l.length c, .int .i64 (p : Nat), .int .i64 (y : Nat)]] :: X :: R) w) (hp : p ≤ l.length) (hl : l.length < 140737488354000) : Calls Tryz.prog 81 #[.pointer (some ⟨rb, 0, none⟩), .int .i64 most] w fun e w' => e = .returned (strV ((textR (l.drop p) most).val [] y)) ∧ Hp w0 ([row rb 152 [.slice A l.length c, .int .i64 ((textR (l.drop p) most).pl p y : Nat), .int .i64 ((textR (l.drop p) most).why y : Nat)]] :: X :: R) w' := by
  refine vc_enter Tryz.func81 rfl Tryz.ntmps81 (Nat.le_of_ble_eq_true rfl) (fun a hF => ?_)
  apply wp_seq_k; intro K1 hK1
  refine wp_region_lit ?_
  refine vc_y hF rfl rfl (by decide) _ (y_assign rfl rfl) (fun a hF => ?_)
  refine vc_nil ?_
  refine hK1 _ _ ?_; clear  hK1 K1
  apply wp_seq_k; intro K2 hK2
  apply wp_seq_k; intro K3 hK3
  refine wp_region_lit ?_
  refine vc_y hF rfl rfl (by decide) _ (y_move rfl rfl) (fun a hF => ?_)
  refine vc_y hF rfl rfl (by decide) _ (y_nilCheck rfl rfl) (fun a hF => ?_)
  refine vc_y hF rfl rfl (by decide) _ (y_field rfl Tryz.underlying152 rfl sz40_hr (by decide) rfl (rfl : (⟨_, 0 + _, none⟩ : Addr) = ⟨_, 2, none⟩)) (fun a hF => ?_)
  refine vc_y hF rfl rfl (by decide) _ (y_ld rfl hA.q rfl 0 rfl rfl nr40_hr) (fun a hF => ?_)
  refine vc_y hF rfl rfl (by decide) _ (y_cmp rfl rfl rfl rfl rfl) (fun a hF => ?_)
  refine vc_nil ?_
  refine hK3 _ _ ?_; clear  hK3 K3
  by_cases hy : y ≠ 0
  · refine vc_trueB hF rfl (neq_t (by omega)) ?_
    apply wp_seq_k; intro K4 hK4
    refine wp_region_lit ?_
    refine vc_y hF rfl rfl (by decide) _ (y_assign rfl rfl) (fun a hF => ?_)
    refine vc_nil ?_
    refine hK4 _ _ ?_; clear  hK4 K4
    apply wp_ret
    simp only [Exit.then]
    refine vc_ret1 hF Tryz.results81 rfl ?_
    obtain ⟨e1, e2, e3⟩ := Res.skip (textR (l.drop p) most) [] p y hy
    rw [e1, e2, e3]
    exact ⟨rfl, hA⟩
  · obtain rfl : y = 0 := by omega
    refine vc_falseB hF rfl (neq_f rfl) ?_
    apply wp_skip
    refine hK2 _ _ ?_; clear  hK2 K2
    apply wp_seq_k; intro K5 hK5
    refine wp_region_lit ?_
    refine vc_y hF rfl rfl (by decide) _ (y_move rfl rfl) (fun a hF => ?_)
    refine vc_y hF rfl rfl (by decide) _ (y_move rfl rfl) (fun a hF => ?_)
    refine vc_y hF rfl rfl (by decide) _ (y_nilCheck rfl rfl) (fun a hF => ?_)
    refine vc_y hF rfl rfl (by decide) _ (y_field rfl Tryz.underlying152 rfl sz3_hr (by decide) rfl (rfl : (⟨_, 0 + _, none⟩ : Addr) = ⟨_, 1, none⟩)) (fun a hF => ?_)
    refine vc_y hF rfl rfl (by decide) _ (y_ld rfl hA.q rfl 0 rfl rfl nr3_hr) (fun a hF => ?_)
    refine vc_y hF rfl rfl (by decide) _ (y_move rfl rfl) (fun a hF => ?_)
    refine vc_op rfl (fun K hK => ws_call hF rfl (by decide) cl141_hr rfl rfl ?_)
    with_reducible refine (hr_textAt w0 _ R rb A l c p 0 X p most hO hA hl hp ).mono ?_
    rintro e' w3 ⟨to, rfl, rfl, hto⟩
    refine ⟨_, rfl, fun a hF => hK _ _ ?_⟩
    clear hK K
    refine vc_y hF rfl rfl (by decide) _ (y_move rfl rfl) (fun a hF => ?_)
    refine vc_y hF rfl rfl (by decide) _ (y_extract (v := strV ((textR (l.drop p) most).val [] 0)) rfl rfl rfl) (fun a hF => ?_)
    refine vc_y hF rfl rfl (by decide) _ (y_extract (v := .int .i64 (to : Int)) rfl rfl rfl) (fun a hF => ?_)
    refine vc_y hF rfl rfl (by decide) _ (y_extract (v := .int .i64 ((textR (l.drop p) most).why 0 : Nat)) rfl rfl rfl) (fun a hF => ?_)
    refine vc_y hF rfl rfl (by decide) _ (y_assign rfl rfl) (fun a hF => ?_)
    refine vc_y hF rfl rfl (by decide) _ (y_assign rfl rfl) (fun a hF => ?_)
    refine vc_y hF rfl rfl (by decide) _ (y_assign rfl rfl) (fun a hF => ?_)
    refine vc_nil ?_
    refine hK5 _ _ ?_; clear  hK5 K5
    apply wp_seq_k; intro K6 hK6
    apply wp_seq_k; intro K7 hK7
    refine wp_region_lit ?_
    refine vc_y hF rfl rfl (by decide) _ (y_move rfl rfl) (fun a hF => ?_)
    refine vc_y hF rfl rfl (by decide) _ (y_cmp rfl rfl rfl rfl rfl) (fun a hF => ?_)
    refine vc_nil ?_
    refine hK7 _ _ ?_; clear  hK7 K7
    cases hr : textR (l.drop p) most with
    | no e =>
      have he := sized_no hr
      rw [hr, show (Res.no e : Res (List UInt8)).why 0 = e from rfl] at hF
      refine vc_trueB hF rfl (neq_t (show (e : Int) ≠ 0 by omega)) ?_
      apply wp_seq_k; intro K8 hK8
      refine wp_region_lit ?_
      refine vc_y hF rfl rfl (by decide) _ (y_move rfl rfl) (fun a hF => ?_)
      refine vc_y hF rfl rfl (by decide) _ (y_move rfl rfl) (fun a hF => ?_)
      refine vc_op rfl (fun K hK => ws_call hF rfl (by decide) cl97_hr rfl rfl ?_)
      with_reducible refine (hr_refuse w0 _ _ rb A l c p 0 X e _ rfl rfl hA ).mono ?_
      rintro e' w4 ⟨rfl, hA5⟩
      refine ⟨_, rfl, fun a hF => hK _ _ ?_⟩
      clear hK K
      replace hA5 : Hp w0 ([row rb 152 [.slice A l.length c, .int .i64 (p : Int), .int .i64 ((e : Nat) : Int)]] :: X :: R) w4 := hA5
      refine vc_nil ?_
      refine hK8 _ _ ?_; clear  hK8 K8
      apply wp_seq_k; intro K9 hK9
      refine wp_region_lit ?_
      refine vc_y hF rfl rfl (by decide) _ (y_assign rfl rfl) (fun a hF => ?_)
      refine vc_nil ?_
      refine hK9 _ _ ?_; clear  hK9 K9
      apply wp_ret
      simp only [Exit.then]
      refine vc_ret1 hF Tryz.results81 rfl ?_
      exact ⟨rfl, hA5⟩
    | ok t k =>
      obtain rfl := hto t k hr
      rw [hr] at hF
      refine vc_falseB hF rfl (neq_f rfl) ?_
      apply wp_skip
      refine hK6 _ _ ?_; clear  hK6 K6
      apply wp_seq_k; intro K10 hK10
      refine wp_region_lit ?_
      refine vc_y hF rfl rfl (by decide) _ (y_move rfl rfl) (fun a hF => ?_)
      refine vc_y hF rfl rfl (by decide) _ (y_move rfl rfl) (fun a hF => ?_)
      refine vc_y hF rfl rfl (by decide) _ (y_nilCheck rfl rfl) (fun a hF => ?_)
      refine vc_y hF rfl rfl (by decide) _ (y_field rfl Tryz.underlying152 rfl sz3_hr (by decide) rfl (rfl : (⟨_, 0 + _, none⟩ : Addr) = ⟨_, 1, none⟩)) (fun a hF => ?_)
      refine vc_op rfl (fun K hK => hs_store1 hF rfl rfl hA rfl rfl 0 rfl (by simp) rfl sz3_hr (fun w6 hA7 => hK _ _ ?_))
      clear hK K
      replace hA7 : Hp w0 ([row rb 152 [.slice A l.length c, .int .i64 ((p + k : Nat) : Int), .int .i64 ((0 : Nat) : Int)]] :: X :: R) w6 := hA7
      refine vc_nil ?_
      refine hK10 _ _ ?_; clear  hK10 K10
      apply wp_seq_k; intro K11 hK11
      refine wp_region_lit ?_
      refine vc_y hF rfl rfl (by decide) _ (y_move rfl rfl) (fun a hF => ?_)
      refine vc_y hF rfl rfl (by decide) _ (y_assign rfl rfl) (fun a hF => ?_)
      refine vc_nil ?_
      refine hK11 _ _ ?_; clear  hK11 K11
      apply wp_ret
      refine vc_ret1 hF Tryz.results81 rfl ?_
      rw [hr]
      exact ⟨rfl, hA7⟩

set_option maxRecDepth 100000 in
set_option maxHeartbeats 1000000 in
theorem hr_bytes (w0 w : World) (R : List Seg) (rb : Nat) (A : Option Addr) (l : List UInt8) (c p y : Nat) (X : Seg) (most : Int) (hO : Buf 5 1 X (.slice A l.length c) l.length (dc l)) (hA : Hp w0 ([row rb 152 [.slice A l.length c, .int .i64 (p : Nat), .int .i64 (y : Nat)]] :: X :: R) w) (hp : p ≤ l.length) (hl : l.length < 140737488354000) : Calls Tryz.prog 82 #[.pointer (some ⟨rb, 0, none⟩), .int .i64 most] w fun e w' => ∃ v Z, e = .returned v ∧ Buf 5 1 Z v ((bytesR (l.drop p) most).val [] y).length (dc ((bytesR (l.drop p) most).val [] y)) ∧ Hp w0 (Z :: [row rb 152 [.slice A l.length c, .int .i64 ((bytesR (l.drop p) most).pl p y : Nat), .int .i64 ((bytesR (l.drop p) most).why y : Nat)]] :: X :: R) w' := by
  refine vc_enter Tryz.func82 rfl Tryz.ntmps82 (Nat.le_of_ble_eq_true rfl) (fun a hF => ?_)
  apply wp_seq_k; intro K1 hK1
  refine wp_region_lit ?_
  refine vc_y hF rfl rfl (by decide) _ (y_assign rfl rfl) (fun a hF => ?_)
  refine vc_nil ?_
  refine hK1 _ _ ?_; clear  hK1 K1
  apply wp_seq_k; intro K2 hK2
  apply wp_seq_k; intro K3 hK3
  refine wp_region_lit ?_
  refine vc_y hF rfl rfl (by decide) _ (y_move rfl rfl) (fun a hF => ?_)
  refine vc_y hF rfl rfl (by decide) _ (y_nilCheck rfl rfl) (fun a hF => ?_)
  refine vc_y hF rfl rfl (by decide) _ (y_field rfl Tryz.underlying152 rfl sz40_hr (by decide) rfl (rfl : (⟨_, 0 + _, none⟩ : Addr) = ⟨_, 2, none⟩)) (fun a hF => ?_)
  refine vc_y hF rfl rfl (by decide) _ (y_ld rfl hA.q rfl 0 rfl rfl nr40_hr) (fun a hF => ?_)
  refine vc_y hF rfl rfl (by decide) _ (y_cmp rfl rfl rfl rfl rfl) (fun a hF => ?_)
  refine vc_nil ?_
  refine hK3 _ _ ?_; clear  hK3 K3
  by_cases hy : y ≠ 0
  · refine vc_trueB hF rfl (neq_t (by omega)) ?_
    apply wp_seq_k; intro K4 hK4
    refine wp_region_lit ?_
    refine vc_y hF rfl rfl (by decide) _ (y_assign rfl rfl) (fun a hF => ?_)
    refine vc_nil ?_
    refine hK4 _ _ ?_; clear  hK4 K4
    apply wp_ret
    simp only [Exit.then]
    refine vc_ret1 hF Tryz.results82 rfl ?_
    obtain ⟨e1, e2, e3⟩ := Res.skip (bytesR (l.drop p) most) [] p y hy
    rw [e1, e2, e3]
    exact ⟨_, [], rfl, Buf.nil _ _, Hp.nil hA⟩
  · obtain rfl : y = 0 := by omega
    refine vc_falseB hF rfl (neq_f rfl) ?_
    have hn := num_four (l.drop p)
    have hbl := bnd_le most 2147483647
    have hlen : (l.drop p).length = l.length - p := List.length_drop
    by_cases hK : p + 4 ≤ l.length
    · have hs : ¬ (l.drop p).length < 4 := by omega
      apply wp_skip
      refine hK2 _ _ ?_; clear  hK2 K2
      apply wp_seq_k; intro K5 hK5
      refine wp_region_lit ?_
      refine vc_y hF rfl rfl (by decide) _ (y_move rfl rfl) (fun a hF => ?_)
      refine vc_y hF rfl rfl (by decide) _ (y_move rfl rfl) (fun a hF => ?_)
      refine vc_y hF rfl rfl (by decide) _ (y_nilCheck rfl rfl) (fun a hF => ?_)
      refine vc_y hF rfl rfl (by decide) _ (y_field rfl Tryz.underlying152 rfl sz3_hr (by decide) rfl (rfl : (⟨_, 0 + _, none⟩ : Addr) = ⟨_, 1, none⟩)) (fun a hF => ?_)
      refine vc_y hF rfl rfl (by decide) _ (y_ld rfl hA.q rfl 0 rfl rfl nr3_hr) (fun a hF => ?_)
      refine vc_op rfl (fun K hK => ws_call hF rfl (by decide) cl142_hr rfl rfl ?_)
      with_reducible refine (hr_ahead_uint32 w0 _ R rb A l c p 0 X p hO hA hl (by omega) ).mono ?_
      rintro e' w3 ⟨rfl, rfl⟩
      refine ⟨_, rfl, fun a hF => hK _ _ ?_⟩
      clear hK K
      rw [(ah_ok (q := p) hK).1, (ah_ok (q := p) hK).2.1, (ah_ok (q := p) hK).2.2] at hF
      refine vc_y hF rfl rfl (by decide) _ (y_move rfl rfl) (fun a hF => ?_)
      refine vc_y hF rfl rfl (by decide) _ (y_extract (v := .int .u32 (num ((l.drop p).take 4) : Nat)) rfl rfl rfl) (fun a hF => ?_)
      refine vc_y hF rfl rfl (by decide) _ (y_extract (v := .int .i64 ((p + 4 : Nat) : Int)) rfl rfl rfl) (fun a hF => ?_)
      refine vc_y hF rfl rfl (by decide) _ (y_extract (v := .bool true) rfl rfl rfl) (fun a hF => ?_)
      refine vc_y hF rfl rfl (by decide) _ (y_assign rfl rfl) (fun a hF => ?_)
      refine vc_y hF rfl rfl (by decide) _ (y_assign rfl rfl) (fun a hF => ?_)
      refine vc_y hF rfl rfl (by decide) _ (y_assign rfl rfl) (fun a hF => ?_)
      refine vc_nil ?_
      refine hK5 _ _ ?_; clear  hK5 K5
      apply wp_seq_k; intro K6 hK6
      apply wp_block
      apply wp_seq_k; intro K7 hK7
      refine wp_region_lit ?_
      refine vc_y hF rfl rfl (by decide) _ (y_move rfl rfl) (fun a hF => ?_)
      refine vc_y hF rfl rfl (by decide) _ (y_not rfl rfl rfl) (fun a hF => ?_)
      refine vc_y hF rfl rfl (by decide) _ (y_assign rfl rfl) (fun a hF => ?_)
      refine vc_nil ?_
      refine hK7 _ _ ?_; clear  hK7 K7
      refine vc_false hF rfl ?_
      apply wp_seq_k; intro K8 hK8
      refine wp_region_lit ?_
      refine vc_y hF rfl rfl (by decide) _ (y_move rfl rfl) (fun a hF => ?_)
      refine vc_y hF rfl rfl (by decide) _ (y_conv rfl Tryz.underlying150 Tryz.underlying3 rfl (IntWalk.i64_in _ (by omega))) (fun a hF => ?_)
      refine vc_y hF rfl rfl (by decide) _ (y_move rfl rfl) (fun a hF => ?_)
      refine vc_op rfl (fun K hK => ws_call hF rfl (by decide) cl139_hr rfl rfl ?_)
      with_reducible refine (hw_bound w _ _ ).mono ?_
      rintro e' w6 ⟨rfl, rfl⟩
      refine ⟨_, rfl, fun a hF => hK _ _ ?_⟩
      clear hK K
      refine vc_y hF rfl rfl (by decide) _ (y_cmp rfl rfl rfl rfl rfl) (fun a hF => ?_)
      refine vc_y hF rfl rfl (by decide) _ (y_assign rfl rfl) (fun a hF => ?_)
      refine vc_nil ?_
      refine hK8 _ _ ?_; clear  hK8 K8
      by_cases h1 : bnd most 2147483647 < (num ((l.drop p).take 4) : Int)
      · refine vc_trueB hF rfl (gtr_t (by omega)) ?_
        refine wp_region_lit ?_
        refine vc_y hF rfl rfl (by decide) _ (y_move rfl rfl) (fun a hF => ?_)
        refine vc_op rfl (fun K hK => ws_call hF rfl (by decide) cl97_hr rfl rfl ?_)
        with_reducible refine (hr_refuse w0 _ _ rb A l c p _ X 6 6 rfl rfl hA ).mono ?_
        rintro e' w7 ⟨rfl, hA8⟩
        refine ⟨_, rfl, fun a hF => hK _ _ ?_⟩
        clear hK K
        replace hA8 : Hp w0 ([row rb 152 [.slice A l.length c, .int .i64 (p : Int), .int .i64 ((6 : Nat) : Int)]] :: X :: R) w7 := hA8
        refine vc_nil ?_
        refine hK6 _ _ ?_; clear  hK6 K6
        apply wp_seq_k; intro K9 hK9
        refine wp_region_lit ?_
        refine vc_y hF rfl rfl (by decide) _ (y_assign rfl rfl) (fun a hF => ?_)
        refine vc_nil ?_
        refine hK9 _ _ ?_; clear  hK9 K9
        apply wp_ret
        refine vc_ret1 hF Tryz.results82 rfl ?_
        rw [bytesR, sized_long hs h1]
        exact ⟨_, [], rfl, Buf.nil _ _, Hp.nil hA8⟩
      · refine vc_falseB hF rfl (gtr_f (by omega)) ?_
        apply wp_seq_k; intro K10 hK10
        refine wp_region_lit ?_
        refine vc_y hF rfl rfl (by decide) _ (y_move rfl rfl) (fun a hF => ?_)
        refine vc_y hF rfl rfl (by decide) _ (y_conv rfl Tryz.underlying150 Tryz.underlying3 rfl (IntWalk.i64_in _ (by omega))) (fun a hF => ?_)
        refine vc_y hF rfl rfl (by decide) _ (y_move rfl rfl) (fun a hF => ?_)
        refine vc_y hF rfl rfl (by decide) _ (y_nilCheck rfl rfl) (fun a hF => ?_)
        refine vc_y hF rfl rfl (by decide) _ (y_field rfl Tryz.underlying152 rfl sz27_hr (by decide) rfl (rfl : (⟨_, 0 + _, none⟩ : Addr) = ⟨_, 0, none⟩)) (fun a hF => ?_)
        refine vc_y hF rfl rfl (by decide) _ (y_ld rfl hA.q rfl 0 rfl rfl nr27_hr) (fun a hF => ?_)
        refine vc_y hF rfl rfl (by decide) _ (y_lenSl rfl Tryz.underlying27 rfl rfl) (fun a hF => ?_)
        refine vc_y hF rfl rfl (by decide) _ (y_move rfl rfl) (fun a hF => ?_)
        refine vc_y hF rfl rfl (by decide) _ (y_sub rfl rfl rfl (IntWalk.i64_in _ (by omega))) (fun a hF => ?_)
        refine vc_y hF rfl rfl (by decide) _ (y_cmp rfl rfl rfl rfl rfl) (fun a hF => ?_)
        refine vc_y hF rfl rfl (by decide) _ (y_assign rfl rfl) (fun a hF => ?_)
        refine vc_nil ?_
        refine hK10 _ _ ?_; clear  hK10 K10
        by_cases h2 : l.length - (p + 4) < num ((l.drop p).take 4)
        · refine vc_trueB hF rfl (gtr_t (by omega)) ?_
          refine wp_region_lit ?_
          refine vc_y hF rfl rfl (by decide) _ (y_move rfl rfl) (fun a hF => ?_)
          refine vc_op rfl (fun K hK => ws_call hF rfl (by decide) cl97_hr rfl rfl ?_)
          with_reducible refine (hr_refuse w0 _ _ rb A l c p _ X 8 8 rfl rfl hA ).mono ?_
          rintro e' w9 ⟨rfl, hA10⟩
          refine ⟨_, rfl, fun a hF => hK _ _ ?_⟩
          clear hK K
          replace hA10 : Hp w0 ([row rb 152 [.slice A l.length c, .int .i64 (p : Int), .int .i64 ((8 : Nat) : Int)]] :: X :: R) w9 := hA10
          refine vc_nil ?_
          refine hK6 _ _ ?_; clear  hK6 K6
          apply wp_seq_k; intro K11 hK11
          refine wp_region_lit ?_
          refine vc_y hF rfl rfl (by decide) _ (y_assign rfl rfl) (fun a hF => ?_)
          refine vc_nil ?_
          refine hK11 _ _ ?_; clear  hK11 K11
          apply wp_ret
          refine vc_ret1 hF Tryz.results82 rfl ?_
          rw [bytesR, sized_ends hs h1 (by omega)]
          exact ⟨_, [], rfl, Buf.nil _ _, Hp.nil hA10⟩
        · refine vc_falseB hF rfl (gtr_f (by omega)) ?_
          obtain ⟨n, hnn⟩ : ∃ n, n = num ((l.drop p).take 4) := ⟨_, rfl⟩
          have hr := sized_ok (K := 4) (e := 6) hs h1 (by omega)
          rw [← hnn] at hr hn h1 h2
          rw [← hnn] at hF
          rw [bytesR, hr]
          apply wp_seq_k; intro K12 hK12
          refine wp_region_lit ?_
          refine vc_y hF rfl rfl (by decide) _ (y_move rfl rfl) (fun a hF => ?_)
          refine vc_y hF rfl rfl (by decide) _ (y_move rfl rfl) (fun a hF => ?_)
          refine vc_y hF rfl rfl (by decide) _ (y_nilCheck rfl rfl) (fun a hF => ?_)
          refine vc_y hF rfl rfl (by decide) _ (y_field rfl Tryz.underlying152 rfl sz3_hr (by decide) rfl (rfl : (⟨_, 0 + _, none⟩ : Addr) = ⟨_, 1, none⟩)) (fun a hF => ?_)
          refine vc_op rfl (fun K hK => hs_store1 hF rfl rfl hA rfl rfl 0 rfl (by simp) rfl sz3_hr (fun w11 hA12 => hK _ _ ?_))
          clear hK K
          replace hA12 : Hp w0 ([row rb 152 [.slice A l.length c, .int .i64 ((p + 4 : Nat) : Int), .int .i64 ((0 : Nat) : Int)]] :: X :: R) w11 := hA12
          refine vc_nil ?_
          refine hK12 _ _ ?_; clear  hK12 K12
          apply wp_seq_k; intro K13 hK13
          refine wp_region_lit ?_
          refine vc_y hF rfl rfl (by decide) _ (y_move rfl rfl) (fun a hF => ?_)
          refine vc_y hF rfl rfl (by decide) _ (y_move rfl rfl) (fun a hF => ?_)
          refine vc_y hF rfl rfl (by decide) _ (y_conv rfl Tryz.underlying150 Tryz.underlying3 rfl (IntWalk.i64_in _ (by omega))) (fun a hF => ?_)
          refine vc_op rfl (fun K hK => ws_call hF rfl (by decide) cl34_hr rfl rfl ?_)
          with_reducible refine (hr_raw w0 _ R rb A l c (p + 4) 0 X (n : Int) hO hA12 (by omega) hl (by omega) ).mono ?_
          rintro e' w13 ⟨v, Z, rfl, hZ, hA14⟩
          refine ⟨_, rfl, fun a hF => hK _ _ ?_⟩
          clear hK K
          replace hA14 : Hp w0 (Z :: [row rb 152 [.slice A l.length c, .int .i64 ((rawR (l.drop (p + 4)) (n : Int)).pl (p + 4) 0 : Nat), .int .i64 ((rawR (l.drop (p + 4)) (n : Int)).why 0 : Nat)]] :: X :: R) w13 := hA14
          have hrr : rawR (l.drop (p + 4)) (n : Int) = .ok (((l.drop p).drop 4).take n) n := by
            rw [List.drop_drop]
            exact if_neg (by rw [List.length_drop]; omega)
          refine vc_y hF rfl rfl (by decide) _ (y_assign rfl rfl) (fun a hF => ?_)
          refine vc_nil ?_
          refine hK13 _ _ ?_; clear  hK13 K13
          apply wp_ret
          simp only [Exit.then, Exit.inBlock]
          refine vc_ret1 hF Tryz.results82 rfl ?_
          rw [hrr] at hZ hA14
          exact ⟨v, Z, rfl, hZ, (show Hp w0 (Z :: [row rb 152 [.slice A l.length c, .int .i64 (p + (4 + n) : Nat), .int .i64 (0 : Nat)]] :: X :: R) _ from (Nat.add_assoc p 4 n) ▸ hA14)⟩
    · apply wp_skip
      refine hK2 _ _ ?_; clear  hK2 K2
      apply wp_seq_k; intro K14 hK14
      refine wp_region_lit ?_
      refine vc_y hF rfl rfl (by decide) _ (y_move rfl rfl) (fun a hF => ?_)
      refine vc_y hF rfl rfl (by decide) _ (y_move rfl rfl) (fun a hF => ?_)
      refine vc_y hF rfl rfl (by decide) _ (y_nilCheck rfl rfl) (fun a hF => ?_)
      refine vc_y hF rfl rfl (by decide) _ (y_field rfl Tryz.underlying152 rfl sz3_hr (by decide) rfl (rfl : (⟨_, 0 + _, none⟩ : Addr) = ⟨_, 1, none⟩)) (fun a hF => ?_)
      refine vc_y hF rfl rfl (by decide) _ (y_ld rfl hA.q rfl 0 rfl rfl nr3_hr) (fun a hF => ?_)
      refine vc_op rfl (fun K hK => ws_call hF rfl (by decide) cl142_hr rfl rfl ?_)
      with_reducible refine (hr_ahead_uint32 w0 _ R rb A l c p 0 X p hO hA hl (by omega) ).mono ?_
      rintro e' w17 ⟨rfl, rfl⟩
      refine ⟨_, rfl, fun a hF => hK _ _ ?_⟩
      clear hK K
      rw [(ah_no (q := p) hK).1, (ah_no (q := p) hK).2.1, (ah_no (q := p) hK).2.2] at hF
      refine vc_y hF rfl rfl (by decide) _ (y_move rfl rfl) (fun a hF => ?_)
      refine vc_y hF rfl rfl (by decide) _ (y_extract (v := .int .u32 0) rfl rfl rfl) (fun a hF => ?_)
      refine vc_y hF rfl rfl (by decide) _ (y_extract (v := .int .i64 (p : Int)) rfl rfl rfl) (fun a hF => ?_)
      refine vc_y hF rfl rfl (by decide) _ (y_extract (v := .bool false) rfl rfl rfl) (fun a hF => ?_)
      refine vc_y hF rfl rfl (by decide) _ (y_assign rfl rfl) (fun a hF => ?_)
      refine vc_y hF rfl rfl (by decide) _ (y_assign rfl rfl) (fun a hF => ?_)
      refine vc_y hF rfl rfl (by decide) _ (y_assign rfl rfl) (fun a hF => ?_)
      refine vc_nil ?_
      refine hK14 _ _ ?_; clear  hK14 K14
      apply wp_seq_k; intro K15 hK15
      apply wp_block
      apply wp_seq_k; intro K16 hK16
      refine wp_region_lit ?_
      refine vc_y hF rfl rfl (by decide) _ (y_move rfl rfl) (fun a hF => ?_)
      refine vc_y hF rfl rfl (by decide) _ (y_not rfl rfl rfl) (fun a hF => ?_)
      refine vc_y hF rfl rfl (by decide) _ (y_assign rfl rfl) (fun a hF => ?_)
      refine vc_nil ?_
      refine hK16 _ _ ?_; clear  hK16 K16
      refine vc_true hF rfl ?_
      refine wp_region_lit ?_
      refine vc_y hF rfl rfl (by decide) _ (y_move rfl rfl) (fun a hF => ?_)
      refine vc_op rfl (fun K hK => ws_call hF rfl (by decide) cl97_hr rfl rfl ?_)
      with_reducible refine (hr_refuse w0 _ _ rb A l c p _ X 8 8 rfl rfl hA ).mono ?_
      rintro e' w18 ⟨rfl, hA19⟩
      refine ⟨_, rfl, fun a hF => hK _ _ ?_⟩
      clear hK K
      replace hA19 : Hp w0 ([row rb 152 [.slice A l.length c, .int .i64 (p : Int), .int .i64 ((8 : Nat) : Int)]] :: X :: R) w18 := hA19
      refine vc_nil ?_
      refine hK15 _ _ ?_; clear  hK15 K15
      apply wp_seq_k; intro K17 hK17
      refine wp_region_lit ?_
      refine vc_y hF rfl rfl (by decide) _ (y_assign rfl rfl) (fun a hF => ?_)
      refine vc_nil ?_
      refine hK17 _ _ ?_; clear  hK17 K17
      apply wp_ret
      refine vc_ret1 hF Tryz.results82 rfl ?_
      rw [bytesR, sized_short (by omega)]
      exact ⟨_, [], rfl, Buf.nil _ _, Hp.nil hA19⟩

def textsGo (each : Int) : Nat → List (List UInt8) → Nat → List UInt8 → Res (List (List UInt8))
  | 0, acc, at_, _ => .ok acc at_
  | k + 1, acc, at_, r => match textR r each with
    | .no e => .no e
    | .ok s j => if acc ≠ [] ∧ strB .geq (acc.getLastD []) s = true then .no 8 else textsGo each k (acc ++ [s]) (at_ + j) (r.drop j)
def textsR (r : List UInt8) (most each : Int) : Res (List (List UInt8)) := if r.length < 2 then .no 8 else if bnd most 65535 < (num (r.take 2) : Int) then .no 7 else textsGo each (num (r.take 2)) [] 2 (r.drop 2)
theorem hr_elemS : elemInfo Tryz.prog 9 1 16 := elemInfo_of (z := strV []) (by kernel_rfl) (by kernel_rfl)
theorem hr_bsS (s : List UInt8) (w : World) : (Instr.buildSlice 23 1 #[(0, strV s)]).run Tryz.prog w = .ok (.slice (some ⟨w.heap.size, 0, none⟩) 1 1) (w.alloc (.cells #[strV s] 9)) := by kernel_rfl

set_option maxRecDepth 100000 in
set_option maxHeartbeats 1000000 in
theorem hr_texts (w0 w : World) (R : List Seg) (rb : Nat) (A : Option Addr) (l : List UInt8) (c p y : Nat) (X : Seg) (most each : Int) (hO : Buf 5 1 X (.slice A l.length c) l.length (dc l)) (hA : Hp w0 ([row rb 152 [.slice A l.length c, .int .i64 (p : Nat), .int .i64 (y : Nat)]] :: X :: R) w) (hp : p ≤ l.length) (hl : l.length < 140737488354000) : Calls Tryz.prog 100 #[.pointer (some ⟨rb, 0, none⟩), .int .i64 most, .int .i64 each] w fun e w' => ∃ v Z, e = .returned v ∧ Buf 9 1 Z v ((textsR (l.drop p) most each).val [] y).length (((textsR (l.drop p) most each).val [] y).map strV) ∧ Hp w0 (Z :: [row rb 152 [.slice A l.length c, .int .i64 ((textsR (l.drop p) most each).pl p y : Nat), .int .i64 ((textsR (l.drop p) most each).why y : Nat)]] :: X :: R) w' := by
  refine vc_enter Tryz.func100 rfl Tryz.ntmps100 (Nat.le_of_ble_eq_true rfl) (fun a hF => ?_)
  apply wp_seq_k; intro K1 hK1
  refine wp_region_lit ?_
  refine vc_y hF rfl rfl (by decide) _ (y_assign rfl rfl) (fun a hF => ?_)
  refine vc_nil ?_
  refine hK1 _ _ ?_; clear  hK1 K1
  apply wp_seq_k; intro K2 hK2
  apply wp_seq_k; intro K3 hK3
  refine wp_region_lit ?_
  refine vc_y hF rfl rfl (by decide) _ (y_move rfl rfl) (fun a hF => ?_)
  refine vc_y hF rfl rfl (by decide) _ (y_nilCheck rfl rfl) (fun a hF => ?_)
  refine vc_y hF rfl rfl (by decide) _ (y_field rfl Tryz.underlying152 rfl sz40_hr (by decide) rfl (rfl : (⟨_, 0 + _, none⟩ : Addr) = ⟨_, 2, none⟩)) (fun a hF => ?_)
  refine vc_y hF rfl rfl (by decide) _ (y_ld rfl hA.q rfl 0 rfl rfl nr40_hr) (fun a hF => ?_)
  refine vc_y hF rfl rfl (by decide) _ (y_cmp rfl rfl rfl rfl rfl) (fun a hF => ?_)
  refine vc_nil ?_
  refine hK3 _ _ ?_; clear  hK3 K3
  by_cases hy : y ≠ 0
  · refine vc_trueB hF rfl (neq_t (by omega)) ?_
    apply wp_seq_k; intro K4 hK4
    refine wp_region_lit ?_
    refine vc_y hF rfl rfl (by decide) _ (y_assign rfl rfl) (fun a hF => ?_)
    refine vc_nil ?_
    refine hK4 _ _ ?_; clear  hK4 K4
    apply wp_ret
    simp only [Exit.then]
    refine vc_ret1 hF Tryz.results100 rfl ?_
    obtain ⟨e1, e2, e3⟩ := Res.skip (textsR (l.drop p) most each) [] p y hy
    rw [e1, e2, e3]
    exact ⟨_, [], rfl, Buf.nil _ _, Hp.nil hA⟩
  · obtain rfl : y = 0 := by omega
    refine vc_falseB hF rfl (neq_f rfl) ?_
    have hn := num_two (l.drop p)
    have hbl := bnd_le most 65535
    have hlen : (l.drop p).length = l.length - p := List.length_drop
    by_cases hK : p + 2 ≤ l.length
    · have hs : ¬ (l.drop p).length < 2 := by omega
      apply wp_skip
      refine hK2 _ _ ?_; clear  hK2 K2
      apply wp_seq_k; intro K5 hK5
      refine wp_region_lit ?_
      refine vc_y hF rfl rfl (by decide) _ (y_move rfl rfl) (fun a hF => ?_)
      refine vc_y hF rfl rfl (by decide) _ (y_move rfl rfl) (fun a hF => ?_)
      refine vc_y hF rfl rfl (by decide) _ (y_nilCheck rfl rfl) (fun a hF => ?_)
      refine vc_y hF rfl rfl (by decide) _ (y_field rfl Tryz.underlying152 rfl sz3_hr (by decide) rfl (rfl : (⟨_, 0 + _, none⟩ : Addr) = ⟨_, 1, none⟩)) (fun a hF => ?_)
      refine vc_y hF rfl rfl (by decide) _ (y_ld rfl hA.q rfl 0 rfl rfl nr3_hr) (fun a hF => ?_)
      refine vc_op rfl (fun K hK => ws_call hF rfl (by decide) cl98_hr rfl rfl ?_)
      with_reducible refine (hr_ahead_uint16 w0 _ R rb A l c p 0 X p hO hA hl (by omega) ).mono ?_
      rintro e' w3 ⟨rfl, rfl⟩
      refine ⟨_, rfl, fun a hF => hK _ _ ?_⟩
      clear hK K
      rw [(ah_ok (q := p) hK).1, (ah_ok (q := p) hK).2.1, (ah_ok (q := p) hK).2.2] at hF
      refine vc_y hF rfl rfl (by decide) _ (y_move rfl rfl) (fun a hF => ?_)
      refine vc_y hF rfl rfl (by decide) _ (y_extract (v := .int .u16 (num ((l.drop p).take 2) : Nat)) rfl rfl rfl) (fun a hF => ?_)
      refine vc_y hF rfl rfl (by decide) _ (y_extract (v := .int .i64 ((p + 2 : Nat) : Int)) rfl rfl rfl) (fun a hF => ?_)
      refine vc_y hF rfl rfl (by decide) _ (y_extract (v := .bool true) rfl rfl rfl) (fun a hF => ?_)
      refine vc_y hF rfl rfl (by decide) _ (y_assign rfl rfl) (fun a hF => ?_)
      refine vc_y hF rfl rfl (by decide) _ (y_assign rfl rfl) (fun a hF => ?_)
      refine vc_y hF rfl rfl (by decide) _ (y_assign rfl rfl) (fun a hF => ?_)
      refine vc_nil ?_
      refine hK5 _ _ ?_; clear  hK5 K5
      apply wp_seq_k; intro K6 hK6
      apply wp_seq_k; intro K7 hK7
      refine wp_region_lit ?_
      refine vc_y hF rfl rfl (by decide) _ (y_move rfl rfl) (fun a hF => ?_)
      refine vc_y hF rfl rfl (by decide) _ (y_not rfl rfl rfl) (fun a hF => ?_)
      refine vc_nil ?_
      refine hK7 _ _ ?_; clear  hK7 K7
      refine vc_false hF rfl ?_
      apply wp_skip
      refine hK6 _ _ ?_; clear  hK6 K6
      apply wp_seq_k; intro K8 hK8
      apply wp_seq_k; intro K9 hK9
      refine wp_region_lit ?_
      refine vc_y hF rfl rfl (by decide) _ (y_move rfl rfl) (fun a hF => ?_)
      refine vc_y hF rfl rfl (by decide) _ (y_conv rfl Tryz.underlying81 Tryz.underlying3 rfl (IntWalk.i64_in _ (by omega))) (fun a hF => ?_)
      refine vc_y hF rfl rfl (by decide) _ (y_move rfl rfl) (fun a hF => ?_)
      refine vc_op rfl (fun K hK => ws_call hF rfl (by decide) cl139_hr rfl rfl ?_)
      with_reducible refine (hw_bound w _ _ ).mono ?_
      rintro e' w6 ⟨rfl, rfl⟩
      refine ⟨_, rfl, fun a hF => hK _ _ ?_⟩
      clear hK K
      refine vc_y hF rfl rfl (by decide) _ (y_cmp rfl rfl rfl rfl rfl) (fun a hF => ?_)
      refine vc_nil ?_
      refine hK9 _ _ ?_; clear  hK9 K9
      by_cases h1 : bnd most 65535 < (num ((l.drop p).take 2) : Int)
      · refine vc_trueB hF rfl (gtr_t (by omega)) ?_
        have e1 : textsR (l.drop p) most each = .no 7 := by rw [textsR, if_neg hs, if_pos h1]
        apply wp_seq_k; intro K10 hK10
        refine wp_region_lit ?_
        refine vc_y hF rfl rfl (by decide) _ (y_move rfl rfl) (fun a hF => ?_)
        refine vc_op rfl (fun K hK => ws_call hF rfl (by decide) cl97_hr rfl rfl ?_)
        with_reducible refine (hr_refuse w0 _ _ rb A l c p _ X 7 7 rfl rfl hA ).mono ?_
        rintro e' w7 ⟨rfl, hA8⟩
        refine ⟨_, rfl, fun a hF => hK _ _ ?_⟩
        clear hK K
        replace hA8 : Hp w0 ([row rb 152 [.slice A l.length c, .int .i64 (p : Int), .int .i64 ((7 : Nat) : Int)]] :: X :: R) w7 := hA8
        refine vc_nil ?_
        refine hK10 _ _ ?_; clear  hK10 K10
        apply wp_seq_k; intro K11 hK11
        refine wp_region_lit ?_
        refine vc_y hF rfl rfl (by decide) _ (y_assign rfl rfl) (fun a hF => ?_)
        refine vc_nil ?_
        refine hK11 _ _ ?_; clear  hK11 K11
        apply wp_ret
        simp only [Exit.then]
        refine vc_ret1 hF Tryz.results100 rfl ?_
        rw [e1]
        exact ⟨_, [], rfl, Buf.nil _ _, Hp.nil hA8⟩
      · refine vc_falseB hF rfl (gtr_f (by omega)) ?_
        obtain ⟨n, hnn⟩ : ∃ n, n = num ((l.drop p).take 2) := ⟨_, rfl⟩
        have hE : textsR (l.drop p) most each = textsGo each n [] 2 ((l.drop p).drop 2) := by rw [textsR, if_neg hs, if_neg h1, ← hnn]
        rw [← hnn] at hn h1
        rw [← hnn] at hF
        apply wp_skip
        refine hK8 _ _ ?_; clear  hK8 K8
        apply wp_seq_k; intro K12 hK12
        refine wp_region_lit ?_
        refine vc_y hF rfl rfl (by decide) _ (y_assign rfl rfl) (fun a hF => ?_)
        refine vc_nil ?_
        refine hK12 _ _ ?_; clear  hK12 K12
        apply wp_seq_k; intro K13 hK13
        apply wp_seq_k; intro K14 hK14
        refine wp_region_lit ?_
        refine vc_y hF rfl rfl (by decide) _ (y_move rfl rfl) (fun a hF => ?_)
        refine vc_y hF rfl rfl (by decide) _ (y_conv rfl Tryz.underlying81 Tryz.underlying3 rfl (IntWalk.i64_in _ (by omega))) (fun a hF => ?_)
        refine vc_y hF rfl rfl (by decide) _ (y_move rfl rfl) (fun a hF => ?_)
        refine vc_nil ?_
        refine hK14 _ _ ?_; clear  hK14 K14
        apply wp_block
        have hA9 : Hp w0 (([] : Seg) :: [row rb 152 [.slice A l.length c, .int .i64 (p : Int), .int .i64 ((0 : Nat) : Int)]] :: X :: R) w := Hp.nil hA
        refine vc_loop (G := Nat) (fun i a x => ∃ (v1 : Value) (Z1 : Seg) (ss : List (List UInt8)) (at_ : Nat) (q : Nat), i ≤ n ∧ ss.length = i ∧ p + at_ = q ∧ q ≤ l.length ∧ textsR (l.drop p) most each = textsGo each (n - i) ss at_ (l.drop q) ∧ Buf 9 1 Z1 v1 ss.length (ss.map strV) ∧ Fr 85 [(42, .int .i64 (i : Int)), (10, v1), (8, .int .i64 (q : Int)), (0, .pointer (some ⟨rb, 0, none⟩)), (1, .int .i64 most), (2, .int .i64 each), (41, .int .i64 (n : Int))] a ∧ Hp w0 (Z1 :: [row rb 152 [.slice A l.length c, .int .i64 (p : Int), .int .i64 ((0 : Nat) : Int)]] :: X :: R) x) (fun i => n - i) 0 (⟨.slice none 0 0, [], [], 2, p + 2, Nat.zero_le _, rfl, rfl, by omega, by rw [hE, List.drop_drop]; rfl, Buf.nil _ _, hF.keep [42, 10, 8, 0, 1, 2, 41] rfl, hA9⟩) ?_
        clear hF
        rintro i a w11 ⟨v1, Z1, ss, at_, q, hi, hss, hq, hql, hE, hZ, hF, hA10⟩
        apply wp_seq_k; intro K15 hK15
        refine wp_region_lit ?_
        refine vc_y hF rfl rfl (by decide) _ (y_cmp rfl rfl rfl rfl rfl) (fun a hF => ?_)
        refine vc_nil ?_
        refine hK15 _ _ ?_; clear  hK15 K15
        apply wp_seq_k; intro K16 hK16
        by_cases hlt : i < n
        · refine vc_trueB hF rfl (lss_t (by omega)) ?_
          rw [show n - i = (n - (i + 1)) + 1 by omega, textsGo] at hE
          obtain ⟨A1, c1, rfl, hc1, hR1⟩ := hZ.rc (w0 := w0) (R := [Z1]) (List.mem_cons_self ..)
          apply wp_skip
          refine hK16 _ _ ?_; clear  hK16 K16
          apply wp_seq_k; intro K17 hK17
          apply wp_block
          apply wp_seq_k; intro K18 hK18
          refine wp_region_lit ?_
          refine vc_y hF rfl rfl (by decide) _ (y_move rfl rfl) (fun a hF => ?_)
          refine vc_y hF rfl rfl (by decide) _ (y_move rfl rfl) (fun a hF => ?_)
          refine vc_y hF rfl rfl (by decide) _ (y_move rfl rfl) (fun a hF => ?_)
          have hA12 : Hp w0 ([row rb 152 [.slice A l.length c, .int .i64 (p : Int), .int .i64 ((0 : Nat) : Int)]] :: X :: Z1 :: R) w11 := Hp.ord [Z1, [row rb 152 [.slice A l.length c, .int .i64 (p : Int), .int .i64 ((0 : Nat) : Int)]], X] R [1, 2, 0] hA10 rfl
          refine vc_op rfl (fun K hK => ws_call hF rfl (by decide) cl141_hr rfl rfl ?_)
          with_reducible refine (hr_textAt w0 _ _ rb A l c p 0 X q each hO hA12 hl hql ).mono ?_
          rintro e' w15 ⟨to, rfl, rfl, hto⟩
          refine ⟨_, rfl, fun a hF => hK _ _ ?_⟩
          clear hK K
          refine vc_y hF rfl rfl (by decide) _ (y_move rfl rfl) (fun a hF => ?_)
          refine vc_y hF rfl rfl (by decide) _ (y_extract (v := strV ((textR (l.drop q) each).val [] 0)) rfl rfl rfl) (fun a hF => ?_)
          refine vc_y hF rfl rfl (by decide) _ (y_extract (v := .int .i64 (to : Int)) rfl rfl rfl) (fun a hF => ?_)
          refine vc_y hF rfl rfl (by decide) _ (y_extract (v := .int .i64 ((textR (l.drop q) each).why 0 : Nat)) rfl rfl rfl) (fun a hF => ?_)
          refine vc_y hF rfl rfl (by decide) _ (y_assign rfl rfl) (fun a hF => ?_)
          refine vc_y hF rfl rfl (by decide) _ (y_assign rfl rfl) (fun a hF => ?_)
          refine vc_y hF rfl rfl (by decide) _ (y_assign rfl rfl) (fun a hF => ?_)
          refine vc_nil ?_
          refine hK18 _ _ ?_; clear  hK18 K18
          apply wp_seq_k; intro K19 hK19
          apply wp_seq_k; intro K20 hK20
          cases hr : textR (l.drop q) each with
          | no e =>
            have he := sized_no hr
            rw [hr, show (Res.no e : Res (List UInt8)).why 0 = e from rfl] at hF
            rw [hr] at hE
            simp only at hE
            refine wp_region_lit ?_
            refine vc_y hF rfl rfl (by decide) _ (y_move rfl rfl) (fun a hF => ?_)
            refine vc_y hF rfl rfl (by decide) _ (y_cmp rfl rfl rfl rfl (eql_f (by omega))) (fun a hF => ?_)
            refine vc_y hF rfl rfl (by decide) _ (y_move rfl rfl) (fun a hF => ?_)
            refine vc_skip hF rfl rfl rfl rfl rfl rfl (by decide) (fun a hF => ?_)
            refine vc_skip hF rfl rfl rfl rfl rfl rfl (by decide) (fun a hF => ?_)
            refine vc_skip hF rfl rfl rfl rfl rfl rfl (by decide) (fun a hF => ?_)
            refine vc_y hF rfl rfl (by decide) _ (y_pick rfl rfl rfl) (fun a hF => ?_)
            refine vc_y hF rfl rfl (by decide) _ (y_move rfl rfl) (fun a hF => ?_)
            refine vc_skip hF rfl rfl rfl rfl rfl rfl (by decide) (fun a hF => ?_)
            refine vc_skip hF rfl rfl rfl rfl rfl rfl (by decide) (fun a hF => ?_)
            refine vc_skip hF rfl rfl rfl rfl rfl rfl (by decide) (fun a hF => ?_)
            refine vc_skip hF rfl rfl rfl rfl rfl rfl (by decide) (fun a hF => ?_)
            refine vc_skip hF rfl rfl rfl rfl rfl rfl (by decide) (fun a hF => ?_)
            refine vc_skip hF rfl rfl rfl rfl rfl rfl (by decide) (fun a hF => ?_)
            refine vc_skip hF rfl rfl rfl rfl rfl rfl (by decide) (fun a hF => ?_)
            refine vc_skip hF rfl rfl rfl rfl rfl rfl (by decide) (fun a hF => ?_)
            refine vc_y hF rfl rfl (by decide) _ (y_pick rfl rfl rfl) (fun a hF => ?_)
            refine vc_nil ?_
            refine hK20 _ _ ?_; clear  hK20 K20
            refine vc_false hF rfl ?_
            apply wp_skip
            refine hK19 _ _ ?_; clear  hK19 K19
            apply wp_seq_k; intro K21 hK21
            apply wp_seq_k; intro K22 hK22
            refine wp_region_lit ?_
            refine vc_y hF rfl rfl (by decide) _ (y_move rfl rfl) (fun a hF => ?_)
            refine vc_y hF rfl rfl (by decide) _ (y_cmp rfl rfl rfl rfl rfl) (fun a hF => ?_)
            refine vc_nil ?_
            refine hK22 _ _ ?_; clear  hK22 K22
            refine vc_trueB hF rfl (neq_t (show (e : Int) ≠ 0 by omega)) ?_
            apply wp_seq_k; intro K23 hK23
            refine wp_region_lit ?_
            refine vc_y hF rfl rfl (by decide) _ (y_move rfl rfl) (fun a hF => ?_)
            refine vc_y hF rfl rfl (by decide) _ (y_move rfl rfl) (fun a hF => ?_)
            refine vc_op rfl (fun K hK => ws_call hF rfl (by decide) cl97_hr rfl rfl ?_)
            with_reducible refine (hr_refuse w0 _ _ rb A l c p 0 X e _ rfl rfl hA12 ).mono ?_
            rintro e' w16 ⟨rfl, hA17⟩
            refine ⟨_, rfl, fun a hF => hK _ _ ?_⟩
            clear hK K
            replace hA17 : Hp w0 ([row rb 152 [.slice A l.length c, .int .i64 (p : Int), .int .i64 ((e : Nat) : Int)]] :: X :: Z1 :: R) w16 := hA17
            refine vc_nil ?_
            refine hK23 _ _ ?_; clear  hK23 K23
            apply wp_seq_k; intro K24 hK24
            refine wp_region_lit ?_
            refine vc_y hF rfl rfl (by decide) _ (y_assign rfl rfl) (fun a hF => ?_)
            refine vc_nil ?_
            refine hK24 _ _ ?_; clear  hK24 K24
            apply wp_ret
            simp only [Exit.then, Exit.inBlock]
            refine vc_ret1 hF Tryz.results100 rfl ?_
            have hA18 : Hp w0 ([row rb 152 [.slice A l.length c, .int .i64 (p : Int), .int .i64 ((e : Nat) : Int)]] :: X :: R) w16 := Hp.sel [[row rb 152 [.slice A l.length c, .int .i64 (p : Int), .int .i64 ((e : Nat) : Int)]], X, Z1] R [0, 1] [2] hA17 rfl
            rw [hE]
            exact ⟨_, [], rfl, Buf.nil _ _, Hp.nil hA18⟩
          | ok t k =>
            have hle := sized_le hr
            rw [List.length_drop] at hle
            obtain rfl := hto t k hr
            rw [hr, show (Res.ok t k : Res (List UInt8)).why 0 = 0 from rfl, show (Res.ok t k : Res (List UInt8)).val [] 0 = t from rfl] at hF
            rw [hr] at hE
            simp only at hE
            by_cases h0 : ss.length = 0
            · have h00 : ss = [] := List.length_eq_zero_iff.1 (by omega)
              rw [if_neg (fun h => absurd h00 h.1)] at hE
              refine wp_region_lit ?_
              refine vc_y hF rfl rfl (by decide) _ (y_move rfl rfl) (fun a hF => ?_)
              refine vc_y hF rfl rfl (by decide) _ (y_cmp rfl rfl rfl rfl (eql_t (by omega))) (fun a hF => ?_)
              refine vc_y hF rfl rfl (by decide) _ (y_move rfl rfl) (fun a hF => ?_)
              refine vc_yg hF rfl rfl rfl rfl rfl (by decide) _ (y_move rfl rfl) (fun a hF => ?_)
              refine vc_yg hF rfl rfl rfl rfl rfl (by decide) _ (y_lenSl rfl Tryz.underlying23 rfl rfl) (fun a hF => ?_)
              refine vc_yg hF rfl rfl rfl rfl rfl (by decide) _ (y_cmp rfl rfl rfl rfl (gtr_f (by omega))) (fun a hF => ?_)
              refine vc_y hF rfl rfl (by decide) _ (y_pick rfl rfl rfl) (fun a hF => ?_)
              refine vc_y hF rfl rfl (by decide) _ (y_move rfl rfl) (fun a hF => ?_)
              refine vc_skip hF rfl rfl rfl rfl rfl rfl (by decide) (fun a hF => ?_)
              refine vc_skip hF rfl rfl rfl rfl rfl rfl (by decide) (fun a hF => ?_)
              refine vc_skip hF rfl rfl rfl rfl rfl rfl (by decide) (fun a hF => ?_)
              refine vc_skip hF rfl rfl rfl rfl rfl rfl (by decide) (fun a hF => ?_)
              refine vc_skip hF rfl rfl rfl rfl rfl rfl (by decide) (fun a hF => ?_)
              refine vc_skip hF rfl rfl rfl rfl rfl rfl (by decide) (fun a hF => ?_)
              refine vc_skip hF rfl rfl rfl rfl rfl rfl (by decide) (fun a hF => ?_)
              refine vc_skip hF rfl rfl rfl rfl rfl rfl (by decide) (fun a hF => ?_)
              refine vc_y hF rfl rfl (by decide) _ (y_pick rfl rfl rfl) (fun a hF => ?_)
              refine vc_nil ?_
              refine hK20 _ _ ?_; clear  hK20 K20
              refine vc_false hF rfl ?_
              apply wp_skip
              refine hK19 _ _ ?_; clear  hK19 K19
              apply wp_seq_k; intro K25 hK25
              apply wp_seq_k; intro K26 hK26
              refine wp_region_lit ?_
              refine vc_y hF rfl rfl (by decide) _ (y_move rfl rfl) (fun a hF => ?_)
              refine vc_y hF rfl rfl (by decide) _ (y_cmp rfl rfl rfl rfl rfl) (fun a hF => ?_)
              refine vc_nil ?_
              refine hK26 _ _ ?_; clear  hK26 K26
              refine vc_falseB hF rfl (neq_f rfl) ?_
              apply wp_skip
              refine hK25 _ _ ?_; clear  hK25 K25
              refine wp_region_lit ?_
              refine vc_y hF rfl rfl (by decide) _ (y_move rfl rfl) (fun a hF => ?_)
              refine vc_y hF rfl rfl (by decide) _ (y_move rfl rfl) (fun a hF => ?_)
              refine vc_op rfl (fun K hK => hs_bs1 hF rfl (by decide) rfl hA12 rfl (hr_bsS t) (fun b19 w20 a hb19 hF hA21 => hK _ _ ?_))
              clear hK K
              replace hA21 : Hp w0 ([row b19 9 [strV t]] :: [row rb 152 [.slice A l.length c, .int .i64 (p : Int), .int .i64 ((0 : Nat) : Int)]] :: X :: Z1 :: R) w20 := hA21
              refine vc_op rfl (fun K hK => hs_append hF rfl (by decide) rfl hA21 3 rfl hZ Tryz.underlying23 hr_elemS rfl rfl (Rc.srcC (W := [strV t]) (m := 1) (size := 1) (R := [row b19 9 [strV t]] :: [row rb 152 [.slice A l.length c, .int .i64 (p : Int), .int .i64 ((0 : Nat) : Int)]] :: X :: Z1 :: R) (Rc.ofRow (i := 0) (off := 0) rfl rfl) hA21.q Tryz.underlying23 (by decide) rfl (by simp [Value.oneCell'])) (by omega) (by decide) (fun v2 Z2 w22 a hZ2 hF hA23 => hK _ _ ?_))
              clear hK K
              replace hA23 : Hp w0 ([row b19 9 [strV t]] :: [row rb 152 [.slice A l.length c, .int .i64 (p : Int), .int .i64 ((0 : Nat) : Int)]] :: X :: Z2 :: R) w22 := hA23
              replace hZ2 : Buf 9 1 Z2 v2 (ss ++ [t]).length ((ss ++ [t]).map strV) := by rw [List.length_append, List.map_append]; exact hZ2
              refine vc_y hF rfl rfl (by decide) _ (y_move rfl rfl) (fun a hF => ?_)
              refine vc_y hF rfl rfl (by decide) _ (y_assign rfl rfl) (fun a hF => ?_)
              refine vc_y hF rfl rfl (by decide) _ (y_assign rfl rfl) (fun a hF => ?_)
              refine vc_nil ?_
              refine hK17 _ _ ?_; clear  hK17 K17
              refine wp_region_lit ?_
              refine vc_y hF rfl rfl (by decide) _ (y_add rfl rfl rfl (IntWalk.i64_in _ (by omega))) (fun a hF => ?_)
              refine vc_y hF rfl rfl (by decide) _ (y_move rfl rfl) (fun a hF => ?_)
              refine vc_nil ?_
              have hA24 : Hp w0 (Z2 :: [row rb 152 [.slice A l.length c, .int .i64 (p : Int), .int .i64 ((0 : Nat) : Int)]] :: X :: R) w22 := Hp.sel [[row b19 9 [strV t]], [row rb 152 [.slice A l.length c, .int .i64 (p : Int), .int .i64 ((0 : Nat) : Int)]], X, Z2] R [3, 1, 2] [0] hA23 rfl
              exact ⟨i + 1, by omega, v2, Z2, ss ++ [t], at_ + k, q + k, by omega, by rw [List.length_append, hss]; rfl, by omega, by omega, by rw [hE, List.drop_drop], hZ2, hF.keep [42, 10, 8, 0, 1, 2, 41] rfl, hA24⟩
            · obtain ⟨u, hu⟩ : ∃ u, ss[ss.length - 1]? = some u := ⟨_, List.getElem?_eq_getElem (by omega)⟩
              have hlast : ss.getLastD [] = u := by rw [List.getLastD_eq_getLast?, List.getLast?_eq_getElem?, hu]; rfl
              obtain ⟨b1, o1, rfl, hcc⟩ := hR1.ne (i := ss.length - 1) (by rw [List.length_map]; omega)
              rw [hlast] at hE
              by_cases hge : strB .geq u t = true
              · rw [if_pos (show ss ≠ [] ∧ strB .geq u t = true from ⟨fun e => by rw [e] at h0; exact h0 rfl, hge⟩)] at hE
                refine wp_region_lit ?_
                refine vc_y hF rfl rfl (by decide) _ (y_move rfl rfl) (fun a hF => ?_)
                refine vc_y hF rfl rfl (by decide) _ (y_cmp rfl rfl rfl rfl (eql_t (by omega))) (fun a hF => ?_)
                refine vc_y hF rfl rfl (by decide) _ (y_move rfl rfl) (fun a hF => ?_)
                refine vc_yg hF rfl rfl rfl rfl rfl (by decide) _ (y_move rfl rfl) (fun a hF => ?_)
                refine vc_yg hF rfl rfl rfl rfl rfl (by decide) _ (y_lenSl rfl Tryz.underlying23 rfl rfl) (fun a hF => ?_)
                refine vc_yg hF rfl rfl rfl rfl rfl (by decide) _ (y_cmp rfl rfl rfl rfl (gtr_t (by omega))) (fun a hF => ?_)
                refine vc_y hF rfl rfl (by decide) _ (y_pick rfl rfl rfl) (fun a hF => ?_)
                refine vc_y hF rfl rfl (by decide) _ (y_move rfl rfl) (fun a hF => ?_)
                refine vc_yg hF rfl rfl rfl rfl rfl (by decide) _ (y_move rfl rfl) (fun a hF => ?_)
                refine vc_yg hF rfl rfl rfl rfl rfl (by decide) _ (y_move rfl rfl) (fun a hF => ?_)
                refine vc_yg hF rfl rfl rfl rfl rfl (by decide) _ (y_lenSl rfl Tryz.underlying23 rfl rfl) (fun a hF => ?_)
                refine vc_yg hF rfl rfl rfl rfl rfl (by decide) _ (y_sub rfl rfl rfl (IntWalk.i64_in _ (by omega))) (fun a hF => ?_)
                refine vc_yg hF rfl rfl rfl rfl rfl (by decide) _ (y_ixSl rfl Tryz.underlying23 sz9_hr rfl rfl (ss.length - 1) (by omega) (by omega) (ad2 _ _ _)) (fun a hF => ?_)
                refine vc_yg hF rfl rfl rfl rfl rfl (by decide) _ (y_ldC (u := strV u) rfl (Hq.sub hA12.q (fun x hx => by rw [List.mem_singleton] at hx; subst hx; simp)) rfl hcc (ss.length - 1) (by rw [List.length_map]; omega) rfl (by rw [List.getElem?_map, hu]; rfl) nr9_hr) (fun a hF => ?_)
                refine vc_yg hF rfl rfl rfl rfl rfl (by decide) _ (y_move rfl rfl) (fun a hF => ?_)
                refine vc_yg hF rfl rfl rfl rfl rfl (by decide) _ (y_cmpS rfl rfl rfl rfl (hge)) (fun a hF => ?_)
                refine vc_y hF rfl rfl (by decide) _ (y_pick rfl rfl rfl) (fun a hF => ?_)
                refine vc_nil ?_
                refine hK20 _ _ ?_; clear  hK20 K20
                refine vc_true hF rfl ?_
                refine wp_region_lit ?_
                refine vc_y hF rfl rfl (by decide) _ (y_assign rfl rfl) (fun a hF => ?_)
                refine vc_nil ?_
                refine hK19 _ _ ?_; clear  hK19 K19
                apply wp_seq_k; intro K27 hK27
                apply wp_seq_k; intro K28 hK28
                refine wp_region_lit ?_
                refine vc_y hF rfl rfl (by decide) _ (y_move rfl rfl) (fun a hF => ?_)
                refine vc_y hF rfl rfl (by decide) _ (y_cmp rfl rfl rfl rfl rfl) (fun a hF => ?_)
                refine vc_nil ?_
                refine hK28 _ _ ?_; clear  hK28 K28
                refine vc_trueB hF rfl (neq_t (by decide)) ?_
                apply wp_seq_k; intro K29 hK29
                refine wp_region_lit ?_
                refine vc_y hF rfl rfl (by decide) _ (y_move rfl rfl) (fun a hF => ?_)
                refine vc_y hF rfl rfl (by decide) _ (y_move rfl rfl) (fun a hF => ?_)
                refine vc_op rfl (fun K hK => ws_call hF rfl (by decide) cl97_hr rfl rfl ?_)
                with_reducible refine (hr_refuse w0 _ _ rb A l c p 0 X 8 8 rfl rfl hA12 ).mono ?_
                rintro e' w25 ⟨rfl, hA26⟩
                refine ⟨_, rfl, fun a hF => hK _ _ ?_⟩
                clear hK K
                replace hA26 : Hp w0 ([row rb 152 [.slice A l.length c, .int .i64 (p : Int), .int .i64 ((8 : Nat) : Int)]] :: X :: Z1 :: R) w25 := hA26
                refine vc_nil ?_
                refine hK29 _ _ ?_; clear  hK29 K29
                apply wp_seq_k; intro K30 hK30
                refine wp_region_lit ?_
                refine vc_y hF rfl rfl (by decide) _ (y_assign rfl rfl) (fun a hF => ?_)
                refine vc_nil ?_
                refine hK30 _ _ ?_; clear  hK30 K30
                apply wp_ret
                simp only [Exit.then, Exit.inBlock]
                refine vc_ret1 hF Tryz.results100 rfl ?_
                have hA27 : Hp w0 ([row rb 152 [.slice A l.length c, .int .i64 (p : Int), .int .i64 ((8 : Nat) : Int)]] :: X :: R) w25 := Hp.sel [[row rb 152 [.slice A l.length c, .int .i64 (p : Int), .int .i64 ((8 : Nat) : Int)]], X, Z1] R [0, 1] [2] hA26 rfl
                rw [hE]
                exact ⟨_, [], rfl, Buf.nil _ _, Hp.nil hA27⟩
              · replace hge : strB .geq u t = false := by simpa using hge
                rw [if_neg (fun h => by rw [hge] at h; exact absurd h.2 (by decide))] at hE
                refine wp_region_lit ?_
                refine vc_y hF rfl rfl (by decide) _ (y_move rfl rfl) (fun a hF => ?_)
                refine vc_y hF rfl rfl (by decide) _ (y_cmp rfl rfl rfl rfl (eql_t (by omega))) (fun a hF => ?_)
                refine vc_y hF rfl rfl (by decide) _ (y_move rfl rfl) (fun a hF => ?_)
                refine vc_yg hF rfl rfl rfl rfl rfl (by decide) _ (y_move rfl rfl) (fun a hF => ?_)
                refine vc_yg hF rfl rfl rfl rfl rfl (by decide) _ (y_lenSl rfl Tryz.underlying23 rfl rfl) (fun a hF => ?_)
                refine vc_yg hF rfl rfl rfl rfl rfl (by decide) _ (y_cmp rfl rfl rfl rfl (gtr_t (by omega))) (fun a hF => ?_)
                refine vc_y hF rfl rfl (by decide) _ (y_pick rfl rfl rfl) (fun a hF => ?_)
                refine vc_y hF rfl rfl (by decide) _ (y_move rfl rfl) (fun a hF => ?_)
                refine vc_yg hF rfl rfl rfl rfl rfl (by decide) _ (y_move rfl rfl) (fun a hF => ?_)
                refine vc_yg hF rfl rfl rfl rfl rfl (by decide) _ (y_move rfl rfl) (fun a hF => ?_)
                refine vc_yg hF rfl rfl rfl rfl rfl (by decide) _ (y_lenSl rfl Tryz.underlying23 rfl rfl) (fun a hF => ?_)
                refine vc_yg hF rfl rfl rfl rfl rfl (by decide) _ (y_sub rfl rfl rfl (IntWalk.i64_in _ (by omega))) (fun a hF => ?_)
                refine vc_yg hF rfl rfl rfl rfl rfl (by decide) _ (y_ixSl rfl Tryz.underlying23 sz9_hr rfl rfl (ss.length - 1) (by omega) (by omega) (ad2 _ _ _)) (fun a hF => ?_)
                refine vc_yg hF rfl rfl rfl rfl rfl (by decide) _ (y_ldC (u := strV u) rfl (Hq.sub hA12.q (fun x hx => by rw [List.mem_singleton] at hx; subst hx; simp)) rfl hcc (ss.length - 1) (by rw [List.length_map]; omega) rfl (by rw [List.getElem?_map, hu]; rfl) nr9_hr) (fun a hF => ?_)
                refine vc_yg hF rfl rfl rfl rfl rfl (by decide) _ (y_move rfl rfl) (fun a hF => ?_)
                refine vc_yg hF rfl rfl rfl rfl rfl (by decide) _ (y_cmpS rfl rfl rfl rfl (hge)) (fun a hF => ?_)
                refine vc_y hF rfl rfl (by decide) _ (y_pick rfl rfl rfl) (fun a hF => ?_)
                refine vc_nil ?_
                refine hK20 _ _ ?_; clear  hK20 K20
                refine vc_false hF rfl ?_
                apply wp_skip
                refine hK19 _ _ ?_; clear  hK19 K19
                apply wp_seq_k; intro K31 hK31
                apply wp_seq_k; intro K32 hK32
                refine wp_region_lit ?_
                refine vc_y hF rfl rfl (by decide) _ (y_move rfl rfl) (fun a hF => ?_)
                refine vc_y hF rfl rfl (by decide) _ (y_cmp rfl rfl rfl rfl rfl) (fun a hF => ?_)
                refine vc_nil ?_
                refine hK32 _ _ ?_; clear  hK32 K32
                refine vc_falseB hF rfl (neq_f rfl) ?_
                apply wp_skip
                refine hK31 _ _ ?_; clear  hK31 K31
                refine wp_region_lit ?_
                refine vc_y hF rfl rfl (by decide) _ (y_move rfl rfl) (fun a hF => ?_)
                refine vc_y hF rfl rfl (by decide) _ (y_move rfl rfl) (fun a hF => ?_)
                refine vc_op rfl (fun K hK => hs_bs1 hF rfl (by decide) rfl hA12 rfl (hr_bsS t) (fun b28 w29 a hb28 hF hA30 => hK _ _ ?_))
                clear hK K
                replace hA30 : Hp w0 ([row b28 9 [strV t]] :: [row rb 152 [.slice A l.length c, .int .i64 (p : Int), .int .i64 ((0 : Nat) : Int)]] :: X :: Z1 :: R) w29 := hA30
                refine vc_op rfl (fun K hK => hs_append hF rfl (by decide) rfl hA30 3 rfl hZ Tryz.underlying23 hr_elemS rfl rfl (Rc.srcC (W := [strV t]) (m := 1) (size := 1) (R := [row b28 9 [strV t]] :: [row rb 152 [.slice A l.length c, .int .i64 (p : Int), .int .i64 ((0 : Nat) : Int)]] :: X :: Z1 :: R) (Rc.ofRow (i := 0) (off := 0) rfl rfl) hA30.q Tryz.underlying23 (by decide) rfl (by simp [Value.oneCell'])) (by omega) (by decide) (fun v2 Z2 w31 a hZ2 hF hA32 => hK _ _ ?_))
                clear hK K
                replace hA32 : Hp w0 ([row b28 9 [strV t]] :: [row rb 152 [.slice A l.length c, .int .i64 (p : Int), .int .i64 ((0 : Nat) : Int)]] :: X :: Z2 :: R) w31 := hA32
                replace hZ2 : Buf 9 1 Z2 v2 (ss ++ [t]).length ((ss ++ [t]).map strV) := by rw [List.length_append, List.map_append]; exact hZ2
                refine vc_y hF rfl rfl (by decide) _ (y_move rfl rfl) (fun a hF => ?_)
                refine vc_y hF rfl rfl (by decide) _ (y_assign rfl rfl) (fun a hF => ?_)
                refine vc_y hF rfl rfl (by decide) _ (y_assign rfl rfl) (fun a hF => ?_)
                refine vc_nil ?_
                refine hK17 _ _ ?_; clear  hK17 K17
                refine wp_region_lit ?_
                refine vc_y hF rfl rfl (by decide) _ (y_add rfl rfl rfl (IntWalk.i64_in _ (by omega))) (fun a hF => ?_)
                refine vc_y hF rfl rfl (by decide) _ (y_move rfl rfl) (fun a hF => ?_)
                refine vc_nil ?_
                have hA33 : Hp w0 (Z2 :: [row rb 152 [.slice A l.length c, .int .i64 (p : Int), .int .i64 ((0 : Nat) : Int)]] :: X :: R) w31 := Hp.sel [[row b28 9 [strV t]], [row rb 152 [.slice A l.length c, .int .i64 (p : Int), .int .i64 ((0 : Nat) : Int)]], X, Z2] R [3, 1, 2] [0] hA32 rfl
                exact ⟨i + 1, by omega, v2, Z2, ss ++ [t], at_ + k, q + k, by omega, by rw [List.length_append, hss]; rfl, by omega, by omega, by rw [hE, List.drop_drop], hZ2, hF.keep [42, 10, 8, 0, 1, 2, 41] rfl, hA33⟩
        · refine vc_falseB hF rfl (lss_f (by omega)) ?_
          obtain rfl : i = n := by omega
          rw [Nat.sub_self, textsGo] at hE
          subst hq
          apply wp_exit
          refine hK13 _ _ ?_; clear hK16 K16 hK13 K13
          apply wp_seq_k; intro K33 hK33
          refine wp_region_lit ?_
          refine vc_y hF rfl rfl (by decide) _ (y_move rfl rfl) (fun a hF => ?_)
          refine vc_y hF rfl rfl (by decide) _ (y_move rfl rfl) (fun a hF => ?_)
          refine vc_y hF rfl rfl (by decide) _ (y_nilCheck rfl rfl) (fun a hF => ?_)
          refine vc_y hF rfl rfl (by decide) _ (y_field rfl Tryz.underlying152 rfl sz3_hr (by decide) rfl (rfl : (⟨_, 0 + _, none⟩ : Addr) = ⟨_, 1, none⟩)) (fun a hF => ?_)
          refine vc_op rfl (fun K hK => hs_store1 hF rfl rfl hA10 rfl rfl 1 rfl (by simp) rfl sz3_hr (fun w34 hA35 => hK _ _ ?_))
          clear hK K
          replace hA35 : Hp w0 (Z1 :: [row rb 152 [.slice A l.length c, .int .i64 ((p + at_ : Nat) : Int), .int .i64 ((0 : Nat) : Int)]] :: X :: R) w34 := hA35
          refine vc_nil ?_
          refine hK33 _ _ ?_; clear  hK33 K33
          apply wp_seq_k; intro K34 hK34
          refine wp_region_lit ?_
          refine vc_y hF rfl rfl (by decide) _ (y_move rfl rfl) (fun a hF => ?_)
          refine vc_y hF rfl rfl (by decide) _ (y_assign rfl rfl) (fun a hF => ?_)
          refine vc_nil ?_
          refine hK34 _ _ ?_; clear  hK34 K34
          apply wp_ret
          refine vc_ret1 hF Tryz.results100 rfl ?_
          rw [hE]
          exact ⟨v1, Z1, rfl, hZ, hA35⟩
    · have e1 : textsR (l.drop p) most each = .no 8 := if_pos (by omega)
      apply wp_skip
      refine hK2 _ _ ?_; clear  hK2 K2
      apply wp_seq_k; intro K35 hK35
      refine wp_region_lit ?_
      refine vc_y hF rfl rfl (by decide) _ (y_move rfl rfl) (fun a hF => ?_)
      refine vc_y hF rfl rfl (by decide) _ (y_move rfl rfl) (fun a hF => ?_)
      refine vc_y hF rfl rfl (by decide) _ (y_nilCheck rfl rfl) (fun a hF => ?_)
      refine vc_y hF rfl rfl (by decide) _ (y_field rfl Tryz.underlying152 rfl sz3_hr (by decide) rfl (rfl : (⟨_, 0 + _, none⟩ : Addr) = ⟨_, 1, none⟩)) (fun a hF => ?_)
      refine vc_y hF rfl rfl (by decide) _ (y_ld rfl hA.q rfl 0 rfl rfl nr3_hr) (fun a hF => ?_)
      refine vc_op rfl (fun K hK => ws_call hF rfl (by decide) cl98_hr rfl rfl ?_)
      with_reducible refine (hr_ahead_uint16 w0 _ R rb A l c p 0 X p hO hA hl (by omega) ).mono ?_
      rintro e' w38 ⟨rfl, rfl⟩
      refine ⟨_, rfl, fun a hF => hK _ _ ?_⟩
      clear hK K
      rw [(ah_no (q := p) hK).1, (ah_no (q := p) hK).2.1, (ah_no (q := p) hK).2.2] at hF
      refine vc_y hF rfl rfl (by decide) _ (y_move rfl rfl) (fun a hF => ?_)
      refine vc_y hF rfl rfl (by decide) _ (y_extract (v := .int .u16 0) rfl rfl rfl) (fun a hF => ?_)
      refine vc_y hF rfl rfl (by decide) _ (y_extract (v := .int .i64 (p : Int)) rfl rfl rfl) (fun a hF => ?_)
      refine vc_y hF rfl rfl (by decide) _ (y_extract (v := .bool false) rfl rfl rfl) (fun a hF => ?_)
      refine vc_y hF rfl rfl (by decide) _ (y_assign rfl rfl) (fun a hF => ?_)
      refine vc_y hF rfl rfl (by decide) _ (y_assign rfl rfl) (fun a hF => ?_)
      refine vc_y hF rfl rfl (by decide) _ (y_assign rfl rfl) (fun a hF => ?_)
      refine vc_nil ?_
      refine hK35 _ _ ?_; clear  hK35 K35
      apply wp_seq_k; intro K36 hK36
      apply wp_seq_k; intro K37 hK37
      refine wp_region_lit ?_
      refine vc_y hF rfl rfl (by decide) _ (y_move rfl rfl) (fun a hF => ?_)
      refine vc_y hF rfl rfl (by decide) _ (y_not rfl rfl rfl) (fun a hF => ?_)
      refine vc_nil ?_
      refine hK37 _ _ ?_; clear  hK37 K37
      refine vc_true hF rfl ?_
      apply wp_seq_k; intro K38 hK38
      refine wp_region_lit ?_
      refine vc_y hF rfl rfl (by decide) _ (y_move rfl rfl) (fun a hF => ?_)
      refine vc_op rfl (fun K hK => ws_call hF rfl (by decide) cl97_hr rfl rfl ?_)
      with_reducible refine (hr_refuse w0 _ _ rb A l c p _ X 8 8 rfl rfl hA ).mono ?_
      rintro e' w39 ⟨rfl, hA40⟩
      refine ⟨_, rfl, fun a hF => hK _ _ ?_⟩
      clear hK K
      replace hA40 : Hp w0 ([row rb 152 [.slice A l.length c, .int .i64 (p : Int), .int .i64 ((8 : Nat) : Int)]] :: X :: R) w39 := hA40
      refine vc_nil ?_
      refine hK38 _ _ ?_; clear  hK38 K38
      apply wp_seq_k; intro K39 hK39
      refine wp_region_lit ?_
      refine vc_y hF rfl rfl (by decide) _ (y_assign rfl rfl) (fun a hF => ?_)
      refine vc_nil ?_
      refine hK39 _ _ ?_; clear  hK39 K39
      apply wp_ret
      simp only [Exit.then]
      refine vc_ret1 hF Tryz.results100 rfl ?_
      rw [e1]
      exact ⟨_, [], rfl, Buf.nil _ _, Hp.nil hA40⟩
end Go.Proofs.YtepbmdlgdaedpaaGreatDoor
