/- Readings by place and first refusal; a value is taken: TakeValue. -/
import Derived.Test.YtepbmdlgdaedpaaGreatDoorEv5
namespace Go.Proofs.YtepbmdlgdaedpaaGreatDoor
open Go.RowKit Go.Dk

theorem nr22_v6 : notRow Tryz.prog 22 = true := by kernel_rfl
theorem rw25_v6 : isRow Tryz.prog 25 4 = true := by kernel_rfl
theorem sz3_v6 : (Tryz.prog.info? 3).map (·.size) = some 1 := by kernel_rfl
theorem sz9_v6 : (Tryz.prog.info? 9).map (·.size) = some 1 := by kernel_rfl
theorem sz22_v6 : (Tryz.prog.info? 22).map (·.size) = some 1 := by kernel_rfl
theorem sz23_v6 : (Tryz.prog.info? 23).map (·.size) = some 1 := by kernel_rfl
theorem sz25_v6 : (Tryz.prog.info? 25).map (·.size) = some 4 := by kernel_rfl
theorem cl32_v6 : CallsTo Tryz.prog 32 := ⟨_, Tryz.func32, by kernel_rfl, by kernel_rfl⟩
theorem cl34_v6 : CallsTo Tryz.prog 34 := ⟨_, Tryz.func34, by kernel_rfl, by kernel_rfl⟩
theorem cl53_v6 : CallsTo Tryz.prog 53 := ⟨_, Tryz.func53, by kernel_rfl, by kernel_rfl⟩
theorem cl80_v6 : CallsTo Tryz.prog 80 := ⟨_, Tryz.func80, by kernel_rfl, by kernel_rfl⟩
theorem cl81_v6 : CallsTo Tryz.prog 81 := ⟨_, Tryz.func81, by kernel_rfl, by kernel_rfl⟩
theorem cl99_v6 : CallsTo Tryz.prog 99 := ⟨_, Tryz.func99, by kernel_rfl, by kernel_rfl⟩
theorem cl100_v6 : CallsTo Tryz.prog 100 := ⟨_, Tryz.func100, by kernel_rfl, by kernel_rfl⟩
theorem cl101_v6 : CallsTo Tryz.prog 101 := ⟨_, Tryz.func101, by kernel_rfl, by kernel_rfl⟩

theorem zr25_v6 : zeroIs Tryz.prog 25 (.agg ([.int .i64 0, .int .i64 0, .string (⟨#[]⟩), .slice none 0 0] : List Value).toArray) := by unfold zeroIs; kernel_rfl
/-- a reading does not go further than the bytes -/
theorem got_le {α : Type} {r : List UInt8 → Res α} {d : α} {l : List UInt8} {p y : Nat} (hp : p ≤ l.length) (h : ∀ v k, r (l.drop p) = .ok v k → k ≤ (l.drop p).length) : (got r d l p y).p ≤ l.length := by
  unfold got Res.pl
  show (if y = 0 then _ else p) ≤ _
  split
  · cases hr : r (l.drop p) with
    | ok v k => have := h v k hr; rw [List.length_drop] at this; show p + k ≤ _; omega
    | no e => exact hp
  · exact hp
theorem numR_le {K k v : Nat} {r : List UInt8} (h : numR K r = .ok v k) : k ≤ r.length := by
  unfold numR at h
  split at h
  · cases h
  · injection h with _ h; omega
theorem num_small8 (K : Nat) (l : List UInt8) (p y : Nat) : (got (numR K) 0 l p y).v < 256 ^ K := by
  unfold got Res.val
  show (if y = 0 then _ else 0) < _
  have hz : 0 < 256 ^ K := Nat.pos_of_ne_zero (by simp)
  split
  · cases hr : numR K (l.drop p) with
    | ok v k =>
      unfold numR at hr
      split at hr
      · cases hr
      · injection hr with h1 _
        show v < _
        rw [← h1]
        exact Nat.lt_of_lt_of_le (num_lt _) (Nat.pow_le_pow_right (by decide) (by rw [List.length_take]; omega))
    | no e => exact hz
  · exact hz
theorem flagR_le {k : Nat} {v : Bool} {r : List UInt8} (h : flagR r = .ok v k) : k ≤ r.length := by
  unfold flagR at h
  split at h
  · cases h
  · injection h with _ h; omega
theorem rawR_le {k : Nat} {n : Int} {v r : List UInt8} (h : rawR r n = .ok v k) : k ≤ r.length := by
  unfold rawR at h
  split at h
  · cases h
  · injection h with _ h; omega
theorem sizedR_le {K e k : Nat} {r v : List UInt8} {b : Int} (h : sizedR K e r b = .ok v k) : k ≤ r.length := (sized_le h).1
theorem textsGo_le (each : Int) (k : Nat) (acc : List (List UInt8)) (at_ : Nat) (r : List UInt8) {ss : List (List UInt8)} {j : Nat} (h : textsGo each k acc at_ r = .ok ss j) : j ≤ at_ + r.length := by
  induction k generalizing acc at_ r with
  | zero => unfold textsGo at h; injection h with _ h; omega
  | succ k ih =>
    unfold textsGo at h
    cases ht : textR r each with
    | no e => rw [ht] at h; cases h
    | ok s m =>
      rw [ht] at h
      simp only at h
      have h2 := sizedR_le ht
      split at h
      · cases h
      · have := ih _ _ _ h
        rw [List.length_drop] at this
        omega
theorem textsR_le {k : Nat} {most each : Int} {ss : List (List UInt8)} {r : List UInt8} (h : textsR r most each = .ok ss k) : k ≤ r.length := by
  unfold textsR at h
  split at h
  · cases h
  · split at h
    · cases h
    · have := textsGo_le _ _ _ _ _ h
      rw [List.length_drop] at this
      omega
theorem hg_take8 (w0 w : World) (R : List Seg) (rb : Nat) (A : Option Addr) (l : List UInt8) (c p y : Nat) (X : Seg) (hO : Buf 5 1 X (.slice A l.length c) l.length (dc l)) (hA : Hp w0 ([row rb 152 [.slice A l.length c, .int .i64 (p : Nat), .int .i64 (y : Nat)]] :: X :: R) w) (hp : p ≤ l.length) (hl : l.length < 140737488354000) : Calls Tryz.prog 32 #[.pointer (some ⟨rb, 0, none⟩)] w fun e w' => ∃ k p1 y1, e = .returned (.int .u8 (k : Nat)) ∧ got (numR 1) 0 l p y = ⟨k, p1, y1⟩ ∧ p1 ≤ l.length ∧ k < 256 ^ 1 ∧ Hp w0 ([row rb 152 [.slice A l.length c, .int .i64 (p1 : Nat), .int .i64 (y1 : Nat)]] :: X :: R) w' :=
  (hr_take_uint8 w0 w R rb A l c p y X hO hA hp hl).mono fun e w' ⟨h1, h2⟩ => ⟨_, _, _, h1, rfl, got_le (r := numR 1) (d := 0) hp fun _ _ h => numR_le h, num_small8 1 l p y, h2⟩
theorem hg_take64 (w0 w : World) (R : List Seg) (rb : Nat) (A : Option Addr) (l : List UInt8) (c p y : Nat) (X : Seg) (hO : Buf 5 1 X (.slice A l.length c) l.length (dc l)) (hA : Hp w0 ([row rb 152 [.slice A l.length c, .int .i64 (p : Nat), .int .i64 (y : Nat)]] :: X :: R) w) (hp : p ≤ l.length) (hl : l.length < 140737488354000) : Calls Tryz.prog 80 #[.pointer (some ⟨rb, 0, none⟩)] w fun e w' => ∃ k p1 y1, e = .returned (.int .u64 (k : Nat)) ∧ got (numR 8) 0 l p y = ⟨k, p1, y1⟩ ∧ p1 ≤ l.length ∧ k < 256 ^ 8 ∧ Hp w0 ([row rb 152 [.slice A l.length c, .int .i64 (p1 : Nat), .int .i64 (y1 : Nat)]] :: X :: R) w' :=
  (hr_take_uint64 w0 w R rb A l c p y X hO hA hp hl).mono fun e w' ⟨h1, h2⟩ => ⟨_, _, _, h1, rfl, got_le (r := numR 8) (d := 0) hp fun _ _ h => numR_le h, num_small8 8 l p y, h2⟩
theorem hg_flag (w0 w : World) (R : List Seg) (rb : Nat) (A : Option Addr) (l : List UInt8) (c p y : Nat) (X : Seg) (hO : Buf 5 1 X (.slice A l.length c) l.length (dc l)) (hA : Hp w0 ([row rb 152 [.slice A l.length c, .int .i64 (p : Nat), .int .i64 (y : Nat)]] :: X :: R) w) (hp : p ≤ l.length) (hl : l.length < 140737488354000) : Calls Tryz.prog 99 #[.pointer (some ⟨rb, 0, none⟩)] w fun e w' => ∃ b p1 y1, e = .returned (.bool b) ∧ got flagR false l p y = ⟨b, p1, y1⟩ ∧ p1 ≤ l.length ∧ Hp w0 ([row rb 152 [.slice A l.length c, .int .i64 (p1 : Nat), .int .i64 (y1 : Nat)]] :: X :: R) w' :=
  (hr_flag w0 w R rb A l c p y X hO hA hp hl).mono fun e w' ⟨h1, h2⟩ => ⟨_, _, _, h1, rfl, got_le (r := flagR) (d := false) hp fun _ _ h => flagR_le h, h2⟩
theorem hg_text (w0 w : World) (R : List Seg) (rb : Nat) (A : Option Addr) (l : List UInt8) (c p y : Nat) (X : Seg) (most : Int) (hO : Buf 5 1 X (.slice A l.length c) l.length (dc l)) (hA : Hp w0 ([row rb 152 [.slice A l.length c, .int .i64 (p : Nat), .int .i64 (y : Nat)]] :: X :: R) w) (hp : p ≤ l.length) (hl : l.length < 140737488354000) : Calls Tryz.prog 81 #[.pointer (some ⟨rb, 0, none⟩), .int .i64 most] w fun e w' => ∃ s p1 y1, e = .returned (strV s) ∧ got (textR · most) [] l p y = ⟨s, p1, y1⟩ ∧ p1 ≤ l.length ∧ Hp w0 ([row rb 152 [.slice A l.length c, .int .i64 (p1 : Nat), .int .i64 (y1 : Nat)]] :: X :: R) w' :=
  (hr_text w0 w R rb A l c p y X most hO hA hp hl).mono fun e w' ⟨h1, h2⟩ => ⟨_, _, _, h1, rfl, got_le (r := (textR · most)) (d := []) hp fun _ _ h => sizedR_le h, h2⟩
theorem hg_texts (w0 w : World) (R : List Seg) (rb : Nat) (A : Option Addr) (l : List UInt8) (c p y : Nat) (X : Seg) (most each : Int) (hO : Buf 5 1 X (.slice A l.length c) l.length (dc l)) (hA : Hp w0 ([row rb 152 [.slice A l.length c, .int .i64 (p : Nat), .int .i64 (y : Nat)]] :: X :: R) w) (hp : p ≤ l.length) (hl : l.length < 140737488354000) : Calls Tryz.prog 100 #[.pointer (some ⟨rb, 0, none⟩), .int .i64 most, .int .i64 each] w fun e w' => ∃ (ss : List (List UInt8)) (p1 y1 : Nat) (A2 : Option Addr) (c2 : Nat) (Z : Seg), e = .returned (.slice A2 ss.length c2) ∧ got (textsR · most each) [] l p y = ⟨ss, p1, y1⟩ ∧ p1 ≤ l.length ∧ Rc w0 [Z] A2 (ss.map strV) ∧ ss.length ≤ 9223372036854775807 ∧ Hp w0 (Z :: [row rb 152 [.slice A l.length c, .int .i64 (p1 : Nat), .int .i64 (y1 : Nat)]] :: X :: R) w' :=
  (hr_texts w0 w R rb A l c p y X most each hO hA hp hl).mono fun e w' ⟨v, Z, h1, h2, h3⟩ => by
    obtain ⟨A2, c2, h4, h5, h6⟩ := h2.rc (w0 := w0) (R := [Z]) (List.mem_cons_self ..)
    obtain ⟨_, _, h7, h8, h9⟩ := h2.cap
    exact ⟨_, _, _, A2, c2, Z, by rw [h1, h4] <;> rfl, rfl, got_le (r := (textsR · most each)) (d := []) hp fun _ _ h => textsR_le h, h6, Nat.le_trans h8 h9, h3⟩
theorem hg_bytes (w0 w : World) (R : List Seg) (rb : Nat) (A : Option Addr) (l : List UInt8) (c p y : Nat) (X : Seg) (most : Int) (hO : Buf 5 1 X (.slice A l.length c) l.length (dc l)) (hA : Hp w0 ([row rb 152 [.slice A l.length c, .int .i64 (p : Nat), .int .i64 (y : Nat)]] :: X :: R) w) (hp : p ≤ l.length) (hl : l.length < 140737488354000) : Calls Tryz.prog 82 #[.pointer (some ⟨rb, 0, none⟩), .int .i64 most] w fun e w' => ∃ (s : List UInt8) (p1 y1 : Nat) (A2 : Option Addr) (c2 : Nat) (Z : Seg), e = .returned (.slice A2 s.length c2) ∧ got (bytesR · most) [] l p y = ⟨s, p1, y1⟩ ∧ p1 ≤ l.length ∧ Rd w0 [Z] A2 s ∧ s.length ≤ 9223372036854775807 ∧ Hp w0 (Z :: [row rb 152 [.slice A l.length c, .int .i64 (p1 : Nat), .int .i64 (y1 : Nat)]] :: X :: R) w' :=
  (hr_bytes w0 w R rb A l c p y X most hO hA hp hl).mono fun e w' ⟨v, Z, h1, h2, h3⟩ => by
    obtain ⟨A2, c2, h4, h5, h6⟩ := h2.rc (w0 := w0) (R := [Z]) (List.mem_cons_self ..)
    obtain ⟨_, _, h7, h8, h9⟩ := h2.cap
    exact ⟨_, _, _, A2, c2, Z, by rw [h1, h4] <;> rfl, rfl, got_le (r := (bytesR · most)) (d := []) hp fun _ _ h => sizedR_le h, h6, Nat.le_trans h8 h9, h3⟩
theorem raw32_len (r : List UInt8) (y : Nat) : ((rawR r 32).val (List.replicate 32 0) y).length = 32 := by
  rcases raw32 r y with ⟨_, h⟩ | ⟨_, h⟩
  · rw [h]; rfl
  · exact h
theorem hg_digest (w0 w : World) (R : List Seg) (rb : Nat) (A : Option Addr) (l : List UInt8) (c p y : Nat) (X : Seg) (hO : Buf 5 1 X (.slice A l.length c) l.length (dc l)) (hA : Hp w0 ([row rb 152 [.slice A l.length c, .int .i64 (p : Nat), .int .i64 (y : Nat)]] :: X :: R) w) (hp : p ≤ l.length) (hl : l.length < 140737488354000) : Calls Tryz.prog 83 #[.pointer (some ⟨rb, 0, none⟩)] w fun e w' => ∃ (d : List UInt8) (p1 y1 : Nat), e = .returned (.agg (dc d).toArray) ∧ got (rawR · 32) (List.replicate 32 0) l p y = ⟨d, p1, y1⟩ ∧ p1 ≤ l.length ∧ d.length = 32 ∧ Hp w0 ([row rb 152 [.slice A l.length c, .int .i64 (p1 : Nat), .int .i64 (y1 : Nat)]] :: X :: R) w' :=
  (hr_digest w0 w R rb A l c p y X hO hA hp hl).mono fun e w' ⟨h1, h2⟩ => ⟨_, _, _, h1, rfl, got_le (r := (rawR · 32)) (d := List.replicate 32 0) hp fun _ _ h => rawR_le h, raw32_len _ _, h2⟩
theorem ev_bV (z : Int) (w : World) : (Instr.build 25 #[(0, .int .i64 z)]).run Tryz.prog w = .ok (.agg ([.int .i64 z, .int .i64 0, strV [], .slice none 0 0] : List Value).toArray) w := by kernel_rfl
theorem ev_bV0 (w : World) : (Instr.build 25 #[]).run Tryz.prog w = .ok (.agg ([.int .i64 0, .int .i64 0, strV [], .slice none 0 0] : List Value).toArray) w := by kernel_rfl
theorem i64_wrap {n : Nat} (h : n < 18446744073709551616) : IntKind.i64.wrap ((n : Nat) : Int) = i64 n := by
  rw [IntKind.wrap_i64]
  unfold i64
  split <;> omega
theorem i64_in {n : Nat} (h : n < 18446744073709551616) : -9223372036854775808 ≤ i64 n ∧ i64 n ≤ 9223372036854775807 := by unfold i64; split <;> omega
theorem vb_ok {w0 : World} {k : Nat} {n : Int} {t : List UInt8} {G : List Seg} (hk : k < 256) (hn : -9223372036854775808 ≤ n ∧ n ≤ 9223372036854775807) : VA.Ok w0 G ⟨⟨((k : Nat) : Int), n, t, []⟩, none, 0⟩ := ⟨Rc.nil, Nat.zero_le _, ⟨⟨by show (_ : Int) ≤ (k : Int); omega, by show (k : Int) ≤ _; omega⟩, hn⟩⟩
theorem ss_ok {w0 : World} {k : Nat} {ss : List (List UInt8)} {A2 : Option Addr} {c2 : Nat} {G : List Seg} (hk : k < 256) (hR : Rc w0 G A2 (ss.map strV)) (hs : ss.length ≤ 9223372036854775807) : VA.Ok w0 G ⟨⟨((k : Nat) : Int), 0, [], ss⟩, A2, c2⟩ := ⟨hR, hs, ⟨⟨by show (_ : Int) ≤ (k : Int); omega, by show (k : Int) ≤ _; omega⟩, ⟨by show (_ : Int) ≤ 0; decide, by show (0 : Int) ≤ _; decide⟩⟩⟩
theorem noVal_ok {w0 : World} {G : List Seg} : VA.Ok w0 G ⟨noVal, none, 0⟩ := ⟨Rc.nil, Nat.zero_le _, ⟨by decide, by decide⟩⟩
theorem gotBody_1 {k : Nat} {l : List UInt8} {p y n p2 y2 : Nat} (h : k = 1 ∨ k = 4) (hg : got (numR 8) 0 l p y = ⟨n, p2, y2⟩) : gotBody k l p y = ⟨⟨k, i64 n, [], []⟩, p2, y2⟩ := by
  unfold gotBody
  rw [if_pos h, hg]
theorem gotBody_2 {k : Nat} {l : List UInt8} {p y p2 y2 : Nat} {b : Bool} (h : k = 2) (hg : got flagR false l p y = ⟨b, p2, y2⟩) : gotBody k l p y = ⟨⟨k, if b then 1 else 0, [], []⟩, p2, y2⟩ := by
  unfold gotBody
  rw [if_neg (by omega), if_pos h, hg]
theorem gotBody_3 {k : Nat} {l : List UInt8} {p y p2 y2 : Nat} {t : List UInt8} (h : k = 3) (hg : got (textR · 1024) [] l p y = ⟨t, p2, y2⟩) : gotBody k l p y = ⟨⟨k, 0, t, []⟩, p2, y2⟩ := by
  unfold gotBody
  rw [if_neg (by omega), if_neg (by omega), if_pos h, hg]
theorem gotBody_5 {k : Nat} {l : List UInt8} {p y p2 y2 : Nat} {ss : List (List UInt8)} (h : k = 5) (hg : got (textsR · 64 1024) [] l p y = ⟨ss, p2, y2⟩) : gotBody k l p y = ⟨⟨k, 0, [], ss⟩, p2, y2⟩ := by
  unfold gotBody
  rw [if_neg (by omega), if_neg (by omega), if_neg (by omega), if_pos h, hg]
theorem gotBody_0 {k : Nat} {l : List UInt8} {p y : Nat} (h : k = 0 ∨ (¬ k = 1 ∧ ¬ k = 4 ∧ ¬ k = 2 ∧ ¬ k = 3 ∧ ¬ k = 5)) : gotBody k l p y = ⟨⟨k, 0, [], []⟩, p, y⟩ := by
  unfold gotBody
  rw [if_neg (by omega), if_neg (by omega), if_neg (by omega), if_neg (by omega)]
theorem gotVal_eq {l : List UInt8} {p y k p1 y1 p2 y2 : Nat} {v : Val} (h1 : got (numR 1) 0 l p y = ⟨k, p1, y1⟩) (h2 : gotBody k l p1 y1 = ⟨v, p2, y2⟩) : gotVal l p y = ⟨if (if y2 = 0 ∧ v.right ≠ 0 then 8 else y2) = 0 then v else noVal, p2, if y2 = 0 ∧ v.right ≠ 0 then 8 else y2⟩ := by
  unfold gotVal
  rw [h1]
  show (let b := gotBody k l p1 y1; let y2 := if b.y = 0 ∧ b.v.right ≠ 0 then 8 else b.y; (⟨if y2 = 0 then b.v else noVal, b.p, y2⟩ : Got Val)) = _
  rw [h2]
theorem gv_a {l : List UInt8} {p y k p1 y1 p2 : Nat} {v : Val} (h1 : got (numR 1) 0 l p y = ⟨k, p1, y1⟩) (h2 : gotBody k l p1 y1 = ⟨v, p2, 0⟩) (hr : v.right = 0) : gotVal l p y = ⟨v, p2, 0⟩ := by
  rw [gotVal_eq h1 h2]
  simp [hr]
theorem gv_b {l : List UInt8} {p y k p1 y1 p2 : Nat} {v : Val} (h1 : got (numR 1) 0 l p y = ⟨k, p1, y1⟩) (h2 : gotBody k l p1 y1 = ⟨v, p2, 0⟩) (hr : ¬ v.right = 0) : gotVal l p y = ⟨noVal, p2, 8⟩ := by
  rw [gotVal_eq h1 h2]
  simp [hr]
theorem gv_c {l : List UInt8} {p y k p1 y1 p2 y2 : Nat} {v : Val} (h1 : got (numR 1) 0 l p y = ⟨k, p1, y1⟩) (h2 : gotBody k l p1 y1 = ⟨v, p2, y2⟩) (hy : ¬ y2 = 0) : gotVal l p y = ⟨noVal, p2, y2⟩ := by
  rw [gotVal_eq h1 h2]
  simp [hy]
theorem raw_neg_p {r : List UInt8} {p : Nat} : (rawR r (-1)).pl p 0 = p := by rw [show rawR r (-1) = .no 8 from if_pos (.inl (by decide))]; rfl
theorem raw_neg_y {r : List UInt8} : (rawR r (-1)).why 0 = 8 := by rw [show rawR r (-1) = .no 8 from if_pos (.inl (by decide))]; rfl

set_option maxRecDepth 100000 in
set_option maxHeartbeats 4000000 in
theorem ev_take (w0 w : World) (R : List Seg) (rb : Nat) (A : Option Addr) (l : List UInt8) (c p y : Nat) (X : Seg) (hO : Buf 5 1 X (.slice A l.length c) l.length (dc l)) (hA : Hp w0 ([row rb 152 [.slice A l.length c, .int .i64 (p : Nat), .int .i64 (y : Nat)]] :: X :: R) w) (hp : p ≤ l.length) (hl : l.length < 140737488354000) : Calls Tryz.prog 35 #[.pointer (some ⟨rb, 0, none⟩)] w fun e w' => ∃ (va : VA) (Z : Seg), e = .returned (.tuple #[.agg va.cells.toArray, .int .i64 ((gotVal l p y).y : Nat)]) ∧ va.v = (gotVal l p y).v ∧ va.Ok w0 [Z] ∧ (gotVal l p y).p ≤ l.length ∧ Hp w0 (Z :: [row rb 152 [.slice A l.length c, .int .i64 ((gotVal l p y).p : Nat), .int .i64 ((gotVal l p y).y : Nat)]] :: X :: R) w' := by
  refine vc_enter Tryz.func35 rfl Tryz.ntmps35 (Nat.le_of_ble_eq_true rfl) (fun a hF => ?_)
  apply wp_seq_k; intro K1 hK1
  refine wp_region_lit ?_
  refine vc_op rfl (fun K hK => hs_alloc hF rfl (by decide) rfl hA (zr25_v6) (fun b1 w2 a hb1 hF hA3 => hK _ _ ?_))
  clear hK K
  replace hA3 : Hp w0 ([row b1 25 [.int .i64 0, .int .i64 0, .string (⟨#[]⟩), .slice none 0 0]] :: [row rb 152 [.slice A l.length c, .int .i64 (p : Nat), .int .i64 (y : Nat)]] :: X :: R) w2 := hA3
  refine vc_y hF rfl rfl (by decide) _ (y_assign rfl rfl) (fun a hF => ?_)
  refine vc_nil ?_
  refine hK1 _ _ ?_; clear  hK1 K1
  apply wp_seq_k; intro K2 hK2
  apply wp_seq_k; intro K3 hK3
  refine wp_region_lit ?_
  refine vc_y hF rfl rfl (by decide) _ (y_move rfl rfl) (fun a hF => ?_)
  refine vc_y hF rfl rfl (by decide) _ (y_eqNil rfl (by kernel_rfl) rfl rfl) (fun a hF => ?_)
  refine vc_nil ?_
  refine hK3 _ _ ?_; clear  hK3 K3
  refine vc_false hF rfl ?_
  apply wp_skip
  refine hK2 _ _ ?_; clear  hK2 K2
  apply wp_seq_k; intro K4 hK4
  refine wp_region_lit ?_
  refine vc_y hF rfl rfl (by decide) _ (y_move rfl rfl) (fun a hF => ?_)
  have hA4 : Hp w0 ([row rb 152 [.slice A l.length c, .int .i64 (p : Nat), .int .i64 (y : Nat)]] :: X :: [row b1 25 [.int .i64 0, .int .i64 0, .string (⟨#[]⟩), .slice none 0 0]] :: R) w2 := Hp.ord [[row b1 25 [.int .i64 0, .int .i64 0, .string (⟨#[]⟩), .slice none 0 0]], [row rb 152 [.slice A l.length c, .int .i64 (p : Nat), .int .i64 (y : Nat)]], X] R [1, 2, 0] hA3 rfl
  refine vc_op rfl (fun K hK => ws_call hF rfl (by decide) cl32_v6 rfl rfl ?_)
  with_reducible refine (hg_take8 w0 _ ([row b1 25 [.int .i64 0, .int .i64 0, .string (⟨#[]⟩), .slice none 0 0]] :: R) rb A l c p y X hO hA4 hp hl ).mono ?_
  rintro e' w5 ⟨k, p1, y1, rfl, hg1, hp1, hk, hA6⟩
  refine ⟨_, rfl, fun a hF => hK _ _ ?_⟩
  clear hK K
  replace hA6 : Hp w0 ([row rb 152 [.slice A l.length c, .int .i64 (p1 : Nat), .int .i64 (y1 : Nat)]] :: X :: [row b1 25 [.int .i64 0, .int .i64 0, .string (⟨#[]⟩), .slice none 0 0]] :: R) w5 := hA6
  replace hk : k < 256 := hk
  refine vc_y hF rfl rfl (by decide) _ (y_conv rfl Tryz.underlying5 Tryz.underlying22 rfl (IntWalk.i64_in _ (by omega))) (fun a hF => ?_)
  refine vc_y hF rfl rfl (by decide) _ (y_build (qs := #[(0, .int .i64 ((k : Nat) : Int))]) rfl rfl (ev_bV _)) (fun a hF => ?_)
  refine vc_op rfl (fun K hK => hs_alloc hF rfl (by decide) rfl hA6 (zr25_v6) (fun b7 w8 a hb7 hF hA9 => hK _ _ ?_))
  clear hK K
  replace hA9 : Hp w0 ([row b7 25 [.int .i64 0, .int .i64 0, .string (⟨#[]⟩), .slice none 0 0]] :: [row rb 152 [.slice A l.length c, .int .i64 (p1 : Nat), .int .i64 (y1 : Nat)]] :: X :: [row b1 25 [.int .i64 0, .int .i64 0, .string (⟨#[]⟩), .slice none 0 0]] :: R) w8 := hA9
  refine vc_op rfl (fun K hK => hs_storeAll (new := [.int .i64 ((k : Nat) : Int), .int .i64 0, strV [], .slice none 0 0]) hF rfl rfl hA9 rfl rfl 0 rfl rfl (by simp [Value.oneCell']) sz25_v6 (fun w10 hA11 => hK _ _ ?_))
  clear hK K
  replace hA11 : Hp w0 ([row b7 25 [.int .i64 ((k : Nat) : Int), .int .i64 0, strV [], .slice none 0 0]] :: [row rb 152 [.slice A l.length c, .int .i64 (p1 : Nat), .int .i64 (y1 : Nat)]] :: X :: [row b1 25 [.int .i64 0, .int .i64 0, .string (⟨#[]⟩), .slice none 0 0]] :: R) w10 := hA11
  refine vc_nil ?_
  refine hK4 _ _ ?_; clear  hK4 K4
  apply wp_seq_k; intro K5 hK5
  apply wp_seq_k; intro K6 hK6
  refine wp_region_lit ?_
  refine vc_y hF rfl rfl (by decide) _ (y_field rfl Tryz.underlying25 rfl sz22_v6 (by decide) rfl (rfl : (⟨_, 0 + _, none⟩ : Addr) = ⟨_, 0, none⟩)) (fun a hF => ?_)
  refine vc_y hF rfl rfl (by decide) _ (y_ld rfl hA11.q rfl 0 rfl rfl nr22_v6) (fun a hF => ?_)
  refine vc_nil ?_
  refine hK6 _ _ ?_; clear  hK6 K6
  have hJ : ∀ (a : Act) (x : World) (vb : VA) (Z : Seg) (p2 y2 : Nat), gotBody k l p1 y1 = ⟨vb.v, p2, y2⟩ → vb.Ok w0 [Z] → p2 ≤ l.length → Fr 56 [(0, .pointer (some ⟨rb, 0, none⟩)), (2, .pointer (some ⟨b1, 0, none⟩)), (4, .pointer (some ⟨b7, 0, none⟩))] a → Hp w0 (Z :: [row b7 25 [.int .i64 vb.v.k, .int .i64 vb.v.n, strV vb.v.t, .slice vb.sA vb.v.s.length vb.sC]] :: [row b1 25 [.int .i64 0, .int .i64 0, .string (⟨#[]⟩), .slice none 0 0]] :: [row rb 152 [.slice A l.length c, .int .i64 (p2 : Nat), .int .i64 (y2 : Nat)]] :: X :: R) x → K5 a x := by
    clear hF
    intro a x vb Z p2 y2 hg2 hb hp2 hF hA
    by_cases hy2 : y2 = 0
    · subst hy2
      refine hK5 _ _ ?_; clear  hK5 K5
      apply wp_seq_k; intro K7 hK7
      apply wp_seq_k; intro K8 hK8
      refine wp_region_lit ?_
      refine vc_y hF rfl rfl (by decide) _ (y_move rfl rfl) (fun a hF => ?_)
      have hA12 : Hp w0 ([row rb 152 [.slice A l.length c, .int .i64 (p2 : Nat), .int .i64 (0 : Nat)]] :: X :: Z :: [row b7 25 [.int .i64 vb.v.k, .int .i64 vb.v.n, strV vb.v.t, .slice vb.sA vb.v.s.length vb.sC]] :: [row b1 25 [.int .i64 0, .int .i64 0, .string (⟨#[]⟩), .slice none 0 0]] :: R) x := Hp.ord [Z, [row b7 25 [.int .i64 vb.v.k, .int .i64 vb.v.n, strV vb.v.t, .slice vb.sA vb.v.s.length vb.sC]], [row b1 25 [.int .i64 0, .int .i64 0, .string (⟨#[]⟩), .slice none 0 0]], [row rb 152 [.slice A l.length c, .int .i64 (p2 : Nat), .int .i64 (0 : Nat)]], X] R [3, 4, 0, 1, 2] hA rfl
      refine vc_op rfl (fun K hK => ws_call hF rfl (by decide) cl53_v6 rfl rfl ?_)
      with_reducible refine (hr_why w0 _ (Z :: [row b7 25 [.int .i64 vb.v.k, .int .i64 vb.v.n, strV vb.v.t, .slice vb.sA vb.v.s.length vb.sC]] :: [row b1 25 [.int .i64 0, .int .i64 0, .string (⟨#[]⟩), .slice none 0 0]] :: R) rb A l c p2 0 X hO hA12 ).mono ?_
      rintro e' w13 ⟨rfl, hA14⟩
      refine ⟨_, rfl, fun a hF => hK _ _ ?_⟩
      clear hK K
      replace hA14 : Hp w0 ([row rb 152 [.slice A l.length c, .int .i64 (p2 : Nat), .int .i64 (0 : Nat)]] :: X :: Z :: [row b7 25 [.int .i64 vb.v.k, .int .i64 vb.v.n, strV vb.v.t, .slice vb.sA vb.v.s.length vb.sC]] :: [row b1 25 [.int .i64 0, .int .i64 0, .string (⟨#[]⟩), .slice none 0 0]] :: R) w13 := hA14
      refine vc_y hF rfl rfl (by decide) _ (y_cmp rfl rfl rfl rfl (rfl)) (fun a hF => ?_)
      refine vc_y hF rfl rfl (by decide) _ (y_move rfl rfl) (fun a hF => ?_)
      refine vc_yg hF rfl rfl rfl rfl (some_bool rfl) (by decide) _ (y_ldRow (new := [.int .i64 vb.v.k, .int .i64 vb.v.n, strV vb.v.t, .slice vb.sA vb.v.s.length vb.sC]) rfl hA14.q rfl 3 rfl rw25_v6 (Nat.le_of_ble_eq_true rfl) rfl) (fun a hF => ?_)
      refine vc_opg hF rfl rfl rfl (some_bool rfl) (fun K hK => ws_call hF rfl (by decide) cl101_v6 rfl rfl ?_)
      with_reducible refine (ev_right vb _ hb (List.cons_subset.2 ⟨(List.mem_cons_of_mem _ (List.mem_cons_of_mem _ ((List.mem_cons_self ..)))), List.nil_subset _⟩) hA14 ).mono ?_
      rintro e' w15 ⟨rfl, hA16⟩
      refine ⟨_, rfl, fun a hF => hK _ _ ?_⟩
      clear hK K
      replace hA16 : Hp w0 ([row rb 152 [.slice A l.length c, .int .i64 (p2 : Nat), .int .i64 (0 : Nat)]] :: X :: Z :: [row b7 25 [.int .i64 vb.v.k, .int .i64 vb.v.n, strV vb.v.t, .slice vb.sA vb.v.s.length vb.sC]] :: [row b1 25 [.int .i64 0, .int .i64 0, .string (⟨#[]⟩), .slice none 0 0]] :: R) w15 := hA16
      refine vc_yg hF rfl rfl rfl rfl (some_bool rfl) (by decide) _ (y_cmp rfl rfl rfl rfl rfl) (fun a hF => ?_)
      refine vc_y hF rfl rfl (by decide) _ (y_pickT rfl rfl rfl rfl) (fun a hF => ?_)
      refine vc_nil ?_
      refine hK8 _ _ ?_; clear  hK8 K8
      rcases tf (cmpB .neq (((vb.v.right : Nat) : Int)) (0)) with hr | hr
      · refine vc_falseB hF rfl hr ?_
        apply wp_skip
        refine hK7 _ _ ?_; clear  hK7 K7
        apply wp_seq_k; intro K9 hK9
        apply wp_seq_k; intro K10 hK10
        refine wp_region_lit ?_
        refine vc_y hF rfl rfl (by decide) _ (y_move rfl rfl) (fun a hF => ?_)
        refine vc_op rfl (fun K hK => ws_call hF rfl (by decide) cl53_v6 rfl rfl ?_)
        with_reducible refine (hr_why w0 _ (Z :: [row b7 25 [.int .i64 vb.v.k, .int .i64 vb.v.n, strV vb.v.t, .slice vb.sA vb.v.s.length vb.sC]] :: [row b1 25 [.int .i64 0, .int .i64 0, .string (⟨#[]⟩), .slice none 0 0]] :: R) rb A l c p2 0 X hO hA16 ).mono ?_
        rintro e' w17 ⟨rfl, hA18⟩
        refine ⟨_, rfl, fun a hF => hK _ _ ?_⟩
        clear hK K
        replace hA18 : Hp w0 ([row rb 152 [.slice A l.length c, .int .i64 (p2 : Nat), .int .i64 (0 : Nat)]] :: X :: Z :: [row b7 25 [.int .i64 vb.v.k, .int .i64 vb.v.n, strV vb.v.t, .slice vb.sA vb.v.s.length vb.sC]] :: [row b1 25 [.int .i64 0, .int .i64 0, .string (⟨#[]⟩), .slice none 0 0]] :: R) w17 := hA18
        refine vc_y hF rfl rfl (by decide) _ (y_assign rfl rfl) (fun a hF => ?_)
        refine vc_nil ?_
        refine hK10 _ _ ?_; clear  hK10 K10
        apply wp_seq_k; intro K11 hK11
        refine wp_region_lit ?_
        refine vc_y hF rfl rfl (by decide) _ (y_move rfl rfl) (fun a hF => ?_)
        refine vc_y hF rfl rfl (by decide) _ (y_cmp rfl rfl rfl rfl rfl) (fun a hF => ?_)
        refine vc_nil ?_
        refine hK11 _ _ ?_; clear  hK11 K11
        refine vc_falseB hF rfl rfl ?_
        apply wp_skip
        refine hK9 _ _ ?_; clear  hK9 K9
        apply wp_seq_k; intro K12 hK12
        refine wp_region_lit ?_
        refine vc_y hF rfl rfl (by decide) _ (y_ldRow (new := [.int .i64 vb.v.k, .int .i64 vb.v.n, strV vb.v.t, .slice vb.sA vb.v.s.length vb.sC]) rfl hA18.q rfl 3 rfl rw25_v6 (Nat.le_of_ble_eq_true rfl) rfl) (fun a hF => ?_)
        refine vc_op rfl (fun K hK => hs_storeAll (new := [.int .i64 vb.v.k, .int .i64 vb.v.n, strV vb.v.t, .slice vb.sA vb.v.s.length vb.sC]) hF rfl rfl hA18 rfl rfl 4 rfl rfl (by simp [Value.oneCell']) sz25_v6 (fun w19 hA20 => hK _ _ ?_))
        clear hK K
        replace hA20 : Hp w0 ([row rb 152 [.slice A l.length c, .int .i64 (p2 : Nat), .int .i64 (0 : Nat)]] :: X :: Z :: [row b7 25 [.int .i64 vb.v.k, .int .i64 vb.v.n, strV vb.v.t, .slice vb.sA vb.v.s.length vb.sC]] :: [row b1 25 [.int .i64 vb.v.k, .int .i64 vb.v.n, strV vb.v.t, .slice vb.sA vb.v.s.length vb.sC]] :: R) w19 := hA20
        refine vc_y hF rfl rfl (by decide) _ (y_assign rfl rfl) (fun a hF => ?_)
        refine vc_nil ?_
        refine hK12 _ _ ?_; clear  hK12 K12
        apply wp_ret
        refine vc_retCT hF Tryz.results35 hA20.q rfl rfl 4 rfl rw25_v6 ?_
        have hA21 : Hp w0 (Z :: [row rb 152 [.slice A l.length c, .int .i64 (p2 : Nat), .int .i64 (0 : Nat)]] :: X :: R) w19 := Hp.sel [[row rb 152 [.slice A l.length c, .int .i64 (p2 : Nat), .int .i64 (0 : Nat)]], X, Z, [row b7 25 [.int .i64 vb.v.k, .int .i64 vb.v.n, strV vb.v.t, .slice vb.sA vb.v.s.length vb.sC]], [row b1 25 [.int .i64 vb.v.k, .int .i64 vb.v.n, strV vb.v.t, .slice vb.sA vb.v.s.length vb.sC]]] R [2, 0, 1] [3, 4] hA20 rfl
        rw [gv_a hg1 hg2 (neq_no hr)]
        exact ⟨vb, Z, rfl, rfl, hb, hp2, hA21⟩
      · refine vc_trueB hF rfl hr ?_
        refine wp_region_lit ?_
        refine vc_y hF rfl rfl (by decide) _ (y_move rfl rfl) (fun a hF => ?_)
        refine vc_op rfl (fun K hK => ws_call hF rfl (by decide) cl34_v6 rfl rfl ?_)
        with_reducible refine (hr_raw w0 _ (Z :: [row b7 25 [.int .i64 vb.v.k, .int .i64 vb.v.n, strV vb.v.t, .slice vb.sA vb.v.s.length vb.sC]] :: [row b1 25 [.int .i64 0, .int .i64 0, .string (⟨#[]⟩), .slice none 0 0]] :: R) rb A l c p2 0 X (-1) hO hA16 hp2 hl (by decide) ).mono ?_
        rintro e' w22 ⟨vR, ZR, rfl, _, hA23⟩
        refine ⟨_, rfl, fun a hF => hK _ _ ?_⟩
        clear hK K
        replace hA23 : Hp w0 (ZR :: [row rb 152 [.slice A l.length c, .int .i64 ((rawR (l.drop p2) (-1)).pl p2 0 : Nat), .int .i64 ((rawR (l.drop p2) (-1)).why 0 : Nat)]] :: X :: Z :: [row b7 25 [.int .i64 vb.v.k, .int .i64 vb.v.n, strV vb.v.t, .slice vb.sA vb.v.s.length vb.sC]] :: [row b1 25 [.int .i64 0, .int .i64 0, .string (⟨#[]⟩), .slice none 0 0]] :: R) w22 := hA23
        refine vc_nil ?_
        refine hK7 _ _ ?_; clear  hK7 K7
        apply wp_seq_k; intro K13 hK13
        apply wp_seq_k; intro K14 hK14
        have hA8 : Hp w0 (ZR :: [row rb 152 [.slice A l.length c, .int .i64 (p2 : Nat), .int .i64 (8 : Nat)]] :: X :: Z :: [row b7 25 [.int .i64 vb.v.k, .int .i64 vb.v.n, strV vb.v.t, .slice vb.sA vb.v.s.length vb.sC]] :: [row b1 25 [.int .i64 0, .int .i64 0, .string (⟨#[]⟩), .slice none 0 0]] :: R) w22 := by
          have h8 := hA23
          rw [raw_neg_p, raw_neg_y] at h8
          exact h8
        refine wp_region_lit ?_
        refine vc_y hF rfl rfl (by decide) _ (y_move rfl rfl) (fun a hF => ?_)
        have hA24 : Hp w0 ([row rb 152 [.slice A l.length c, .int .i64 (p2 : Nat), .int .i64 (8 : Nat)]] :: X :: ZR :: Z :: [row b7 25 [.int .i64 vb.v.k, .int .i64 vb.v.n, strV vb.v.t, .slice vb.sA vb.v.s.length vb.sC]] :: [row b1 25 [.int .i64 0, .int .i64 0, .string (⟨#[]⟩), .slice none 0 0]] :: R) w22 := Hp.ord [ZR, [row rb 152 [.slice A l.length c, .int .i64 (p2 : Nat), .int .i64 (8 : Nat)]], X, Z, [row b7 25 [.int .i64 vb.v.k, .int .i64 vb.v.n, strV vb.v.t, .slice vb.sA vb.v.s.length vb.sC]], [row b1 25 [.int .i64 0, .int .i64 0, .string (⟨#[]⟩), .slice none 0 0]]] R [1, 2, 0, 3, 4, 5] hA8 rfl
        refine vc_op rfl (fun K hK => ws_call hF rfl (by decide) cl53_v6 rfl rfl ?_)
        with_reducible refine (hr_why w0 _ (ZR :: Z :: [row b7 25 [.int .i64 vb.v.k, .int .i64 vb.v.n, strV vb.v.t, .slice vb.sA vb.v.s.length vb.sC]] :: [row b1 25 [.int .i64 0, .int .i64 0, .string (⟨#[]⟩), .slice none 0 0]] :: R) rb A l c p2 8 X hO hA24 ).mono ?_
        rintro e' w25 ⟨rfl, hA26⟩
        refine ⟨_, rfl, fun a hF => hK _ _ ?_⟩
        clear hK K
        replace hA26 : Hp w0 ([row rb 152 [.slice A l.length c, .int .i64 (p2 : Nat), .int .i64 (8 : Nat)]] :: X :: ZR :: Z :: [row b7 25 [.int .i64 vb.v.k, .int .i64 vb.v.n, strV vb.v.t, .slice vb.sA vb.v.s.length vb.sC]] :: [row b1 25 [.int .i64 0, .int .i64 0, .string (⟨#[]⟩), .slice none 0 0]] :: R) w25 := hA26
        refine vc_y hF rfl rfl (by decide) _ (y_assign rfl rfl) (fun a hF => ?_)
        refine vc_nil ?_
        refine hK14 _ _ ?_; clear  hK14 K14
        apply wp_seq_k; intro K15 hK15
        refine wp_region_lit ?_
        refine vc_y hF rfl rfl (by decide) _ (y_move rfl rfl) (fun a hF => ?_)
        refine vc_y hF rfl rfl (by decide) _ (y_cmp rfl rfl rfl rfl rfl) (fun a hF => ?_)
        refine vc_nil ?_
        refine hK15 _ _ ?_; clear  hK15 K15
        refine vc_trueB hF rfl rfl ?_
        apply wp_seq_k; intro K16 hK16
        refine wp_region_lit ?_
        refine vc_y hF rfl rfl (by decide) _ (y_build0 rfl ev_bV0) (fun a hF => ?_)
        refine vc_y hF rfl rfl (by decide) _ (y_move rfl rfl) (fun a hF => ?_)
        refine vc_op rfl (fun K hK => hs_storeAll (new := [.int .i64 0, .int .i64 0, strV [], .slice none 0 0]) hF rfl rfl hA26 rfl rfl 5 rfl rfl (by simp [Value.oneCell']) sz25_v6 (fun w27 hA28 => hK _ _ ?_))
        clear hK K
        replace hA28 : Hp w0 ([row rb 152 [.slice A l.length c, .int .i64 (p2 : Nat), .int .i64 (8 : Nat)]] :: X :: ZR :: Z :: [row b7 25 [.int .i64 vb.v.k, .int .i64 vb.v.n, strV vb.v.t, .slice vb.sA vb.v.s.length vb.sC]] :: [row b1 25 [.int .i64 0, .int .i64 0, strV [], .slice none 0 0]] :: R) w27 := hA28
        refine vc_y hF rfl rfl (by decide) _ (y_assign rfl rfl) (fun a hF => ?_)
        refine vc_nil ?_
        refine hK16 _ _ ?_; clear  hK16 K16
        apply wp_ret
        simp only [Exit.then]
        refine vc_retCT hF Tryz.results35 hA28.q rfl rfl 5 rfl rw25_v6 ?_
        have hA29 : Hp w0 ([row rb 152 [.slice A l.length c, .int .i64 (p2 : Nat), .int .i64 (8 : Nat)]] :: X :: R) w27 := Hp.sel [[row rb 152 [.slice A l.length c, .int .i64 (p2 : Nat), .int .i64 (8 : Nat)]], X, ZR, Z, [row b7 25 [.int .i64 vb.v.k, .int .i64 vb.v.n, strV vb.v.t, .slice vb.sA vb.v.s.length vb.sC]], [row b1 25 [.int .i64 0, .int .i64 0, strV [], .slice none 0 0]]] R [0, 1] [2, 3, 4, 5] hA28 rfl
        rw [gv_b hg1 hg2 (neq_yes hr)]
        exact ⟨⟨noVal, none, 0⟩, [], rfl, rfl, noVal_ok, hp2, Hp.nil hA29⟩
    · refine hK5 _ _ ?_; clear  hK5 K5
      apply wp_seq_k; intro K17 hK17
      apply wp_seq_k; intro K18 hK18
      refine wp_region_lit ?_
      refine vc_y hF rfl rfl (by decide) _ (y_move rfl rfl) (fun a hF => ?_)
      have hA30 : Hp w0 ([row rb 152 [.slice A l.length c, .int .i64 (p2 : Nat), .int .i64 (y2 : Nat)]] :: X :: Z :: [row b7 25 [.int .i64 vb.v.k, .int .i64 vb.v.n, strV vb.v.t, .slice vb.sA vb.v.s.length vb.sC]] :: [row b1 25 [.int .i64 0, .int .i64 0, .string (⟨#[]⟩), .slice none 0 0]] :: R) x := Hp.ord [Z, [row b7 25 [.int .i64 vb.v.k, .int .i64 vb.v.n, strV vb.v.t, .slice vb.sA vb.v.s.length vb.sC]], [row b1 25 [.int .i64 0, .int .i64 0, .string (⟨#[]⟩), .slice none 0 0]], [row rb 152 [.slice A l.length c, .int .i64 (p2 : Nat), .int .i64 (y2 : Nat)]], X] R [3, 4, 0, 1, 2] hA rfl
      refine vc_op rfl (fun K hK => ws_call hF rfl (by decide) cl53_v6 rfl rfl ?_)
      with_reducible refine (hr_why w0 _ (Z :: [row b7 25 [.int .i64 vb.v.k, .int .i64 vb.v.n, strV vb.v.t, .slice vb.sA vb.v.s.length vb.sC]] :: [row b1 25 [.int .i64 0, .int .i64 0, .string (⟨#[]⟩), .slice none 0 0]] :: R) rb A l c p2 y2 X hO hA30 ).mono ?_
      rintro e' w31 ⟨rfl, hA32⟩
      refine ⟨_, rfl, fun a hF => hK _ _ ?_⟩
      clear hK K
      replace hA32 : Hp w0 ([row rb 152 [.slice A l.length c, .int .i64 (p2 : Nat), .int .i64 (y2 : Nat)]] :: X :: Z :: [row b7 25 [.int .i64 vb.v.k, .int .i64 vb.v.n, strV vb.v.t, .slice vb.sA vb.v.s.length vb.sC]] :: [row b1 25 [.int .i64 0, .int .i64 0, .string (⟨#[]⟩), .slice none 0 0]] :: R) w31 := hA32
      refine vc_y hF rfl rfl (by decide) _ (y_cmp rfl rfl rfl rfl ((eql_f (by omega)))) (fun a hF => ?_)
      refine vc_y hF rfl rfl (by decide) _ (y_move rfl rfl) (fun a hF => ?_)
      refine vc_skip hF rfl rfl rfl rfl rfl (ne_want rfl) (by decide) (fun a hF => ?_)
      refine vc_skip hF rfl rfl rfl rfl rfl (ne_want rfl) (by decide) (fun a hF => ?_)
      refine vc_skip hF rfl rfl rfl rfl rfl (ne_want rfl) (by decide) (fun a hF => ?_)
      refine vc_y hF rfl rfl (by decide) _ (y_pickF rfl rfl rfl rfl) (fun a hF => ?_)
      refine vc_nil ?_
      refine hK18 _ _ ?_; clear  hK18 K18
      refine vc_false hF rfl ?_
      apply wp_skip
      refine hK17 _ _ ?_; clear  hK17 K17
      apply wp_seq_k; intro K19 hK19
      apply wp_seq_k; intro K20 hK20
      refine wp_region_lit ?_
      refine vc_y hF rfl rfl (by decide) _ (y_move rfl rfl) (fun a hF => ?_)
      refine vc_op rfl (fun K hK => ws_call hF rfl (by decide) cl53_v6 rfl rfl ?_)
      with_reducible refine (hr_why w0 _ (Z :: [row b7 25 [.int .i64 vb.v.k, .int .i64 vb.v.n, strV vb.v.t, .slice vb.sA vb.v.s.length vb.sC]] :: [row b1 25 [.int .i64 0, .int .i64 0, .string (⟨#[]⟩), .slice none 0 0]] :: R) rb A l c p2 y2 X hO hA32 ).mono ?_
      rintro e' w33 ⟨rfl, hA34⟩
      refine ⟨_, rfl, fun a hF => hK _ _ ?_⟩
      clear hK K
      replace hA34 : Hp w0 ([row rb 152 [.slice A l.length c, .int .i64 (p2 : Nat), .int .i64 (y2 : Nat)]] :: X :: Z :: [row b7 25 [.int .i64 vb.v.k, .int .i64 vb.v.n, strV vb.v.t, .slice vb.sA vb.v.s.length vb.sC]] :: [row b1 25 [.int .i64 0, .int .i64 0, .string (⟨#[]⟩), .slice none 0 0]] :: R) w33 := hA34
      refine vc_y hF rfl rfl (by decide) _ (y_assign rfl rfl) (fun a hF => ?_)
      refine vc_nil ?_
      refine hK20 _ _ ?_; clear  hK20 K20
      apply wp_seq_k; intro K21 hK21
      refine wp_region_lit ?_
      refine vc_y hF rfl rfl (by decide) _ (y_move rfl rfl) (fun a hF => ?_)
      refine vc_y hF rfl rfl (by decide) _ (y_cmp rfl rfl rfl rfl rfl) (fun a hF => ?_)
      refine vc_nil ?_
      refine hK21 _ _ ?_; clear  hK21 K21
      refine vc_trueB hF rfl (neq_t (by omega)) ?_
      apply wp_seq_k; intro K22 hK22
      refine wp_region_lit ?_
      refine vc_y hF rfl rfl (by decide) _ (y_build0 rfl ev_bV0) (fun a hF => ?_)
      refine vc_y hF rfl rfl (by decide) _ (y_move rfl rfl) (fun a hF => ?_)
      refine vc_op rfl (fun K hK => hs_storeAll (new := [.int .i64 0, .int .i64 0, strV [], .slice none 0 0]) hF rfl rfl hA34 rfl rfl 4 rfl rfl (by simp [Value.oneCell']) sz25_v6 (fun w35 hA36 => hK _ _ ?_))
      clear hK K
      replace hA36 : Hp w0 ([row rb 152 [.slice A l.length c, .int .i64 (p2 : Nat), .int .i64 (y2 : Nat)]] :: X :: Z :: [row b7 25 [.int .i64 vb.v.k, .int .i64 vb.v.n, strV vb.v.t, .slice vb.sA vb.v.s.length vb.sC]] :: [row b1 25 [.int .i64 0, .int .i64 0, strV [], .slice none 0 0]] :: R) w35 := hA36
      refine vc_y hF rfl rfl (by decide) _ (y_assign rfl rfl) (fun a hF => ?_)
      refine vc_nil ?_
      refine hK22 _ _ ?_; clear  hK22 K22
      apply wp_ret
      simp only [Exit.then]
      refine vc_retCT hF Tryz.results35 hA36.q rfl rfl 4 rfl rw25_v6 ?_
      have hA37 : Hp w0 ([row rb 152 [.slice A l.length c, .int .i64 (p2 : Nat), .int .i64 (y2 : Nat)]] :: X :: R) w35 := Hp.sel [[row rb 152 [.slice A l.length c, .int .i64 (p2 : Nat), .int .i64 (y2 : Nat)]], X, Z, [row b7 25 [.int .i64 vb.v.k, .int .i64 vb.v.n, strV vb.v.t, .slice vb.sA vb.v.s.length vb.sC]], [row b1 25 [.int .i64 0, .int .i64 0, strV [], .slice none 0 0]]] R [0, 1] [2, 3, 4] hA36 rfl
      rw [gv_c hg1 hg2 hy2]
      exact ⟨⟨noVal, none, 0⟩, [], rfl, rfl, noVal_ok, hp2, Hp.nil hA37⟩
  apply wp_block
  apply wp_seq_k; intro K23 hK23
  refine wp_region_lit ?_
  refine vc_y hF rfl rfl (by decide) _ (y_cmp rfl rfl rfl rfl rfl) (fun a hF => ?_)
  refine vc_y hF rfl rfl (by decide) _ (y_assign rfl rfl) (fun a hF => ?_)
  refine vc_nil ?_
  refine hK23 _ _ ?_; clear  hK23 K23
  by_cases hk0 : k = 0
  · refine vc_trueB hF rfl (eql_t (by omega)) ?_
    apply wp_skip
    have hA38 : Hp w0 ([row b7 25 [.int .i64 ((k : Nat) : Int), .int .i64 0, strV [], .slice none 0 0]] :: [row b1 25 [.int .i64 0, .int .i64 0, .string (⟨#[]⟩), .slice none 0 0]] :: [row rb 152 [.slice A l.length c, .int .i64 (p1 : Nat), .int .i64 (y1 : Nat)]] :: X :: R) w10 := Hp.ord [[row b7 25 [.int .i64 ((k : Nat) : Int), .int .i64 0, strV [], .slice none 0 0]], [row rb 152 [.slice A l.length c, .int .i64 (p1 : Nat), .int .i64 (y1 : Nat)]], X, [row b1 25 [.int .i64 0, .int .i64 0, .string (⟨#[]⟩), .slice none 0 0]]] R [0, 3, 1, 2] hA11 rfl
    exact hJ _ _ ⟨⟨((k : Nat) : Int), 0, [], []⟩, none, 0⟩ [] p1 y1 (gotBody_0 (.inl hk0)) (vb_ok hk (by decide)) hp1 (hF.keep [0, 2, 4] rfl) (Hp.nil hA38)
  · by_cases hk1 : k = 1
    · refine vc_falseB hF rfl (eql_f (by omega)) ?_
      apply wp_seq_k; intro K24 hK24
      apply wp_seq_k; intro K25 hK25
      refine wp_region_lit ?_
      refine vc_y hF rfl rfl (by decide) _ (y_cmp rfl rfl rfl rfl rfl) (fun a hF => ?_)
      refine vc_y hF rfl rfl (by decide) _ (y_assign rfl rfl) (fun a hF => ?_)
      refine vc_nil ?_
      refine hK25 _ _ ?_; clear  hK25 K25
      refine vc_trueB hF rfl (eql_t (by omega)) ?_
      apply wp_skip
      refine hK24 _ _ ?_; clear  hK24 K24
      refine vc_trueB hF rfl (eql_t (by omega)) ?_
      refine wp_region_lit ?_
      refine vc_y hF rfl rfl (by decide) _ (y_move rfl rfl) (fun a hF => ?_)
      have hA39 : Hp w0 ([row rb 152 [.slice A l.length c, .int .i64 (p1 : Nat), .int .i64 (y1 : Nat)]] :: X :: [row b7 25 [.int .i64 ((k : Nat) : Int), .int .i64 0, strV [], .slice none 0 0]] :: [row b1 25 [.int .i64 0, .int .i64 0, .string (⟨#[]⟩), .slice none 0 0]] :: R) w10 := Hp.ord [[row b7 25 [.int .i64 ((k : Nat) : Int), .int .i64 0, strV [], .slice none 0 0]], [row rb 152 [.slice A l.length c, .int .i64 (p1 : Nat), .int .i64 (y1 : Nat)]], X, [row b1 25 [.int .i64 0, .int .i64 0, .string (⟨#[]⟩), .slice none 0 0]]] R [1, 2, 0, 3] hA11 rfl
      refine vc_op rfl (fun K hK => ws_call hF rfl (by decide) cl80_v6 rfl rfl ?_)
      with_reducible refine (hg_take64 w0 _ ([row b7 25 [.int .i64 ((k : Nat) : Int), .int .i64 0, strV [], .slice none 0 0]] :: [row b1 25 [.int .i64 0, .int .i64 0, .string (⟨#[]⟩), .slice none 0 0]] :: R) rb A l c p1 y1 X hO hA39 hp1 hl ).mono ?_
      rintro e' w40 ⟨n2, p2, y2, rfl, hg2, hp2, hn2, hA41⟩
      refine ⟨_, rfl, fun a hF => hK _ _ ?_⟩
      clear hK K
      replace hA41 : Hp w0 ([row rb 152 [.slice A l.length c, .int .i64 (p2 : Nat), .int .i64 (y2 : Nat)]] :: X :: [row b7 25 [.int .i64 ((k : Nat) : Int), .int .i64 0, strV [], .slice none 0 0]] :: [row b1 25 [.int .i64 0, .int .i64 0, .string (⟨#[]⟩), .slice none 0 0]] :: R) w40 := hA41
      replace hn2 : n2 < 18446744073709551616 := hn2
      refine vc_y hF rfl rfl (by decide) _ (y_conv rfl Tryz.underlying135 Tryz.underlying3 rfl (i64_wrap hn2)) (fun a hF => ?_)
      refine vc_y hF rfl rfl (by decide) _ (y_field rfl Tryz.underlying25 rfl sz3_v6 (by decide) rfl (rfl : (⟨_, 0 + _, none⟩ : Addr) = ⟨_, 1, none⟩)) (fun a hF => ?_)
      refine vc_op rfl (fun K hK => hs_store1 hF rfl rfl hA41 rfl rfl 2 rfl (by simp) rfl sz3_v6 (fun w42 hA43 => hK _ _ ?_))
      clear hK K
      replace hA43 : Hp w0 ([row rb 152 [.slice A l.length c, .int .i64 (p2 : Nat), .int .i64 (y2 : Nat)]] :: X :: [row b7 25 [.int .i64 ((k : Nat) : Int), .int .i64 (i64 n2), strV [], .slice none 0 0]] :: [row b1 25 [.int .i64 0, .int .i64 0, .string (⟨#[]⟩), .slice none 0 0]] :: R) w42 := hA43
      refine vc_nil ?_
      have hA44 : Hp w0 ([row b7 25 [.int .i64 ((k : Nat) : Int), .int .i64 (i64 n2), strV [], .slice none 0 0]] :: [row b1 25 [.int .i64 0, .int .i64 0, .string (⟨#[]⟩), .slice none 0 0]] :: [row rb 152 [.slice A l.length c, .int .i64 (p2 : Nat), .int .i64 (y2 : Nat)]] :: X :: R) w42 := Hp.ord [[row rb 152 [.slice A l.length c, .int .i64 (p2 : Nat), .int .i64 (y2 : Nat)]], X, [row b7 25 [.int .i64 ((k : Nat) : Int), .int .i64 (i64 n2), strV [], .slice none 0 0]], [row b1 25 [.int .i64 0, .int .i64 0, .string (⟨#[]⟩), .slice none 0 0]]] R [2, 3, 0, 1] hA43 rfl
      exact hJ _ _ ⟨⟨((k : Nat) : Int), i64 n2, [], []⟩, none, 0⟩ [] p2 y2 (gotBody_1 (.inl hk1) hg2) (vb_ok hk (i64_in hn2)) hp2 (hF.keep [0, 2, 4] rfl) (Hp.nil hA44)
    · by_cases hk4 : k = 4
      · refine vc_falseB hF rfl (eql_f (by omega)) ?_
        apply wp_seq_k; intro K26 hK26
        apply wp_seq_k; intro K27 hK27
        refine wp_region_lit ?_
        refine vc_y hF rfl rfl (by decide) _ (y_cmp rfl rfl rfl rfl rfl) (fun a hF => ?_)
        refine vc_y hF rfl rfl (by decide) _ (y_assign rfl rfl) (fun a hF => ?_)
        refine vc_nil ?_
        refine hK27 _ _ ?_; clear  hK27 K27
        refine vc_falseB hF rfl (eql_f (by omega)) ?_
        refine wp_region_lit ?_
        refine vc_y hF rfl rfl (by decide) _ (y_cmp rfl rfl rfl rfl rfl) (fun a hF => ?_)
        refine vc_y hF rfl rfl (by decide) _ (y_assign rfl rfl) (fun a hF => ?_)
        refine vc_nil ?_
        refine hK26 _ _ ?_; clear  hK26 K26
        refine vc_trueB hF rfl (eql_t (by omega)) ?_
        refine wp_region_lit ?_
        refine vc_y hF rfl rfl (by decide) _ (y_move rfl rfl) (fun a hF => ?_)
        have hA45 : Hp w0 ([row rb 152 [.slice A l.length c, .int .i64 (p1 : Nat), .int .i64 (y1 : Nat)]] :: X :: [row b7 25 [.int .i64 ((k : Nat) : Int), .int .i64 0, strV [], .slice none 0 0]] :: [row b1 25 [.int .i64 0, .int .i64 0, .string (⟨#[]⟩), .slice none 0 0]] :: R) w10 := Hp.ord [[row b7 25 [.int .i64 ((k : Nat) : Int), .int .i64 0, strV [], .slice none 0 0]], [row rb 152 [.slice A l.length c, .int .i64 (p1 : Nat), .int .i64 (y1 : Nat)]], X, [row b1 25 [.int .i64 0, .int .i64 0, .string (⟨#[]⟩), .slice none 0 0]]] R [1, 2, 0, 3] hA11 rfl
        refine vc_op rfl (fun K hK => ws_call hF rfl (by decide) cl80_v6 rfl rfl ?_)
        with_reducible refine (hg_take64 w0 _ ([row b7 25 [.int .i64 ((k : Nat) : Int), .int .i64 0, strV [], .slice none 0 0]] :: [row b1 25 [.int .i64 0, .int .i64 0, .string (⟨#[]⟩), .slice none 0 0]] :: R) rb A l c p1 y1 X hO hA45 hp1 hl ).mono ?_
        rintro e' w46 ⟨n2, p2, y2, rfl, hg2, hp2, hn2, hA47⟩
        refine ⟨_, rfl, fun a hF => hK _ _ ?_⟩
        clear hK K
        replace hA47 : Hp w0 ([row rb 152 [.slice A l.length c, .int .i64 (p2 : Nat), .int .i64 (y2 : Nat)]] :: X :: [row b7 25 [.int .i64 ((k : Nat) : Int), .int .i64 0, strV [], .slice none 0 0]] :: [row b1 25 [.int .i64 0, .int .i64 0, .string (⟨#[]⟩), .slice none 0 0]] :: R) w46 := hA47
        replace hn2 : n2 < 18446744073709551616 := hn2
        refine vc_y hF rfl rfl (by decide) _ (y_conv rfl Tryz.underlying135 Tryz.underlying3 rfl (i64_wrap hn2)) (fun a hF => ?_)
        refine vc_y hF rfl rfl (by decide) _ (y_field rfl Tryz.underlying25 rfl sz3_v6 (by decide) rfl (rfl : (⟨_, 0 + _, none⟩ : Addr) = ⟨_, 1, none⟩)) (fun a hF => ?_)
        refine vc_op rfl (fun K hK => hs_store1 hF rfl rfl hA47 rfl rfl 2 rfl (by simp) rfl sz3_v6 (fun w48 hA49 => hK _ _ ?_))
        clear hK K
        replace hA49 : Hp w0 ([row rb 152 [.slice A l.length c, .int .i64 (p2 : Nat), .int .i64 (y2 : Nat)]] :: X :: [row b7 25 [.int .i64 ((k : Nat) : Int), .int .i64 (i64 n2), strV [], .slice none 0 0]] :: [row b1 25 [.int .i64 0, .int .i64 0, .string (⟨#[]⟩), .slice none 0 0]] :: R) w48 := hA49
        refine vc_nil ?_
        have hA50 : Hp w0 ([row b7 25 [.int .i64 ((k : Nat) : Int), .int .i64 (i64 n2), strV [], .slice none 0 0]] :: [row b1 25 [.int .i64 0, .int .i64 0, .string (⟨#[]⟩), .slice none 0 0]] :: [row rb 152 [.slice A l.length c, .int .i64 (p2 : Nat), .int .i64 (y2 : Nat)]] :: X :: R) w48 := Hp.ord [[row rb 152 [.slice A l.length c, .int .i64 (p2 : Nat), .int .i64 (y2 : Nat)]], X, [row b7 25 [.int .i64 ((k : Nat) : Int), .int .i64 (i64 n2), strV [], .slice none 0 0]], [row b1 25 [.int .i64 0, .int .i64 0, .string (⟨#[]⟩), .slice none 0 0]]] R [2, 3, 0, 1] hA49 rfl
        exact hJ _ _ ⟨⟨((k : Nat) : Int), i64 n2, [], []⟩, none, 0⟩ [] p2 y2 (gotBody_1 (.inr hk4) hg2) (vb_ok hk (i64_in hn2)) hp2 (hF.keep [0, 2, 4] rfl) (Hp.nil hA50)
      · by_cases hk2 : k = 2
        · refine vc_falseB hF rfl (eql_f (by omega)) ?_
          apply wp_seq_k; intro K28 hK28
          apply wp_seq_k; intro K29 hK29
          refine wp_region_lit ?_
          refine vc_y hF rfl rfl (by decide) _ (y_cmp rfl rfl rfl rfl rfl) (fun a hF => ?_)
          refine vc_y hF rfl rfl (by decide) _ (y_assign rfl rfl) (fun a hF => ?_)
          refine vc_nil ?_
          refine hK29 _ _ ?_; clear  hK29 K29
          refine vc_falseB hF rfl (eql_f (by omega)) ?_
          refine wp_region_lit ?_
          refine vc_y hF rfl rfl (by decide) _ (y_cmp rfl rfl rfl rfl rfl) (fun a hF => ?_)
          refine vc_y hF rfl rfl (by decide) _ (y_assign rfl rfl) (fun a hF => ?_)
          refine vc_nil ?_
          refine hK28 _ _ ?_; clear  hK28 K28
          refine vc_falseB hF rfl (eql_f (by omega)) ?_
          apply wp_seq_k; intro K30 hK30
          refine wp_region_lit ?_
          refine vc_y hF rfl rfl (by decide) _ (y_cmp rfl rfl rfl rfl rfl) (fun a hF => ?_)
          refine vc_y hF rfl rfl (by decide) _ (y_assign rfl rfl) (fun a hF => ?_)
          refine vc_nil ?_
          refine hK30 _ _ ?_; clear  hK30 K30
          refine vc_trueB hF rfl (eql_t (by omega)) ?_
          apply wp_seq_k; intro K31 hK31
          refine wp_region_lit ?_
          refine vc_y hF rfl rfl (by decide) _ (y_move rfl rfl) (fun a hF => ?_)
          have hA51 : Hp w0 ([row rb 152 [.slice A l.length c, .int .i64 (p1 : Nat), .int .i64 (y1 : Nat)]] :: X :: [row b7 25 [.int .i64 ((k : Nat) : Int), .int .i64 0, strV [], .slice none 0 0]] :: [row b1 25 [.int .i64 0, .int .i64 0, .string (⟨#[]⟩), .slice none 0 0]] :: R) w10 := Hp.ord [[row b7 25 [.int .i64 ((k : Nat) : Int), .int .i64 0, strV [], .slice none 0 0]], [row rb 152 [.slice A l.length c, .int .i64 (p1 : Nat), .int .i64 (y1 : Nat)]], X, [row b1 25 [.int .i64 0, .int .i64 0, .string (⟨#[]⟩), .slice none 0 0]]] R [1, 2, 0, 3] hA11 rfl
          refine vc_op rfl (fun K hK => ws_call hF rfl (by decide) cl99_v6 rfl rfl ?_)
          with_reducible refine (hg_flag w0 _ ([row b7 25 [.int .i64 ((k : Nat) : Int), .int .i64 0, strV [], .slice none 0 0]] :: [row b1 25 [.int .i64 0, .int .i64 0, .string (⟨#[]⟩), .slice none 0 0]] :: R) rb A l c p1 y1 X hO hA51 hp1 hl ).mono ?_
          rintro e' w52 ⟨fb, p2, y2, rfl, hg2, hp2, hA53⟩
          refine ⟨_, rfl, fun a hF => hK _ _ ?_⟩
          clear hK K
          replace hA53 : Hp w0 ([row rb 152 [.slice A l.length c, .int .i64 (p2 : Nat), .int .i64 (y2 : Nat)]] :: X :: [row b7 25 [.int .i64 ((k : Nat) : Int), .int .i64 0, strV [], .slice none 0 0]] :: [row b1 25 [.int .i64 0, .int .i64 0, .string (⟨#[]⟩), .slice none 0 0]] :: R) w52 := hA53
          refine vc_nil ?_
          refine hK31 _ _ ?_; clear  hK31 K31
          rcases tf fb with hfb | hfb
          · refine vc_falseB hF rfl hfb ?_
            apply wp_skip
            have hA54 : Hp w0 ([row b7 25 [.int .i64 ((k : Nat) : Int), .int .i64 0, strV [], .slice none 0 0]] :: [row b1 25 [.int .i64 0, .int .i64 0, .string (⟨#[]⟩), .slice none 0 0]] :: [row rb 152 [.slice A l.length c, .int .i64 (p2 : Nat), .int .i64 (y2 : Nat)]] :: X :: R) w52 := Hp.ord [[row rb 152 [.slice A l.length c, .int .i64 (p2 : Nat), .int .i64 (y2 : Nat)]], X, [row b7 25 [.int .i64 ((k : Nat) : Int), .int .i64 0, strV [], .slice none 0 0]], [row b1 25 [.int .i64 0, .int .i64 0, .string (⟨#[]⟩), .slice none 0 0]]] R [2, 3, 0, 1] hA53 rfl
            exact hJ _ _ ⟨⟨((k : Nat) : Int), 0, [], []⟩, none, 0⟩ [] p2 y2 (gotBody_2 (b := false) hk2 (by rw [hfb] at hg2; exact hg2)) (vb_ok hk (by decide)) hp2 (hF.keep [0, 2, 4] rfl) (Hp.nil hA54)
          · refine vc_trueB hF rfl hfb ?_
            refine wp_region_lit ?_
            refine vc_y hF rfl rfl (by decide) _ (y_field rfl Tryz.underlying25 rfl sz3_v6 (by decide) rfl (rfl : (⟨_, 0 + _, none⟩ : Addr) = ⟨_, 1, none⟩)) (fun a hF => ?_)
            refine vc_op rfl (fun K hK => hs_store1 hF rfl rfl hA53 rfl rfl 2 rfl (by simp) rfl sz3_v6 (fun w55 hA56 => hK _ _ ?_))
            clear hK K
            replace hA56 : Hp w0 ([row rb 152 [.slice A l.length c, .int .i64 (p2 : Nat), .int .i64 (y2 : Nat)]] :: X :: [row b7 25 [.int .i64 ((k : Nat) : Int), .int .i64 1, strV [], .slice none 0 0]] :: [row b1 25 [.int .i64 0, .int .i64 0, .string (⟨#[]⟩), .slice none 0 0]] :: R) w55 := hA56
            refine vc_nil ?_
            have hA57 : Hp w0 ([row b7 25 [.int .i64 ((k : Nat) : Int), .int .i64 1, strV [], .slice none 0 0]] :: [row b1 25 [.int .i64 0, .int .i64 0, .string (⟨#[]⟩), .slice none 0 0]] :: [row rb 152 [.slice A l.length c, .int .i64 (p2 : Nat), .int .i64 (y2 : Nat)]] :: X :: R) w55 := Hp.ord [[row rb 152 [.slice A l.length c, .int .i64 (p2 : Nat), .int .i64 (y2 : Nat)]], X, [row b7 25 [.int .i64 ((k : Nat) : Int), .int .i64 1, strV [], .slice none 0 0]], [row b1 25 [.int .i64 0, .int .i64 0, .string (⟨#[]⟩), .slice none 0 0]]] R [2, 3, 0, 1] hA56 rfl
            exact hJ _ _ ⟨⟨((k : Nat) : Int), 1, [], []⟩, none, 0⟩ [] p2 y2 (gotBody_2 (b := true) hk2 (by rw [hfb] at hg2; exact hg2)) (vb_ok hk (by decide)) hp2 (hF.keep [0, 2, 4] rfl) (Hp.nil hA57)
        · by_cases hk3 : k = 3
          · refine vc_falseB hF rfl (eql_f (by omega)) ?_
            apply wp_seq_k; intro K32 hK32
            apply wp_seq_k; intro K33 hK33
            refine wp_region_lit ?_
            refine vc_y hF rfl rfl (by decide) _ (y_cmp rfl rfl rfl rfl rfl) (fun a hF => ?_)
            refine vc_y hF rfl rfl (by decide) _ (y_assign rfl rfl) (fun a hF => ?_)
            refine vc_nil ?_
            refine hK33 _ _ ?_; clear  hK33 K33
            refine vc_falseB hF rfl (eql_f (by omega)) ?_
            refine wp_region_lit ?_
            refine vc_y hF rfl rfl (by decide) _ (y_cmp rfl rfl rfl rfl rfl) (fun a hF => ?_)
            refine vc_y hF rfl rfl (by decide) _ (y_assign rfl rfl) (fun a hF => ?_)
            refine vc_nil ?_
            refine hK32 _ _ ?_; clear  hK32 K32
            refine vc_falseB hF rfl (eql_f (by omega)) ?_
            apply wp_seq_k; intro K34 hK34
            refine wp_region_lit ?_
            refine vc_y hF rfl rfl (by decide) _ (y_cmp rfl rfl rfl rfl rfl) (fun a hF => ?_)
            refine vc_y hF rfl rfl (by decide) _ (y_assign rfl rfl) (fun a hF => ?_)
            refine vc_nil ?_
            refine hK34 _ _ ?_; clear  hK34 K34
            refine vc_falseB hF rfl (eql_f (by omega)) ?_
            apply wp_seq_k; intro K35 hK35
            refine wp_region_lit ?_
            refine vc_y hF rfl rfl (by decide) _ (y_cmp rfl rfl rfl rfl rfl) (fun a hF => ?_)
            refine vc_y hF rfl rfl (by decide) _ (y_assign rfl rfl) (fun a hF => ?_)
            refine vc_nil ?_
            refine hK35 _ _ ?_; clear  hK35 K35
            refine vc_trueB hF rfl (eql_t (by omega)) ?_
            refine wp_region_lit ?_
            refine vc_y hF rfl rfl (by decide) _ (y_move rfl rfl) (fun a hF => ?_)
            have hA58 : Hp w0 ([row rb 152 [.slice A l.length c, .int .i64 (p1 : Nat), .int .i64 (y1 : Nat)]] :: X :: [row b7 25 [.int .i64 ((k : Nat) : Int), .int .i64 0, strV [], .slice none 0 0]] :: [row b1 25 [.int .i64 0, .int .i64 0, .string (⟨#[]⟩), .slice none 0 0]] :: R) w10 := Hp.ord [[row b7 25 [.int .i64 ((k : Nat) : Int), .int .i64 0, strV [], .slice none 0 0]], [row rb 152 [.slice A l.length c, .int .i64 (p1 : Nat), .int .i64 (y1 : Nat)]], X, [row b1 25 [.int .i64 0, .int .i64 0, .string (⟨#[]⟩), .slice none 0 0]]] R [1, 2, 0, 3] hA11 rfl
            refine vc_op rfl (fun K hK => ws_call hF rfl (by decide) cl81_v6 rfl rfl ?_)
            with_reducible refine (hg_text w0 _ ([row b7 25 [.int .i64 ((k : Nat) : Int), .int .i64 0, strV [], .slice none 0 0]] :: [row b1 25 [.int .i64 0, .int .i64 0, .string (⟨#[]⟩), .slice none 0 0]] :: R) rb A l c p1 y1 X 1024 hO hA58 hp1 hl ).mono ?_
            rintro e' w59 ⟨ts, p2, y2, rfl, hg2, hp2, hA60⟩
            refine ⟨_, rfl, fun a hF => hK _ _ ?_⟩
            clear hK K
            replace hA60 : Hp w0 ([row rb 152 [.slice A l.length c, .int .i64 (p2 : Nat), .int .i64 (y2 : Nat)]] :: X :: [row b7 25 [.int .i64 ((k : Nat) : Int), .int .i64 0, strV [], .slice none 0 0]] :: [row b1 25 [.int .i64 0, .int .i64 0, .string (⟨#[]⟩), .slice none 0 0]] :: R) w59 := hA60
            refine vc_y hF rfl rfl (by decide) _ (y_field rfl Tryz.underlying25 rfl sz9_v6 (by decide) rfl (rfl : (⟨_, 0 + _, none⟩ : Addr) = ⟨_, 2, none⟩)) (fun a hF => ?_)
            refine vc_op rfl (fun K hK => hs_store1 hF rfl rfl hA60 rfl rfl 2 rfl (by simp) rfl sz9_v6 (fun w61 hA62 => hK _ _ ?_))
            clear hK K
            replace hA62 : Hp w0 ([row rb 152 [.slice A l.length c, .int .i64 (p2 : Nat), .int .i64 (y2 : Nat)]] :: X :: [row b7 25 [.int .i64 ((k : Nat) : Int), .int .i64 0, strV ts, .slice none 0 0]] :: [row b1 25 [.int .i64 0, .int .i64 0, .string (⟨#[]⟩), .slice none 0 0]] :: R) w61 := hA62
            refine vc_nil ?_
            have hA63 : Hp w0 ([row b7 25 [.int .i64 ((k : Nat) : Int), .int .i64 0, strV ts, .slice none 0 0]] :: [row b1 25 [.int .i64 0, .int .i64 0, .string (⟨#[]⟩), .slice none 0 0]] :: [row rb 152 [.slice A l.length c, .int .i64 (p2 : Nat), .int .i64 (y2 : Nat)]] :: X :: R) w61 := Hp.ord [[row rb 152 [.slice A l.length c, .int .i64 (p2 : Nat), .int .i64 (y2 : Nat)]], X, [row b7 25 [.int .i64 ((k : Nat) : Int), .int .i64 0, strV ts, .slice none 0 0]], [row b1 25 [.int .i64 0, .int .i64 0, .string (⟨#[]⟩), .slice none 0 0]]] R [2, 3, 0, 1] hA62 rfl
            exact hJ _ _ ⟨⟨((k : Nat) : Int), 0, ts, []⟩, none, 0⟩ [] p2 y2 (gotBody_3 hk3 hg2) (vb_ok hk (by decide)) hp2 (hF.keep [0, 2, 4] rfl) (Hp.nil hA63)
          · by_cases hk5 : k = 5
            · refine vc_falseB hF rfl (eql_f (by omega)) ?_
              apply wp_seq_k; intro K36 hK36
              apply wp_seq_k; intro K37 hK37
              refine wp_region_lit ?_
              refine vc_y hF rfl rfl (by decide) _ (y_cmp rfl rfl rfl rfl rfl) (fun a hF => ?_)
              refine vc_y hF rfl rfl (by decide) _ (y_assign rfl rfl) (fun a hF => ?_)
              refine vc_nil ?_
              refine hK37 _ _ ?_; clear  hK37 K37
              refine vc_falseB hF rfl (eql_f (by omega)) ?_
              refine wp_region_lit ?_
              refine vc_y hF rfl rfl (by decide) _ (y_cmp rfl rfl rfl rfl rfl) (fun a hF => ?_)
              refine vc_y hF rfl rfl (by decide) _ (y_assign rfl rfl) (fun a hF => ?_)
              refine vc_nil ?_
              refine hK36 _ _ ?_; clear  hK36 K36
              refine vc_falseB hF rfl (eql_f (by omega)) ?_
              apply wp_seq_k; intro K38 hK38
              refine wp_region_lit ?_
              refine vc_y hF rfl rfl (by decide) _ (y_cmp rfl rfl rfl rfl rfl) (fun a hF => ?_)
              refine vc_y hF rfl rfl (by decide) _ (y_assign rfl rfl) (fun a hF => ?_)
              refine vc_nil ?_
              refine hK38 _ _ ?_; clear  hK38 K38
              refine vc_falseB hF rfl (eql_f (by omega)) ?_
              apply wp_seq_k; intro K39 hK39
              refine wp_region_lit ?_
              refine vc_y hF rfl rfl (by decide) _ (y_cmp rfl rfl rfl rfl rfl) (fun a hF => ?_)
              refine vc_y hF rfl rfl (by decide) _ (y_assign rfl rfl) (fun a hF => ?_)
              refine vc_nil ?_
              refine hK39 _ _ ?_; clear  hK39 K39
              refine vc_falseB hF rfl (eql_f (by omega)) ?_
              apply wp_seq_k; intro K40 hK40
              refine wp_region_lit ?_
              refine vc_y hF rfl rfl (by decide) _ (y_cmp rfl rfl rfl rfl rfl) (fun a hF => ?_)
              refine vc_y hF rfl rfl (by decide) _ (y_assign rfl rfl) (fun a hF => ?_)
              refine vc_nil ?_
              refine hK40 _ _ ?_; clear  hK40 K40
              refine vc_trueB hF rfl (eql_t (by omega)) ?_
              refine wp_region_lit ?_
              refine vc_y hF rfl rfl (by decide) _ (y_move rfl rfl) (fun a hF => ?_)
              have hA64 : Hp w0 ([row rb 152 [.slice A l.length c, .int .i64 (p1 : Nat), .int .i64 (y1 : Nat)]] :: X :: [row b7 25 [.int .i64 ((k : Nat) : Int), .int .i64 0, strV [], .slice none 0 0]] :: [row b1 25 [.int .i64 0, .int .i64 0, .string (⟨#[]⟩), .slice none 0 0]] :: R) w10 := Hp.ord [[row b7 25 [.int .i64 ((k : Nat) : Int), .int .i64 0, strV [], .slice none 0 0]], [row rb 152 [.slice A l.length c, .int .i64 (p1 : Nat), .int .i64 (y1 : Nat)]], X, [row b1 25 [.int .i64 0, .int .i64 0, .string (⟨#[]⟩), .slice none 0 0]]] R [1, 2, 0, 3] hA11 rfl
              refine vc_op rfl (fun K hK => ws_call hF rfl (by decide) cl100_v6 rfl rfl ?_)
              with_reducible refine (hg_texts w0 _ ([row b7 25 [.int .i64 ((k : Nat) : Int), .int .i64 0, strV [], .slice none 0 0]] :: [row b1 25 [.int .i64 0, .int .i64 0, .string (⟨#[]⟩), .slice none 0 0]] :: R) rb A l c p1 y1 X 64 1024 hO hA64 hp1 hl ).mono ?_
              rintro e' w65 ⟨ss, p2, y2, A2, c2, Z1, rfl, hg2, hp2, hR2, hsl, hA66⟩
              refine ⟨_, rfl, fun a hF => hK _ _ ?_⟩
              clear hK K
              replace hA66 : Hp w0 (Z1 :: [row rb 152 [.slice A l.length c, .int .i64 (p2 : Nat), .int .i64 (y2 : Nat)]] :: X :: [row b7 25 [.int .i64 ((k : Nat) : Int), .int .i64 0, strV [], .slice none 0 0]] :: [row b1 25 [.int .i64 0, .int .i64 0, .string (⟨#[]⟩), .slice none 0 0]] :: R) w65 := hA66
              refine vc_y hF rfl rfl (by decide) _ (y_field rfl Tryz.underlying25 rfl sz23_v6 (by decide) rfl (rfl : (⟨_, 0 + _, none⟩ : Addr) = ⟨_, 3, none⟩)) (fun a hF => ?_)
              refine vc_op rfl (fun K hK => hs_store1 hF rfl rfl hA66 rfl rfl 3 rfl (by simp) rfl sz23_v6 (fun w67 hA68 => hK _ _ ?_))
              clear hK K
              replace hA68 : Hp w0 (Z1 :: [row rb 152 [.slice A l.length c, .int .i64 (p2 : Nat), .int .i64 (y2 : Nat)]] :: X :: [row b7 25 [.int .i64 ((k : Nat) : Int), .int .i64 0, strV [], .slice A2 ss.length c2]] :: [row b1 25 [.int .i64 0, .int .i64 0, .string (⟨#[]⟩), .slice none 0 0]] :: R) w67 := hA68
              refine vc_nil ?_
              have hA69 : Hp w0 (Z1 :: [row b7 25 [.int .i64 ((k : Nat) : Int), .int .i64 0, strV [], .slice A2 ss.length c2]] :: [row b1 25 [.int .i64 0, .int .i64 0, .string (⟨#[]⟩), .slice none 0 0]] :: [row rb 152 [.slice A l.length c, .int .i64 (p2 : Nat), .int .i64 (y2 : Nat)]] :: X :: R) w67 := Hp.ord [Z1, [row rb 152 [.slice A l.length c, .int .i64 (p2 : Nat), .int .i64 (y2 : Nat)]], X, [row b7 25 [.int .i64 ((k : Nat) : Int), .int .i64 0, strV [], .slice A2 ss.length c2]], [row b1 25 [.int .i64 0, .int .i64 0, .string (⟨#[]⟩), .slice none 0 0]]] R [0, 3, 4, 1, 2] hA68 rfl
              exact hJ _ _ ⟨⟨((k : Nat) : Int), 0, [], ss⟩, A2, c2⟩ Z1 p2 y2 (gotBody_5 hk5 hg2) (ss_ok hk hR2 hsl) hp2 (hF.keep [0, 2, 4] rfl) hA69
            · refine vc_falseB hF rfl (eql_f (by omega)) ?_
              apply wp_seq_k; intro K41 hK41
              apply wp_seq_k; intro K42 hK42
              refine wp_region_lit ?_
              refine vc_y hF rfl rfl (by decide) _ (y_cmp rfl rfl rfl rfl rfl) (fun a hF => ?_)
              refine vc_y hF rfl rfl (by decide) _ (y_assign rfl rfl) (fun a hF => ?_)
              refine vc_nil ?_
              refine hK42 _ _ ?_; clear  hK42 K42
              refine vc_falseB hF rfl (eql_f (by omega)) ?_
              refine wp_region_lit ?_
              refine vc_y hF rfl rfl (by decide) _ (y_cmp rfl rfl rfl rfl rfl) (fun a hF => ?_)
              refine vc_y hF rfl rfl (by decide) _ (y_assign rfl rfl) (fun a hF => ?_)
              refine vc_nil ?_
              refine hK41 _ _ ?_; clear  hK41 K41
              refine vc_falseB hF rfl (eql_f (by omega)) ?_
              apply wp_seq_k; intro K43 hK43
              refine wp_region_lit ?_
              refine vc_y hF rfl rfl (by decide) _ (y_cmp rfl rfl rfl rfl rfl) (fun a hF => ?_)
              refine vc_y hF rfl rfl (by decide) _ (y_assign rfl rfl) (fun a hF => ?_)
              refine vc_nil ?_
              refine hK43 _ _ ?_; clear  hK43 K43
              refine vc_falseB hF rfl (eql_f (by omega)) ?_
              apply wp_seq_k; intro K44 hK44
              refine wp_region_lit ?_
              refine vc_y hF rfl rfl (by decide) _ (y_cmp rfl rfl rfl rfl rfl) (fun a hF => ?_)
              refine vc_y hF rfl rfl (by decide) _ (y_assign rfl rfl) (fun a hF => ?_)
              refine vc_nil ?_
              refine hK44 _ _ ?_; clear  hK44 K44
              refine vc_falseB hF rfl (eql_f (by omega)) ?_
              apply wp_seq_k; intro K45 hK45
              refine wp_region_lit ?_
              refine vc_y hF rfl rfl (by decide) _ (y_cmp rfl rfl rfl rfl rfl) (fun a hF => ?_)
              refine vc_y hF rfl rfl (by decide) _ (y_assign rfl rfl) (fun a hF => ?_)
              refine vc_nil ?_
              refine hK45 _ _ ?_; clear  hK45 K45
              refine vc_falseB hF rfl (eql_f (by omega)) ?_
              apply wp_skip
              have hA70 : Hp w0 ([row b7 25 [.int .i64 ((k : Nat) : Int), .int .i64 0, strV [], .slice none 0 0]] :: [row b1 25 [.int .i64 0, .int .i64 0, .string (⟨#[]⟩), .slice none 0 0]] :: [row rb 152 [.slice A l.length c, .int .i64 (p1 : Nat), .int .i64 (y1 : Nat)]] :: X :: R) w10 := Hp.ord [[row b7 25 [.int .i64 ((k : Nat) : Int), .int .i64 0, strV [], .slice none 0 0]], [row rb 152 [.slice A l.length c, .int .i64 (p1 : Nat), .int .i64 (y1 : Nat)]], X, [row b1 25 [.int .i64 0, .int .i64 0, .string (⟨#[]⟩), .slice none 0 0]]] R [0, 3, 1, 2] hA11 rfl
              exact hJ _ _ ⟨⟨((k : Nat) : Int), 0, [], []⟩, none, 0⟩ [] p1 y1 (gotBody_0 (.inr ⟨hk1, hk4, hk2, hk3, hk5⟩)) (vb_ok hk (by decide)) hp1 (hF.keep [0, 2, 4] rfl) (Hp.nil hA70)
end Go.Proofs.YtepbmdlgdaedpaaGreatDoor
