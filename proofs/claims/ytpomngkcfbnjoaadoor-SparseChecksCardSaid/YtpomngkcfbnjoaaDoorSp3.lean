/- The texts of a sparse proof. -/
import Derived.Test.YtpomngkcfbnjoaaDoorSp2
namespace Go.Proofs.YtpomngkcfbnjoaaDoor
open Go.RowKit Go.Dk

theorem nr3_s3 : notRow Tryd.prog 3 = true := by kernel_rfl
theorem nr4_s3 : notRow Tryd.prog 4 = true := by kernel_rfl
theorem rw23_s3 : isRow Tryd.prog 23 32 = true := by kernel_rfl
theorem sz3_s3 : (Tryd.prog.info? 3).map (·.size) = some 1 := by kernel_rfl
theorem sz4_s3 : (Tryd.prog.info? 4).map (·.size) = some 1 := by kernel_rfl
theorem sz5_s3 : (Tryd.prog.info? 5).map (·.size) = some 1 := by kernel_rfl
theorem sz23_s3 : (Tryd.prog.info? 23).map (·.size) = some 32 := by kernel_rfl
theorem sz25_s3 : (Tryd.prog.info? 25).map (·.size) = some 33 := by kernel_rfl
theorem cl28_s3 : CallsTo Tryd.prog 28 := ⟨_, Tryd.func28, by kernel_rfl, by kernel_rfl⟩
theorem cl29_s3 : CallsTo Tryd.prog 29 := ⟨_, Tryd.func29, by kernel_rfl, by kernel_rfl⟩
theorem cl75_s3 : CallsTo Tryd.prog 75 := ⟨_, Tryd.func75, by kernel_rfl, by kernel_rfl⟩
theorem cl76_s3 : CallsTo Tryd.prog 76 := ⟨_, Tryd.func76, by kernel_rfl, by kernel_rfl⟩

theorem zr23_s3 : zeroIs Tryd.prog 23 (.agg (dc (List.replicate 32 0)).toArray) := by unfold zeroIs; kernel_rfl
theorem zr126_s3 : zeroIs Tryd.prog 126 (.agg (dc (List.replicate 8 0)).toArray) := by unfold zeroIs; kernel_rfl

theorem sp_bs1 (A : Option Addr) (n c : Nat) (w : World) : (Instr.buildSlice 35 1 #[(0, .slice A n c)]).run Tryd.prog w = .ok (.slice (some ⟨w.heap.size, 0, none⟩) 1 1) (w.alloc (.cells #[.slice A n c] 59)) := by kernel_rfl
theorem sp_bs2 (A B : Option Addr) (n c m d : Nat) (w : World) : (Instr.buildSlice 35 2 #[(0, .slice A n c), (1, .slice B m d)]).run Tryd.prog w = .ok (.slice (some ⟨w.heap.size, 0, none⟩) 2 2) (w.alloc (.cells #[.slice A n c, .slice B m d] 59)) := by kernel_rfl
theorem sp_bs3 (A B C : Option Addr) (n c m d k e : Nat) (w : World) : (Instr.buildSlice 35 3 #[(0, .slice A n c), (1, .slice B m d), (2, .slice C k e)]).run Tryd.prog w = .ok (.slice (some ⟨w.heap.size, 0, none⟩) 3 3) (w.alloc (.cells #[.slice A n c, .slice B m d, .slice C k e] 59)) := by kernel_rfl
theorem sp_elemT : elemInfo Tryd.prog 59 1 24 := elemInfo_of (z := .slice none 0 0) (by kernel_rfl) (by kernel_rfl)
theorem flat2 (l m : List UInt8) : [l, m].flatten = l ++ m := by simp
theorem flat3 (l m k : List UInt8) : [l, m, k].flatten = l ++ m ++ k := by simp
theorem sp_text0 (w0 w : World) (R : List Seg) (hA : Hp w0 R w) : Calls Tryd.prog 75 #[.int .i64 5, .slice none 0 0] w fun e w' => ∃ v Z, e = .returned v ∧ Buf 5 1 Z v ([5] : List UInt8).length (dc [5]) ∧ Hp w0 (Z :: R) w' :=
  tt_text w0 w R [] (List.nil_subset _) 5 5 (by decide) none [] [] 0 0 rfl rfl (pcs_nil w0 []) (by decide) (by decide) hA
theorem sp_text2 (w0 w : World) (R : List Seg) (pa A B : Option Addr) (ca cb : Nat) (l m : List UInt8) (h : PcS w0 R pa [(A, ca, l), (B, cb, m)]) (hl : l.length = 32) (hm : m.length = 32) (hA : Hp w0 R w) : Calls Tryd.prog 75 #[.int .i64 4, .slice pa 2 2] w fun e w' => ∃ v Z, e = .returned v ∧ Buf 5 1 Z v (4 :: (l ++ m)).length (dc (4 :: (l ++ m))) ∧ Hp w0 (Z :: R) w' := by
  have h1 := tt_text w0 w R R sub0 4 4 (by decide) pa [(A, ca, l), (B, cb, m)] [l, m] 2 2 rfl rfl h (by rw [flat2, List.length_append]; omega) (by decide) hA
  rw [flat2] at h1
  exact h1
theorem sp_text3 (w0 w : World) (R : List Seg) (pa A B C : Option Addr) (ca cb cc : Nat) (l m k : List UInt8) (h : PcS w0 R pa [(A, ca, l), (B, cb, m), (C, cc, k)]) (hl : l.length = 32) (hm : m.length = 8) (hk : k.length = 32) (hA : Hp w0 R w) : Calls Tryd.prog 75 #[.int .i64 3, .slice pa 3 3] w fun e w' => ∃ v Z, e = .returned v ∧ Buf 5 1 Z v (3 :: (l ++ m ++ k)).length (dc (3 :: (l ++ m ++ k))) ∧ Hp w0 (Z :: R) w' := by
  have h1 := tt_text w0 w R R sub0 3 3 (by decide) pa [(A, ca, l), (B, cb, m), (C, cc, k)] [l, m, k] 3 3 rfl rfl h (by rw [flat3, List.length_append, List.length_append]; omega) (by decide) hA
  rw [flat3] at h1
  exact h1
theorem be_fill (N i : Nat) (hi : i < 8) : (dc ((be 8 N).take i ++ List.replicate (8 - i) 0)).set i (.int .u8 ((UInt8.ofNat (N / 256 ^ (7 - i))).toNat : Int)) = dc ((be 8 N).take (i + 1) ++ List.replicate (8 - (i + 1)) 0) := by
  have hl : ((be 8 N).take i).length = i := by rw [List.length_take, be_length]; omega
  have e := ow_be 8 N i hi
  rw [show 8 - 1 - i = 7 - i by omega] at e
  rw [← e, show 8 - i = (8 - (i + 1)) + 1 by omega, List.replicate_succ, dc_append, List.set_append, if_neg (by rw [dc_length, hl]; omega), dc_length, hl, Nat.sub_self, dc_append, dc_append, List.append_assoc]
  rfl
theorem sp_shr {ct : Int} (h : 0 ≤ ct ∧ ct ≤ 1099511627776) (i : Nat) (hi : i < 8) : IntKind.u8.wrap (ct.fdiv (2 ^ min (8 * (7 - (i : Int))).toNat IntKind.i64.bits)) = ((UInt8.ofNat (c64 ct / 256 ^ (7 - i))).toNat : Int) := by
  have e : ct = ((c64 ct : Nat) : Int) := by unfold c64; omega
  have h1 := ow_shr (c64 ct) (7 - i) (8 * (7 - i)) rfl (by omega)
  rw [← e, show ((8 * (7 - i) : Nat) : Int) = 8 * (7 - (i : Int)) by omega] at h1
  exact h1
theorem Prf.text_len {p : Prf} (hp : p.OK) (hf : p.formed = true) (width : Int) {k : List UInt8} (hk : k.length = 32) {h : Nat} (hh : h ≤ 256) : (p.text width k h).length ≤ 73 := by
  cases h with
  | zero =>
    show (p.text0 k).length ≤ 73
    unfold Prf.text0
    split
    · simp only [List.length_cons, List.length_append, hk, hp.ch, be_length]; omega
    · simp
  | succ h =>
    show (stepT k (p.lead width k h) (p.side width h) h).length ≤ 73
    have h1 := p.lead_length width k h
    have h2 := Prf.side_length hp hf width (h := h) (by omega)
    unfold stepT
    split <;> simp only [List.length_cons, List.length_append, h1, h2] <;> omega
theorem Prf.text_0 {p : Prf} {width : Int} {k d n : List UInt8} {h : Nat} (hk : keyBit k (255 - h) = 0) : stepT k d n h = 4 :: (d ++ n) := by unfold stepT; rw [if_pos hk]
theorem Prf.text_1 {p : Prf} {width : Int} {k d n : List UInt8} {h : Nat} (hk : ¬ keyBit k (255 - h) = 0) : stepT k d n h = 4 :: (n ++ d) := by unfold stepT; rw [if_neg hk]
/-- texts: what they are, their slices -/
structure TxsS (ts : List TxX) (L : List (List UInt8)) (tv : Value) (XL : Seg) : Prop where
  bufs : ∀ t ∈ ts, Buf 5 1 t.X t.v t.l.length (dc t.l)
  txt : ts.map (·.l) = L
  lst : Buf 59 1 XL tv ts.length (ts.map (·.v))
theorem TxsS.snoc {ts : List TxX} {L : List (List UInt8)} {tv v2 v : Value} {XL X2 Z : Seg} {l : List UInt8} (h : TxsS ts L tv XL) (hZ : Buf 5 1 Z v l.length (dc l)) (h2 : Buf 59 1 X2 v2 (ts.length + 1) (ts.map (·.v) ++ [v])) : TxsS (ts ++ [⟨v, l, Z⟩]) (L ++ [l]) v2 X2 := by
  refine ⟨fun t ht => ?_, by rw [List.map_append, h.txt]; rfl, by rw [List.length_append, List.map_append]; exact h2⟩
  rcases List.mem_append.1 ht with ht | ht
  · exact h.bufs t ht
  · rw [List.mem_singleton.1 ht]; exact hZ
theorem TxsS.len {ts : List TxX} {L : List (List UInt8)} {tv : Value} {XL : Seg} (h : TxsS ts L tv XL) : ts.length = L.length := by rw [← h.txt, List.length_map]
def Prf.texts (p : Prf) (width : Int) (k : List UInt8) (n : Nat) : List (List UInt8) := (List.range n).map (p.text width k)
theorem Prf.texts_succ (p : Prf) (width : Int) (k : List UInt8) (n : Nat) : p.texts width k (n + 1) = p.texts width k n ++ [p.text width k n] := by unfold Prf.texts; rw [List.range_succ, List.map_append]; rfl
theorem Prf.texts_len (p : Prf) (width : Int) (k : List UInt8) (n : Nat) : (p.texts width k n).length = n := by unfold Prf.texts; rw [List.length_map, List.length_range]
theorem sl_arr (g off n : Nat) : Value.slice (sub (some ⟨g, off, none⟩) 0 n 1) (n - 0) (n - 0) = .slice (some ⟨g, off, none⟩) n n := by rw [sub_zero]; rfl
theorem sp_sub5 {G R : List Seg} {a b c d e : Seg} (h : G ⊆ R) : G ⊆ a :: b :: c :: d :: e :: R := fun _ hx => List.mem_cons_of_mem _ (List.mem_cons_of_mem _ (List.mem_cons_of_mem _ (List.mem_cons_of_mem _ (List.mem_cons_of_mem _ (h hx)))))

set_option maxRecDepth 100000 in
set_option maxHeartbeats 2000000 in
theorem sp_lead (w0 w : World) (R G : List Seg) (hG : G ⊆ R) (p : Prf) (sv : Value) (width : Int) (k : List UInt8) (AB : Option Addr) (cB : Nat) (hp : p.OK) (hf : p.formed = true) (hk : k.length = 32) (hT : Tab w0) (hS : Rc w0 G AB (digs (p.side width) 256)) (hA : Hp w0 R w) : Calls Tryd.prog 44 #[.agg (p.cells sv).toArray, .int .i64 width, .agg (dc k).toArray, .slice AB 256 cB] w fun e w' => ∃ ts tv XL, e = .returned (.tuple #[tv, .agg (dc (p.lead width k 256)).toArray]) ∧ TxsS ts (p.texts width k 257) tv XL ∧ Hp w0 (XL :: txS ts :: R) w' := by
  refine vc_enter Tryd.func44 rfl Tryd.ntmps44 (Nat.le_of_ble_eq_true rfl) (fun a hF => ?_)
  apply wp_seq_k; intro K1 hK1
  refine wp_region_lit ?_
  refine vc_op rfl (fun K hK => hs_box (cs := p.cells sv) hF rfl (by decide) rfl hA rfl (fun b1 w2 a hb1 hF hA3 => hK _ _ ?_))
  clear hK K
  replace hA3 : Hp w0 ([row b1 28 (p.cells sv)] :: R) w2 := hA3
  refine vc_op rfl (fun K hK => hs_box (cs := dc k) hF rfl (by decide) rfl hA3 rfl (fun b4 w5 a hb4 hF hA6 => hK _ _ ?_))
  clear hK K
  replace hA6 : Hp w0 ([row b4 23 (dc k)] :: [row b1 28 (p.cells sv)] :: R) w5 := hA6
  refine vc_y hF rfl rfl (by decide) _ (y_assign rfl rfl) (fun a hF => ?_)
  refine vc_op rfl (fun K hK => hs_alloc hF rfl (by decide) rfl hA6 (zr23_s3) (fun b7 w8 a hb7 hF hA9 => hK _ _ ?_))
  clear hK K
  replace hA9 : Hp w0 ([row b7 23 (dc (List.replicate 32 0))] :: [row b4 23 (dc k)] :: [row b1 28 (p.cells sv)] :: R) w8 := hA9
  refine vc_nil ?_
  refine hK1 _ _ ?_; clear  hK1 K1
  apply wp_seq_k; intro K2 hK2
  refine wp_region_lit ?_
  refine vc_op rfl (fun K hK => ws_call hF rfl (by decide) cl75_s3 rfl rfl ?_)
  with_reducible refine (sp_text0 w0 _ ([row b7 23 (dc (List.replicate 32 0))] :: [row b4 23 (dc k)] :: [row b1 28 (p.cells sv)] :: R) hA9 ).mono ?_
  rintro e' w10 ⟨v0, Z, rfl, hZ0, hA11⟩
  refine ⟨_, rfl, fun a hF => hK _ _ ?_⟩
  clear hK K
  replace hA11 : Hp w0 (Z :: [row b7 23 (dc (List.replicate 32 0))] :: [row b4 23 (dc k)] :: [row b1 28 (p.cells sv)] :: R) w10 := hA11
  refine vc_y hF rfl rfl (by decide) _ (y_assign rfl rfl) (fun a hF => ?_)
  refine vc_nil ?_
  refine hK2 _ _ ?_; clear  hK2 K2
  apply wp_seq_k; intro K3 hK3
  apply wp_seq_k; intro K4 hK4
  have hdk : (dc k).length = 32 := by rw [dc_length, hk]
  refine wp_region_lit ?_
  refine vc_y hF rfl rfl (by decide) _ (y_field rfl Tryd.underlying28 rfl sz4_s3 (by decide) rfl (rfl : (⟨_, 0 + _, none⟩ : Addr) = ⟨_, 0, none⟩)) (fun a hF => ?_)
  refine vc_y hF rfl rfl (by decide) _ (y_ld rfl hA11.q rfl 3 rfl rfl nr4_s3) (fun a hF => ?_)
  refine vc_nil ?_
  refine hK4 _ _ ?_; clear  hK4 K4
  have hJ : ∀ (a : Act) (x : World) (A0 : Option Addr) (c0 : Nat) (Z : Seg), Fr 81 [(10, .slice A0 ((p.text0 k).length) c0), (1, .int .i64 width), (4, .pointer (some ⟨b1, 0, none⟩)), (6, .pointer (some ⟨b4, 0, none⟩)), (9, .pointer (some ⟨b7, 0, none⟩)), (3, .slice AB 256 cB)] a → Buf 5 1 Z (.slice A0 (p.text0 k).length c0) (p.text0 k).length (dc (p.text0 k)) → Hp w0 (Z :: [row b4 23 (dc k)] :: [row b7 23 (dc (List.replicate 32 0))] :: R) x → K3 a x := by
    clear hF
    intro a x A0 c0 Z hF hZ hAj
    obtain ⟨_, _, _, hzz, hc0, hR0⟩ := hZ.rd (w0 := w0) (R := [Z]) (List.mem_cons_self ..)
    injection hzz with hz1 _ hz2
    subst hz1 hz2
    have htl0 : (p.text0 k).length ≤ 73 := Prf.text_len hp hf width hk (h := 0) (Nat.zero_le _)
    refine hK3 _ _ ?_; clear  hK3 K3
    apply wp_seq_k; intro K5 hK5
    refine wp_region_lit ?_
    refine vc_y hF rfl rfl (by decide) _ (y_move rfl rfl) (fun a hF => ?_)
    refine vc_op rfl (fun K hK => hs_bs1 (u1 := .slice A0 (p.text0 k).length c0) hF rfl (by decide) rfl hAj rfl (sp_bs1 _ _ _) (fun b12 w13 a hb12 hF hA14 => hK _ _ ?_))
    clear hK K
    replace hA14 : Hp w0 ([row b12 59 [.slice A0 ((p.text0 k).length) c0]] :: Z :: [row b4 23 (dc k)] :: [row b7 23 (dc (List.replicate 32 0))] :: R) w13 := hA14
    refine vc_y hF rfl rfl (by decide) _ (y_assign rfl rfl) (fun a hF => ?_)
    refine vc_nil ?_
    refine hK5 _ _ ?_; clear  hK5 K5
    apply wp_seq_k; intro K6 hK6
    refine wp_region_lit ?_
    refine vc_y hF rfl rfl (by decide) _ (y_move rfl rfl) (fun a hF => ?_)
    refine vc_op rfl (fun K hK => ws_call hF rfl (by decide) cl29_s3 rfl rfl ?_)
    with_reducible refine (sp_sum w0 _ ([row b12 59 [.slice A0 ((p.text0 k).length) c0]] :: Z :: [row b4 23 (dc k)] :: [row b7 23 (dc (List.replicate 32 0))] :: R) [Z] (sub1 (List.mem_cons_of_mem _ ((List.mem_cons_self ..)))) A0 (p.text0 k) c0 _ rfl hR0 hc0 (by omega) hT hA14 ).mono ?_
    rintro e' w15 ⟨rfl, hA16⟩
    refine ⟨_, rfl, fun a hF => hK _ _ ?_⟩
    clear hK K
    replace hA16 : Hp w0 ([row b12 59 [.slice A0 ((p.text0 k).length) c0]] :: Z :: [row b4 23 (dc k)] :: [row b7 23 (dc (List.replicate 32 0))] :: R) w15 := hA16
    refine vc_y hF rfl rfl (by decide) _ (y_move rfl rfl) (fun a hF => ?_)
    refine vc_op rfl (fun K hK => ws_call hF rfl (by decide) cl28_s3 rfl rfl ?_)
    with_reducible refine (sp_cut w0 _ ([row b12 59 [.slice A0 ((p.text0 k).length) c0]] :: Z :: [row b4 23 (dc k)] :: [row b7 23 (dc (List.replicate 32 0))] :: R) (sha (p.text0 k)) width (sha_length _) hA16 ).mono ?_
    rintro e' w17 ⟨rfl, hA18⟩
    refine ⟨_, rfl, fun a hF => hK _ _ ?_⟩
    clear hK K
    replace hA18 : Hp w0 ([row b12 59 [.slice A0 ((p.text0 k).length) c0]] :: Z :: [row b4 23 (dc k)] :: [row b7 23 (dc (List.replicate 32 0))] :: R) w17 := hA18
    rw [show cutL (sha (p.text0 k)) width = p.lead width k 0 from rfl] at hF
    refine vc_op rfl (fun K hK => hs_alloc hF rfl (by decide) rfl hA18 (zr23_s3) (fun b19 w20 a hb19 hF hA21 => hK _ _ ?_))
    clear hK K
    replace hA21 : Hp w0 ([row b19 23 (dc (List.replicate 32 0))] :: [row b12 59 [.slice A0 ((p.text0 k).length) c0]] :: Z :: [row b4 23 (dc k)] :: [row b7 23 (dc (List.replicate 32 0))] :: R) w20 := hA21
    refine vc_op rfl (fun K hK => hs_storeAll (new := dc (p.lead width k 0)) hF rfl rfl hA21 rfl rfl 0 rfl (by rw [dc_length, p.lead_length]; rfl) (dc_one _) sz23_s3 (fun w22 hA23 => hK _ _ ?_))
    clear hK K
    replace hA23 : Hp w0 ([row b19 23 (dc (p.lead width k 0))] :: [row b12 59 [.slice A0 ((p.text0 k).length) c0]] :: Z :: [row b4 23 (dc k)] :: [row b7 23 (dc (List.replicate 32 0))] :: R) w22 := hA23
    refine vc_nil ?_
    refine hK6 _ _ ?_; clear  hK6 K6
    apply wp_seq_k; intro K7 hK7
    apply wp_seq_k; intro K8 hK8
    refine wp_region_lit ?_
    refine vc_y hF rfl rfl (by decide) _ (y_move rfl rfl) (fun a hF => ?_)
    refine vc_y hF rfl rfl (by decide) _ (y_lenSl rfl Tryd.underlying26 rfl rfl) (fun a hF => ?_)
    refine vc_y hF rfl rfl (by decide) _ (y_move rfl rfl) (fun a hF => ?_)
    refine vc_nil ?_
    refine hK8 _ _ ?_; clear  hK8 K8
    apply wp_block
    have hTS0 : TxsS [⟨.slice A0 (p.text0 k).length c0, p.text0 k, Z⟩] (p.texts width k 1) (.slice (some ⟨b12, 0, none⟩) 1 1) [row b12 59 [.slice A0 (p.text0 k).length c0]] := ⟨fun t ht => by rw [List.mem_singleton.1 ht]; exact hZ, rfl, Buf.full rfl (by decide)⟩
    have hA24 : Hp w0 ([row b12 59 [.slice A0 ((p.text0 k).length) c0]] :: Z :: [row b19 23 (dc (p.lead width k 0))] :: [row b4 23 (dc k)] :: [row b7 23 (dc (List.replicate 32 0))] :: R) w22 := Hp.ord [[row b19 23 (dc (p.lead width k 0))], [row b12 59 [.slice A0 ((p.text0 k).length) c0]], Z, [row b4 23 (dc k)], [row b7 23 (dc (List.replicate 32 0))]] R [1, 2, 0, 3, 4] hA23 rfl
    have hA25 : Hp w0 ([row b12 59 [.slice A0 (p.text0 k).length c0]] :: (txS [⟨.slice A0 (p.text0 k).length c0, p.text0 k, Z⟩]) :: [row b19 23 (dc (p.lead width k 0))] :: [row b4 23 (dc k)] :: [row b7 23 (dc (List.replicate 32 0))] :: R) w22 := hA24.cast (by simp [txS])
    refine vc_loop (G := Nat) (fun h a x => ∃ (ts : List TxX) (tv : Value) (XL : Seg), h ≤ 256 ∧ TxsS ts (p.texts width k (h + 1)) tv XL ∧ Fr 81 [(52, .int .i64 (h : Int)), (13, tv), (1, .int .i64 width), (6, .pointer (some ⟨b4, 0, none⟩)), (9, .pointer (some ⟨b7, 0, none⟩)), (14, .pointer (some ⟨b19, 0, none⟩)), (50, .slice AB 256 cB), (51, .int .i64 256)] a ∧ Hp w0 (XL :: (txS ts) :: [row b19 23 (dc (p.lead width k h))] :: [row b4 23 (dc k)] :: [row b7 23 (dc (List.replicate 32 0))] :: R) x) (fun h => 256 - h) 0 (⟨_, _, _, Nat.zero_le _, hTS0, hF.keep [52, 13, 1, 6, 9, 14, 50, 51] rfl, hA25⟩) ?_
    clear hF
    rintro h a w27 ⟨ts, tv, XL, hh, hTS, hF, hA26⟩
    apply wp_seq_k; intro K9 hK9
    refine wp_region_lit ?_
    refine vc_y hF rfl rfl (by decide) _ (y_cmp rfl rfl rfl rfl rfl) (fun a hF => ?_)
    refine vc_nil ?_
    refine hK9 _ _ ?_; clear  hK9 K9
    apply wp_seq_k; intro K10 hK10
    by_cases hlt : h < 256
    · refine vc_trueB hF rfl (lss_t (by omega)) ?_
      have hsl : ∀ i, i < 256 → (p.side width i).length = 32 := fun i hi => Prf.side_length hp hf width hi
      obtain ⟨hrd, hle⟩ := digs_rd (p.side width) 256 h hsl hlt
      obtain ⟨b, q, hAB, hc⟩ := hS.ne (i := h * 32) (by omega)
      have hdl : (p.lead width k h).length = 32 := p.lead_length ..
      have hddl : (dc (p.lead width k h)).length = 32 := by rw [dc_length, hdl]
      have hnl : (p.side width h).length = 32 := hsl h hlt
      have hdnl : (dc (p.side width h)).length = 32 := by rw [dc_length, hnl]
      have hts : ts.length = h + 1 := by rw [hTS.len, p.texts_len]
      have htl : (p.text width k (h + 1)).length ≤ 73 := Prf.text_len hp hf width hk (by omega)
      apply wp_skip
      refine hK10 _ _ ?_; clear  hK10 K10
      apply wp_seq_k; intro K11 hK11
      apply wp_block
      apply wp_seq_k; intro K12 hK12
      refine wp_region_lit ?_
      refine vc_y hF rfl rfl (by decide) _ (y_move rfl rfl) (fun a hF => ?_)
      refine vc_y hF rfl rfl (by decide) _ (y_ixSl rfl Tryd.underlying26 sz23_s3 (by exact congrArg (fun A => some (Value.slice A 256 cB)) hAB) rfl h rfl hlt rfl) (fun a hF => ?_)
      refine vc_y hF rfl rfl (by decide) _ (y_ldRowC rfl (Hq.sub hA26.q (sp_sub5 hG)) rfl hc (h * 32) hle rfl hrd rw23_s3) (fun a hF => ?_)
      refine vc_op rfl (fun K hK => hs_alloc hF rfl (by decide) rfl hA26 (zr23_s3) (fun b28 w29 a hb28 hF hA30 => hK _ _ ?_))
      clear hK K
      replace hA30 : Hp w0 ([row b28 23 (dc (List.replicate 32 0))] :: XL :: (txS ts) :: [row b19 23 (dc (p.lead width k h))] :: [row b4 23 (dc k)] :: [row b7 23 (dc (List.replicate 32 0))] :: R) w29 := hA30
      refine vc_y hF rfl rfl (by decide) _ (y_assign rfl rfl) (fun a hF => ?_)
      refine vc_op rfl (fun K hK => hs_storeAll (new := dc (p.side width h)) hF rfl rfl hA30 rfl rfl 0 rfl (by rw [dc_length, hnl]; rfl) (dc_one _) sz23_s3 (fun w31 hA32 => hK _ _ ?_))
      clear hK K
      replace hA32 : Hp w0 ([row b28 23 (dc (p.side width h))] :: XL :: (txS ts) :: [row b19 23 (dc (p.lead width k h))] :: [row b4 23 (dc k)] :: [row b7 23 (dc (List.replicate 32 0))] :: R) w31 := hA32
      refine vc_nil ?_
      refine hK12 _ _ ?_; clear  hK12 K12
      apply wp_seq_k; intro K13 hK13
      have hM : ∀ (a : Act) (x : World) (gl gr : Nat), Fr 81 [(1, .int .i64 width), (6, .pointer (some ⟨b4, 0, none⟩)), (9, .pointer (some ⟨b7, 0, none⟩)), (14, .pointer (some ⟨b19, 0, none⟩)), (50, .slice AB 256 cB), (51, .int .i64 256), (52, .int .i64 (h : Int)), (13, tv), (15, .int .i64 (h : Int)), (16, .pointer (some ⟨b28, 0, none⟩)), (17, .pointer (some ⟨gl, 0, none⟩)), (18, .pointer (some ⟨gr, 0, none⟩))] a → Hp w0 ([row gl 23 (dc (p.lead width k h))] :: [row gr 23 (dc (p.side width h))] :: [row b28 23 (dc (p.side width h))] :: XL :: (txS ts) :: [row b19 23 (dc (p.lead width k h))] :: [row b4 23 (dc k)] :: [row b7 23 (dc (List.replicate 32 0))] :: R) x → K13 a x := by
        clear hF
        intro a x gl gr hF hAm
        refine hK13 _ _ ?_; clear  hK13 K13
        apply wp_seq_k; intro K14 hK14
        apply wp_seq_k; intro K15 hK15
        by_cases hkb : keyBit k (255 - h) = 0
        · refine wp_region_lit ?_
          refine vc_y hF rfl rfl (by decide) _ (y_ldRow (new := dc k) rfl hAm.q rfl 6 rfl rw23_s3 (by rw [hdk]; exact Nat.le_refl _) (by rw [List.drop_zero]; exact List.take_of_length_le (by rw [hdk]; exact Nat.le_refl _))) (fun a hF => ?_)
          refine vc_y hF rfl rfl (by decide) _ (y_move rfl rfl) (fun a hF => ?_)
          refine vc_y hF rfl rfl (by decide) _ (y_sub rfl rfl rfl (show IntKind.i64.wrap (255 - (h : Int)) = ((255 - h : Nat) : Int) by rw [IntWalk.i64_in _ (by omega)]; omega)) (fun a hF => ?_)
          refine vc_op rfl (fun K hK => ws_call hF rfl (by decide) cl76_s3 rfl rfl ?_)
          with_reducible refine (sp_bit w0 _ ([row gl 23 (dc (p.lead width k h))] :: [row gr 23 (dc (p.side width h))] :: [row b28 23 (dc (p.side width h))] :: XL :: (txS ts) :: [row b19 23 (dc (p.lead width k h))] :: [row b4 23 (dc k)] :: [row b7 23 (dc (List.replicate 32 0))] :: R) k (255 - h) hk (by omega) hAm ).mono ?_
          rintro e' w33 ⟨rfl, hA34⟩
          refine ⟨_, rfl, fun a hF => hK _ _ ?_⟩
          clear hK K
          replace hA34 : Hp w0 ([row gl 23 (dc (p.lead width k h))] :: [row gr 23 (dc (p.side width h))] :: [row b28 23 (dc (p.side width h))] :: XL :: (txS ts) :: [row b19 23 (dc (p.lead width k h))] :: [row b4 23 (dc k)] :: [row b7 23 (dc (List.replicate 32 0))] :: R) w33 := hA34
          refine vc_y hF rfl rfl (by decide) _ (y_cmp rfl rfl rfl rfl (eql_f (by omega))) (fun a hF => ?_)
          refine vc_nil ?_
          refine hK15 _ _ ?_; clear  hK15 K15
          refine vc_false hF rfl ?_
          apply wp_skip
          refine hK14 _ _ ?_; clear  hK14 K14
          apply wp_seq_k; intro K16 hK16
          refine wp_region_plan 3 [2,3,4] [0,1,2,3,4] (fun x => Hq w0 ([row gl 23 (dc (p.lead width k h))] :: [row gr 23 (dc (p.side width h))] :: [row b28 23 (dc (p.side width h))] :: XL :: (txS ts) :: [row b19 23 (dc (p.lead width k h))] :: [row b4 23 (dc k)] :: [row b7 23 (dc (List.replicate 32 0))] :: R) x) (by kernel_rfl) (by kernel_rfl) (Hq.drew (Hp.qp [[row gl 23 (dc (p.lead width k h))], [row gr 23 (dc (p.side width h))], [row b28 23 (dc (p.side width h))], XL, (txS ts), [row b19 23 (dc (p.lead width k h))], [row b4 23 (dc k)], [row b7 23 (dc (List.replicate 32 0))]] R [0, 1, 2, 3, 4, 5, 6, 7] hA34)) ?_
          have hA35 := Hl.drew hA34
          refine vp_y hF rfl rfl rfl rfl (by decide) _ (fun x hx => y_sliceArr rfl Tryd.underlying23 sz5_s3 rfl (.none 0) (.none 32) (Nat.zero_le _) (Nat.le_refl _) (sl_arr _ _ _)) (fun a hF => ?_)
          refine vp_y hF rfl rfl rfl rfl (by decide) _ (fun x hx => y_sliceArr rfl Tryd.underlying23 sz5_s3 rfl (.none 0) (.none 32) (Nat.zero_le _) (Nat.le_refl _) (sl_arr _ _ _)) (fun a hF => ?_)
          refine vp_l rfl rfl rfl (fun K hK => hs_bs (qs := #[(0, .slice (some ⟨gl, 0, none⟩) 32 32), (1, .slice (some ⟨gr, 0, none⟩) 32 32)]) (cells := #[.slice (some ⟨gl, 0, none⟩) 32 32, .slice (some ⟨gr, 0, none⟩) 32 32]) hF rfl (by decide) rfl hA35 rfl (sp_bs2 _ _ _ _ _ _) (fun b36 w37 a hb36 hF hA38 => hK _ _ (fun _ => ?_) ?_))
          · exact Hp.qp [[row b36 59 [.slice (some ⟨gl, 0, none⟩) 32 32, .slice (some ⟨gr, 0, none⟩) 32 32]], [row gl 23 (dc (p.lead width k h))], [row gr 23 (dc (p.side width h))], [row b28 23 (dc (p.side width h))], XL, (txS ts), [row b19 23 (dc (p.lead width k h))], [row b4 23 (dc k)], [row b7 23 (dc (List.replicate 32 0))]] R [1, 2, 3, 4, 5, 6, 7, 8] hA38
          clear hK K
          replace hA38 : Hp w0 ([row b36 59 [.slice (some ⟨gl, 0, none⟩) 32 32, .slice (some ⟨gr, 0, none⟩) 32 32]] :: [row gl 23 (dc (p.lead width k h))] :: [row gr 23 (dc (p.side width h))] :: [row b28 23 (dc (p.side width h))] :: XL :: (txS ts) :: [row b19 23 (dc (p.lead width k h))] :: [row b4 23 (dc k)] :: [row b7 23 (dc (List.replicate 32 0))] :: R) w37 := hA38
          have hps : PcS w0 ([row b36 59 [.slice (some ⟨gl, 0, none⟩) 32 32, .slice (some ⟨gr, 0, none⟩) 32 32]] :: [row gl 23 (dc (p.lead width k h))] :: [row gr 23 (dc (p.side width h))] :: [row b28 23 (dc (p.side width h))] :: XL :: (txS ts) :: [row b19 23 (dc (p.lead width k h))] :: [row b4 23 (dc k)] :: [row b7 23 (dc (List.replicate 32 0))] :: R) (some ⟨b36, 0, none⟩) [(some ⟨gl, 0, none⟩, 32, (p.lead width k h)), (some ⟨gr, 0, none⟩, 32, (p.side width h))] := pcs_two (by rw [hdl, hnl]; exact Rc.ofRow (i := 0) (off := 0) rfl rfl) (by rw [hdl]; decide) (by rw [hnl]; decide) (Rc.ofRow (i := 1) (off := 0) rfl (by rw [List.drop_zero]; exact List.take_length ..)) (Rc.ofRow (i := 2) (off := 0) rfl (by rw [List.drop_zero]; exact List.take_length ..))
          refine vp_l rfl rfl rfl (fun K hK => ws_call hF rfl (by decide) cl75_s3 rfl rfl ?_)
          with_reducible refine (sp_text2 w0 _ ([row b36 59 [.slice (some ⟨gl, 0, none⟩) 32 32, .slice (some ⟨gr, 0, none⟩) 32 32]] :: [row gl 23 (dc (p.lead width k h))] :: [row gr 23 (dc (p.side width h))] :: [row b28 23 (dc (p.side width h))] :: XL :: (txS ts) :: [row b19 23 (dc (p.lead width k h))] :: [row b4 23 (dc k)] :: [row b7 23 (dc (List.replicate 32 0))] :: R) _ _ _ _ _ _ _ hps hdl hnl hA38 ).mono ?_
          rintro e' w39 ⟨vt, Z, rfl, hZ, hA40⟩
          refine ⟨_, rfl, fun a hF => hK _ _ (fun h => absurd h (by decide)) ?_⟩
          clear hK K
          replace hA40 : Hp w0 (Z :: [row b36 59 [.slice (some ⟨gl, 0, none⟩) 32 32, .slice (some ⟨gr, 0, none⟩) 32 32]] :: [row gl 23 (dc (p.lead width k h))] :: [row gr 23 (dc (p.side width h))] :: [row b28 23 (dc (p.side width h))] :: XL :: (txS ts) :: [row b19 23 (dc (p.lead width k h))] :: [row b4 23 (dc k)] :: [row b7 23 (dc (List.replicate 32 0))] :: R) w39 := hA40
          rw [show (4 :: ((p.lead width k h) ++ (p.side width h)) : List UInt8) = p.text width k (h + 1) from (Prf.text_0 (p := p) (width := width) hkb).symm] at hZ
          refine vp_ly hF rfl rfl rfl rfl (by decide) _ (y_assign rfl rfl) (fun h => absurd h (by decide)) (fun a hF => ?_)
          refine plan_end ?_
          refine hK16 _ _ ?_; clear  hK16 K16
          apply wp_seq_k; intro K17 hK17
          have hFn := hF
          obtain ⟨_, A1, c1, rfl, hc1, hR1⟩ := hZ.rd (w0 := w0) (R := [Z]) (List.mem_cons_self ..)
          have hF := hFn
          clear hFn
          refine wp_region_lit ?_
          refine vc_y hF rfl rfl (by decide) _ (y_move rfl rfl) (fun a hF => ?_)
          refine vc_y hF rfl rfl (by decide) _ (y_move rfl rfl) (fun a hF => ?_)
          refine vc_op rfl (fun K hK => hs_bs1 (u1 := .slice A1 (p.text width k (h + 1)).length c1) hF rfl (by decide) rfl hA40 rfl (sp_bs1 _ _ _) (fun b41 w42 a hb41 hF hA43 => hK _ _ ?_))
          clear hK K
          replace hA43 : Hp w0 ([row b41 59 [.slice A1 ((p.text width k (h + 1)).length) c1]] :: Z :: [row b36 59 [.slice (some ⟨gl, 0, none⟩) 32 32, .slice (some ⟨gr, 0, none⟩) 32 32]] :: [row gl 23 (dc (p.lead width k h))] :: [row gr 23 (dc (p.side width h))] :: [row b28 23 (dc (p.side width h))] :: XL :: (txS ts) :: [row b19 23 (dc (p.lead width k h))] :: [row b4 23 (dc k)] :: [row b7 23 (dc (List.replicate 32 0))] :: R) w42 := hA43
          refine vc_op rfl (fun K hK => hs_append hF rfl (by decide) rfl hA43 6 rfl hTS.lst Tryd.underlying35 sp_elemT rfl rfl (Rc.srcC (W := [.slice A1 (p.text width k (h + 1)).length c1]) (m := 1) (size := 1) (R := [row b41 59 [.slice A1 ((p.text width k (h + 1)).length) c1]] :: Z :: [row b36 59 [.slice (some ⟨gl, 0, none⟩) 32 32, .slice (some ⟨gr, 0, none⟩) 32 32]] :: [row gl 23 (dc (p.lead width k h))] :: [row gr 23 (dc (p.side width h))] :: [row b28 23 (dc (p.side width h))] :: XL :: (txS ts) :: [row b19 23 (dc (p.lead width k h))] :: [row b4 23 (dc k)] :: [row b7 23 (dc (List.replicate 32 0))] :: R) (Rc.ofRow (i := 0) (off := 0) rfl rfl) hA43.q Tryd.underlying35 (by decide) rfl (by simp [Value.oneCell'])) (by omega) (by decide) (fun tv2 XL2 w44 a hL2 hF hA45 => hK _ _ ?_))
          clear hK K
          replace hA45 : Hp w0 ([row b41 59 [.slice A1 ((p.text width k (h + 1)).length) c1]] :: Z :: [row b36 59 [.slice (some ⟨gl, 0, none⟩) 32 32, .slice (some ⟨gr, 0, none⟩) 32 32]] :: [row gl 23 (dc (p.lead width k h))] :: [row gr 23 (dc (p.side width h))] :: [row b28 23 (dc (p.side width h))] :: XL2 :: (txS ts) :: [row b19 23 (dc (p.lead width k h))] :: [row b4 23 (dc k)] :: [row b7 23 (dc (List.replicate 32 0))] :: R) w44 := hA45
          refine vc_y hF rfl rfl (by decide) _ (y_assign rfl rfl) (fun a hF => ?_)
          refine vc_nil ?_
          refine hK17 _ _ ?_; clear  hK17 K17
          refine wp_region_lit ?_
          refine vc_y hF rfl rfl (by decide) _ (y_move rfl rfl) (fun a hF => ?_)
          refine vc_op rfl (fun K hK => ws_call hF rfl (by decide) cl29_s3 rfl rfl ?_)
          with_reducible refine (sp_sum w0 _ ([row b41 59 [.slice A1 ((p.text width k (h + 1)).length) c1]] :: Z :: [row b36 59 [.slice (some ⟨gl, 0, none⟩) 32 32, .slice (some ⟨gr, 0, none⟩) 32 32]] :: [row gl 23 (dc (p.lead width k h))] :: [row gr 23 (dc (p.side width h))] :: [row b28 23 (dc (p.side width h))] :: XL2 :: (txS ts) :: [row b19 23 (dc (p.lead width k h))] :: [row b4 23 (dc k)] :: [row b7 23 (dc (List.replicate 32 0))] :: R) [Z] (sub1 (List.mem_cons_of_mem _ ((List.mem_cons_self ..)))) A1 (p.text width k (h + 1)) c1 _ rfl hR1 hc1 (by omega) hT hA45 ).mono ?_
          rintro e' w46 ⟨rfl, hA47⟩
          refine ⟨_, rfl, fun a hF => hK _ _ ?_⟩
          clear hK K
          replace hA47 : Hp w0 ([row b41 59 [.slice A1 ((p.text width k (h + 1)).length) c1]] :: Z :: [row b36 59 [.slice (some ⟨gl, 0, none⟩) 32 32, .slice (some ⟨gr, 0, none⟩) 32 32]] :: [row gl 23 (dc (p.lead width k h))] :: [row gr 23 (dc (p.side width h))] :: [row b28 23 (dc (p.side width h))] :: XL2 :: (txS ts) :: [row b19 23 (dc (p.lead width k h))] :: [row b4 23 (dc k)] :: [row b7 23 (dc (List.replicate 32 0))] :: R) w46 := hA47
          refine vc_y hF rfl rfl (by decide) _ (y_move rfl rfl) (fun a hF => ?_)
          refine vc_op rfl (fun K hK => ws_call hF rfl (by decide) cl28_s3 rfl rfl ?_)
          with_reducible refine (sp_cut w0 _ ([row b41 59 [.slice A1 ((p.text width k (h + 1)).length) c1]] :: Z :: [row b36 59 [.slice (some ⟨gl, 0, none⟩) 32 32, .slice (some ⟨gr, 0, none⟩) 32 32]] :: [row gl 23 (dc (p.lead width k h))] :: [row gr 23 (dc (p.side width h))] :: [row b28 23 (dc (p.side width h))] :: XL2 :: (txS ts) :: [row b19 23 (dc (p.lead width k h))] :: [row b4 23 (dc k)] :: [row b7 23 (dc (List.replicate 32 0))] :: R) (sha (p.text width k (h + 1))) width (sha_length _) hA47 ).mono ?_
          rintro e' w48 ⟨rfl, hA49⟩
          refine ⟨_, rfl, fun a hF => hK _ _ ?_⟩
          clear hK K
          replace hA49 : Hp w0 ([row b41 59 [.slice A1 ((p.text width k (h + 1)).length) c1]] :: Z :: [row b36 59 [.slice (some ⟨gl, 0, none⟩) 32 32, .slice (some ⟨gr, 0, none⟩) 32 32]] :: [row gl 23 (dc (p.lead width k h))] :: [row gr 23 (dc (p.side width h))] :: [row b28 23 (dc (p.side width h))] :: XL2 :: (txS ts) :: [row b19 23 (dc (p.lead width k h))] :: [row b4 23 (dc k)] :: [row b7 23 (dc (List.replicate 32 0))] :: R) w48 := hA49
          rw [← p.lead_eq width k (h + 1)] at hF
          refine vc_op rfl (fun K hK => hs_storeAll (new := dc (p.lead width k (h + 1))) hF rfl rfl hA49 rfl rfl 8 rfl (by rw [dc_length, dc_length, p.lead_length, p.lead_length]) (dc_one _) (by rw [dc_length, hdl]; exact sz23_s3) (fun w50 hA51 => hK _ _ ?_))
          clear hK K
          replace hA51 : Hp w0 ([row b41 59 [.slice A1 ((p.text width k (h + 1)).length) c1]] :: Z :: [row b36 59 [.slice (some ⟨gl, 0, none⟩) 32 32, .slice (some ⟨gr, 0, none⟩) 32 32]] :: [row gl 23 (dc (p.lead width k h))] :: [row gr 23 (dc (p.side width h))] :: [row b28 23 (dc (p.side width h))] :: XL2 :: (txS ts) :: [row b19 23 (dc (p.lead width k (h + 1)))] :: [row b4 23 (dc k)] :: [row b7 23 (dc (List.replicate 32 0))] :: R) w50 := hA51
          refine vc_nil ?_
          refine hK11 _ _ ?_; clear  hK11 K11
          refine wp_region_lit ?_
          refine vc_y hF rfl rfl (by decide) _ (y_add rfl rfl rfl (IntWalk.i64_in _ (by omega))) (fun a hF => ?_)
          refine vc_y hF rfl rfl (by decide) _ (y_move rfl rfl) (fun a hF => ?_)
          refine vc_nil ?_
          have hTS2 := hTS.snoc hZ hL2
          rw [← p.texts_succ] at hTS2
          have hA52 : Hp w0 (XL2 :: (txS ts) :: Z :: [row b19 23 (dc (p.lead width k (h + 1)))] :: [row b4 23 (dc k)] :: [row b7 23 (dc (List.replicate 32 0))] :: R) w50 := Hp.sel [[row b41 59 [.slice A1 ((p.text width k (h + 1)).length) c1]], Z, [row b36 59 [.slice (some ⟨gl, 0, none⟩) 32 32, .slice (some ⟨gr, 0, none⟩) 32 32]], [row gl 23 (dc (p.lead width k h))], [row gr 23 (dc (p.side width h))], [row b28 23 (dc (p.side width h))], XL2, (txS ts), [row b19 23 (dc (p.lead width k (h + 1)))], [row b4 23 (dc k)], [row b7 23 (dc (List.replicate 32 0))]] R [6, 7, 1, 8, 9, 10] [0, 2, 3, 4, 5] hA51 rfl
          have hA53 : Hp w0 (XL2 :: (txS (ts ++ [⟨.slice A1 (p.text width k (h + 1)).length c1, p.text width k (h + 1), Z⟩])) :: [row b19 23 (dc (p.lead width k (h + 1)))] :: [row b4 23 (dc k)] :: [row b7 23 (dc (List.replicate 32 0))] :: R) w50 := hA52.cast (by simp [txS])
          exact ⟨h + 1, by omega, _, tv2, XL2, by omega, hTS2, hF.keep [52, 13, 1, 6, 9, 14, 50, 51] rfl, hA53⟩
        · have hk1 : keyBit k (255 - h) = 1 := (keyBit_cases k (255 - h)).resolve_left hkb
          refine wp_region_lit ?_
          refine vc_y hF rfl rfl (by decide) _ (y_ldRow (new := dc k) rfl hAm.q rfl 6 rfl rw23_s3 (by rw [hdk]; exact Nat.le_refl _) (by rw [List.drop_zero]; exact List.take_of_length_le (by rw [hdk]; exact Nat.le_refl _))) (fun a hF => ?_)
          refine vc_y hF rfl rfl (by decide) _ (y_move rfl rfl) (fun a hF => ?_)
          refine vc_y hF rfl rfl (by decide) _ (y_sub rfl rfl rfl (show IntKind.i64.wrap (255 - (h : Int)) = ((255 - h : Nat) : Int) by rw [IntWalk.i64_in _ (by omega)]; omega)) (fun a hF => ?_)
          refine vc_op rfl (fun K hK => ws_call hF rfl (by decide) cl76_s3 rfl rfl ?_)
          with_reducible refine (sp_bit w0 _ ([row gl 23 (dc (p.lead width k h))] :: [row gr 23 (dc (p.side width h))] :: [row b28 23 (dc (p.side width h))] :: XL :: (txS ts) :: [row b19 23 (dc (p.lead width k h))] :: [row b4 23 (dc k)] :: [row b7 23 (dc (List.replicate 32 0))] :: R) k (255 - h) hk (by omega) hAm ).mono ?_
          rintro e' w54 ⟨rfl, hA55⟩
          refine ⟨_, rfl, fun a hF => hK _ _ ?_⟩
          clear hK K
          replace hA55 : Hp w0 ([row gl 23 (dc (p.lead width k h))] :: [row gr 23 (dc (p.side width h))] :: [row b28 23 (dc (p.side width h))] :: XL :: (txS ts) :: [row b19 23 (dc (p.lead width k h))] :: [row b4 23 (dc k)] :: [row b7 23 (dc (List.replicate 32 0))] :: R) w54 := hA55
          refine vc_y hF rfl rfl (by decide) _ (y_cmp rfl rfl rfl rfl (eql_t (by omega))) (fun a hF => ?_)
          refine vc_nil ?_
          refine hK15 _ _ ?_; clear  hK15 K15
          refine vc_true hF rfl ?_
          refine wp_region_plan 3 [2,3] [0,1,2,3] (fun x => Hq w0 ([row b28 23 (dc (p.side width h))] :: XL :: (txS ts) :: [row b19 23 (dc (p.lead width k h))] :: [row b4 23 (dc k)] :: [row b7 23 (dc (List.replicate 32 0))] :: R) x) (by kernel_rfl) (by kernel_rfl) (Hq.drew (Hp.qp [[row gl 23 (dc (p.lead width k h))], [row gr 23 (dc (p.side width h))], [row b28 23 (dc (p.side width h))], XL, (txS ts), [row b19 23 (dc (p.lead width k h))], [row b4 23 (dc k)], [row b7 23 (dc (List.replicate 32 0))]] R [2, 3, 4, 5, 6, 7] hA55)) ?_
          have hA56 := Hl.drew hA55
          refine vp_y hF rfl rfl rfl rfl (by decide) _ (fun x hx => y_ldRow (new := dc (p.side width h)) rfl hx rfl 0 rfl rw23_s3 (by rw [hdnl]; exact Nat.le_refl _) (by rw [List.drop_zero]; exact List.take_of_length_le (by rw [hdnl]; exact Nat.le_refl _))) (fun a hF => ?_)
          refine vp_y hF rfl rfl rfl rfl (by decide) _ (fun x hx => y_ldRow (new := dc (p.lead width k h)) rfl hx rfl 3 rfl rw23_s3 (by rw [hddl]; exact Nat.le_refl _) (by rw [List.drop_zero]; exact List.take_of_length_le (by rw [hddl]; exact Nat.le_refl _))) (fun a hF => ?_)
          refine vp_l rfl rfl rfl (fun K hK => hs_storeAll (new := dc (p.side width h)) hF rfl rfl hA56 rfl rfl 0 rfl (by rw [dc_length, dc_length, hdl, hnl]) (dc_one _) (by rw [dc_length, hdl]; exact sz23_s3) (fun w57 hA58 => hK _ _ (fun _ => ?_) ?_))
          · exact Hp.qp [[row gl 23 (dc (p.side width h))], [row gr 23 (dc (p.side width h))], [row b28 23 (dc (p.side width h))], XL, (txS ts), [row b19 23 (dc (p.lead width k h))], [row b4 23 (dc k)], [row b7 23 (dc (List.replicate 32 0))]] R [2, 3, 4, 5, 6, 7] hA58
          clear hK K
          replace hA58 : Hp w0 ([row gl 23 (dc (p.side width h))] :: [row gr 23 (dc (p.side width h))] :: [row b28 23 (dc (p.side width h))] :: XL :: (txS ts) :: [row b19 23 (dc (p.lead width k h))] :: [row b4 23 (dc k)] :: [row b7 23 (dc (List.replicate 32 0))] :: R) w57 := hA58
          refine vp_l rfl rfl rfl (fun K hK => hs_storeAll (new := dc (p.lead width k h)) hF rfl rfl hA58 rfl rfl 1 rfl (by rw [dc_length, dc_length, hdl, hnl]) (dc_one _) (by rw [dc_length, hnl]; exact sz23_s3) (fun w59 hA60 => hK _ _ (fun h => absurd h (by decide)) ?_))
          clear hK K
          replace hA60 : Hp w0 ([row gl 23 (dc (p.side width h))] :: [row gr 23 (dc (p.lead width k h))] :: [row b28 23 (dc (p.side width h))] :: XL :: (txS ts) :: [row b19 23 (dc (p.lead width k h))] :: [row b4 23 (dc k)] :: [row b7 23 (dc (List.replicate 32 0))] :: R) w59 := hA60
          refine plan_end ?_
          refine hK14 _ _ ?_; clear  hK14 K14
          apply wp_seq_k; intro K18 hK18
          refine wp_region_plan 3 [2,3,4] [0,1,2,3,4] (fun x => Hq w0 ([row gl 23 (dc (p.side width h))] :: [row gr 23 (dc (p.lead width k h))] :: [row b28 23 (dc (p.side width h))] :: XL :: (txS ts) :: [row b19 23 (dc (p.lead width k h))] :: [row b4 23 (dc k)] :: [row b7 23 (dc (List.replicate 32 0))] :: R) x) (by kernel_rfl) (by kernel_rfl) (Hq.drew (Hp.qp [[row gl 23 (dc (p.side width h))], [row gr 23 (dc (p.lead width k h))], [row b28 23 (dc (p.side width h))], XL, (txS ts), [row b19 23 (dc (p.lead width k h))], [row b4 23 (dc k)], [row b7 23 (dc (List.replicate 32 0))]] R [0, 1, 2, 3, 4, 5, 6, 7] hA60)) ?_
          have hA61 := Hl.drew hA60
          refine vp_y hF rfl rfl rfl rfl (by decide) _ (fun x hx => y_sliceArr rfl Tryd.underlying23 sz5_s3 rfl (.none 0) (.none 32) (Nat.zero_le _) (Nat.le_refl _) (sl_arr _ _ _)) (fun a hF => ?_)
          refine vp_y hF rfl rfl rfl rfl (by decide) _ (fun x hx => y_sliceArr rfl Tryd.underlying23 sz5_s3 rfl (.none 0) (.none 32) (Nat.zero_le _) (Nat.le_refl _) (sl_arr _ _ _)) (fun a hF => ?_)
          refine vp_l rfl rfl rfl (fun K hK => hs_bs (qs := #[(0, .slice (some ⟨gl, 0, none⟩) 32 32), (1, .slice (some ⟨gr, 0, none⟩) 32 32)]) (cells := #[.slice (some ⟨gl, 0, none⟩) 32 32, .slice (some ⟨gr, 0, none⟩) 32 32]) hF rfl (by decide) rfl hA61 rfl (sp_bs2 _ _ _ _ _ _) (fun b62 w63 a hb62 hF hA64 => hK _ _ (fun _ => ?_) ?_))
          · exact Hp.qp [[row b62 59 [.slice (some ⟨gl, 0, none⟩) 32 32, .slice (some ⟨gr, 0, none⟩) 32 32]], [row gl 23 (dc (p.side width h))], [row gr 23 (dc (p.lead width k h))], [row b28 23 (dc (p.side width h))], XL, (txS ts), [row b19 23 (dc (p.lead width k h))], [row b4 23 (dc k)], [row b7 23 (dc (List.replicate 32 0))]] R [1, 2, 3, 4, 5, 6, 7, 8] hA64
          clear hK K
          replace hA64 : Hp w0 ([row b62 59 [.slice (some ⟨gl, 0, none⟩) 32 32, .slice (some ⟨gr, 0, none⟩) 32 32]] :: [row gl 23 (dc (p.side width h))] :: [row gr 23 (dc (p.lead width k h))] :: [row b28 23 (dc (p.side width h))] :: XL :: (txS ts) :: [row b19 23 (dc (p.lead width k h))] :: [row b4 23 (dc k)] :: [row b7 23 (dc (List.replicate 32 0))] :: R) w63 := hA64
          have hps : PcS w0 ([row b62 59 [.slice (some ⟨gl, 0, none⟩) 32 32, .slice (some ⟨gr, 0, none⟩) 32 32]] :: [row gl 23 (dc (p.side width h))] :: [row gr 23 (dc (p.lead width k h))] :: [row b28 23 (dc (p.side width h))] :: XL :: (txS ts) :: [row b19 23 (dc (p.lead width k h))] :: [row b4 23 (dc k)] :: [row b7 23 (dc (List.replicate 32 0))] :: R) (some ⟨b62, 0, none⟩) [(some ⟨gl, 0, none⟩, 32, (p.side width h)), (some ⟨gr, 0, none⟩, 32, (p.lead width k h))] := pcs_two (by rw [hnl, hdl]; exact Rc.ofRow (i := 0) (off := 0) rfl rfl) (by rw [hnl]; decide) (by rw [hdl]; decide) (Rc.ofRow (i := 1) (off := 0) rfl (by rw [List.drop_zero]; exact List.take_length ..)) (Rc.ofRow (i := 2) (off := 0) rfl (by rw [List.drop_zero]; exact List.take_length ..))
          refine vp_l rfl rfl rfl (fun K hK => ws_call hF rfl (by decide) cl75_s3 rfl rfl ?_)
          with_reducible refine (sp_text2 w0 _ ([row b62 59 [.slice (some ⟨gl, 0, none⟩) 32 32, .slice (some ⟨gr, 0, none⟩) 32 32]] :: [row gl 23 (dc (p.side width h))] :: [row gr 23 (dc (p.lead width k h))] :: [row b28 23 (dc (p.side width h))] :: XL :: (txS ts) :: [row b19 23 (dc (p.lead width k h))] :: [row b4 23 (dc k)] :: [row b7 23 (dc (List.replicate 32 0))] :: R) _ _ _ _ _ _ _ hps hnl hdl hA64 ).mono ?_
          rintro e' w65 ⟨vt, Z, rfl, hZ, hA66⟩
          refine ⟨_, rfl, fun a hF => hK _ _ (fun h => absurd h (by decide)) ?_⟩
          clear hK K
          replace hA66 : Hp w0 (Z :: [row b62 59 [.slice (some ⟨gl, 0, none⟩) 32 32, .slice (some ⟨gr, 0, none⟩) 32 32]] :: [row gl 23 (dc (p.side width h))] :: [row gr 23 (dc (p.lead width k h))] :: [row b28 23 (dc (p.side width h))] :: XL :: (txS ts) :: [row b19 23 (dc (p.lead width k h))] :: [row b4 23 (dc k)] :: [row b7 23 (dc (List.replicate 32 0))] :: R) w65 := hA66
          rw [show (4 :: ((p.side width h) ++ (p.lead width k h)) : List UInt8) = p.text width k (h + 1) from (Prf.text_1 (p := p) (width := width) hkb).symm] at hZ
          refine vp_ly hF rfl rfl rfl rfl (by decide) _ (y_assign rfl rfl) (fun h => absurd h (by decide)) (fun a hF => ?_)
          refine plan_end ?_
          refine hK18 _ _ ?_; clear  hK18 K18
          apply wp_seq_k; intro K19 hK19
          have hFn := hF
          obtain ⟨_, A1, c1, rfl, hc1, hR1⟩ := hZ.rd (w0 := w0) (R := [Z]) (List.mem_cons_self ..)
          have hF := hFn
          clear hFn
          refine wp_region_lit ?_
          refine vc_y hF rfl rfl (by decide) _ (y_move rfl rfl) (fun a hF => ?_)
          refine vc_y hF rfl rfl (by decide) _ (y_move rfl rfl) (fun a hF => ?_)
          refine vc_op rfl (fun K hK => hs_bs1 (u1 := .slice A1 (p.text width k (h + 1)).length c1) hF rfl (by decide) rfl hA66 rfl (sp_bs1 _ _ _) (fun b67 w68 a hb67 hF hA69 => hK _ _ ?_))
          clear hK K
          replace hA69 : Hp w0 ([row b67 59 [.slice A1 ((p.text width k (h + 1)).length) c1]] :: Z :: [row b62 59 [.slice (some ⟨gl, 0, none⟩) 32 32, .slice (some ⟨gr, 0, none⟩) 32 32]] :: [row gl 23 (dc (p.side width h))] :: [row gr 23 (dc (p.lead width k h))] :: [row b28 23 (dc (p.side width h))] :: XL :: (txS ts) :: [row b19 23 (dc (p.lead width k h))] :: [row b4 23 (dc k)] :: [row b7 23 (dc (List.replicate 32 0))] :: R) w68 := hA69
          refine vc_op rfl (fun K hK => hs_append hF rfl (by decide) rfl hA69 6 rfl hTS.lst Tryd.underlying35 sp_elemT rfl rfl (Rc.srcC (W := [.slice A1 (p.text width k (h + 1)).length c1]) (m := 1) (size := 1) (R := [row b67 59 [.slice A1 ((p.text width k (h + 1)).length) c1]] :: Z :: [row b62 59 [.slice (some ⟨gl, 0, none⟩) 32 32, .slice (some ⟨gr, 0, none⟩) 32 32]] :: [row gl 23 (dc (p.side width h))] :: [row gr 23 (dc (p.lead width k h))] :: [row b28 23 (dc (p.side width h))] :: XL :: (txS ts) :: [row b19 23 (dc (p.lead width k h))] :: [row b4 23 (dc k)] :: [row b7 23 (dc (List.replicate 32 0))] :: R) (Rc.ofRow (i := 0) (off := 0) rfl rfl) hA69.q Tryd.underlying35 (by decide) rfl (by simp [Value.oneCell'])) (by omega) (by decide) (fun tv2 XL2 w70 a hL2 hF hA71 => hK _ _ ?_))
          clear hK K
          replace hA71 : Hp w0 ([row b67 59 [.slice A1 ((p.text width k (h + 1)).length) c1]] :: Z :: [row b62 59 [.slice (some ⟨gl, 0, none⟩) 32 32, .slice (some ⟨gr, 0, none⟩) 32 32]] :: [row gl 23 (dc (p.side width h))] :: [row gr 23 (dc (p.lead width k h))] :: [row b28 23 (dc (p.side width h))] :: XL2 :: (txS ts) :: [row b19 23 (dc (p.lead width k h))] :: [row b4 23 (dc k)] :: [row b7 23 (dc (List.replicate 32 0))] :: R) w70 := hA71
          refine vc_y hF rfl rfl (by decide) _ (y_assign rfl rfl) (fun a hF => ?_)
          refine vc_nil ?_
          refine hK19 _ _ ?_; clear  hK19 K19
          refine wp_region_lit ?_
          refine vc_y hF rfl rfl (by decide) _ (y_move rfl rfl) (fun a hF => ?_)
          refine vc_op rfl (fun K hK => ws_call hF rfl (by decide) cl29_s3 rfl rfl ?_)
          with_reducible refine (sp_sum w0 _ ([row b67 59 [.slice A1 ((p.text width k (h + 1)).length) c1]] :: Z :: [row b62 59 [.slice (some ⟨gl, 0, none⟩) 32 32, .slice (some ⟨gr, 0, none⟩) 32 32]] :: [row gl 23 (dc (p.side width h))] :: [row gr 23 (dc (p.lead width k h))] :: [row b28 23 (dc (p.side width h))] :: XL2 :: (txS ts) :: [row b19 23 (dc (p.lead width k h))] :: [row b4 23 (dc k)] :: [row b7 23 (dc (List.replicate 32 0))] :: R) [Z] (sub1 (List.mem_cons_of_mem _ ((List.mem_cons_self ..)))) A1 (p.text width k (h + 1)) c1 _ rfl hR1 hc1 (by omega) hT hA71 ).mono ?_
          rintro e' w72 ⟨rfl, hA73⟩
          refine ⟨_, rfl, fun a hF => hK _ _ ?_⟩
          clear hK K
          replace hA73 : Hp w0 ([row b67 59 [.slice A1 ((p.text width k (h + 1)).length) c1]] :: Z :: [row b62 59 [.slice (some ⟨gl, 0, none⟩) 32 32, .slice (some ⟨gr, 0, none⟩) 32 32]] :: [row gl 23 (dc (p.side width h))] :: [row gr 23 (dc (p.lead width k h))] :: [row b28 23 (dc (p.side width h))] :: XL2 :: (txS ts) :: [row b19 23 (dc (p.lead width k h))] :: [row b4 23 (dc k)] :: [row b7 23 (dc (List.replicate 32 0))] :: R) w72 := hA73
          refine vc_y hF rfl rfl (by decide) _ (y_move rfl rfl) (fun a hF => ?_)
          refine vc_op rfl (fun K hK => ws_call hF rfl (by decide) cl28_s3 rfl rfl ?_)
          with_reducible refine (sp_cut w0 _ ([row b67 59 [.slice A1 ((p.text width k (h + 1)).length) c1]] :: Z :: [row b62 59 [.slice (some ⟨gl, 0, none⟩) 32 32, .slice (some ⟨gr, 0, none⟩) 32 32]] :: [row gl 23 (dc (p.side width h))] :: [row gr 23 (dc (p.lead width k h))] :: [row b28 23 (dc (p.side width h))] :: XL2 :: (txS ts) :: [row b19 23 (dc (p.lead width k h))] :: [row b4 23 (dc k)] :: [row b7 23 (dc (List.replicate 32 0))] :: R) (sha (p.text width k (h + 1))) width (sha_length _) hA73 ).mono ?_
          rintro e' w74 ⟨rfl, hA75⟩
          refine ⟨_, rfl, fun a hF => hK _ _ ?_⟩
          clear hK K
          replace hA75 : Hp w0 ([row b67 59 [.slice A1 ((p.text width k (h + 1)).length) c1]] :: Z :: [row b62 59 [.slice (some ⟨gl, 0, none⟩) 32 32, .slice (some ⟨gr, 0, none⟩) 32 32]] :: [row gl 23 (dc (p.side width h))] :: [row gr 23 (dc (p.lead width k h))] :: [row b28 23 (dc (p.side width h))] :: XL2 :: (txS ts) :: [row b19 23 (dc (p.lead width k h))] :: [row b4 23 (dc k)] :: [row b7 23 (dc (List.replicate 32 0))] :: R) w74 := hA75
          rw [← p.lead_eq width k (h + 1)] at hF
          refine vc_op rfl (fun K hK => hs_storeAll (new := dc (p.lead width k (h + 1))) hF rfl rfl hA75 rfl rfl 8 rfl (by rw [dc_length, dc_length, p.lead_length, p.lead_length]) (dc_one _) (by rw [dc_length, hdl]; exact sz23_s3) (fun w76 hA77 => hK _ _ ?_))
          clear hK K
          replace hA77 : Hp w0 ([row b67 59 [.slice A1 ((p.text width k (h + 1)).length) c1]] :: Z :: [row b62 59 [.slice (some ⟨gl, 0, none⟩) 32 32, .slice (some ⟨gr, 0, none⟩) 32 32]] :: [row gl 23 (dc (p.side width h))] :: [row gr 23 (dc (p.lead width k h))] :: [row b28 23 (dc (p.side width h))] :: XL2 :: (txS ts) :: [row b19 23 (dc (p.lead width k (h + 1)))] :: [row b4 23 (dc k)] :: [row b7 23 (dc (List.replicate 32 0))] :: R) w76 := hA77
          refine vc_nil ?_
          refine hK11 _ _ ?_; clear  hK11 K11
          refine wp_region_lit ?_
          refine vc_y hF rfl rfl (by decide) _ (y_add rfl rfl rfl (IntWalk.i64_in _ (by omega))) (fun a hF => ?_)
          refine vc_y hF rfl rfl (by decide) _ (y_move rfl rfl) (fun a hF => ?_)
          refine vc_nil ?_
          have hTS2 := hTS.snoc hZ hL2
          rw [← p.texts_succ] at hTS2
          have hA78 : Hp w0 (XL2 :: (txS ts) :: Z :: [row b19 23 (dc (p.lead width k (h + 1)))] :: [row b4 23 (dc k)] :: [row b7 23 (dc (List.replicate 32 0))] :: R) w76 := Hp.sel [[row b67 59 [.slice A1 ((p.text width k (h + 1)).length) c1]], Z, [row b62 59 [.slice (some ⟨gl, 0, none⟩) 32 32, .slice (some ⟨gr, 0, none⟩) 32 32]], [row gl 23 (dc (p.side width h))], [row gr 23 (dc (p.lead width k h))], [row b28 23 (dc (p.side width h))], XL2, (txS ts), [row b19 23 (dc (p.lead width k (h + 1)))], [row b4 23 (dc k)], [row b7 23 (dc (List.replicate 32 0))]] R [6, 7, 1, 8, 9, 10] [0, 2, 3, 4, 5] hA77 rfl
          have hA79 : Hp w0 (XL2 :: (txS (ts ++ [⟨.slice A1 (p.text width k (h + 1)).length c1, p.text width k (h + 1), Z⟩])) :: [row b19 23 (dc (p.lead width k (h + 1)))] :: [row b4 23 (dc k)] :: [row b7 23 (dc (List.replicate 32 0))] :: R) w76 := hA78.cast (by simp [txS])
          exact ⟨h + 1, by omega, _, tv2, XL2, by omega, hTS2, hF.keep [52, 13, 1, 6, 9, 14, 50, 51] rfl, hA79⟩
      refine wp_region_fork 5 [2,3,4,5] (.op 0 (.op 1 (.fork 2 3 (.op 3 (.op 4 (.op 5 .done))) (.op 2 (.op 4 (.op 5 .done)))))) (fun x => Hq w0 ([row b28 23 (dc (p.side width h))] :: XL :: (txS ts) :: [row b19 23 (dc (p.lead width k h))] :: [row b4 23 (dc k)] :: [row b7 23 (dc (List.replicate 32 0))] :: R) x) (by kernel_rfl) (by kernel_rfl) (Hq.drew (Hp.qp [[row b28 23 (dc (p.side width h))], XL, (txS ts), [row b19 23 (dc (p.lead width k h))], [row b4 23 (dc k)], [row b7 23 (dc (List.replicate 32 0))]] R [0, 1, 2, 3, 4, 5] hA32)) ?_
      have hA80 := Hl.drew hA32
      refine vt_y hF rfl rfl rfl rfl (by decide) _ (fun x hx => y_ldRow (new := dc (p.lead width k h)) rfl hx rfl 3 rfl rw23_s3 (by rw [hddl]; exact Nat.le_refl _) (by rw [List.drop_zero]; exact List.take_of_length_le (by rw [hddl]; exact Nat.le_refl _))) (fun a hF => ?_)
      refine vt_y hF rfl rfl rfl rfl (by decide) _ (fun x hx => y_ldRow (new := dc (p.side width h)) rfl hx rfl 0 rfl rw23_s3 (by rw [hdnl]; exact Nat.le_refl _) (by rw [List.drop_zero]; exact List.take_of_length_le (by rw [hdnl]; exact Nat.le_refl _))) (fun a hF => ?_)
      refine vt_fork rfl rfl rfl rfl (fun K hK => ?_) (fun K hK => ?_)
      · refine hs_alloc hF rfl (by decide) rfl hA80 (zr23_s3) (fun b81 w82 a hb81 hF hA83 => hK _ _ ?_ ?_)
        · exact Hp.qp [[row b81 23 (dc (List.replicate 32 0))], [row b28 23 (dc (p.side width h))], XL, (txS ts), [row b19 23 (dc (p.lead width k h))], [row b4 23 (dc k)], [row b7 23 (dc (List.replicate 32 0))]] R [1, 2, 3, 4, 5, 6] hA83
        clear hK K
        replace hA83 : Hp w0 ([row b81 23 (dc (List.replicate 32 0))] :: [row b28 23 (dc (p.side width h))] :: XL :: (txS ts) :: [row b19 23 (dc (p.lead width k h))] :: [row b4 23 (dc k)] :: [row b7 23 (dc (List.replicate 32 0))] :: R) w82 := hA83
        refine vt_l rfl rfl rfl (fun K hK => hs_alloc hF rfl (by decide) rfl hA83 (zr23_s3) (fun b84 w85 a hb84 hF hA86 => hK _ _ (fun _ => ?_) ?_))
        · exact Hp.qp [[row b84 23 (dc (List.replicate 32 0))], [row b81 23 (dc (List.replicate 32 0))], [row b28 23 (dc (p.side width h))], XL, (txS ts), [row b19 23 (dc (p.lead width k h))], [row b4 23 (dc k)], [row b7 23 (dc (List.replicate 32 0))]] R [2, 3, 4, 5, 6, 7] hA86
        clear hK K
        replace hA86 : Hp w0 ([row b84 23 (dc (List.replicate 32 0))] :: [row b81 23 (dc (List.replicate 32 0))] :: [row b28 23 (dc (p.side width h))] :: XL :: (txS ts) :: [row b19 23 (dc (p.lead width k h))] :: [row b4 23 (dc k)] :: [row b7 23 (dc (List.replicate 32 0))] :: R) w85 := hA86
        refine vt_l rfl rfl rfl (fun K hK => hs_storeAll (new := dc (p.lead width k h)) hF rfl rfl hA86 rfl rfl 1 rfl (by rw [dc_length, hdl]; rfl) (dc_one _) (by exact sz23_s3) (fun w87 hA88 => hK _ _ (fun _ => ?_) ?_))
        · exact Hp.qp [[row b84 23 (dc (List.replicate 32 0))], [row b81 23 (dc (p.lead width k h))], [row b28 23 (dc (p.side width h))], XL, (txS ts), [row b19 23 (dc (p.lead width k h))], [row b4 23 (dc k)], [row b7 23 (dc (List.replicate 32 0))]] R [2, 3, 4, 5, 6, 7] hA88
        clear hK K
        replace hA88 : Hp w0 ([row b84 23 (dc (List.replicate 32 0))] :: [row b81 23 (dc (p.lead width k h))] :: [row b28 23 (dc (p.side width h))] :: XL :: (txS ts) :: [row b19 23 (dc (p.lead width k h))] :: [row b4 23 (dc k)] :: [row b7 23 (dc (List.replicate 32 0))] :: R) w87 := hA88
        refine vt_l rfl rfl rfl (fun K hK => hs_storeAll (new := dc (p.side width h)) hF rfl rfl hA88 rfl rfl 0 rfl (by rw [dc_length, hnl]; rfl) (dc_one _) (by exact sz23_s3) (fun w89 hA90 => hK _ _ (fun h => absurd h (by decide)) ?_))
        clear hK K
        replace hA90 : Hp w0 ([row b84 23 (dc (p.side width h))] :: [row b81 23 (dc (p.lead width k h))] :: [row b28 23 (dc (p.side width h))] :: XL :: (txS ts) :: [row b19 23 (dc (p.lead width k h))] :: [row b4 23 (dc k)] :: [row b7 23 (dc (List.replicate 32 0))] :: R) w89 := hA90
        refine pt_end ?_
        have hA91 : Hp w0 ([row b81 23 (dc (p.lead width k h))] :: [row b84 23 (dc (p.side width h))] :: [row b28 23 (dc (p.side width h))] :: XL :: (txS ts) :: [row b19 23 (dc (p.lead width k h))] :: [row b4 23 (dc k)] :: [row b7 23 (dc (List.replicate 32 0))] :: R) w89 := Hp.ord [[row b84 23 (dc (p.side width h))], [row b81 23 (dc (p.lead width k h))], [row b28 23 (dc (p.side width h))], XL, (txS ts), [row b19 23 (dc (p.lead width k h))], [row b4 23 (dc k)], [row b7 23 (dc (List.replicate 32 0))]] R [1, 0, 2, 3, 4, 5, 6, 7] hA90 rfl
        exact hM _ _ b81 b84 (hF.keep [1, 6, 9, 14, 50, 51, 52, 13, 15, 16, 17, 18] rfl) hA91
      · refine hs_alloc hF rfl (by decide) rfl hA80 (zr23_s3) (fun b92 w93 a hb92 hF hA94 => hK _ _ ?_ ?_)
        · exact Hp.qp [[row b92 23 (dc (List.replicate 32 0))], [row b28 23 (dc (p.side width h))], XL, (txS ts), [row b19 23 (dc (p.lead width k h))], [row b4 23 (dc k)], [row b7 23 (dc (List.replicate 32 0))]] R [1, 2, 3, 4, 5, 6] hA94
        clear hK K
        replace hA94 : Hp w0 ([row b92 23 (dc (List.replicate 32 0))] :: [row b28 23 (dc (p.side width h))] :: XL :: (txS ts) :: [row b19 23 (dc (p.lead width k h))] :: [row b4 23 (dc k)] :: [row b7 23 (dc (List.replicate 32 0))] :: R) w93 := hA94
        refine vt_l rfl rfl rfl (fun K hK => hs_alloc hF rfl (by decide) rfl hA94 (zr23_s3) (fun b95 w96 a hb95 hF hA97 => hK _ _ (fun _ => ?_) ?_))
        · exact Hp.qp [[row b95 23 (dc (List.replicate 32 0))], [row b92 23 (dc (List.replicate 32 0))], [row b28 23 (dc (p.side width h))], XL, (txS ts), [row b19 23 (dc (p.lead width k h))], [row b4 23 (dc k)], [row b7 23 (dc (List.replicate 32 0))]] R [2, 3, 4, 5, 6, 7] hA97
        clear hK K
        replace hA97 : Hp w0 ([row b95 23 (dc (List.replicate 32 0))] :: [row b92 23 (dc (List.replicate 32 0))] :: [row b28 23 (dc (p.side width h))] :: XL :: (txS ts) :: [row b19 23 (dc (p.lead width k h))] :: [row b4 23 (dc k)] :: [row b7 23 (dc (List.replicate 32 0))] :: R) w96 := hA97
        refine vt_l rfl rfl rfl (fun K hK => hs_storeAll (new := dc (p.lead width k h)) hF rfl rfl hA97 rfl rfl 0 rfl (by rw [dc_length, hdl]; rfl) (dc_one _) (by exact sz23_s3) (fun w98 hA99 => hK _ _ (fun _ => ?_) ?_))
        · exact Hp.qp [[row b95 23 (dc (p.lead width k h))], [row b92 23 (dc (List.replicate 32 0))], [row b28 23 (dc (p.side width h))], XL, (txS ts), [row b19 23 (dc (p.lead width k h))], [row b4 23 (dc k)], [row b7 23 (dc (List.replicate 32 0))]] R [2, 3, 4, 5, 6, 7] hA99
        clear hK K
        replace hA99 : Hp w0 ([row b95 23 (dc (p.lead width k h))] :: [row b92 23 (dc (List.replicate 32 0))] :: [row b28 23 (dc (p.side width h))] :: XL :: (txS ts) :: [row b19 23 (dc (p.lead width k h))] :: [row b4 23 (dc k)] :: [row b7 23 (dc (List.replicate 32 0))] :: R) w98 := hA99
        refine vt_l rfl rfl rfl (fun K hK => hs_storeAll (new := dc (p.side width h)) hF rfl rfl hA99 rfl rfl 1 rfl (by rw [dc_length, hnl]; rfl) (dc_one _) (by exact sz23_s3) (fun w100 hA101 => hK _ _ (fun h => absurd h (by decide)) ?_))
        clear hK K
        replace hA101 : Hp w0 ([row b95 23 (dc (p.lead width k h))] :: [row b92 23 (dc (p.side width h))] :: [row b28 23 (dc (p.side width h))] :: XL :: (txS ts) :: [row b19 23 (dc (p.lead width k h))] :: [row b4 23 (dc k)] :: [row b7 23 (dc (List.replicate 32 0))] :: R) w100 := hA101
        refine pt_end ?_
        exact hM _ _ b95 b92 (hF.keep [1, 6, 9, 14, 50, 51, 52, 13, 15, 16, 17, 18] rfl) hA101
    · refine vc_falseB hF rfl (lss_f (by omega)) ?_
      obtain rfl : h = 256 := by omega
      have hrl : (dc (p.lead width k 256)).length = 32 := by rw [dc_length, p.lead_length]
      apply wp_exit
      refine hK7 _ _ ?_; clear hK10 K10 hK7 K7
      apply wp_seq_k; intro K20 hK20
      refine wp_region_plan 3 [3] [0,1,2,3] (fun x => Hq w0 (XL :: (txS ts) :: [row b19 23 (dc (p.lead width k 256))] :: [row b4 23 (dc k)] :: [row b7 23 (dc (List.replicate 32 0))] :: R) x) (by kernel_rfl) (by kernel_rfl) (Hq.drew (Hp.qp [XL, (txS ts), [row b19 23 (dc (p.lead width k 256))], [row b4 23 (dc k)], [row b7 23 (dc (List.replicate 32 0))]] R [0, 1, 2, 3, 4] hA26)) ?_
      have hA102 := Hl.drew hA26
      refine vp_y hF rfl rfl rfl rfl (by decide) _ (fun x hx => y_move rfl rfl) (fun a hF => ?_)
      refine vp_y hF rfl rfl rfl rfl (by decide) _ (fun x hx => y_ldRow (new := dc (p.lead width k 256)) rfl hx rfl 2 rfl rw23_s3 (by rw [hrl]; exact Nat.le_refl _) (by rw [List.drop_zero]; exact List.take_of_length_le (by rw [hrl]; exact Nat.le_refl _))) (fun a hF => ?_)
      refine vp_y hF rfl rfl rfl rfl (by decide) _ (fun x hx => y_assign rfl rfl) (fun a hF => ?_)
      refine vp_l rfl rfl rfl (fun K hK => hs_storeAll (new := dc (p.lead width k 256)) hF rfl rfl hA102 rfl rfl 4 rfl (by rw [hrl]; rfl) (dc_one _) (by exact sz23_s3) (fun w103 hA104 => hK _ _ (fun h => absurd h (by decide)) ?_))
      clear hK K
      replace hA104 : Hp w0 (XL :: (txS ts) :: [row b19 23 (dc (p.lead width k 256))] :: [row b4 23 (dc k)] :: [row b7 23 (dc (p.lead width k 256))] :: R) w103 := hA104
      refine plan_end ?_
      refine hK20 _ _ ?_; clear  hK20 K20
      apply wp_ret
      refine vc_retTC hF Tryd.results44 hA104.q rfl rfl 4 rfl (by rw [hrl]; exact rw23_s3) ?_
      have hA105 : Hp w0 (XL :: (txS ts) :: R) w103 := Hp.sel [XL, (txS ts), [row b19 23 (dc (p.lead width k 256))], [row b4 23 (dc k)], [row b7 23 (dc (p.lead width k 256))]] R [0, 1] [2, 3, 4] hA104 rfl
      exact ⟨ts, tv, XL, rfl, hTS, hA105⟩
  by_cases hpr : p.pr = true
  · have hct : 0 ≤ p.ct ∧ p.ct ≤ 1099511627776 := by
      have h1 := hf
      unfold Prf.formed Prf.counted at h1
      rw [hpr] at h1
      simp only [Bool.and_eq_true, decide_eq_true_eq, if_true] at h1
      omega
    refine vc_trueB hF rfl hpr ?_
    apply wp_seq_k; intro K21 hK21
    refine wp_region_lit ?_
    refine vc_op rfl (fun K hK => hs_alloc hF rfl (by decide) rfl hA11 (zr126_s3) (fun b106 w107 a hb106 hF hA108 => hK _ _ ?_))
    clear hK K
    replace hA108 : Hp w0 ([row b106 126 (dc (List.replicate 8 0))] :: Z :: [row b7 23 (dc (List.replicate 32 0))] :: [row b4 23 (dc k)] :: [row b1 28 (p.cells sv)] :: R) w107 := hA108
    refine vc_nil ?_
    refine hK21 _ _ ?_; clear  hK21 K21
    apply wp_seq_k; intro K22 hK22
    apply wp_seq_k; intro K23 hK23
    refine wp_region_lit ?_
    refine vc_y hF rfl rfl (by decide) _ (y_move rfl rfl) (fun a hF => ?_)
    refine vc_nil ?_
    refine hK23 _ _ ?_; clear  hK23 K23
    apply wp_block
    have hA109 : Hp w0 ([row b106 126 (dc (List.replicate 8 0))] :: [row b1 28 (p.cells sv)] :: [row b4 23 (dc k)] :: [row b7 23 (dc (List.replicate 32 0))] :: R) w107 := Hp.sel [[row b106 126 (dc (List.replicate 8 0))], Z, [row b7 23 (dc (List.replicate 32 0))], [row b4 23 (dc k)], [row b1 28 (p.cells sv)]] R [0, 4, 3, 2] [1] hA108 rfl
    have hA110 : Hp w0 ([row b106 126 (dc ((be 8 (c64 p.ct)).take 0 ++ List.replicate (8 - 0) 0))] :: [row b1 28 (p.cells sv)] :: [row b4 23 (dc k)] :: [row b7 23 (dc (List.replicate 32 0))] :: R) w107 := hA109
    refine vc_loop (G := Nat) (fun i a x => i ≤ 8 ∧ Fr 81 [(23, .int .i64 (i : Int)), (1, .int .i64 width), (4, .pointer (some ⟨b1, 0, none⟩)), (6, .pointer (some ⟨b4, 0, none⟩)), (9, .pointer (some ⟨b7, 0, none⟩)), (11, .pointer (some ⟨b106, 0, none⟩)), (3, .slice AB 256 cB)] a ∧ Hp w0 ([row b106 126 (dc ((be 8 (c64 p.ct)).take i ++ List.replicate (8 - i) 0))] :: [row b1 28 (p.cells sv)] :: [row b4 23 (dc k)] :: [row b7 23 (dc (List.replicate 32 0))] :: R) x) (fun i => 8 - i) 0 (⟨Nat.zero_le _, hF.keep [23, 1, 4, 6, 9, 11, 3] rfl, hA110⟩) ?_
    clear hF
    rintro i a w112 ⟨hi, hF, hA111⟩
    apply wp_seq_k; intro K24 hK24
    refine wp_region_lit ?_
    refine vc_y hF rfl rfl (by decide) _ (y_cmp rfl rfl rfl rfl rfl) (fun a hF => ?_)
    refine vc_nil ?_
    refine hK24 _ _ ?_; clear  hK24 K24
    apply wp_seq_k; intro K25 hK25
    by_cases hlt : i < 8
    · refine vc_trueB hF rfl (lss_t (by omega)) ?_
      have hbl : (dc ((be 8 (c64 p.ct)).take i ++ List.replicate (8 - i) 0)).length = 8 := by rw [dc_length, List.length_append, List.length_take, be_length, List.length_replicate]; omega
      apply wp_skip
      refine hK25 _ _ ?_; clear  hK25 K25
      apply wp_seq_k; intro K26 hK26
      apply wp_block
      apply wp_seq_k; intro K27 hK27
      refine wp_region_lit ?_
      refine vc_y hF rfl rfl (by decide) _ (y_move rfl rfl) (fun a hF => ?_)
      refine vc_y hF rfl rfl (by decide) _ (y_assign rfl rfl) (fun a hF => ?_)
      refine vc_nil ?_
      refine hK27 _ _ ?_; clear  hK27 K27
      refine wp_region_lit ?_
      refine vc_y hF rfl rfl (by decide) _ (y_move rfl rfl) (fun a hF => ?_)
      refine vc_y hF rfl rfl (by decide) _ (y_field rfl Tryd.underlying28 rfl sz25_s3 (by decide) rfl (rfl : (⟨_, 0 + _, none⟩ : Addr) = ⟨_, 1, none⟩)) (fun a hF => ?_)
      refine vc_y hF rfl rfl (by decide) _ (y_field rfl Tryd.underlying25 rfl sz3_s3 (by decide) rfl (rfl : (⟨_, 1 + _, none⟩ : Addr) = ⟨_, 1, none⟩)) (fun a hF => ?_)
      refine vc_y hF rfl rfl (by decide) _ (y_ld rfl hA111.q rfl 1 rfl rfl nr3_s3) (fun a hF => ?_)
      refine vc_y hF rfl rfl (by decide) _ (y_move rfl rfl) (fun a hF => ?_)
      refine vc_y hF rfl rfl (by decide) _ (y_sub rfl rfl rfl (IntWalk.i64_in _ (by omega))) (fun a hF => ?_)
      refine vc_y hF rfl rfl (by decide) _ (y_mul rfl rfl rfl (IntWalk.i64_in _ (by omega))) (fun a hF => ?_)
      refine vc_y hF rfl rfl (by decide) _ (y_shr rfl rfl rfl (by omega) rfl) (fun a hF => ?_)
      refine vc_y hF rfl rfl (by decide) _ (y_conv rfl Tryd.underlying3 Tryd.underlying5 rfl (sp_shr hct i hlt)) (fun a hF => ?_)
      refine vc_y hF rfl rfl (by decide) _ (y_ixArr rfl Tryd.underlying126 sz5_s3 rfl rfl i rfl hlt (ad1 _ _) (rfl : (none : Option Nat) = none)) (fun a hF => ?_)
      refine vc_op rfl (fun K hK => hs_store1 hF rfl rfl hA111 rfl rfl 0 rfl (by rw [hbl]; exact hlt) rfl sz5_s3 (fun w113 hA114 => hK _ _ ?_))
      clear hK K
      replace hA114 : Hp w0 ([row b106 126 ((dc ((be 8 (c64 p.ct)).take i ++ List.replicate (8 - i) 0)).set i (.int .u8 ((UInt8.ofNat (c64 p.ct / 256 ^ (7 - i))).toNat : Int)))] :: [row b1 28 (p.cells sv)] :: [row b4 23 (dc k)] :: [row b7 23 (dc (List.replicate 32 0))] :: R) w113 := hA114
      have hA115 : Hp w0 ([row b106 126 (dc ((be 8 (c64 p.ct)).take (i + 1) ++ List.replicate (8 - (i + 1)) 0))] :: [row b1 28 (p.cells sv)] :: [row b4 23 (dc k)] :: [row b7 23 (dc (List.replicate 32 0))] :: R) w113 := by rw [← be_fill _ i hlt]; exact hA114
      refine vc_nil ?_
      refine hK26 _ _ ?_; clear  hK26 K26
      refine wp_region_lit ?_
      refine vc_y hF rfl rfl (by decide) _ (y_add rfl rfl rfl (IntWalk.i64_in _ (by omega))) (fun a hF => ?_)
      refine vc_y hF rfl rfl (by decide) _ (y_move rfl rfl) (fun a hF => ?_)
      refine vc_nil ?_
      exact ⟨i + 1, by omega, by omega, hF.keep [23, 1, 4, 6, 9, 11, 3] rfl, hA115⟩
    · refine vc_falseB hF rfl (lss_f (by omega)) ?_
      obtain rfl : i = 8 := by omega
      have hbe : (be 8 (c64 p.ct)).take 8 ++ List.replicate (8 - 8) 0 = be 8 (c64 p.ct) := by rw [ow_be_all]; simp
      have hA116 : Hp w0 ([row b106 126 (dc (be 8 (c64 p.ct)))] :: [row b1 28 (p.cells sv)] :: [row b4 23 (dc k)] :: [row b7 23 (dc (List.replicate 32 0))] :: R) w112 := by rw [← hbe]; exact hA111
      apply wp_exit
      refine hK22 _ _ ?_; clear hK25 K25 hK22 K22
      refine wp_region_plan 6 [5,6,7] [0,1,2,3,4,5,6,7] (fun x => Hq w0 ([row b106 126 (dc (be 8 (c64 p.ct)))] :: [row b1 28 (p.cells sv)] :: [row b4 23 (dc k)] :: [row b7 23 (dc (List.replicate 32 0))] :: R) x) (by kernel_rfl) (by kernel_rfl) (Hq.drew (Hp.qp [[row b106 126 (dc (be 8 (c64 p.ct)))], [row b1 28 (p.cells sv)], [row b4 23 (dc k)], [row b7 23 (dc (List.replicate 32 0))]] R [0, 1, 2, 3] hA116)) ?_
      have hA117 := Hl.drew hA116
      refine vp_y hF rfl rfl rfl rfl (by decide) _ (fun x hx => y_sliceArr rfl Tryd.underlying23 sz5_s3 rfl (.none 0) (.none 32) (Nat.zero_le _) (Nat.le_refl _) (sl_arr _ _ _)) (fun a hF => ?_)
      refine vp_y hF rfl rfl rfl rfl (by decide) _ (fun x hx => y_sliceArr rfl Tryd.underlying126 sz5_s3 rfl (.none 0) (.none 8) (Nat.zero_le _) (Nat.le_refl _) (sl_arr _ _ _)) (fun a hF => ?_)
      refine vp_y hF rfl rfl rfl rfl (by decide) _ (fun x hx => y_field rfl Tryd.underlying28 rfl sz25_s3 (by decide) rfl (rfl : (⟨_, 0 + _, none⟩ : Addr) = ⟨_, 1, none⟩)) (fun a hF => ?_)
      refine vp_y hF rfl rfl rfl rfl (by decide) _ (fun x hx => y_field rfl Tryd.underlying25 rfl sz23_s3 (by decide) rfl (rfl : (⟨_, 1 + _, none⟩ : Addr) = ⟨_, 2, none⟩)) (fun a hF => ?_)
      refine vp_y hF rfl rfl rfl rfl (by decide) _ (fun x hx => y_sliceArr rfl Tryd.underlying23 sz5_s3 rfl (.none 0) (.none 32) (Nat.zero_le _) (Nat.le_refl _) (sl_arr _ _ _)) (fun a hF => ?_)
      refine vp_l rfl rfl rfl (fun K hK => hs_bs (qs := #[(0, .slice (some ⟨b4, 0, none⟩) 32 32), (1, .slice (some ⟨b106, 0, none⟩) 8 8), (2, .slice (some ⟨b1, 2, none⟩) 32 32)]) (cells := #[.slice (some ⟨b4, 0, none⟩) 32 32, .slice (some ⟨b106, 0, none⟩) 8 8, .slice (some ⟨b1, 2, none⟩) 32 32]) hF rfl (by decide) rfl hA117 rfl (sp_bs3 _ _ _ _ _ _ _ _ _) (fun b118 w119 a hb118 hF hA120 => hK _ _ (fun _ => ?_) ?_))
      · exact Hp.qp [[row b118 59 [.slice (some ⟨b4, 0, none⟩) 32 32, .slice (some ⟨b106, 0, none⟩) 8 8, .slice (some ⟨b1, 2, none⟩) 32 32]], [row b106 126 (dc (be 8 (c64 p.ct)))], [row b1 28 (p.cells sv)], [row b4 23 (dc k)], [row b7 23 (dc (List.replicate 32 0))]] R [1, 2, 3, 4] hA120
      clear hK K
      replace hA120 : Hp w0 ([row b118 59 [.slice (some ⟨b4, 0, none⟩) 32 32, .slice (some ⟨b106, 0, none⟩) 8 8, .slice (some ⟨b1, 2, none⟩) 32 32]] :: [row b106 126 (dc (be 8 (c64 p.ct)))] :: [row b1 28 (p.cells sv)] :: [row b4 23 (dc k)] :: [row b7 23 (dc (List.replicate 32 0))] :: R) w119 := hA120
      have hps : PcS w0 ([row b118 59 [.slice (some ⟨b4, 0, none⟩) 32 32, .slice (some ⟨b106, 0, none⟩) 8 8, .slice (some ⟨b1, 2, none⟩) 32 32]] :: [row b106 126 (dc (be 8 (c64 p.ct)))] :: [row b1 28 (p.cells sv)] :: [row b4 23 (dc k)] :: [row b7 23 (dc (List.replicate 32 0))] :: R) (some ⟨b118, 0, none⟩) [(some ⟨b4, 0, none⟩, 32, k), (some ⟨b106, 0, none⟩, 8, be 8 (c64 p.ct)), (some ⟨b1, 2, none⟩, 32, p.ch)] := pcs_three (by rw [hk, be_length, hp.ch]; exact Rc.ofRow (i := 0) (off := 0) rfl rfl) (by rw [hk]; decide) (by rw [be_length]; decide) (by rw [hp.ch]; decide) (Rc.ofRow (i := 3) (off := 0) rfl (by rw [List.drop_zero]; exact List.take_length ..)) (Rc.ofRow (i := 1) (off := 0) rfl (by rw [List.drop_zero]; exact List.take_length ..)) (Rc.ofRow (i := 2) (off := 2) rfl (by rw [dc_length, hp.ch]; exact Prf.c_chain hp))
      refine vp_l rfl rfl rfl (fun K hK => ws_call hF rfl (by decide) cl75_s3 rfl rfl ?_)
      with_reducible refine (sp_text3 w0 _ ([row b118 59 [.slice (some ⟨b4, 0, none⟩) 32 32, .slice (some ⟨b106, 0, none⟩) 8 8, .slice (some ⟨b1, 2, none⟩) 32 32]] :: [row b106 126 (dc (be 8 (c64 p.ct)))] :: [row b1 28 (p.cells sv)] :: [row b4 23 (dc k)] :: [row b7 23 (dc (List.replicate 32 0))] :: R) _ _ _ _ _ _ _ _ _ _ hps hk (be_length _ _) hp.ch hA120 ).mono ?_
      rintro e' w121 ⟨v1, Z1, rfl, hZ1, hA122⟩
      refine ⟨_, rfl, fun a hF => hK _ _ (fun h => absurd h (by decide)) ?_⟩
      clear hK K
      replace hA122 : Hp w0 (Z1 :: [row b118 59 [.slice (some ⟨b4, 0, none⟩) 32 32, .slice (some ⟨b106, 0, none⟩) 8 8, .slice (some ⟨b1, 2, none⟩) 32 32]] :: [row b106 126 (dc (be 8 (c64 p.ct)))] :: [row b1 28 (p.cells sv)] :: [row b4 23 (dc k)] :: [row b7 23 (dc (List.replicate 32 0))] :: R) w121 := hA122
      have ht0 : p.text0 k = 3 :: (k ++ be 8 (c64 p.ct) ++ p.ch) := by unfold Prf.text0; rw [hpr]; rfl
      rw [← ht0] at hZ1
      refine vp_ly hF rfl rfl rfl rfl (by decide) _ (y_assign rfl rfl) (fun h => absurd h (by decide)) (fun a hF => ?_)
      refine plan_end ?_
      have hFn := hF
      obtain ⟨_, A0, c0, rfl, hc0, hR0⟩ := hZ1.rd (w0 := w0) (R := [Z1]) (List.mem_cons_self ..)
      have hF := hFn
      have hA123 : Hp w0 (Z1 :: [row b4 23 (dc k)] :: [row b7 23 (dc (List.replicate 32 0))] :: R) w121 := Hp.sel [Z1, [row b118 59 [.slice (some ⟨b4, 0, none⟩) 32 32, .slice (some ⟨b106, 0, none⟩) 8 8, .slice (some ⟨b1, 2, none⟩) 32 32]], [row b106 126 (dc (be 8 (c64 p.ct)))], [row b1 28 (p.cells sv)], [row b4 23 (dc k)], [row b7 23 (dc (List.replicate 32 0))]] R [0, 4, 5] [1, 2, 3] hA122 rfl
      exact hJ _ _ A0 c0 Z1 (hF.keep [10, 1, 4, 6, 9, 3] rfl) hZ1 hA123
  · have hp0 : p.pr = false := by simpa using hpr
    have ht0 : p.text0 k = [5] := by unfold Prf.text0; rw [hp0]; rfl
    rw [← ht0] at hZ0
    refine vc_falseB hF rfl hp0 ?_
    apply wp_skip
    have hFn := hF
    obtain ⟨_, A0, c0, rfl, hc0, hR0⟩ := hZ0.rd (w0 := w0) (R := [Z]) (List.mem_cons_self ..)
    have hF := hFn
    have hA124 : Hp w0 (Z :: [row b4 23 (dc k)] :: [row b7 23 (dc (List.replicate 32 0))] :: R) w10 := Hp.sel [Z, [row b7 23 (dc (List.replicate 32 0))], [row b4 23 (dc k)], [row b1 28 (p.cells sv)]] R [0, 2, 1] [3] hA11 rfl
    exact hJ _ _ A0 c0 Z (hF.keep [10, 1, 4, 6, 9, 3] rfl) hZ0 hA124
end Go.Proofs.YtpomngkcfbnjoaaDoor
