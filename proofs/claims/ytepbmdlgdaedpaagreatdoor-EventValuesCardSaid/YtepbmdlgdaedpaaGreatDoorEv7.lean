/- Bytes held against bytes; what bytes tell of an event: Decode. -/
import Derived.Test.YtepbmdlgdaedpaaGreatDoorEv6
namespace Go.Proofs.YtepbmdlgdaedpaaGreatDoor
open Go.RowKit Go.Dk

theorem nr3_v7 : notRow Tryz.prog 3 = true := by kernel_rfl
theorem nr4_v7 : notRow Tryz.prog 4 = true := by kernel_rfl
theorem nr26_v7 : notRow Tryz.prog 26 = true := by kernel_rfl
theorem rw25_v7 : isRow Tryz.prog 25 4 = true := by kernel_rfl
theorem rw31_v7 : isRow Tryz.prog 31 44 = true := by kernel_rfl
theorem sz3_v7 : (Tryz.prog.info? 3).map (·.size) = some 1 := by kernel_rfl
theorem sz4_v7 : (Tryz.prog.info? 4).map (·.size) = some 1 := by kernel_rfl
theorem sz9_v7 : (Tryz.prog.info? 9).map (·.size) = some 1 := by kernel_rfl
theorem sz25_v7 : (Tryz.prog.info? 25).map (·.size) = some 4 := by kernel_rfl
theorem sz26_v7 : (Tryz.prog.info? 26).map (·.size) = some 1 := by kernel_rfl
theorem sz27_v7 : (Tryz.prog.info? 27).map (·.size) = some 1 := by kernel_rfl
theorem sz29_v7 : (Tryz.prog.info? 29).map (·.size) = some 32 := by kernel_rfl
theorem sz129_v7 : (Tryz.prog.info? 129).map (·.size) = some 6 := by kernel_rfl
theorem cl20_v7 : CallsTo Tryz.prog 20 := ⟨_, Tryz.func20, by kernel_rfl, by kernel_rfl⟩
theorem cl31_v7 : CallsTo Tryz.prog 31 := ⟨_, Tryz.func31, by kernel_rfl, by kernel_rfl⟩
theorem cl32_v7 : CallsTo Tryz.prog 32 := ⟨_, Tryz.func32, by kernel_rfl, by kernel_rfl⟩
theorem cl35_v7 : CallsTo Tryz.prog 35 := ⟨_, Tryz.func35, by kernel_rfl, by kernel_rfl⟩
theorem cl53_v7 : CallsTo Tryz.prog 53 := ⟨_, Tryz.func53, by kernel_rfl, by kernel_rfl⟩
theorem cl72_v7 : CallsTo Tryz.prog 72 := ⟨_, Tryz.func72, by kernel_rfl, by kernel_rfl⟩
theorem cl80_v7 : CallsTo Tryz.prog 80 := ⟨_, Tryz.func80, by kernel_rfl, by kernel_rfl⟩
theorem cl81_v7 : CallsTo Tryz.prog 81 := ⟨_, Tryz.func81, by kernel_rfl, by kernel_rfl⟩
theorem cl82_v7 : CallsTo Tryz.prog 82 := ⟨_, Tryz.func82, by kernel_rfl, by kernel_rfl⟩
theorem cl83_v7 : CallsTo Tryz.prog 83 := ⟨_, Tryz.func83, by kernel_rfl, by kernel_rfl⟩
theorem cl84_v7 : CallsTo Tryz.prog 84 := ⟨_, Tryz.func84, by kernel_rfl, by kernel_rfl⟩
theorem cl85_v7 : CallsTo Tryz.prog 85 := ⟨_, Tryz.func85, by kernel_rfl, by kernel_rfl⟩

theorem zr25_v7 : zeroIs Tryz.prog 25 (.agg ([.int .i64 0, .int .i64 0, .string (⟨#[]⟩), .slice none 0 0] : List Value).toArray) := by unfold zeroIs; kernel_rfl
theorem zr129_v7 : zeroIs Tryz.prog 129 (.agg ([.bool false, .bool false, .bool false, .bool false, .bool false, .bool false] : List Value).toArray) := by unfold zeroIs; kernel_rfl

set_option maxRecDepth 100000 in
set_option maxHeartbeats 8000000 in
theorem ev_same {w0 : World} {R : List Seg} {A1 A2 : Option Addr} {l1 l2 : List UInt8} {c1 c2 : Nat} (w : World) (hR1 : Rd w0 R A1 l1) (hR2 : Rd w0 R A2 l2) (hA : Hp w0 R w) : Calls Tryz.prog 85 #[.slice A1 l1.length c1, .slice A2 l2.length c2] w fun e w' => e = .returned (.bool (l1 == l2)) ∧ w = w' := by
  refine vc_enter Tryz.func85 rfl Tryz.ntmps85 (Nat.le_of_ble_eq_true rfl) (fun a hF => ?_)
  apply wp_seq_k; intro K1 hK1
  refine wp_region_lit ?_
  refine vc_y hF rfl rfl (by decide) _ (y_assign rfl rfl) (fun a hF => ?_)
  refine vc_nil ?_
  refine hK1 _ _ ?_; clear  hK1 K1
  apply wp_seq_k; intro K2 hK2
  refine wp_region_lit ?_
  refine vc_y hF rfl rfl (by decide) _ (y_move rfl rfl) (fun a hF => ?_)
  refine vc_y hF rfl rfl (by decide) _ (y_convStr rfl Tryz.underlying27 Tryz.underlying5 Tryz.underlying9 rfl rfl (Rc.bts hR1 hA.q)) (fun a hF => ?_)
  refine vc_y hF rfl rfl (by decide) _ (y_move rfl rfl) (fun a hF => ?_)
  refine vc_y hF rfl rfl (by decide) _ (y_convStr rfl Tryz.underlying27 Tryz.underlying5 Tryz.underlying9 rfl rfl (Rc.bts hR2 hA.q)) (fun a hF => ?_)
  refine vc_y hF rfl rfl (by decide) _ (y_cmpS rfl rfl rfl rfl rfl) (fun a hF => ?_)
  refine vc_y hF rfl rfl (by decide) _ (y_assign rfl rfl) (fun a hF => ?_)
  refine vc_nil ?_
  refine hK2 _ _ ?_; clear  hK2 K2
  apply wp_ret
  refine vc_ret1 hF Tryz.results85 rfl ?_
  exact ⟨rfl, rfl⟩
def noEA : EA := ⟨0, 0, 0, [], [], [], ⟨noVal, none, 0⟩, [], none, 0, [], none, 0, List.replicate 32 0⟩
theorem ev_zE : zeroIs Tryz.prog 31 (.agg noEA.cells.toArray) := by unfold zeroIs; kernel_rfl
theorem ev_bE0 (w : World) : (Instr.build 31 #[]).run Tryz.prog w = .ok (.agg noEA.cells.toArray) w := by kernel_rfl
theorem ev_bE3 (a b c : Int) (w : World) : (Instr.build 31 #[(0, .int .i64 a), (1, .int .i64 b), (2, .int .i64 c)]).run Tryz.prog w = .ok (.agg ([.int .i64 a, .int .i64 b, .int .i64 c, strV [], strV [], strV [], .int .i64 0, .int .i64 0, strV [], .slice none 0 0, .slice none 0 0, .slice none 0 0] ++ dc (List.replicate 32 0)).toArray) w := by kernel_rfl
theorem ev_rw44 : isRow Tryz.prog 31 44 = true := by kernel_rfl
theorem ev_rwE : isRow Tryz.prog 31 noEA.cells.length = true := ev_rw44
theorem noEA_ok {w0 : World} {G : List Seg} : noEA.Ok w0 G := ⟨noVal_ok, fun _ h => absurd h (List.not_mem_nil), Rc.nil, Nat.zero_le _, Rc.nil, Nat.zero_le _, ⟨by decide, by decide, by decide, ⟨by decide, by decide⟩, fun _ h => absurd h (List.not_mem_nil), rfl⟩⟩
theorem len_le {n : Nat} (h : cmpB .gtr (n : Int) 65536 = false) : n ≤ 65536 := by simp [cmpB] at h; omega
theorem len_gt {n : Nat} (h : cmpB .gtr (n : Int) 65536 = true) : ¬ n ≤ 65536 := by simp [cmpB] at h; omega
theorem dec_op {raw : List UInt8} {k p1 y1 : Nat} (h : got (numR 1) 0 raw 0 0 = ⟨k, p1, y1⟩) : (gotEv raw).v.op = ((k : Nat) : Int) := by
  have e : (gotEv raw).v.op = (((got (numR 1) 0 raw 0 0).v : Nat) : Int) := rfl
  rw [e, h]
theorem va_one (a : VA) : ∀ v ∈ a.cells, v.oneCell' = true := fun v hv => by
  simp only [List.mem_cons, List.not_mem_nil, or_false] at hv
  rcases hv with rfl | rfl | rfl | rfl <;> rfl
theorem argC_snoc (l : List VA) (a : VA) : argC (l ++ [a]) = argC l ++ a.cells := by
  unfold argC
  rw [List.map_append, List.flatten_append]
  simp
theorem VA.Ok.monoF {w0 : World} {G H : List Seg} {a : VA} (h : a.Ok w0 G) (hs : G.flatten ⊆ H.flatten) : a.Ok w0 H := ⟨h.rc.monoF hs, h.n, h.i⟩
theorem oks_snoc {w0 : World} {l : List VA} {a : VA} {X Y : Seg} (h : ∀ b ∈ l, b.Ok w0 [X]) (ha : a.Ok w0 [Y]) : ∀ b ∈ l ++ [a], b.Ok w0 [X ++ Y] := fun b hb => by
  rcases List.mem_append.1 hb with hb | hb
  · exact (h b hb).monoF (fun x hx => by simp at hx ⊢; simp [hx])
  · rw [List.mem_singleton.1 hb]; exact ha.monoF (fun x hx => by simp at hx ⊢; simp [hx])
theorem gotVals_step {l : List UInt8} {m p : Nat} : gotVals l (m + 1) p 0 = ⟨(gotVal l p 0).v :: (gotVals l m (gotVal l p 0).p (gotVal l p 0).y).v, (gotVals l m (gotVal l p 0).p (gotVal l p 0).y).p, (gotVals l m (gotVal l p 0).p (gotVal l p 0).y).y⟩ := rfl
theorem gotVals_stop {l : List UInt8} {m p y : Nat} (h : ¬ y = 0) : gotVals l m p y = ⟨[], p, y⟩ := by
  cases m with
  | zero => rfl
  | succ m => exact if_neg h
theorem splice_end {s t u : List Value} {n : Nat} (hn : s.length = n) (h : u.length = t.length) : splice (s ++ t) n u = s ++ u := by
  unfold splice
  rw [List.take_left' hn, List.drop_of_length_le (by rw [List.length_append]; omega), List.append_nil]
theorem done_ok {p y n : Nat} (hp : p ≤ n) (h : cmpB .neq ((if y = 0 ∧ p < n then 8 else y : Nat) : Int) 0 = false) : y = 0 ∧ p = n := by
  have h1 := neq_no h
  split at h1
  · exact absurd h1 (by decide)
  · rename_i h2
    exact ⟨h1, by have : ¬ p < n := fun hh => h2 ⟨h1, hh⟩; omega⟩
theorem done_no {raw : List UInt8} {p y : Nat} (hG : (gotEv raw).p = p ∧ (gotEv raw).y = y) (h : cmpB .neq ((if y = 0 ∧ p < raw.length then 8 else y : Nat) : Int) 0 = true) : ¬ decOK raw := fun hd => by
  obtain ⟨_, _, h3, h4, _, _⟩ := hd
  rw [hG.2] at h3
  rw [hG.1] at h4
  subst h3 h4
  exact neq_yes h (by rw [if_neg (fun hh => Nat.lt_irrefl _ hh.2)])
theorem enc_same {e : Ev} {raw : List UInt8} (h : (cmpB .neq ((encE e : Nat) : Int) 0 || !(encB e == raw)) = false) : encE e = 0 ∧ encB e = raw := by
  rw [Bool.or_eq_false_iff] at h
  exact ⟨neq_no h.1, by simpa using h.2⟩
theorem dec_ok {raw : List UInt8} {ea : EA} {k p : Nat} (hl : raw.length ≤ 65536) (hop : okOp ((k : Nat) : Int)) (hG : gotEv raw = ⟨ea.ev, p, 0⟩) (hp : p = raw.length) (he : encE ea.ev = 0) (hb : encB ea.ev = raw) : decOK raw := by
  unfold decOK
  rw [hG]
  exact ⟨hl, (Ev.rt he).1.op, rfl, hp, he, hb⟩
theorem dec_enc_no {raw : List UInt8} {e : Ev} {p : Nat} (hG : gotEv raw = ⟨e, p, 0⟩) (h : (cmpB .neq ((encE e : Nat) : Int) 0 || !(encB e == raw)) = true) : ¬ decOK raw := fun hd => by
  obtain ⟨_, _, _, _, h5, h6⟩ := hd
  rw [hG] at h5 h6
  rw [Bool.or_eq_true] at h
  rcases h with h | h
  · exact neq_yes h h5
  · rw [show encB e = raw from h6] at h; simp at h
theorem evDec_ok {w0 : World} {k n cl : Nat} {typ cas nam src dg : List UInt8} {vb : VA} {vs : List VA} {aA bA : Option Addr} {aC bC : Nat} {ZS ZV ZA ZM : Seg} (hk : k < 256) (hn : n < 18446744073709551616) (hcl : cl < 18446744073709551616) (hvb : vb.Ok w0 [ZV]) (hvs : ∀ a ∈ vs, a.Ok w0 [ZM]) (hRv : Rc w0 [ZA] aA (argC vs)) (hvl : vs.length ≤ 9223372036854775807) (hRs : Rd w0 [ZS] bA src) (hsl : src.length ≤ 9223372036854775807) (hd : dg.length = 32) :
    EA.Ok w0 [ZS ++ (ZV ++ (ZA ++ ZM))] ⟨((k : Nat) : Int), i64 n, i64 cl, typ, cas, nam, vb, vs, aA, aC, src, bA, bC, dg⟩ := by
  refine ⟨hvb.monoF (fun x hx => by simp at hx ⊢; simp [hx]), fun a ha => (hvs a ha).monoF (fun x hx => by simp at hx ⊢; simp [hx]), hRv.monoF (fun x hx => by simp at hx ⊢; simp [hx]), hvl, hRs.monoF (fun x hx => by simp at hx ⊢; simp [hx]), hsl, ⟨⟨?_, ?_⟩, i64_in hn, i64_in hcl, hvb.i, ?_, hd⟩⟩
  · show (_ : Int) ≤ (k : Int); omega
  · show (k : Int) ≤ _; omega
  · intro v hv
    obtain ⟨a, ha, rfl⟩ := List.mem_map.1 hv
    exact (hvs a ha).i
theorem ev_szE : (Tryz.prog.info? 31).map (·.size) = some 44 := by kernel_rfl
theorem evc_one {e : EA} : ∀ {v : Value}, v ∈ e.cells → v.oneCell' = true := fun {v} hv => by
  rcases List.mem_append.1 hv with hv | hv
  · simp only [List.mem_cons, List.not_mem_nil, or_false] at hv
    rcases hv with rfl | rfl | rfl | rfl | rfl | rfl | rfl | rfl | rfl | rfl | rfl | rfl <;> rfl
  · exact dc_one _ v hv

set_option maxRecDepth 100000 in
set_option maxHeartbeats 8000000 in
theorem ev_decode {w0 : World} {R : List Seg} {G : List Seg} (A : Option Addr) (raw : List UInt8) (c : Nat) (w : World) (hT : TabS w0) (hR : Rd w0 G A raw) (hG : G ⊆ R) (hl : raw.length ≤ 9223372036854775807) (hA : Hp w0 R w) : Calls Tryz.prog 21 #[.slice A raw.length c] w fun e w' => ∃ (ea : EA) (Z : Seg), e = .returned (.tuple #[.agg ea.cells.toArray, .int .i64 (decE raw : Nat)]) ∧ ea.ev = decV raw ∧ ea.Ok w0 [Z] ∧ Hp w0 (Z :: R) w' := by
  refine vc_enter Tryz.func21 rfl Tryz.ntmps21 (Nat.le_of_ble_eq_true rfl) (fun a hF => ?_)
  apply wp_seq_k; intro K1 hK1
  refine wp_region_lit ?_
  refine vc_op rfl (fun K hK => hs_alloc hF rfl (by decide) rfl hA ev_zE (fun b1 w2 a hb1 hF hA3 => hK _ _ ?_))
  clear hK K
  replace hA3 : Hp w0 ([row b1 31 noEA.cells] :: R) w2 := hA3
  refine vc_y hF rfl rfl (by decide) _ (y_assign rfl rfl) (fun a hF => ?_)
  refine vc_nil ?_
  refine hK1 _ _ ?_; clear  hK1 K1
  apply wp_seq_k; intro K2 hK2
  apply wp_seq_k; intro K3 hK3
  refine wp_region_lit ?_
  refine vc_y hF rfl rfl (by decide) _ (y_move rfl rfl) (fun a hF => ?_)
  refine vc_y hF rfl rfl (by decide) _ (y_lenSl rfl Tryz.underlying27 rfl rfl) (fun a hF => ?_)
  refine vc_y hF rfl rfl (by decide) _ (y_cmp rfl rfl rfl rfl rfl) (fun a hF => ?_)
  refine vc_nil ?_
  refine hK3 _ _ ?_; clear  hK3 K3
  rcases tf (cmpB .gtr (raw.length) (65536)) with h0 | h0
  · refine vc_falseB hF rfl h0 ?_
    have hlen : raw.length ≤ 65536 := len_le h0
    apply wp_skip
    refine hK2 _ _ ?_; clear  hK2 K2
    apply wp_seq_k; intro K4 hK4
    refine wp_region_lit ?_
    refine vc_y hF rfl rfl (by decide) _ (y_move rfl rfl) (fun a hF => ?_)
    refine vc_op rfl (fun K hK => ws_call hF rfl (by decide) cl31_v7 rfl rfl ?_)
    with_reducible refine (hr_read w0 _ _ A raw c (hR.mono (List.Subset.trans hG (subC (sub0)))) hA3 (by omega) ).mono ?_
    rintro e' w4 ⟨rb, A0, c0, X, rfl, hO, hA5⟩
    refine ⟨_, rfl, fun a hF => hK _ _ ?_⟩
    clear hK K
    replace hA5 : Hp w0 ([row rb 152 [.slice A0 raw.length c0, .int .i64 (0 : Nat), .int .i64 (0 : Nat)]] :: X :: [row b1 31 noEA.cells] :: R) w4 := hA5
    refine vc_y hF rfl rfl (by decide) _ (y_assign rfl rfl) (fun a hF => ?_)
    refine vc_nil ?_
    refine hK4 _ _ ?_; clear  hK4 K4
    apply wp_seq_k; intro K5 hK5
    refine wp_region_lit ?_
    refine vc_y hF rfl rfl (by decide) _ (y_move rfl rfl) (fun a hF => ?_)
    refine vc_op rfl (fun K hK => ws_call hF rfl (by decide) cl32_v7 rfl rfl ?_)
    with_reducible refine (hg_take8 w0 _ ([row b1 31 noEA.cells] :: R) rb A0 raw c0 0 0 X hO hA5 (Nat.zero_le _) (by omega) ).mono ?_
    rintro e' w6 ⟨k, p1, y1, rfl, hg1, hp1, hk, hA7⟩
    refine ⟨_, rfl, fun a hF => hK _ _ ?_⟩
    clear hK K
    replace hA7 : Hp w0 ([row rb 152 [.slice A0 raw.length c0, .int .i64 (p1 : Nat), .int .i64 (y1 : Nat)]] :: X :: [row b1 31 noEA.cells] :: R) w6 := hA7
    replace hk : k < 256 := hk
    refine vc_y hF rfl rfl (by decide) _ (y_conv rfl Tryz.underlying5 Tryz.underlying3 rfl (IntWalk.i64_in _ (by omega))) (fun a hF => ?_)
    refine vc_y hF rfl rfl (by decide) _ (y_move rfl rfl) (fun a hF => ?_)
    refine vc_op rfl (fun K hK => ws_call hF rfl (by decide) cl80_v7 rfl rfl ?_)
    with_reducible refine (hg_take64 w0 _ ([row b1 31 noEA.cells] :: R) rb A0 raw c0 p1 y1 X hO hA7 hp1 (by omega) ).mono ?_
    rintro e' w8 ⟨n, p2, y2, rfl, hg2, hp2, hn, hA9⟩
    refine ⟨_, rfl, fun a hF => hK _ _ ?_⟩
    clear hK K
    replace hA9 : Hp w0 ([row rb 152 [.slice A0 raw.length c0, .int .i64 (p2 : Nat), .int .i64 (y2 : Nat)]] :: X :: [row b1 31 noEA.cells] :: R) w8 := hA9
    replace hn : n < 18446744073709551616 := hn
    refine vc_y hF rfl rfl (by decide) _ (y_conv rfl Tryz.underlying135 Tryz.underlying3 rfl (i64_wrap hn)) (fun a hF => ?_)
    refine vc_y hF rfl rfl (by decide) _ (y_move rfl rfl) (fun a hF => ?_)
    refine vc_op rfl (fun K hK => ws_call hF rfl (by decide) cl80_v7 rfl rfl ?_)
    with_reducible refine (hg_take64 w0 _ ([row b1 31 noEA.cells] :: R) rb A0 raw c0 p2 y2 X hO hA9 hp2 (by omega) ).mono ?_
    rintro e' w10 ⟨cl, p3, y3, rfl, hg3, hp3, hcl, hA11⟩
    refine ⟨_, rfl, fun a hF => hK _ _ ?_⟩
    clear hK K
    replace hA11 : Hp w0 ([row rb 152 [.slice A0 raw.length c0, .int .i64 (p3 : Nat), .int .i64 (y3 : Nat)]] :: X :: [row b1 31 noEA.cells] :: R) w10 := hA11
    replace hcl : cl < 18446744073709551616 := hcl
    refine vc_y hF rfl rfl (by decide) _ (y_conv rfl Tryz.underlying135 Tryz.underlying3 rfl (i64_wrap hcl)) (fun a hF => ?_)
    refine vc_y hF rfl rfl (by decide) _ (y_build (v := .agg ([.int .i64 ((k : Nat) : Int), .int .i64 (i64 n), .int .i64 (i64 cl), strV [], strV [], strV [], .int .i64 0, .int .i64 0, strV [], .slice none 0 0, .slice none 0 0, .slice none 0 0] ++ dc (List.replicate 32 0)).toArray) (qs := #[(0, .int .i64 ((k : Nat) : Int)), (1, .int .i64 (i64 n)), (2, .int .i64 (i64 cl))]) rfl rfl (ev_bE3 _ _ _)) (fun a hF => ?_)
    refine vc_op rfl (fun K hK => hs_alloc hF rfl (by decide) rfl hA11 ev_zE (fun b12 w13 a hb12 hF hA14 => hK _ _ ?_))
    clear hK K
    replace hA14 : Hp w0 ([row b12 31 noEA.cells] :: [row rb 152 [.slice A0 raw.length c0, .int .i64 (p3 : Nat), .int .i64 (y3 : Nat)]] :: X :: [row b1 31 noEA.cells] :: R) w13 := hA14
    refine vc_op rfl (fun K hK => hs_storeAll (new := [.int .i64 ((k : Nat) : Int), .int .i64 (i64 n), .int .i64 (i64 cl), strV [], strV [], strV [], .int .i64 0, .int .i64 0, strV [], .slice none 0 0, .slice none 0 0, .slice none 0 0] ++ dc (List.replicate 32 0)) hF rfl rfl hA14 rfl rfl 0 rfl rfl (fun v hv => evc_one (e := ⟨((k : Nat) : Int), i64 n, i64 cl, [], [], [], ⟨noVal, none, 0⟩, [], none, 0, [], none, 0, List.replicate 32 0⟩) hv) ev_szE (fun w15 hA16 => hK _ _ ?_))
    clear hK K
    replace hA16 : Hp w0 ([row b12 31 ([.int .i64 ((k : Nat) : Int), .int .i64 (i64 n), .int .i64 (i64 cl), strV [], strV [], strV [], .int .i64 0, .int .i64 0, strV [], .slice none 0 0, .slice none 0 0, .slice none 0 0] ++ dc (List.replicate 32 0))] :: [row rb 152 [.slice A0 raw.length c0, .int .i64 (p3 : Nat), .int .i64 (y3 : Nat)]] :: X :: [row b1 31 noEA.cells] :: R) w15 := hA16
    refine vc_nil ?_
    refine hK5 _ _ ?_; clear  hK5 K5
    apply wp_seq_k; intro K6 hK6
    by_cases hop : okOp ((k : Nat) : Int)
    · obtain ⟨f, hf⟩ : ∃ f, f = fldOf ((k : Nat) : Int) := ⟨_, rfl⟩
      refine wp_region_lit ?_
      refine vc_y hF rfl rfl (by decide) _ (y_field rfl Tryz.underlying31 rfl sz3_v7 (by decide) rfl (rfl : (⟨_, 0 + _, none⟩ : Addr) = ⟨_, 0, none⟩)) (fun a hF => ?_)
      refine vc_y hF rfl rfl (by decide) _ (y_ld rfl hA16.q rfl 0 rfl rfl nr3_v7) (fun a hF => ?_)
      refine vc_op rfl (fun K hK => ws_call hF rfl (by decide) cl72_v7 rfl rfl ?_)
      with_reducible refine (ev_fields_ok ((k : Nat) : Int) f hf hop _ hA16 ).mono ?_
      rintro e' w17 ⟨rfl, hA18⟩
      refine ⟨_, rfl, fun a hF => hK _ _ ?_⟩
      clear hK K
      replace hA18 : Hp w0 ([row b12 31 ([.int .i64 ((k : Nat) : Int), .int .i64 (i64 n), .int .i64 (i64 cl), strV [], strV [], strV [], .int .i64 0, .int .i64 0, strV [], .slice none 0 0, .slice none 0 0, .slice none 0 0] ++ dc (List.replicate 32 0))] :: [row rb 152 [.slice A0 raw.length c0, .int .i64 (p3 : Nat), .int .i64 (y3 : Nat)]] :: X :: [row b1 31 noEA.cells] :: R) w17 := hA18
      refine vc_y hF rfl rfl (by decide) _ (y_move rfl rfl) (fun a hF => ?_)
      refine vc_y hF rfl rfl (by decide) _ (y_extract (v := .agg ([.bool f.typed, .bool f.cased, .bool f.named, .bool f.valued, .bool f.args, .bool f.source]).toArray) rfl rfl rfl) (fun a hF => ?_)
      refine vc_y hF rfl rfl (by decide) _ (y_extract (v := .bool true) rfl rfl rfl) (fun a hF => ?_)
      refine vc_op rfl (fun K hK => hs_alloc hF rfl (by decide) rfl hA18 (zr129_v7) (fun b19 w20 a hb19 hF hA21 => hK _ _ ?_))
      clear hK K
      replace hA21 : Hp w0 ([row b19 129 [.bool false, .bool false, .bool false, .bool false, .bool false, .bool false]] :: [row b12 31 ([.int .i64 ((k : Nat) : Int), .int .i64 (i64 n), .int .i64 (i64 cl), strV [], strV [], strV [], .int .i64 0, .int .i64 0, strV [], .slice none 0 0, .slice none 0 0, .slice none 0 0] ++ dc (List.replicate 32 0))] :: [row rb 152 [.slice A0 raw.length c0, .int .i64 (p3 : Nat), .int .i64 (y3 : Nat)]] :: X :: [row b1 31 noEA.cells] :: R) w20 := hA21
      refine vc_op rfl (fun K hK => hs_storeAll (new := [.bool f.typed, .bool f.cased, .bool f.named, .bool f.valued, .bool f.args, .bool f.source]) hF rfl rfl hA21 rfl rfl 0 rfl rfl (by simp [Value.oneCell']) sz129_v7 (fun w22 hA23 => hK _ _ ?_))
      clear hK K
      replace hA23 : Hp w0 ([row b19 129 [.bool f.typed, .bool f.cased, .bool f.named, .bool f.valued, .bool f.args, .bool f.source]] :: [row b12 31 ([.int .i64 ((k : Nat) : Int), .int .i64 (i64 n), .int .i64 (i64 cl), strV [], strV [], strV [], .int .i64 0, .int .i64 0, strV [], .slice none 0 0, .slice none 0 0, .slice none 0 0] ++ dc (List.replicate 32 0))] :: [row rb 152 [.slice A0 raw.length c0, .int .i64 (p3 : Nat), .int .i64 (y3 : Nat)]] :: X :: [row b1 31 noEA.cells] :: R) w22 := hA23
      refine vc_y hF rfl rfl (by decide) _ (y_assign rfl rfl) (fun a hF => ?_)
      refine vc_nil ?_
      refine hK6 _ _ ?_; clear  hK6 K6
      apply wp_seq_k; intro K7 hK7
      apply wp_seq_k; intro K8 hK8
      refine wp_region_lit ?_
      refine vc_y hF rfl rfl (by decide) _ (y_move rfl rfl) (fun a hF => ?_)
      refine vc_y hF rfl rfl (by decide) _ (y_not rfl rfl rfl) (fun a hF => ?_)
      refine vc_nil ?_
      refine hK8 _ _ ?_; clear  hK8 K8
      refine vc_false hF rfl ?_
      apply wp_skip
      refine hK7 _ _ ?_; clear  hK7 K7
      apply wp_seq_k; intro K9 hK9
      apply wp_seq_k; intro K10 hK10
      refine wp_region_lit ?_
      refine vc_y hF rfl rfl (by decide) _ (y_field rfl Tryz.underlying129 rfl sz4_v7 (by decide) rfl (rfl : (⟨_, 0 + _, none⟩ : Addr) = ⟨_, 1, none⟩)) (fun a hF => ?_)
      refine vc_y hF rfl rfl (by decide) _ (y_ld rfl hA23.q rfl 0 rfl rfl nr4_v7) (fun a hF => ?_)
      refine vc_nil ?_
      refine hK10 _ _ ?_; clear  hK10 K10
      have hJ0 : ∀ (a : Act) (x : World) (cas : List UInt8) (p4 y4 : Nat), gotIf f.cased [] p3 y3 (got (textR · 64) [] raw p3 y3) = ⟨cas, p4, y4⟩ → p4 ≤ raw.length → Fr 112 [(0, .slice A raw.length c), (2, .pointer (some ⟨b1, 0, none⟩)), (4, .pointer (some ⟨rb, 0, none⟩)), (5, .pointer (some ⟨b12, 0, none⟩)), (6, .pointer (some ⟨b19, 0, none⟩))] a → Hp w0 ([row b19 129 [.bool f.typed, .bool f.cased, .bool f.named, .bool f.valued, .bool f.args, .bool f.source]] :: [row b12 31 ([.int .i64 ((k : Nat) : Int), .int .i64 (i64 n), .int .i64 (i64 cl), strV [], strV cas, strV [], .int .i64 0, .int .i64 0, strV [], .slice none 0 0, .slice none 0 0, .slice none 0 0] ++ dc (List.replicate 32 0))] :: [row rb 152 [.slice A0 raw.length c0, .int .i64 (p4 : Nat), .int .i64 (y4 : Nat)]] :: X :: [row b1 31 noEA.cells] :: R) x → K9 a x := by
        clear hF
        intro a x cas p4 y4 hgi0 hp4 hF hA
        refine hK9 _ _ ?_; clear  hK9 K9
        apply wp_seq_k; intro K11 hK11
        apply wp_seq_k; intro K12 hK12
        refine wp_region_lit ?_
        refine vc_y hF rfl rfl (by decide) _ (y_field rfl Tryz.underlying129 rfl sz4_v7 (by decide) rfl (rfl : (⟨_, 0 + _, none⟩ : Addr) = ⟨_, 0, none⟩)) (fun a hF => ?_)
        refine vc_y hF rfl rfl (by decide) _ (y_ld rfl hA.q rfl 0 rfl rfl nr4_v7) (fun a hF => ?_)
        refine vc_nil ?_
        refine hK12 _ _ ?_; clear  hK12 K12
        have hJ1 : ∀ (a : Act) (x : World) (typ : List UInt8) (p5 y5 : Nat), gotIf f.typed [] p4 y4 (got (textR · 64) [] raw p4 y4) = ⟨typ, p5, y5⟩ → p5 ≤ raw.length → Fr 112 [(0, .slice A raw.length c), (2, .pointer (some ⟨b1, 0, none⟩)), (4, .pointer (some ⟨rb, 0, none⟩)), (5, .pointer (some ⟨b12, 0, none⟩)), (6, .pointer (some ⟨b19, 0, none⟩))] a → Hp w0 ([row b19 129 [.bool f.typed, .bool f.cased, .bool f.named, .bool f.valued, .bool f.args, .bool f.source]] :: [row b12 31 ([.int .i64 ((k : Nat) : Int), .int .i64 (i64 n), .int .i64 (i64 cl), strV typ, strV cas, strV [], .int .i64 0, .int .i64 0, strV [], .slice none 0 0, .slice none 0 0, .slice none 0 0] ++ dc (List.replicate 32 0))] :: [row rb 152 [.slice A0 raw.length c0, .int .i64 (p5 : Nat), .int .i64 (y5 : Nat)]] :: X :: [row b1 31 noEA.cells] :: R) x → K11 a x := by
          clear hF
          intro a x typ p5 y5 hgi1 hp5 hF hA
          refine hK11 _ _ ?_; clear  hK11 K11
          apply wp_seq_k; intro K13 hK13
          apply wp_seq_k; intro K14 hK14
          refine wp_region_lit ?_
          refine vc_y hF rfl rfl (by decide) _ (y_field rfl Tryz.underlying129 rfl sz4_v7 (by decide) rfl (rfl : (⟨_, 0 + _, none⟩ : Addr) = ⟨_, 2, none⟩)) (fun a hF => ?_)
          refine vc_y hF rfl rfl (by decide) _ (y_ld rfl hA.q rfl 0 rfl rfl nr4_v7) (fun a hF => ?_)
          refine vc_nil ?_
          refine hK14 _ _ ?_; clear  hK14 K14
          have hJ2 : ∀ (a : Act) (x : World) (nam : List UInt8) (p6 y6 : Nat), gotIf f.named [] p5 y5 (got (textR · 64) [] raw p5 y5) = ⟨nam, p6, y6⟩ → p6 ≤ raw.length → Fr 112 [(0, .slice A raw.length c), (2, .pointer (some ⟨b1, 0, none⟩)), (4, .pointer (some ⟨rb, 0, none⟩)), (5, .pointer (some ⟨b12, 0, none⟩)), (6, .pointer (some ⟨b19, 0, none⟩))] a → Hp w0 ([row b19 129 [.bool f.typed, .bool f.cased, .bool f.named, .bool f.valued, .bool f.args, .bool f.source]] :: [row b12 31 ([.int .i64 ((k : Nat) : Int), .int .i64 (i64 n), .int .i64 (i64 cl), strV typ, strV cas, strV nam, .int .i64 0, .int .i64 0, strV [], .slice none 0 0, .slice none 0 0, .slice none 0 0] ++ dc (List.replicate 32 0))] :: [row rb 152 [.slice A0 raw.length c0, .int .i64 (p6 : Nat), .int .i64 (y6 : Nat)]] :: X :: [row b1 31 noEA.cells] :: R) x → K13 a x := by
            clear hF
            intro a x nam p6 y6 hgi2 hp6 hF hA
            refine hK13 _ _ ?_; clear  hK13 K13
            apply wp_seq_k; intro K15 hK15
            apply wp_seq_k; intro K16 hK16
            refine wp_region_lit ?_
            refine vc_y hF rfl rfl (by decide) _ (y_field rfl Tryz.underlying129 rfl sz4_v7 (by decide) rfl (rfl : (⟨_, 0 + _, none⟩ : Addr) = ⟨_, 5, none⟩)) (fun a hF => ?_)
            refine vc_y hF rfl rfl (by decide) _ (y_ld rfl hA.q rfl 0 rfl rfl nr4_v7) (fun a hF => ?_)
            refine vc_nil ?_
            refine hK16 _ _ ?_; clear  hK16 K16
            have hJ3 : ∀ (a : Act) (x : World) (src : List UInt8) (bA : Option Addr) (bC : Nat) (ZS : Seg) (p7 y7 : Nat), gotIf f.source [] p6 y6 (got (bytesR · 60000) [] raw p6 y6) = ⟨src, p7, y7⟩ → Rd w0 [ZS] bA src → src.length ≤ 9223372036854775807 → p7 ≤ raw.length → Fr 112 [(0, .slice A raw.length c), (2, .pointer (some ⟨b1, 0, none⟩)), (4, .pointer (some ⟨rb, 0, none⟩)), (5, .pointer (some ⟨b12, 0, none⟩)), (6, .pointer (some ⟨b19, 0, none⟩))] a → Hp w0 (ZS :: [row b19 129 [.bool f.typed, .bool f.cased, .bool f.named, .bool f.valued, .bool f.args, .bool f.source]] :: [row b12 31 ([.int .i64 ((k : Nat) : Int), .int .i64 (i64 n), .int .i64 (i64 cl), strV typ, strV cas, strV nam, .int .i64 0, .int .i64 0, strV [], .slice none 0 0, .slice none 0 0, .slice bA src.length bC] ++ dc (List.replicate 32 0))] :: [row rb 152 [.slice A0 raw.length c0, .int .i64 (p7 : Nat), .int .i64 (y7 : Nat)]] :: X :: [row b1 31 noEA.cells] :: R) x → K15 a x := by
              clear hF
              intro a x src bA bC ZS p7 y7 hgi3 hRs hsl hp7 hF hA
              refine hK15 _ _ ?_; clear  hK15 K15
              apply wp_seq_k; intro K17 hK17
              apply wp_seq_k; intro K18 hK18
              refine wp_region_lit ?_
              refine vc_y hF rfl rfl (by decide) _ (y_field rfl Tryz.underlying129 rfl sz4_v7 (by decide) rfl (rfl : (⟨_, 0 + _, none⟩ : Addr) = ⟨_, 3, none⟩)) (fun a hF => ?_)
              refine vc_y hF rfl rfl (by decide) _ (y_ld rfl hA.q rfl 1 rfl rfl nr4_v7) (fun a hF => ?_)
              refine vc_nil ?_
              refine hK18 _ _ ?_; clear  hK18 K18
              have hJ4 : ∀ (a : Act) (x : World) (vb : VA) (ZV : Seg) (p8 y8 : Nat), gotIf f.valued noVal p7 y7 (gotVal raw p7 y7) = ⟨vb.v, p8, y8⟩ → vb.Ok w0 [ZV] → p8 ≤ raw.length → Fr 112 [(0, .slice A raw.length c), (2, .pointer (some ⟨b1, 0, none⟩)), (4, .pointer (some ⟨rb, 0, none⟩)), (5, .pointer (some ⟨b12, 0, none⟩)), (6, .pointer (some ⟨b19, 0, none⟩))] a → Hp w0 (ZV :: ZS :: [row b19 129 [.bool f.typed, .bool f.cased, .bool f.named, .bool f.valued, .bool f.args, .bool f.source]] :: [row b12 31 ([.int .i64 ((k : Nat) : Int), .int .i64 (i64 n), .int .i64 (i64 cl), strV typ, strV cas, strV nam, .int .i64 vb.v.k, .int .i64 vb.v.n, strV vb.v.t, .slice vb.sA vb.v.s.length vb.sC, .slice none 0 0, .slice bA src.length bC] ++ dc (List.replicate 32 0))] :: [row rb 152 [.slice A0 raw.length c0, .int .i64 (p8 : Nat), .int .i64 (y8 : Nat)]] :: X :: [row b1 31 noEA.cells] :: R) x → K17 a x := by
                clear hF
                intro a x vb ZV p8 y8 hgi4 hvb hp8 hF hA
                refine hK17 _ _ ?_; clear  hK17 K17
                apply wp_seq_k; intro K19 hK19
                apply wp_seq_k; intro K20 hK20
                refine wp_region_lit ?_
                refine vc_y hF rfl rfl (by decide) _ (y_field rfl Tryz.underlying129 rfl sz4_v7 (by decide) rfl (rfl : (⟨_, 0 + _, none⟩ : Addr) = ⟨_, 4, none⟩)) (fun a hF => ?_)
                refine vc_y hF rfl rfl (by decide) _ (y_ld rfl hA.q rfl 2 rfl rfl nr4_v7) (fun a hF => ?_)
                refine vc_nil ?_
                refine hK20 _ _ ?_; clear  hK20 K20
                have hJ5 : ∀ (a : Act) (x : World) (vs : List VA) (aA : Option Addr) (aC : Nat) (ZA ZM : Seg) (n1 q1 z1 : Nat) (p9 y9 : Nat), gotIf f.args 0 p8 y8 (got (numR 1) 0 raw p8 y8) = ⟨n1, q1, z1⟩ → gotVals raw n1 q1 z1 = ⟨vs.map VA.v, p9, y9⟩ → Rc w0 [ZA] aA (argC vs) → (∀ a ∈ vs, a.Ok w0 [ZM]) → vs.length ≤ 9223372036854775807 → p9 ≤ raw.length → Fr 112 [(0, .slice A raw.length c), (2, .pointer (some ⟨b1, 0, none⟩)), (4, .pointer (some ⟨rb, 0, none⟩)), (5, .pointer (some ⟨b12, 0, none⟩)), (6, .pointer (some ⟨b19, 0, none⟩))] a → Hp w0 (ZA :: ZM :: ZV :: ZS :: [row b19 129 [.bool f.typed, .bool f.cased, .bool f.named, .bool f.valued, .bool f.args, .bool f.source]] :: [row b12 31 ([.int .i64 ((k : Nat) : Int), .int .i64 (i64 n), .int .i64 (i64 cl), strV typ, strV cas, strV nam, .int .i64 vb.v.k, .int .i64 vb.v.n, strV vb.v.t, .slice vb.sA vb.v.s.length vb.sC, .slice aA vs.length aC, .slice bA src.length bC] ++ dc (List.replicate 32 0))] :: [row rb 152 [.slice A0 raw.length c0, .int .i64 (p9 : Nat), .int .i64 (y9 : Nat)]] :: X :: [row b1 31 noEA.cells] :: R) x → K19 a x := by
                  clear hF
                  intro a x vs aA aC ZA ZM n1 q1 z1 p9 y9 hgi5 hgv hRv hvs hvl hp9 hF hA
                  refine hK19 _ _ ?_; clear  hK19 K19
                  apply wp_seq_k; intro K21 hK21
                  refine wp_region_lit ?_
                  refine vc_y hF rfl rfl (by decide) _ (y_move rfl rfl) (fun a hF => ?_)
                  have hA24 : Hp w0 ([row rb 152 [.slice A0 raw.length c0, .int .i64 (p9 : Nat), .int .i64 (y9 : Nat)]] :: X :: ZA :: ZM :: ZV :: ZS :: [row b19 129 [.bool f.typed, .bool f.cased, .bool f.named, .bool f.valued, .bool f.args, .bool f.source]] :: [row b12 31 ([.int .i64 ((k : Nat) : Int), .int .i64 (i64 n), .int .i64 (i64 cl), strV typ, strV cas, strV nam, .int .i64 vb.v.k, .int .i64 vb.v.n, strV vb.v.t, .slice vb.sA vb.v.s.length vb.sC, .slice aA vs.length aC, .slice bA src.length bC] ++ dc (List.replicate 32 0))] :: [row b1 31 noEA.cells] :: R) x := Hp.ord [ZA, ZM, ZV, ZS, [row b19 129 [.bool f.typed, .bool f.cased, .bool f.named, .bool f.valued, .bool f.args, .bool f.source]], [row b12 31 ([.int .i64 ((k : Nat) : Int), .int .i64 (i64 n), .int .i64 (i64 cl), strV typ, strV cas, strV nam, .int .i64 vb.v.k, .int .i64 vb.v.n, strV vb.v.t, .slice vb.sA vb.v.s.length vb.sC, .slice aA vs.length aC, .slice bA src.length bC] ++ dc (List.replicate 32 0))], [row rb 152 [.slice A0 raw.length c0, .int .i64 (p9 : Nat), .int .i64 (y9 : Nat)]], X, [row b1 31 noEA.cells]] R [6, 7, 0, 1, 2, 3, 4, 5, 8] hA rfl
                  refine vc_op rfl (fun K hK => ws_call hF rfl (by decide) cl83_v7 rfl rfl ?_)
                  with_reducible refine (hg_digest w0 _ (ZA :: ZM :: ZV :: ZS :: [row b19 129 [.bool f.typed, .bool f.cased, .bool f.named, .bool f.valued, .bool f.args, .bool f.source]] :: [row b12 31 ([.int .i64 ((k : Nat) : Int), .int .i64 (i64 n), .int .i64 (i64 cl), strV typ, strV cas, strV nam, .int .i64 vb.v.k, .int .i64 vb.v.n, strV vb.v.t, .slice vb.sA vb.v.s.length vb.sC, .slice aA vs.length aC, .slice bA src.length bC] ++ dc (List.replicate 32 0))] :: [row b1 31 noEA.cells] :: R) rb A0 raw c0 p9 y9 X hO hA24 hp9 (by omega) ).mono ?_
                  rintro e' w25 ⟨dg, p10, y10, rfl, hgd, hp10, hd32, hA26⟩
                  refine ⟨_, rfl, fun a hF => hK _ _ ?_⟩
                  clear hK K
                  replace hA26 : Hp w0 ([row rb 152 [.slice A0 raw.length c0, .int .i64 (p10 : Nat), .int .i64 (y10 : Nat)]] :: X :: ZA :: ZM :: ZV :: ZS :: [row b19 129 [.bool f.typed, .bool f.cased, .bool f.named, .bool f.valued, .bool f.args, .bool f.source]] :: [row b12 31 ([.int .i64 ((k : Nat) : Int), .int .i64 (i64 n), .int .i64 (i64 cl), strV typ, strV cas, strV nam, .int .i64 vb.v.k, .int .i64 vb.v.n, strV vb.v.t, .slice vb.sA vb.v.s.length vb.sC, .slice aA vs.length aC, .slice bA src.length bC] ++ dc (List.replicate 32 0))] :: [row b1 31 noEA.cells] :: R) w25 := hA26
                  refine vc_y hF rfl rfl (by decide) _ (y_field rfl Tryz.underlying31 rfl sz29_v7 (by decide) rfl (rfl : (⟨_, 0 + _, none⟩ : Addr) = ⟨_, 12, none⟩)) (fun a hF => ?_)
                  refine vc_op rfl (fun K hK => hs_storeRow (new := dc dg) hF rfl rfl hA26 rfl rfl 7 rfl (by rw [List.length_append, dc_length, dc_length, hd32]; exact Nat.le_of_ble_eq_true rfl) (dc_one _) (by rw [dc_length, hd32]; exact sz29_v7) (fun w27 hA28 => hK _ _ ?_))
                  clear hK K
                  replace hA28 : Hp w0 ([row rb 152 [.slice A0 raw.length c0, .int .i64 (p10 : Nat), .int .i64 (y10 : Nat)]] :: X :: ZA :: ZM :: ZV :: ZS :: [row b19 129 [.bool f.typed, .bool f.cased, .bool f.named, .bool f.valued, .bool f.args, .bool f.source]] :: [row b12 31 (splice ([.int .i64 ((k : Nat) : Int), .int .i64 (i64 n), .int .i64 (i64 cl), strV typ, strV cas, strV nam, .int .i64 vb.v.k, .int .i64 vb.v.n, strV vb.v.t, .slice vb.sA vb.v.s.length vb.sC, .slice aA vs.length aC, .slice bA src.length bC] ++ dc (List.replicate 32 0)) 12 (dc dg))] :: [row b1 31 noEA.cells] :: R) w27 := hA28
                  have hA29 : Hp w0 ([row rb 152 [.slice A0 raw.length c0, .int .i64 (p10 : Nat), .int .i64 (y10 : Nat)]] :: X :: ZA :: ZM :: ZV :: ZS :: [row b19 129 [.bool f.typed, .bool f.cased, .bool f.named, .bool f.valued, .bool f.args, .bool f.source]] :: [row b12 31 ([.int .i64 ((k : Nat) : Int), .int .i64 (i64 n), .int .i64 (i64 cl), strV typ, strV cas, strV nam, .int .i64 vb.v.k, .int .i64 vb.v.n, strV vb.v.t, .slice vb.sA vb.v.s.length vb.sC, .slice aA vs.length aC, .slice bA src.length bC] ++ dc dg)] :: [row b1 31 noEA.cells] :: R) w27 := (by have h9 := hA28; rw [splice_end (n := 12) (s := [.int .i64 ((k : Nat) : Int), .int .i64 (i64 n), .int .i64 (i64 cl), strV typ, strV cas, strV nam, .int .i64 vb.v.k, .int .i64 vb.v.n, strV vb.v.t, .slice vb.sA vb.v.s.length vb.sC, .slice aA vs.length aC, .slice bA src.length bC]) rfl (by rw [dc_length, dc_length, hd32]; rfl)] at h9; exact h9)
                  refine vc_nil ?_
                  refine hK21 _ _ ?_; clear  hK21 K21
                  apply wp_seq_k; intro K22 hK22
                  apply wp_seq_k; intro K23 hK23
                  refine wp_region_lit ?_
                  refine vc_y hF rfl rfl (by decide) _ (y_move rfl rfl) (fun a hF => ?_)
                  refine vc_op rfl (fun K hK => ws_call hF rfl (by decide) cl84_v7 rfl rfl ?_)
                  with_reducible refine (hr_done w0 _ (ZA :: ZM :: ZV :: ZS :: [row b19 129 [.bool f.typed, .bool f.cased, .bool f.named, .bool f.valued, .bool f.args, .bool f.source]] :: [row b12 31 ([.int .i64 ((k : Nat) : Int), .int .i64 (i64 n), .int .i64 (i64 cl), strV typ, strV cas, strV nam, .int .i64 vb.v.k, .int .i64 vb.v.n, strV vb.v.t, .slice vb.sA vb.v.s.length vb.sC, .slice aA vs.length aC, .slice bA src.length bC] ++ dc dg)] :: [row b1 31 noEA.cells] :: R) rb A0 raw c0 p10 y10 X hO hA29 hp10 (by omega) ).mono ?_
                  rintro e' w30 ⟨rfl, hA31⟩
                  refine ⟨_, rfl, fun a hF => hK _ _ ?_⟩
                  clear hK K
                  replace hA31 : Hp w0 ([row rb 152 [.slice A0 raw.length c0, .int .i64 (p10 : Nat), .int .i64 (y10 : Nat)]] :: X :: ZA :: ZM :: ZV :: ZS :: [row b19 129 [.bool f.typed, .bool f.cased, .bool f.named, .bool f.valued, .bool f.args, .bool f.source]] :: [row b12 31 ([.int .i64 ((k : Nat) : Int), .int .i64 (i64 n), .int .i64 (i64 cl), strV typ, strV cas, strV nam, .int .i64 vb.v.k, .int .i64 vb.v.n, strV vb.v.t, .slice vb.sA vb.v.s.length vb.sC, .slice aA vs.length aC, .slice bA src.length bC] ++ dc dg)] :: [row b1 31 noEA.cells] :: R) w30 := hA31
                  refine vc_y hF rfl rfl (by decide) _ (y_cmp rfl rfl rfl rfl rfl) (fun a hF => ?_)
                  refine vc_nil ?_
                  refine hK23 _ _ ?_; clear  hK23 K23
                  rcases tf (cmpB .neq (((if y10 = 0 ∧ p10 < raw.length then 8 else y10 : Nat) : Int)) (0)) with h9 | h9
                  · refine vc_falseB hF rfl h9 ?_
                    obtain ⟨hy0, hpl⟩ := done_ok hp10 h9
                    subst hy0
                    obtain ⟨ea, hea⟩ : ∃ e : EA, e = ⟨((k : Nat) : Int), i64 n, i64 cl, typ, cas, nam, vb, vs, aA, aC, src, bA, bC, dg⟩ := ⟨_, rfl⟩
                    have hA32 : Hp w0 ([row rb 152 [.slice A0 raw.length c0, .int .i64 (p10 : Nat), .int .i64 (0 : Nat)]] :: X :: ZA :: ZM :: ZV :: ZS :: [row b19 129 [.bool f.typed, .bool f.cased, .bool f.named, .bool f.valued, .bool f.args, .bool f.source]] :: [row b12 31 ([.int .i64 ea.op, .int .i64 ea.num, .int .i64 ea.clk, strV ea.typ, strV ea.cas, strV ea.nam, .int .i64 ea.v.v.k, .int .i64 ea.v.v.n, strV ea.v.v.t, .slice ea.v.sA ea.v.v.s.length ea.v.sC, .slice ea.aA ea.args.length ea.aC, .slice ea.bA ea.src.length ea.bC] ++ dc ea.eff)] :: [row b1 31 noEA.cells] :: R) w30 := (by rw [hea]; exact hA31)
                    have hG0 : gotEv raw = ⟨ea.ev, p10, 0⟩ := by
                      unfold gotEv
                      rw [hg1, gotK_mk, hg2, gotK_mk, hg3, gotK_mk, ← hf, hgi0, gotK_mk, hgi1, gotK_mk, hgi2, gotK_mk, hgi3, gotK_mk, hgi4, gotK_mk, hgi5, gotK_mk, hgv, gotK_mk, hgd, gotK_mk, hea]
                      rfl
                    have hEo : ea.Ok w0 [ZS ++ (ZV ++ (ZA ++ ZM))] := by
                      rw [hea]
                      exact evDec_ok hk hn hcl hvb hvs hRv hvl hRs hsl hd32
                    have hA33 : Hp w0 (ZS :: ZV :: ZA :: ZM :: [row rb 152 [.slice A0 raw.length c0, .int .i64 (p10 : Nat), .int .i64 (0 : Nat)]] :: X :: [row b19 129 [.bool f.typed, .bool f.cased, .bool f.named, .bool f.valued, .bool f.args, .bool f.source]] :: [row b12 31 ([.int .i64 ea.op, .int .i64 ea.num, .int .i64 ea.clk, strV ea.typ, strV ea.cas, strV ea.nam, .int .i64 ea.v.v.k, .int .i64 ea.v.v.n, strV ea.v.v.t, .slice ea.v.sA ea.v.v.s.length ea.v.sC, .slice ea.aA ea.args.length ea.aC, .slice ea.bA ea.src.length ea.bC] ++ dc ea.eff)] :: [row b1 31 noEA.cells] :: R) w30 := Hp.ord [[row rb 152 [.slice A0 raw.length c0, .int .i64 (p10 : Nat), .int .i64 (0 : Nat)]], X, ZA, ZM, ZV, ZS, [row b19 129 [.bool f.typed, .bool f.cased, .bool f.named, .bool f.valued, .bool f.args, .bool f.source]], [row b12 31 ([.int .i64 ea.op, .int .i64 ea.num, .int .i64 ea.clk, strV ea.typ, strV ea.cas, strV ea.nam, .int .i64 ea.v.v.k, .int .i64 ea.v.v.n, strV ea.v.v.t, .slice ea.v.sA ea.v.v.s.length ea.v.sC, .slice ea.aA ea.args.length ea.aC, .slice ea.bA ea.src.length ea.bC] ++ dc ea.eff)], [row b1 31 noEA.cells]] R [5, 4, 2, 3, 0, 1, 6, 7, 8] hA32 rfl
                    have hA34 : Hp w0 ((ZS ++ (ZV ++ (ZA ++ ZM))) :: [row rb 152 [.slice A0 raw.length c0, .int .i64 (p10 : Nat), .int .i64 (0 : Nat)]] :: X :: [row b19 129 [.bool f.typed, .bool f.cased, .bool f.named, .bool f.valued, .bool f.args, .bool f.source]] :: [row b12 31 ([.int .i64 ea.op, .int .i64 ea.num, .int .i64 ea.clk, strV ea.typ, strV ea.cas, strV ea.nam, .int .i64 ea.v.v.k, .int .i64 ea.v.v.n, strV ea.v.v.t, .slice ea.v.sA ea.v.v.s.length ea.v.sC, .slice ea.aA ea.args.length ea.aC, .slice ea.bA ea.src.length ea.bC] ++ dc ea.eff)] :: [row b1 31 noEA.cells] :: R) w30 := Hp.cast hA33 (by simp [List.append_assoc])
                    obtain ⟨ZZ, hZZ⟩ : ∃ Z, Z = ZS ++ (ZV ++ (ZA ++ ZM)) := ⟨_, rfl⟩
                    rw [← hZZ] at hEo hA34
                    have he32 : ea.eff.length = 32 := hEo.i.2.2.2.2.2
                    apply wp_skip
                    refine hK22 _ _ ?_; clear  hK22 K22
                    apply wp_seq_k; intro K24 hK24
                    apply wp_seq_k; intro K25 hK25
                    refine wp_region_lit ?_
                    refine vc_y hF rfl rfl (by decide) _ (y_ldRow (new := [.int .i64 ea.op, .int .i64 ea.num, .int .i64 ea.clk, strV ea.typ, strV ea.cas, strV ea.nam, .int .i64 ea.v.v.k, .int .i64 ea.v.v.n, strV ea.v.v.t, .slice ea.v.sA ea.v.v.s.length ea.v.sC, .slice ea.aA ea.args.length ea.aC, .slice ea.bA ea.src.length ea.bC] ++ dc ea.eff) rfl hA34.q rfl 4 rfl rw31_v7 (by rw [List.length_append, dc_length, he32]; exact Nat.le_of_ble_eq_true rfl) (by rw [List.drop_zero]; exact List.take_of_length_le (by rw [List.length_append, dc_length, he32]; exact Nat.le_of_ble_eq_true rfl))) (fun a hF => ?_)
                    refine vc_op rfl (fun K hK => ws_call hF rfl (by decide) cl20_v7 rfl rfl ?_)
                    with_reducible refine (ev_encode ea _ hT hEo (List.cons_subset.2 ⟨((List.mem_cons_self ..)), List.nil_subset _⟩) hA34 ).mono ?_
                    rintro e' w35 ⟨vE, ZE, rfl, hZE, hA36⟩
                    refine ⟨_, rfl, fun a hF => hK _ _ ?_⟩
                    clear hK K
                    replace hA36 : Hp w0 (ZE :: ZZ :: [row rb 152 [.slice A0 raw.length c0, .int .i64 (p10 : Nat), .int .i64 (0 : Nat)]] :: X :: [row b19 129 [.bool f.typed, .bool f.cased, .bool f.named, .bool f.valued, .bool f.args, .bool f.source]] :: [row b12 31 ([.int .i64 ea.op, .int .i64 ea.num, .int .i64 ea.clk, strV ea.typ, strV ea.cas, strV ea.nam, .int .i64 ea.v.v.k, .int .i64 ea.v.v.n, strV ea.v.v.t, .slice ea.v.sA ea.v.v.s.length ea.v.sC, .slice ea.aA ea.args.length ea.aC, .slice ea.bA ea.src.length ea.bC] ++ dc ea.eff)] :: [row b1 31 noEA.cells] :: R) w35 := hA36
                    obtain ⟨_, AE, cE, rfl, _, hRE⟩ := hZE.rd (w0 := w0) (R := [ZE]) (List.mem_cons_self ..)
                    refine vc_y hF rfl rfl (by decide) _ (y_move rfl rfl) (fun a hF => ?_)
                    refine vc_y hF rfl rfl (by decide) _ (y_extract (v := .slice AE ((encB ea.ev).length) cE) rfl rfl rfl) (fun a hF => ?_)
                    refine vc_y hF rfl rfl (by decide) _ (y_extract (v := .int .i64 ((encE ea.ev : Nat) : Int)) rfl rfl rfl) (fun a hF => ?_)
                    refine vc_y hF rfl rfl (by decide) _ (y_assign rfl rfl) (fun a hF => ?_)
                    refine vc_y hF rfl rfl (by decide) _ (y_assign rfl rfl) (fun a hF => ?_)
                    refine vc_nil ?_
                    refine hK25 _ _ ?_; clear  hK25 K25
                    apply wp_seq_k; intro K26 hK26
                    refine wp_region_lit ?_
                    refine vc_y hF rfl rfl (by decide) _ (y_move rfl rfl) (fun a hF => ?_)
                    refine vc_y hF rfl rfl (by decide) _ (y_cmp rfl rfl rfl rfl rfl) (fun a hF => ?_)
                    refine vc_y hF rfl rfl (by decide) _ (y_move rfl rfl) (fun a hF => ?_)
                    refine vc_meet (l2 := ?lA1) hF [(109, .bool ((cmpB .neq (((encE ea.ev : Nat) : Int)) (0)) || (!(encB ea.ev == raw)))), (0, .slice A raw.length c), (2, .pointer (some ⟨b1, 0, none⟩)), (4, .pointer (some ⟨rb, 0, none⟩)), (5, .pointer (some ⟨b12, 0, none⟩)), (6, .pointer (some ⟨b19, 0, none⟩)), (90, .pointer (some ⟨rb, 0, none⟩)), (91, .agg (dc dg).toArray), (92, .pointer (some ⟨b12, 12, none⟩)), (93, .pointer (some ⟨rb, 0, none⟩)), (94, .int .i64 ((if 0 = 0 ∧ p10 < raw.length then 8 else 0 : Nat) : Int)), (95, .bool (cmpB .neq (((if 0 = 0 ∧ p10 < raw.length then 8 else 0 : Nat) : Int)) (0))), (98, .agg ([.int .i64 ea.op, .int .i64 ea.num, .int .i64 ea.clk, strV ea.typ, strV ea.cas, strV ea.nam, .int .i64 ea.v.v.k, .int .i64 ea.v.v.n, strV ea.v.v.t, .slice ea.v.sA ea.v.v.s.length ea.v.sC, .slice ea.aA ea.args.length ea.aC, .slice ea.bA ea.src.length ea.bC] ++ dc ea.eff).toArray), (99, .tuple #[.slice AE ((encB ea.ev).length) cE, .int .i64 ((encE ea.ev : Nat) : Int)]), (97, .tuple #[.slice AE ((encB ea.ev).length) cE, .int .i64 ((encE ea.ev : Nat) : Int)]), (100, .slice AE ((encB ea.ev).length) cE), (101, .int .i64 ((encE ea.ev : Nat) : Int))] (fun hJ1 => ?elA1) (fun a hF => ?flA1)
                    case elA1 =>
                      rcases tf (cmpB .neq (((encE ea.ev : Nat) : Int)) (0)) with hg1 | hg1
                      · refine vc_yg hF rfl rfl rfl rfl (some_bool hg1) (by decide) _ (y_move rfl rfl) (fun a hF => ?_)
                        refine vc_yg hF rfl rfl rfl rfl (some_bool hg1) (by decide) _ (y_move rfl rfl) (fun a hF => ?_)
                        refine vc_opg hF rfl rfl rfl (some_bool hg1) (fun K hK => ws_call hF rfl (by decide) cl85_v7 rfl rfl ?_)
                        with_reducible refine (ev_same _ (hRE.mono (List.cons_subset.2 ⟨((List.mem_cons_self ..)), List.nil_subset _⟩)) (hR.mono (List.Subset.trans hG (subC (subC (subC (subC (subC (subC (subC (sub0)))))))))) hA36 ).mono ?_
                        rintro e' w39 ⟨rfl, rfl⟩
                        refine ⟨_, rfl, fun a hF => hK _ _ ?_⟩
                        clear hK K
                        refine vc_yg hF rfl rfl rfl rfl (some_bool hg1) (by decide) _ (y_not rfl rfl rfl) (fun a hF => ?_)
                        refine vc_y hF rfl rfl (by decide) _ (y_pickF hg1 rfl rfl rfl) (fun a hF => ?_)
                        exact hJ1 _ ((hF.keep [109, 0, 2, 4, 5, 6, 90, 91, 92, 93, 94, 95, 98, 99, 97, 100, 101] (F' := [(109, _), (0, _), (2, _), (4, _), (5, _), (6, _), (90, _), (91, _), (92, _), (93, _), (94, _), (95, _), (98, _), (99, _), (97, _), (100, _), (101, _)]) rfl).bool (by rw [hg1]; rfl))
                      · refine vc_skip hF rfl rfl rfl rfl rfl (ne_want hg1) (by decide) (fun a hF => ?_)
                        refine vc_skip hF rfl rfl rfl rfl rfl (ne_want hg1) (by decide) (fun a hF => ?_)
                        refine vc_skip hF rfl rfl rfl rfl rfl (ne_want hg1) (by decide) (fun a hF => ?_)
                        refine vc_skip hF rfl rfl rfl rfl rfl (ne_want hg1) (by decide) (fun a hF => ?_)
                        refine vc_y hF rfl rfl (by decide) _ (y_pickT hg1 rfl rfl rfl) (fun a hF => ?_)
                        exact hJ1 _ ((hF.keep [109, 0, 2, 4, 5, 6, 90, 91, 92, 93, 94, 95, 98, 99, 97, 100, 101] (F' := [(109, _), (0, _), (2, _), (4, _), (5, _), (6, _), (90, _), (91, _), (92, _), (93, _), (94, _), (95, _), (98, _), (99, _), (97, _), (100, _), (101, _)]) rfl).bool (by rw [hg1]; rfl))
                    refine vc_nil ?_
                    refine hK26 _ _ ?_; clear  hK26 K26
                    rcases tf ((cmpB .neq (((encE ea.ev : Nat) : Int)) (0)) || (!(encB ea.ev == raw))) with h8 | h8
                    · refine vc_falseB hF rfl h8 ?_
                      obtain ⟨he0, heb⟩ := enc_same h8
                      apply wp_skip
                      refine hK24 _ _ ?_; clear  hK24 K24
                      apply wp_seq_k; intro K27 hK27
                      refine wp_region_lit ?_
                      refine vc_y hF rfl rfl (by decide) _ (y_ldRow (new := [.int .i64 ea.op, .int .i64 ea.num, .int .i64 ea.clk, strV ea.typ, strV ea.cas, strV ea.nam, .int .i64 ea.v.v.k, .int .i64 ea.v.v.n, strV ea.v.v.t, .slice ea.v.sA ea.v.v.s.length ea.v.sC, .slice ea.aA ea.args.length ea.aC, .slice ea.bA ea.src.length ea.bC] ++ dc ea.eff) rfl hA36.q rfl 5 rfl rw31_v7 (by rw [List.length_append, dc_length, he32]; exact Nat.le_of_ble_eq_true rfl) (by rw [List.drop_zero]; exact List.take_of_length_le (by rw [List.length_append, dc_length, he32]; exact Nat.le_of_ble_eq_true rfl))) (fun a hF => ?_)
                      refine vc_op rfl (fun K hK => hs_storeAll (new := [.int .i64 ea.op, .int .i64 ea.num, .int .i64 ea.clk, strV ea.typ, strV ea.cas, strV ea.nam, .int .i64 ea.v.v.k, .int .i64 ea.v.v.n, strV ea.v.v.t, .slice ea.v.sA ea.v.v.s.length ea.v.sC, .slice ea.aA ea.args.length ea.aC, .slice ea.bA ea.src.length ea.bC] ++ dc ea.eff) hF rfl rfl hA36 rfl rfl 6 rfl (by rw [List.length_append, dc_length, he32]; rfl) (fun v hv => evc_one (e := ea) hv) ev_szE (fun w40 hA41 => hK _ _ ?_))
                      clear hK K
                      replace hA41 : Hp w0 (ZE :: ZZ :: [row rb 152 [.slice A0 raw.length c0, .int .i64 (p10 : Nat), .int .i64 (0 : Nat)]] :: X :: [row b19 129 [.bool f.typed, .bool f.cased, .bool f.named, .bool f.valued, .bool f.args, .bool f.source]] :: [row b12 31 ([.int .i64 ea.op, .int .i64 ea.num, .int .i64 ea.clk, strV ea.typ, strV ea.cas, strV ea.nam, .int .i64 ea.v.v.k, .int .i64 ea.v.v.n, strV ea.v.v.t, .slice ea.v.sA ea.v.v.s.length ea.v.sC, .slice ea.aA ea.args.length ea.aC, .slice ea.bA ea.src.length ea.bC] ++ dc ea.eff)] :: [row b1 31 ([.int .i64 ea.op, .int .i64 ea.num, .int .i64 ea.clk, strV ea.typ, strV ea.cas, strV ea.nam, .int .i64 ea.v.v.k, .int .i64 ea.v.v.n, strV ea.v.v.t, .slice ea.v.sA ea.v.v.s.length ea.v.sC, .slice ea.aA ea.args.length ea.aC, .slice ea.bA ea.src.length ea.bC] ++ dc ea.eff)] :: R) w40 := hA41
                      refine vc_y hF rfl rfl (by decide) _ (y_assign rfl rfl) (fun a hF => ?_)
                      refine vc_nil ?_
                      refine hK27 _ _ ?_; clear  hK27 K27
                      apply wp_ret
                      refine vc_retCT hF Tryz.results21 hA41.q rfl rfl 6 rfl (by rw [List.length_append, dc_length, he32]; exact ev_rw44) ?_
                      have hA42 : Hp w0 (ZZ :: R) w40 := Hp.sel [ZE, ZZ, [row rb 152 [.slice A0 raw.length c0, .int .i64 (p10 : Nat), .int .i64 (0 : Nat)]], X, [row b19 129 [.bool f.typed, .bool f.cased, .bool f.named, .bool f.valued, .bool f.args, .bool f.source]], [row b12 31 ([.int .i64 ea.op, .int .i64 ea.num, .int .i64 ea.clk, strV ea.typ, strV ea.cas, strV ea.nam, .int .i64 ea.v.v.k, .int .i64 ea.v.v.n, strV ea.v.v.t, .slice ea.v.sA ea.v.v.s.length ea.v.sC, .slice ea.aA ea.args.length ea.aC, .slice ea.bA ea.src.length ea.bC] ++ dc ea.eff)], [row b1 31 ([.int .i64 ea.op, .int .i64 ea.num, .int .i64 ea.clk, strV ea.typ, strV ea.cas, strV ea.nam, .int .i64 ea.v.v.k, .int .i64 ea.v.v.n, strV ea.v.v.t, .slice ea.v.sA ea.v.v.s.length ea.v.sC, .slice ea.aA ea.args.length ea.aC, .slice ea.bA ea.src.length ea.bC] ++ dc ea.eff)]] R [1] [0, 2, 3, 4, 5, 6] hA41 rfl
                      have hok : decOK raw := dec_ok hlen hop hG0 hpl he0 heb
                      exact ⟨ea, ZZ, by rw [show decE raw = 0 from if_pos hok]; rfl, by rw [show decV raw = (gotEv raw).v from if_pos hok, hG0], hEo, hA42⟩
                    · refine vc_trueB hF rfl h8 ?_
                      apply wp_seq_k; intro K28 hK28
                      refine wp_region_lit ?_
                      refine vc_y hF rfl rfl (by decide) _ (y_build0 rfl ev_bE0) (fun a hF => ?_)
                      refine vc_op rfl (fun K hK => hs_storeAll (new := noEA.cells) hF rfl rfl hA36 rfl rfl 6 rfl rfl (fun v hv => evc_one (e := noEA) hv) ev_szE (fun w43 hA44 => hK _ _ ?_))
                      clear hK K
                      replace hA44 : Hp w0 (ZE :: ZZ :: [row rb 152 [.slice A0 raw.length c0, .int .i64 (p10 : Nat), .int .i64 (0 : Nat)]] :: X :: [row b19 129 [.bool f.typed, .bool f.cased, .bool f.named, .bool f.valued, .bool f.args, .bool f.source]] :: [row b12 31 ([.int .i64 ea.op, .int .i64 ea.num, .int .i64 ea.clk, strV ea.typ, strV ea.cas, strV ea.nam, .int .i64 ea.v.v.k, .int .i64 ea.v.v.n, strV ea.v.v.t, .slice ea.v.sA ea.v.v.s.length ea.v.sC, .slice ea.aA ea.args.length ea.aC, .slice ea.bA ea.src.length ea.bC] ++ dc ea.eff)] :: [row b1 31 noEA.cells] :: R) w43 := hA44
                      refine vc_y hF rfl rfl (by decide) _ (y_assign rfl rfl) (fun a hF => ?_)
                      refine vc_nil ?_
                      refine hK28 _ _ ?_; clear  hK28 K28
                      apply wp_ret
                      have hno : ¬ decOK raw := dec_enc_no hG0 h8
                      simp only [Exit.then]
                      refine vc_retCT hF Tryz.results21 hA44.q rfl rfl 6 rfl ev_rwE ?_
                      have hA45 : Hp w0 (R) w43 := Hp.sel [ZE, ZZ, [row rb 152 [.slice A0 raw.length c0, .int .i64 (p10 : Nat), .int .i64 (0 : Nat)]], X, [row b19 129 [.bool f.typed, .bool f.cased, .bool f.named, .bool f.valued, .bool f.args, .bool f.source]], [row b12 31 ([.int .i64 ea.op, .int .i64 ea.num, .int .i64 ea.clk, strV ea.typ, strV ea.cas, strV ea.nam, .int .i64 ea.v.v.k, .int .i64 ea.v.v.n, strV ea.v.v.t, .slice ea.v.sA ea.v.v.s.length ea.v.sC, .slice ea.aA ea.args.length ea.aC, .slice ea.bA ea.src.length ea.bC] ++ dc ea.eff)], [row b1 31 noEA.cells]] R [] [0, 1, 2, 3, 4, 5, 6] hA44 rfl
                      exact ⟨noEA, [], by rw [show decE raw = 8 from if_neg hno]; rfl, by rw [show decV raw = noEv from if_neg hno]; rfl, noEA_ok, Hp.nil hA45⟩
                  · refine vc_trueB hF rfl h9 ?_
                    apply wp_seq_k; intro K29 hK29
                    refine wp_region_lit ?_
                    refine vc_y hF rfl rfl (by decide) _ (y_build0 rfl ev_bE0) (fun a hF => ?_)
                    refine vc_op rfl (fun K hK => hs_storeAll (new := noEA.cells) hF rfl rfl hA31 rfl rfl 8 rfl rfl (fun v hv => evc_one (e := noEA) hv) ev_szE (fun w46 hA47 => hK _ _ ?_))
                    clear hK K
                    replace hA47 : Hp w0 ([row rb 152 [.slice A0 raw.length c0, .int .i64 (p10 : Nat), .int .i64 (y10 : Nat)]] :: X :: ZA :: ZM :: ZV :: ZS :: [row b19 129 [.bool f.typed, .bool f.cased, .bool f.named, .bool f.valued, .bool f.args, .bool f.source]] :: [row b12 31 ([.int .i64 ((k : Nat) : Int), .int .i64 (i64 n), .int .i64 (i64 cl), strV typ, strV cas, strV nam, .int .i64 vb.v.k, .int .i64 vb.v.n, strV vb.v.t, .slice vb.sA vb.v.s.length vb.sC, .slice aA vs.length aC, .slice bA src.length bC] ++ dc dg)] :: [row b1 31 noEA.cells] :: R) w46 := hA47
                    refine vc_y hF rfl rfl (by decide) _ (y_assign rfl rfl) (fun a hF => ?_)
                    refine vc_nil ?_
                    refine hK29 _ _ ?_; clear  hK29 K29
                    apply wp_ret
                    have hG0 : (gotEv raw).p = p10 ∧ (gotEv raw).y = y10 := by
                      unfold gotEv
                      rw [hg1, gotK_mk, hg2, gotK_mk, hg3, gotK_mk, ← hf, hgi0, gotK_mk, hgi1, gotK_mk, hgi2, gotK_mk, hgi3, gotK_mk, hgi4, gotK_mk, hgi5, gotK_mk, hgv, gotK_mk, hgd, gotK_mk]
                      exact ⟨rfl, rfl⟩
                    have hno : ¬ decOK raw := done_no hG0 h9
                    simp only [Exit.then]
                    refine vc_retCT hF Tryz.results21 hA47.q rfl rfl 8 rfl ev_rwE ?_
                    have hA48 : Hp w0 (R) w46 := Hp.sel [[row rb 152 [.slice A0 raw.length c0, .int .i64 (p10 : Nat), .int .i64 (y10 : Nat)]], X, ZA, ZM, ZV, ZS, [row b19 129 [.bool f.typed, .bool f.cased, .bool f.named, .bool f.valued, .bool f.args, .bool f.source]], [row b12 31 ([.int .i64 ((k : Nat) : Int), .int .i64 (i64 n), .int .i64 (i64 cl), strV typ, strV cas, strV nam, .int .i64 vb.v.k, .int .i64 vb.v.n, strV vb.v.t, .slice vb.sA vb.v.s.length vb.sC, .slice aA vs.length aC, .slice bA src.length bC] ++ dc dg)], [row b1 31 noEA.cells]] R [] [0, 1, 2, 3, 4, 5, 6, 7, 8] hA47 rfl
                    exact ⟨noEA, [], by rw [show decE raw = 8 from if_neg hno]; rfl, by rw [show decV raw = noEv from if_neg hno]; rfl, noEA_ok, Hp.nil hA48⟩
                rcases tf f.args with hb | hb
                · refine vc_falseB hF rfl hb ?_
                  apply wp_skip
                  exact hJ5 _ _ [] none 0 [] [] 0 p8 y8 p8 y8 (by rw [hb]; rfl) rfl Rc.nil (fun _ h => absurd h (List.not_mem_nil)) (Nat.zero_le _) hp8 (hF.keep [0, 2, 4, 5, 6] rfl) (Hp.nil (Hp.nil hA))
                · refine vc_trueB hF rfl hb ?_
                  apply wp_seq_k; intro K30 hK30
                  refine wp_region_lit ?_
                  refine vc_y hF rfl rfl (by decide) _ (y_move rfl rfl) (fun a hF => ?_)
                  have hA49 : Hp w0 ([row rb 152 [.slice A0 raw.length c0, .int .i64 (p8 : Nat), .int .i64 (y8 : Nat)]] :: X :: ZV :: ZS :: [row b19 129 [.bool f.typed, .bool f.cased, .bool f.named, .bool f.valued, .bool f.args, .bool f.source]] :: [row b12 31 ([.int .i64 ((k : Nat) : Int), .int .i64 (i64 n), .int .i64 (i64 cl), strV typ, strV cas, strV nam, .int .i64 vb.v.k, .int .i64 vb.v.n, strV vb.v.t, .slice vb.sA vb.v.s.length vb.sC, .slice none 0 0, .slice bA src.length bC] ++ dc (List.replicate 32 0))] :: [row b1 31 noEA.cells] :: R) x := Hp.ord [ZV, ZS, [row b19 129 [.bool f.typed, .bool f.cased, .bool f.named, .bool f.valued, .bool f.args, .bool f.source]], [row b12 31 ([.int .i64 ((k : Nat) : Int), .int .i64 (i64 n), .int .i64 (i64 cl), strV typ, strV cas, strV nam, .int .i64 vb.v.k, .int .i64 vb.v.n, strV vb.v.t, .slice vb.sA vb.v.s.length vb.sC, .slice none 0 0, .slice bA src.length bC] ++ dc (List.replicate 32 0))], [row rb 152 [.slice A0 raw.length c0, .int .i64 (p8 : Nat), .int .i64 (y8 : Nat)]], X, [row b1 31 noEA.cells]] R [4, 5, 0, 1, 2, 3, 6] hA rfl
                  refine vc_op rfl (fun K hK => ws_call hF rfl (by decide) cl32_v7 rfl rfl ?_)
                  with_reducible refine (hg_take8 w0 _ (ZV :: ZS :: [row b19 129 [.bool f.typed, .bool f.cased, .bool f.named, .bool f.valued, .bool f.args, .bool f.source]] :: [row b12 31 ([.int .i64 ((k : Nat) : Int), .int .i64 (i64 n), .int .i64 (i64 cl), strV typ, strV cas, strV nam, .int .i64 vb.v.k, .int .i64 vb.v.n, strV vb.v.t, .slice vb.sA vb.v.s.length vb.sC, .slice none 0 0, .slice bA src.length bC] ++ dc (List.replicate 32 0))] :: [row b1 31 noEA.cells] :: R) rb A0 raw c0 p8 y8 X hO hA49 hp8 (by omega) ).mono ?_
                  rintro e' w50 ⟨n1, q1, z1, rfl, hgn, hq1, hn1, hA51⟩
                  refine ⟨_, rfl, fun a hF => hK _ _ ?_⟩
                  clear hK K
                  replace hA51 : Hp w0 ([row rb 152 [.slice A0 raw.length c0, .int .i64 (q1 : Nat), .int .i64 (z1 : Nat)]] :: X :: ZV :: ZS :: [row b19 129 [.bool f.typed, .bool f.cased, .bool f.named, .bool f.valued, .bool f.args, .bool f.source]] :: [row b12 31 ([.int .i64 ((k : Nat) : Int), .int .i64 (i64 n), .int .i64 (i64 cl), strV typ, strV cas, strV nam, .int .i64 vb.v.k, .int .i64 vb.v.n, strV vb.v.t, .slice vb.sA vb.v.s.length vb.sC, .slice none 0 0, .slice bA src.length bC] ++ dc (List.replicate 32 0))] :: [row b1 31 noEA.cells] :: R) w50 := hA51
                  replace hn1 : n1 < 256 := hn1
                  refine vc_y hF rfl rfl (by decide) _ (y_assign rfl rfl) (fun a hF => ?_)
                  refine vc_nil ?_
                  refine hK30 _ _ ?_; clear  hK30 K30
                  apply wp_block
                  refine vc_loop (G := Nat) (fun m a x => ∃ (ws : List VA) (vA : Value) (ZA : Seg) (ZM : Seg) (p : Nat) (y : Nat), gotVals raw n1 q1 z1 = ⟨ws.map VA.v ++ (gotVals raw m p y).v, (gotVals raw m p y).p, (gotVals raw m p y).y⟩ ∧ Buf 25 4 ZA vA ws.length (argC ws) ∧ (∀ a ∈ ws, a.Ok w0 [ZM]) ∧ p ≤ raw.length ∧ ws.length + m ≤ 255 ∧ Fr 112 [(8, .int .u8 ((m : Nat) : Int)), (0, .slice A raw.length c), (2, .pointer (some ⟨b1, 0, none⟩)), (4, .pointer (some ⟨rb, 0, none⟩)), (5, .pointer (some ⟨b12, 0, none⟩)), (6, .pointer (some ⟨b19, 0, none⟩))] a ∧ Hp w0 (ZA :: ZM :: [row rb 152 [.slice A0 raw.length c0, .int .i64 (p : Nat), .int .i64 (y : Nat)]] :: X :: ZV :: ZS :: [row b19 129 [.bool f.typed, .bool f.cased, .bool f.named, .bool f.valued, .bool f.args, .bool f.source]] :: [row b12 31 ([.int .i64 ((k : Nat) : Int), .int .i64 (i64 n), .int .i64 (i64 cl), strV typ, strV cas, strV nam, .int .i64 vb.v.k, .int .i64 vb.v.n, strV vb.v.t, .slice vb.sA vb.v.s.length vb.sC, vA, .slice bA src.length bC] ++ dc (List.replicate 32 0))] :: [row b1 31 noEA.cells] :: R) x) (fun m => m) n1 (⟨[], _, [], [], q1, z1, rfl, (Buf.nil _ _), (fun _ h => absurd h (List.not_mem_nil)), hq1, (by show 0 + n1 ≤ 255; omega), hF.keep [8, 0, 2, 4, 5, 6] rfl, (Hp.nil (Hp.nil hA51))⟩) ?_
                  clear hF
                  rintro m a w53 ⟨ws, vA, ZA, ZM, p, y, hgv, hZ, has, hpm, hcm, hF, hA52⟩
                  by_cases hm : 0 < m
                  · apply wp_seq_k; intro K31 hK31
                    apply wp_seq_k; intro K32 hK32
                    refine wp_region_lit ?_
                    refine vc_y hF rfl rfl (by decide) _ (y_move rfl rfl) (fun a hF => ?_)
                    refine vc_y hF rfl rfl (by decide) _ (y_cmp rfl rfl rfl rfl ((gtr_t (by omega)))) (fun a hF => ?_)
                    refine vc_y hF rfl rfl (by decide) _ (y_move rfl rfl) (fun a hF => ?_)
                    refine vc_yg hF rfl rfl rfl rfl (some_bool rfl) (by decide) _ (y_move rfl rfl) (fun a hF => ?_)
                    have hA54 : Hp w0 ([row rb 152 [.slice A0 raw.length c0, .int .i64 (p : Nat), .int .i64 (y : Nat)]] :: X :: ZA :: ZM :: ZV :: ZS :: [row b19 129 [.bool f.typed, .bool f.cased, .bool f.named, .bool f.valued, .bool f.args, .bool f.source]] :: [row b12 31 ([.int .i64 ((k : Nat) : Int), .int .i64 (i64 n), .int .i64 (i64 cl), strV typ, strV cas, strV nam, .int .i64 vb.v.k, .int .i64 vb.v.n, strV vb.v.t, .slice vb.sA vb.v.s.length vb.sC, vA, .slice bA src.length bC] ++ dc (List.replicate 32 0))] :: [row b1 31 noEA.cells] :: R) w53 := Hp.ord [ZA, ZM, [row rb 152 [.slice A0 raw.length c0, .int .i64 (p : Nat), .int .i64 (y : Nat)]], X, ZV, ZS, [row b19 129 [.bool f.typed, .bool f.cased, .bool f.named, .bool f.valued, .bool f.args, .bool f.source]], [row b12 31 ([.int .i64 ((k : Nat) : Int), .int .i64 (i64 n), .int .i64 (i64 cl), strV typ, strV cas, strV nam, .int .i64 vb.v.k, .int .i64 vb.v.n, strV vb.v.t, .slice vb.sA vb.v.s.length vb.sC, vA, .slice bA src.length bC] ++ dc (List.replicate 32 0))], [row b1 31 noEA.cells]] R [2, 3, 0, 1, 4, 5, 6, 7, 8] hA52 rfl
                    refine vc_opg hF rfl rfl rfl (some_bool rfl) (fun K hK => ws_call hF rfl (by decide) cl53_v7 rfl rfl ?_)
                    with_reducible refine (hr_why w0 _ (ZA :: ZM :: ZV :: ZS :: [row b19 129 [.bool f.typed, .bool f.cased, .bool f.named, .bool f.valued, .bool f.args, .bool f.source]] :: [row b12 31 ([.int .i64 ((k : Nat) : Int), .int .i64 (i64 n), .int .i64 (i64 cl), strV typ, strV cas, strV nam, .int .i64 vb.v.k, .int .i64 vb.v.n, strV vb.v.t, .slice vb.sA vb.v.s.length vb.sC, vA, .slice bA src.length bC] ++ dc (List.replicate 32 0))] :: [row b1 31 noEA.cells] :: R) rb A0 raw c0 p y X hO hA54 ).mono ?_
                    rintro e' w55 ⟨rfl, hA56⟩
                    refine ⟨_, rfl, fun a hF => hK _ _ ?_⟩
                    clear hK K
                    replace hA56 : Hp w0 ([row rb 152 [.slice A0 raw.length c0, .int .i64 (p : Nat), .int .i64 (y : Nat)]] :: X :: ZA :: ZM :: ZV :: ZS :: [row b19 129 [.bool f.typed, .bool f.cased, .bool f.named, .bool f.valued, .bool f.args, .bool f.source]] :: [row b12 31 ([.int .i64 ((k : Nat) : Int), .int .i64 (i64 n), .int .i64 (i64 cl), strV typ, strV cas, strV nam, .int .i64 vb.v.k, .int .i64 vb.v.n, strV vb.v.t, .slice vb.sA vb.v.s.length vb.sC, vA, .slice bA src.length bC] ++ dc (List.replicate 32 0))] :: [row b1 31 noEA.cells] :: R) w55 := hA56
                    refine vc_yg hF rfl rfl rfl rfl (some_bool rfl) (by decide) _ (y_cmp rfl rfl rfl rfl rfl) (fun a hF => ?_)
                    refine vc_y hF rfl rfl (by decide) _ (y_pickT rfl rfl rfl rfl) (fun a hF => ?_)
                    refine vc_nil ?_
                    refine hK32 _ _ ?_; clear  hK32 K32
                    by_cases hy : y = 0
                    · refine vc_trueB hF rfl (eql_t (by omega)) ?_
                      subst hy
                      obtain ⟨m, rfl⟩ : ∃ j, m = j + 1 := ⟨m - 1, by omega⟩
                      apply wp_skip
                      refine hK31 _ _ ?_; clear  hK31 K31
                      apply wp_seq_k; intro K33 hK33
                      apply wp_block
                      apply wp_seq_k; intro K34 hK34
                      refine wp_region_lit ?_
                      refine vc_y hF rfl rfl (by decide) _ (y_move rfl rfl) (fun a hF => ?_)
                      refine vc_op rfl (fun K hK => ws_call hF rfl (by decide) cl35_v7 rfl rfl ?_)
                      with_reducible refine (ev_take w0 _ (ZA :: ZM :: ZV :: ZS :: [row b19 129 [.bool f.typed, .bool f.cased, .bool f.named, .bool f.valued, .bool f.args, .bool f.source]] :: [row b12 31 ([.int .i64 ((k : Nat) : Int), .int .i64 (i64 n), .int .i64 (i64 cl), strV typ, strV cas, strV nam, .int .i64 vb.v.k, .int .i64 vb.v.n, strV vb.v.t, .slice vb.sA vb.v.s.length vb.sC, vA, .slice bA src.length bC] ++ dc (List.replicate 32 0))] :: [row b1 31 noEA.cells] :: R) rb A0 raw c0 p 0 X hO hA56 hpm (by omega) ).mono ?_
                      rintro e' w57 ⟨va, Zt, rfl, hva, hvo, hpt, hA58⟩
                      refine ⟨_, rfl, fun a hF => hK _ _ ?_⟩
                      clear hK K
                      replace hA58 : Hp w0 (Zt :: [row rb 152 [.slice A0 raw.length c0, .int .i64 ((gotVal raw p 0).p : Nat), .int .i64 ((gotVal raw p 0).y : Nat)]] :: X :: ZA :: ZM :: ZV :: ZS :: [row b19 129 [.bool f.typed, .bool f.cased, .bool f.named, .bool f.valued, .bool f.args, .bool f.source]] :: [row b12 31 ([.int .i64 ((k : Nat) : Int), .int .i64 (i64 n), .int .i64 (i64 cl), strV typ, strV cas, strV nam, .int .i64 vb.v.k, .int .i64 vb.v.n, strV vb.v.t, .slice vb.sA vb.v.s.length vb.sC, vA, .slice bA src.length bC] ++ dc (List.replicate 32 0))] :: [row b1 31 noEA.cells] :: R) w57 := hA58
                      refine vc_y hF rfl rfl (by decide) _ (y_move rfl rfl) (fun a hF => ?_)
                      refine vc_y hF rfl rfl (by decide) _ (y_extract (v := .agg ([.int .i64 va.v.k, .int .i64 va.v.n, strV va.v.t, .slice va.sA va.v.s.length va.sC]).toArray) rfl rfl rfl) (fun a hF => ?_)
                      refine vc_y hF rfl rfl (by decide) _ (y_extract (v := .int .i64 ((gotVal raw p 0).y : Nat)) rfl rfl rfl) (fun a hF => ?_)
                      refine vc_op rfl (fun K hK => hs_alloc hF rfl (by decide) rfl hA58 (zr25_v7) (fun b59 w60 a hb59 hF hA61 => hK _ _ ?_))
                      clear hK K
                      replace hA61 : Hp w0 ([row b59 25 [.int .i64 0, .int .i64 0, .string (⟨#[]⟩), .slice none 0 0]] :: Zt :: [row rb 152 [.slice A0 raw.length c0, .int .i64 ((gotVal raw p 0).p : Nat), .int .i64 ((gotVal raw p 0).y : Nat)]] :: X :: ZA :: ZM :: ZV :: ZS :: [row b19 129 [.bool f.typed, .bool f.cased, .bool f.named, .bool f.valued, .bool f.args, .bool f.source]] :: [row b12 31 ([.int .i64 ((k : Nat) : Int), .int .i64 (i64 n), .int .i64 (i64 cl), strV typ, strV cas, strV nam, .int .i64 vb.v.k, .int .i64 vb.v.n, strV vb.v.t, .slice vb.sA vb.v.s.length vb.sC, vA, .slice bA src.length bC] ++ dc (List.replicate 32 0))] :: [row b1 31 noEA.cells] :: R) w60 := hA61
                      refine vc_op rfl (fun K hK => hs_storeAll (new := [.int .i64 va.v.k, .int .i64 va.v.n, strV va.v.t, .slice va.sA va.v.s.length va.sC]) hF rfl rfl hA61 rfl rfl 0 rfl rfl (by simp [Value.oneCell']) sz25_v7 (fun w62 hA63 => hK _ _ ?_))
                      clear hK K
                      replace hA63 : Hp w0 ([row b59 25 [.int .i64 va.v.k, .int .i64 va.v.n, strV va.v.t, .slice va.sA va.v.s.length va.sC]] :: Zt :: [row rb 152 [.slice A0 raw.length c0, .int .i64 ((gotVal raw p 0).p : Nat), .int .i64 ((gotVal raw p 0).y : Nat)]] :: X :: ZA :: ZM :: ZV :: ZS :: [row b19 129 [.bool f.typed, .bool f.cased, .bool f.named, .bool f.valued, .bool f.args, .bool f.source]] :: [row b12 31 ([.int .i64 ((k : Nat) : Int), .int .i64 (i64 n), .int .i64 (i64 cl), strV typ, strV cas, strV nam, .int .i64 vb.v.k, .int .i64 vb.v.n, strV vb.v.t, .slice vb.sA vb.v.s.length vb.sC, vA, .slice bA src.length bC] ++ dc (List.replicate 32 0))] :: [row b1 31 noEA.cells] :: R) w62 := hA63
                      refine vc_y hF rfl rfl (by decide) _ (y_assign rfl rfl) (fun a hF => ?_)
                      refine vc_nil ?_
                      refine hK34 _ _ ?_; clear  hK34 K34
                      refine wp_region_lit ?_
                      refine vc_y hF rfl rfl (by decide) _ (y_field rfl Tryz.underlying31 rfl sz26_v7 (by decide) rfl (rfl : (⟨_, 0 + _, none⟩ : Addr) = ⟨_, 10, none⟩)) (fun a hF => ?_)
                      refine vc_y hF rfl rfl (by decide) _ (y_ld rfl hA63.q rfl 9 rfl rfl nr26_v7) (fun a hF => ?_)
                      refine vc_y hF rfl rfl (by decide) _ (y_ldRow (new := [.int .i64 va.v.k, .int .i64 va.v.n, strV va.v.t, .slice va.sA va.v.s.length va.sC]) rfl hA63.q rfl 0 rfl rw25_v7 (Nat.le_of_ble_eq_true rfl) rfl) (fun a hF => ?_)
                      refine vc_op rfl (fun K hK => hs_bs (qs := #[(0, .agg va.cells.toArray)]) (cells := va.cells.toArray) hF rfl (by decide) rfl hA63 rfl (ev_bsV va) (fun b64 w65 a hb64 hF hA66 => hK _ _ ?_))
                      clear hK K
                      replace hA66 : Hp w0 ([row b64 25 va.cells] :: [row b59 25 [.int .i64 va.v.k, .int .i64 va.v.n, strV va.v.t, .slice va.sA va.v.s.length va.sC]] :: Zt :: [row rb 152 [.slice A0 raw.length c0, .int .i64 ((gotVal raw p 0).p : Nat), .int .i64 ((gotVal raw p 0).y : Nat)]] :: X :: ZA :: ZM :: ZV :: ZS :: [row b19 129 [.bool f.typed, .bool f.cased, .bool f.named, .bool f.valued, .bool f.args, .bool f.source]] :: [row b12 31 ([.int .i64 ((k : Nat) : Int), .int .i64 (i64 n), .int .i64 (i64 cl), strV typ, strV cas, strV nam, .int .i64 vb.v.k, .int .i64 vb.v.n, strV vb.v.t, .slice vb.sA vb.v.s.length vb.sC, vA, .slice bA src.length bC] ++ dc (List.replicate 32 0))] :: [row b1 31 noEA.cells] :: R) w65 := hA66
                      refine vc_op rfl (fun K hK => hs_append hF rfl (by decide) rfl hA66 5 rfl hZ Tryz.underlying26 ev_elemV rfl rfl (Rc.srcC (W := va.cells) (m := 1) (size := 4) (R := [row b64 25 va.cells] :: [row b59 25 [.int .i64 va.v.k, .int .i64 va.v.n, strV va.v.t, .slice va.sA va.v.s.length va.sC]] :: Zt :: [row rb 152 [.slice A0 raw.length c0, .int .i64 ((gotVal raw p 0).p : Nat), .int .i64 ((gotVal raw p 0).y : Nat)]] :: X :: ZA :: ZM :: ZV :: ZS :: [row b19 129 [.bool f.typed, .bool f.cased, .bool f.named, .bool f.valued, .bool f.args, .bool f.source]] :: [row b12 31 ([.int .i64 ((k : Nat) : Int), .int .i64 (i64 n), .int .i64 (i64 cl), strV typ, strV cas, strV nam, .int .i64 vb.v.k, .int .i64 vb.v.n, strV vb.v.t, .slice vb.sA vb.v.s.length vb.sC, vA, .slice bA src.length bC] ++ dc (List.replicate 32 0))] :: [row b1 31 noEA.cells] :: R) (Rc.ofRow (i := 0) (off := 0) rfl rfl) hA66.q Tryz.underlying26 (by decide) rfl (va_one va)) (by omega) (by decide) (fun v2 Z2 w67 a hZ2 hF hA68 => hK _ _ ?_))
                      clear hK K
                      replace hA68 : Hp w0 ([row b64 25 va.cells] :: [row b59 25 [.int .i64 va.v.k, .int .i64 va.v.n, strV va.v.t, .slice va.sA va.v.s.length va.sC]] :: Zt :: [row rb 152 [.slice A0 raw.length c0, .int .i64 ((gotVal raw p 0).p : Nat), .int .i64 ((gotVal raw p 0).y : Nat)]] :: X :: Z2 :: ZM :: ZV :: ZS :: [row b19 129 [.bool f.typed, .bool f.cased, .bool f.named, .bool f.valued, .bool f.args, .bool f.source]] :: [row b12 31 ([.int .i64 ((k : Nat) : Int), .int .i64 (i64 n), .int .i64 (i64 cl), strV typ, strV cas, strV nam, .int .i64 vb.v.k, .int .i64 vb.v.n, strV vb.v.t, .slice vb.sA vb.v.s.length vb.sC, vA, .slice bA src.length bC] ++ dc (List.replicate 32 0))] :: [row b1 31 noEA.cells] :: R) w67 := hA68
                      refine vc_y hF rfl rfl (by decide) _ (y_field rfl Tryz.underlying31 rfl sz26_v7 (by decide) rfl (rfl : (⟨_, 0 + _, none⟩ : Addr) = ⟨_, 10, none⟩)) (fun a hF => ?_)
                      refine vc_op rfl (fun K hK => hs_store1 hF rfl rfl hA68 rfl rfl 10 rfl (by simp) hZ2.one sz26_v7 (fun w69 hA70 => hK _ _ ?_))
                      clear hK K
                      replace hA70 : Hp w0 ([row b64 25 va.cells] :: [row b59 25 [.int .i64 va.v.k, .int .i64 va.v.n, strV va.v.t, .slice va.sA va.v.s.length va.sC]] :: Zt :: [row rb 152 [.slice A0 raw.length c0, .int .i64 ((gotVal raw p 0).p : Nat), .int .i64 ((gotVal raw p 0).y : Nat)]] :: X :: Z2 :: ZM :: ZV :: ZS :: [row b19 129 [.bool f.typed, .bool f.cased, .bool f.named, .bool f.valued, .bool f.args, .bool f.source]] :: [row b12 31 ([.int .i64 ((k : Nat) : Int), .int .i64 (i64 n), .int .i64 (i64 cl), strV typ, strV cas, strV nam, .int .i64 vb.v.k, .int .i64 vb.v.n, strV vb.v.t, .slice vb.sA vb.v.s.length vb.sC, v2, .slice bA src.length bC] ++ dc (List.replicate 32 0))] :: [row b1 31 noEA.cells] :: R) w69 := hA70
                      refine vc_nil ?_
                      refine hK33 _ _ ?_; clear  hK33 K33
                      refine wp_region_lit ?_
                      refine vc_y hF rfl rfl (by decide) _ (y_move rfl rfl) (fun a hF => ?_)
                      refine vc_y hF rfl rfl (by decide) _ (y_sub rfl rfl rfl (show IntKind.u8.wrap (((m + 1 : Nat) : Int) - 1) = ((m : Nat) : Int) by rw [IntKind.wrap_u8]; omega)) (fun a hF => ?_)
                      refine vc_y hF rfl rfl (by decide) _ (y_assign rfl rfl) (fun a hF => ?_)
                      refine vc_nil ?_
                      have hA71 : Hp w0 (Z2 :: ZM :: Zt :: [row b64 25 va.cells] :: [row b59 25 [.int .i64 va.v.k, .int .i64 va.v.n, strV va.v.t, .slice va.sA va.v.s.length va.sC]] :: [row rb 152 [.slice A0 raw.length c0, .int .i64 ((gotVal raw p 0).p : Nat), .int .i64 ((gotVal raw p 0).y : Nat)]] :: X :: ZV :: ZS :: [row b19 129 [.bool f.typed, .bool f.cased, .bool f.named, .bool f.valued, .bool f.args, .bool f.source]] :: [row b12 31 ([.int .i64 ((k : Nat) : Int), .int .i64 (i64 n), .int .i64 (i64 cl), strV typ, strV cas, strV nam, .int .i64 vb.v.k, .int .i64 vb.v.n, strV vb.v.t, .slice vb.sA vb.v.s.length vb.sC, v2, .slice bA src.length bC] ++ dc (List.replicate 32 0))] :: [row b1 31 noEA.cells] :: R) w69 := Hp.ord [[row b64 25 va.cells], [row b59 25 [.int .i64 va.v.k, .int .i64 va.v.n, strV va.v.t, .slice va.sA va.v.s.length va.sC]], Zt, [row rb 152 [.slice A0 raw.length c0, .int .i64 ((gotVal raw p 0).p : Nat), .int .i64 ((gotVal raw p 0).y : Nat)]], X, Z2, ZM, ZV, ZS, [row b19 129 [.bool f.typed, .bool f.cased, .bool f.named, .bool f.valued, .bool f.args, .bool f.source]], [row b12 31 ([.int .i64 ((k : Nat) : Int), .int .i64 (i64 n), .int .i64 (i64 cl), strV typ, strV cas, strV nam, .int .i64 vb.v.k, .int .i64 vb.v.n, strV vb.v.t, .slice vb.sA vb.v.s.length vb.sC, v2, .slice bA src.length bC] ++ dc (List.replicate 32 0))], [row b1 31 noEA.cells]] R [5, 6, 2, 0, 1, 3, 4, 7, 8, 9, 10, 11] hA70 (by kernel_rfl)
                      have hA72 : Hp w0 (Z2 :: (ZM ++ Zt) :: [row b64 25 va.cells] :: [row b59 25 [.int .i64 va.v.k, .int .i64 va.v.n, strV va.v.t, .slice va.sA va.v.s.length va.sC]] :: [row rb 152 [.slice A0 raw.length c0, .int .i64 ((gotVal raw p 0).p : Nat), .int .i64 ((gotVal raw p 0).y : Nat)]] :: X :: ZV :: ZS :: [row b19 129 [.bool f.typed, .bool f.cased, .bool f.named, .bool f.valued, .bool f.args, .bool f.source]] :: [row b12 31 ([.int .i64 ((k : Nat) : Int), .int .i64 (i64 n), .int .i64 (i64 cl), strV typ, strV cas, strV nam, .int .i64 vb.v.k, .int .i64 vb.v.n, strV vb.v.t, .slice vb.sA vb.v.s.length vb.sC, v2, .slice bA src.length bC] ++ dc (List.replicate 32 0))] :: [row b1 31 noEA.cells] :: R) w69 := Hp.cast hA71 (by simp [List.append_assoc])
                      have hA73 : Hp w0 (Z2 :: (ZM ++ Zt) :: [row rb 152 [.slice A0 raw.length c0, .int .i64 ((gotVal raw p 0).p : Nat), .int .i64 ((gotVal raw p 0).y : Nat)]] :: X :: ZV :: ZS :: [row b19 129 [.bool f.typed, .bool f.cased, .bool f.named, .bool f.valued, .bool f.args, .bool f.source]] :: [row b12 31 ([.int .i64 ((k : Nat) : Int), .int .i64 (i64 n), .int .i64 (i64 cl), strV typ, strV cas, strV nam, .int .i64 vb.v.k, .int .i64 vb.v.n, strV vb.v.t, .slice vb.sA vb.v.s.length vb.sC, v2, .slice bA src.length bC] ++ dc (List.replicate 32 0))] :: [row b1 31 noEA.cells] :: R) w69 := Hp.sel [Z2, (ZM ++ Zt), [row b64 25 va.cells], [row b59 25 [.int .i64 va.v.k, .int .i64 va.v.n, strV va.v.t, .slice va.sA va.v.s.length va.sC]], [row rb 152 [.slice A0 raw.length c0, .int .i64 ((gotVal raw p 0).p : Nat), .int .i64 ((gotVal raw p 0).y : Nat)]], X, ZV, ZS, [row b19 129 [.bool f.typed, .bool f.cased, .bool f.named, .bool f.valued, .bool f.args, .bool f.source]], [row b12 31 ([.int .i64 ((k : Nat) : Int), .int .i64 (i64 n), .int .i64 (i64 cl), strV typ, strV cas, strV nam, .int .i64 vb.v.k, .int .i64 vb.v.n, strV vb.v.t, .slice vb.sA vb.v.s.length vb.sC, v2, .slice bA src.length bC] ++ dc (List.replicate 32 0))], [row b1 31 noEA.cells]] R [0, 1, 4, 5, 6, 7, 8, 9, 10] [2, 3] hA72 (by kernel_rfl)
                      exact ⟨m, by omega, ws ++ [va], _, _, ZM ++ Zt, _, _, by rw [hgv, gotVals_step]; simp [hva], by rw [argC_snoc, List.length_append]; exact hZ2, oks_snoc has hvo, hpt, by rw [List.length_append]; show ws.length + 1 + m ≤ 255; omega, hF.keep [8, 0, 2, 4, 5, 6] rfl, hA73⟩
                    · refine vc_falseB hF rfl (eql_f (by omega)) ?_
                      apply wp_exit
                      rw [gotVals_stop hy] at hgv
                      simp only [List.append_nil] at hgv
                      obtain ⟨aA, aC, rfl, _, hRa⟩ := hZ.rc (w0 := w0) (R := [ZA]) (List.mem_cons_self ..)
                      have hA74 : Hp w0 (ZA :: ZM :: ZV :: ZS :: [row b19 129 [.bool f.typed, .bool f.cased, .bool f.named, .bool f.valued, .bool f.args, .bool f.source]] :: [row b12 31 ([.int .i64 ((k : Nat) : Int), .int .i64 (i64 n), .int .i64 (i64 cl), strV typ, strV cas, strV nam, .int .i64 vb.v.k, .int .i64 vb.v.n, strV vb.v.t, .slice vb.sA vb.v.s.length vb.sC, .slice aA ws.length aC, .slice bA src.length bC] ++ dc (List.replicate 32 0))] :: [row rb 152 [.slice A0 raw.length c0, .int .i64 (p : Nat), .int .i64 (y : Nat)]] :: X :: [row b1 31 noEA.cells] :: R) w55 := Hp.ord [[row rb 152 [.slice A0 raw.length c0, .int .i64 (p : Nat), .int .i64 (y : Nat)]], X, ZA, ZM, ZV, ZS, [row b19 129 [.bool f.typed, .bool f.cased, .bool f.named, .bool f.valued, .bool f.args, .bool f.source]], [row b12 31 ([.int .i64 ((k : Nat) : Int), .int .i64 (i64 n), .int .i64 (i64 cl), strV typ, strV cas, strV nam, .int .i64 vb.v.k, .int .i64 vb.v.n, strV vb.v.t, .slice vb.sA vb.v.s.length vb.sC, .slice aA ws.length aC, .slice bA src.length bC] ++ dc (List.replicate 32 0))], [row b1 31 noEA.cells]] R [2, 3, 4, 5, 6, 7, 0, 1, 8] hA56 rfl
                      exact hJ5 _ _ ws aA aC ZA ZM n1 q1 z1 p y (by rw [hb]; exact hgn) hgv hRa has (by omega) hpm (hF.keep [0, 2, 4, 5, 6] rfl) hA74
                  · obtain rfl : m = 0 := by omega
                    apply wp_seq_k; intro K35 hK35
                    apply wp_seq_k; intro K36 hK36
                    refine wp_region_lit ?_
                    refine vc_y hF rfl rfl (by decide) _ (y_move rfl rfl) (fun a hF => ?_)
                    refine vc_y hF rfl rfl (by decide) _ (y_cmp rfl rfl rfl rfl ((gtr_f (by omega)))) (fun a hF => ?_)
                    refine vc_y hF rfl rfl (by decide) _ (y_move rfl rfl) (fun a hF => ?_)
                    refine vc_skip hF rfl rfl rfl rfl rfl (ne_want rfl) (by decide) (fun a hF => ?_)
                    refine vc_skip hF rfl rfl rfl rfl rfl (ne_want rfl) (by decide) (fun a hF => ?_)
                    refine vc_skip hF rfl rfl rfl rfl rfl (ne_want rfl) (by decide) (fun a hF => ?_)
                    refine vc_y hF rfl rfl (by decide) _ (y_pickF rfl rfl rfl rfl) (fun a hF => ?_)
                    refine vc_nil ?_
                    refine hK36 _ _ ?_; clear  hK36 K36
                    refine vc_false hF rfl ?_
                    apply wp_exit
                    rw [show gotVals raw 0 p y = ⟨[], p, y⟩ from rfl] at hgv
                    simp only [List.append_nil] at hgv
                    obtain ⟨aA, aC, rfl, _, hRa⟩ := hZ.rc (w0 := w0) (R := [ZA]) (List.mem_cons_self ..)
                    have hA75 : Hp w0 (ZA :: ZM :: ZV :: ZS :: [row b19 129 [.bool f.typed, .bool f.cased, .bool f.named, .bool f.valued, .bool f.args, .bool f.source]] :: [row b12 31 ([.int .i64 ((k : Nat) : Int), .int .i64 (i64 n), .int .i64 (i64 cl), strV typ, strV cas, strV nam, .int .i64 vb.v.k, .int .i64 vb.v.n, strV vb.v.t, .slice vb.sA vb.v.s.length vb.sC, .slice aA ws.length aC, .slice bA src.length bC] ++ dc (List.replicate 32 0))] :: [row rb 152 [.slice A0 raw.length c0, .int .i64 (p : Nat), .int .i64 (y : Nat)]] :: X :: [row b1 31 noEA.cells] :: R) w53 := Hp.ord [ZA, ZM, [row rb 152 [.slice A0 raw.length c0, .int .i64 (p : Nat), .int .i64 (y : Nat)]], X, ZV, ZS, [row b19 129 [.bool f.typed, .bool f.cased, .bool f.named, .bool f.valued, .bool f.args, .bool f.source]], [row b12 31 ([.int .i64 ((k : Nat) : Int), .int .i64 (i64 n), .int .i64 (i64 cl), strV typ, strV cas, strV nam, .int .i64 vb.v.k, .int .i64 vb.v.n, strV vb.v.t, .slice vb.sA vb.v.s.length vb.sC, .slice aA ws.length aC, .slice bA src.length bC] ++ dc (List.replicate 32 0))], [row b1 31 noEA.cells]] R [0, 1, 4, 5, 6, 7, 2, 3, 8] hA52 rfl
                    exact hJ5 _ _ ws aA aC ZA ZM n1 q1 z1 p y (by rw [hb]; exact hgn) hgv hRa has (by omega) hpm (hF.keep [0, 2, 4, 5, 6] rfl) hA75
              rcases tf f.valued with hb | hb
              · refine vc_falseB hF rfl hb ?_
                apply wp_skip
                exact hJ4 _ _ ⟨noVal, none, 0⟩ [] p7 y7 (by rw [hb]; rfl) noVal_ok hp7 (hF.keep [0, 2, 4, 5, 6] rfl) (Hp.nil hA)
              · refine vc_trueB hF rfl hb ?_
                refine wp_region_lit ?_
                refine vc_y hF rfl rfl (by decide) _ (y_move rfl rfl) (fun a hF => ?_)
                have hA76 : Hp w0 ([row rb 152 [.slice A0 raw.length c0, .int .i64 (p7 : Nat), .int .i64 (y7 : Nat)]] :: X :: ZS :: [row b19 129 [.bool f.typed, .bool f.cased, .bool f.named, .bool f.valued, .bool f.args, .bool f.source]] :: [row b12 31 ([.int .i64 ((k : Nat) : Int), .int .i64 (i64 n), .int .i64 (i64 cl), strV typ, strV cas, strV nam, .int .i64 0, .int .i64 0, strV [], .slice none 0 0, .slice none 0 0, .slice bA src.length bC] ++ dc (List.replicate 32 0))] :: [row b1 31 noEA.cells] :: R) x := Hp.ord [ZS, [row b19 129 [.bool f.typed, .bool f.cased, .bool f.named, .bool f.valued, .bool f.args, .bool f.source]], [row b12 31 ([.int .i64 ((k : Nat) : Int), .int .i64 (i64 n), .int .i64 (i64 cl), strV typ, strV cas, strV nam, .int .i64 0, .int .i64 0, strV [], .slice none 0 0, .slice none 0 0, .slice bA src.length bC] ++ dc (List.replicate 32 0))], [row rb 152 [.slice A0 raw.length c0, .int .i64 (p7 : Nat), .int .i64 (y7 : Nat)]], X, [row b1 31 noEA.cells]] R [3, 4, 0, 1, 2, 5] hA rfl
                refine vc_op rfl (fun K hK => ws_call hF rfl (by decide) cl35_v7 rfl rfl ?_)
                with_reducible refine (ev_take w0 _ (ZS :: [row b19 129 [.bool f.typed, .bool f.cased, .bool f.named, .bool f.valued, .bool f.args, .bool f.source]] :: [row b12 31 ([.int .i64 ((k : Nat) : Int), .int .i64 (i64 n), .int .i64 (i64 cl), strV typ, strV cas, strV nam, .int .i64 0, .int .i64 0, strV [], .slice none 0 0, .slice none 0 0, .slice bA src.length bC] ++ dc (List.replicate 32 0))] :: [row b1 31 noEA.cells] :: R) rb A0 raw c0 p7 y7 X hO hA76 hp7 (by omega) ).mono ?_
                rintro e' w77 ⟨va, Zt, rfl, hva, hvo, hpt, hA78⟩
                refine ⟨_, rfl, fun a hF => hK _ _ ?_⟩
                clear hK K
                replace hA78 : Hp w0 (Zt :: [row rb 152 [.slice A0 raw.length c0, .int .i64 ((gotVal raw p7 y7).p : Nat), .int .i64 ((gotVal raw p7 y7).y : Nat)]] :: X :: ZS :: [row b19 129 [.bool f.typed, .bool f.cased, .bool f.named, .bool f.valued, .bool f.args, .bool f.source]] :: [row b12 31 ([.int .i64 ((k : Nat) : Int), .int .i64 (i64 n), .int .i64 (i64 cl), strV typ, strV cas, strV nam, .int .i64 0, .int .i64 0, strV [], .slice none 0 0, .slice none 0 0, .slice bA src.length bC] ++ dc (List.replicate 32 0))] :: [row b1 31 noEA.cells] :: R) w77 := hA78
                refine vc_y hF rfl rfl (by decide) _ (y_move rfl rfl) (fun a hF => ?_)
                refine vc_y hF rfl rfl (by decide) _ (y_extract (v := .agg ([.int .i64 va.v.k, .int .i64 va.v.n, strV va.v.t, .slice va.sA va.v.s.length va.sC]).toArray) rfl rfl rfl) (fun a hF => ?_)
                refine vc_y hF rfl rfl (by decide) _ (y_extract (v := .int .i64 ((gotVal raw p7 y7).y : Nat)) rfl rfl rfl) (fun a hF => ?_)
                refine vc_y hF rfl rfl (by decide) _ (y_field rfl Tryz.underlying31 rfl sz25_v7 (by decide) rfl (rfl : (⟨_, 0 + _, none⟩ : Addr) = ⟨_, 6, none⟩)) (fun a hF => ?_)
                refine vc_op rfl (fun K hK => hs_storeRow (new := [.int .i64 va.v.k, .int .i64 va.v.n, strV va.v.t, .slice va.sA va.v.s.length va.sC]) hF rfl rfl hA78 rfl rfl 5 rfl (by rw [List.length_append]; exact Nat.le_add_right_of_le (Nat.le_of_ble_eq_true rfl)) (by simp [Value.oneCell']) sz25_v7 (fun w79 hA80 => hK _ _ ?_))
                clear hK K
                replace hA80 : Hp w0 (Zt :: [row rb 152 [.slice A0 raw.length c0, .int .i64 ((gotVal raw p7 y7).p : Nat), .int .i64 ((gotVal raw p7 y7).y : Nat)]] :: X :: ZS :: [row b19 129 [.bool f.typed, .bool f.cased, .bool f.named, .bool f.valued, .bool f.args, .bool f.source]] :: [row b12 31 ([.int .i64 ((k : Nat) : Int), .int .i64 (i64 n), .int .i64 (i64 cl), strV typ, strV cas, strV nam, .int .i64 va.v.k, .int .i64 va.v.n, strV va.v.t, .slice va.sA va.v.s.length va.sC, .slice none 0 0, .slice bA src.length bC] ++ dc (List.replicate 32 0))] :: [row b1 31 noEA.cells] :: R) w79 := hA80
                refine vc_nil ?_
                have hA81 : Hp w0 (Zt :: ZS :: [row b19 129 [.bool f.typed, .bool f.cased, .bool f.named, .bool f.valued, .bool f.args, .bool f.source]] :: [row b12 31 ([.int .i64 ((k : Nat) : Int), .int .i64 (i64 n), .int .i64 (i64 cl), strV typ, strV cas, strV nam, .int .i64 va.v.k, .int .i64 va.v.n, strV va.v.t, .slice va.sA va.v.s.length va.sC, .slice none 0 0, .slice bA src.length bC] ++ dc (List.replicate 32 0))] :: [row rb 152 [.slice A0 raw.length c0, .int .i64 ((gotVal raw p7 y7).p : Nat), .int .i64 ((gotVal raw p7 y7).y : Nat)]] :: X :: [row b1 31 noEA.cells] :: R) w79 := Hp.ord [Zt, [row rb 152 [.slice A0 raw.length c0, .int .i64 ((gotVal raw p7 y7).p : Nat), .int .i64 ((gotVal raw p7 y7).y : Nat)]], X, ZS, [row b19 129 [.bool f.typed, .bool f.cased, .bool f.named, .bool f.valued, .bool f.args, .bool f.source]], [row b12 31 ([.int .i64 ((k : Nat) : Int), .int .i64 (i64 n), .int .i64 (i64 cl), strV typ, strV cas, strV nam, .int .i64 va.v.k, .int .i64 va.v.n, strV va.v.t, .slice va.sA va.v.s.length va.sC, .slice none 0 0, .slice bA src.length bC] ++ dc (List.replicate 32 0))], [row b1 31 noEA.cells]] R [0, 3, 4, 5, 1, 2, 6] hA80 rfl
                exact hJ4 _ _ va Zt _ _ (by rw [hb, hva]; rfl) hvo hpt (hF.keep [0, 2, 4, 5, 6] rfl) hA81
            rcases tf f.source with hb | hb
            · refine vc_falseB hF rfl hb ?_
              apply wp_skip
              exact hJ3 _ _ [] none 0 [] p6 y6 (by rw [hb]; rfl) Rc.nil (Nat.zero_le _) hp6 (hF.keep [0, 2, 4, 5, 6] rfl) (Hp.nil hA)
            · refine vc_trueB hF rfl hb ?_
              refine wp_region_lit ?_
              refine vc_y hF rfl rfl (by decide) _ (y_move rfl rfl) (fun a hF => ?_)
              have hA82 : Hp w0 ([row rb 152 [.slice A0 raw.length c0, .int .i64 (p6 : Nat), .int .i64 (y6 : Nat)]] :: X :: [row b19 129 [.bool f.typed, .bool f.cased, .bool f.named, .bool f.valued, .bool f.args, .bool f.source]] :: [row b12 31 ([.int .i64 ((k : Nat) : Int), .int .i64 (i64 n), .int .i64 (i64 cl), strV typ, strV cas, strV nam, .int .i64 0, .int .i64 0, strV [], .slice none 0 0, .slice none 0 0, .slice none 0 0] ++ dc (List.replicate 32 0))] :: [row b1 31 noEA.cells] :: R) x := Hp.ord [[row b19 129 [.bool f.typed, .bool f.cased, .bool f.named, .bool f.valued, .bool f.args, .bool f.source]], [row b12 31 ([.int .i64 ((k : Nat) : Int), .int .i64 (i64 n), .int .i64 (i64 cl), strV typ, strV cas, strV nam, .int .i64 0, .int .i64 0, strV [], .slice none 0 0, .slice none 0 0, .slice none 0 0] ++ dc (List.replicate 32 0))], [row rb 152 [.slice A0 raw.length c0, .int .i64 (p6 : Nat), .int .i64 (y6 : Nat)]], X, [row b1 31 noEA.cells]] R [2, 3, 0, 1, 4] hA rfl
              refine vc_op rfl (fun K hK => ws_call hF rfl (by decide) cl82_v7 rfl rfl ?_)
              with_reducible refine (hg_bytes w0 _ ([row b19 129 [.bool f.typed, .bool f.cased, .bool f.named, .bool f.valued, .bool f.args, .bool f.source]] :: [row b12 31 ([.int .i64 ((k : Nat) : Int), .int .i64 (i64 n), .int .i64 (i64 cl), strV typ, strV cas, strV nam, .int .i64 0, .int .i64 0, strV [], .slice none 0 0, .slice none 0 0, .slice none 0 0] ++ dc (List.replicate 32 0))] :: [row b1 31 noEA.cells] :: R) rb A0 raw c0 p6 y6 X 60000 hO hA82 hp6 (by omega) ).mono ?_
              rintro e' w83 ⟨st, pt, yt, At, ct, Zt, rfl, hgt, hpt, hRt, hlt, hA84⟩
              refine ⟨_, rfl, fun a hF => hK _ _ ?_⟩
              clear hK K
              replace hA84 : Hp w0 (Zt :: [row rb 152 [.slice A0 raw.length c0, .int .i64 (pt : Nat), .int .i64 (yt : Nat)]] :: X :: [row b19 129 [.bool f.typed, .bool f.cased, .bool f.named, .bool f.valued, .bool f.args, .bool f.source]] :: [row b12 31 ([.int .i64 ((k : Nat) : Int), .int .i64 (i64 n), .int .i64 (i64 cl), strV typ, strV cas, strV nam, .int .i64 0, .int .i64 0, strV [], .slice none 0 0, .slice none 0 0, .slice none 0 0] ++ dc (List.replicate 32 0))] :: [row b1 31 noEA.cells] :: R) w83 := hA84
              refine vc_y hF rfl rfl (by decide) _ (y_field rfl Tryz.underlying31 rfl sz27_v7 (by decide) rfl (rfl : (⟨_, 0 + _, none⟩ : Addr) = ⟨_, 11, none⟩)) (fun a hF => ?_)
              refine vc_op rfl (fun K hK => hs_store1 hF rfl rfl hA84 rfl rfl 4 rfl (by simp) rfl sz27_v7 (fun w85 hA86 => hK _ _ ?_))
              clear hK K
              replace hA86 : Hp w0 (Zt :: [row rb 152 [.slice A0 raw.length c0, .int .i64 (pt : Nat), .int .i64 (yt : Nat)]] :: X :: [row b19 129 [.bool f.typed, .bool f.cased, .bool f.named, .bool f.valued, .bool f.args, .bool f.source]] :: [row b12 31 ([.int .i64 ((k : Nat) : Int), .int .i64 (i64 n), .int .i64 (i64 cl), strV typ, strV cas, strV nam, .int .i64 0, .int .i64 0, strV [], .slice none 0 0, .slice none 0 0, .slice At st.length ct] ++ dc (List.replicate 32 0))] :: [row b1 31 noEA.cells] :: R) w85 := hA86
              refine vc_nil ?_
              have hA87 : Hp w0 (Zt :: [row b19 129 [.bool f.typed, .bool f.cased, .bool f.named, .bool f.valued, .bool f.args, .bool f.source]] :: [row b12 31 ([.int .i64 ((k : Nat) : Int), .int .i64 (i64 n), .int .i64 (i64 cl), strV typ, strV cas, strV nam, .int .i64 0, .int .i64 0, strV [], .slice none 0 0, .slice none 0 0, .slice At st.length ct] ++ dc (List.replicate 32 0))] :: [row rb 152 [.slice A0 raw.length c0, .int .i64 (pt : Nat), .int .i64 (yt : Nat)]] :: X :: [row b1 31 noEA.cells] :: R) w85 := Hp.ord [Zt, [row rb 152 [.slice A0 raw.length c0, .int .i64 (pt : Nat), .int .i64 (yt : Nat)]], X, [row b19 129 [.bool f.typed, .bool f.cased, .bool f.named, .bool f.valued, .bool f.args, .bool f.source]], [row b12 31 ([.int .i64 ((k : Nat) : Int), .int .i64 (i64 n), .int .i64 (i64 cl), strV typ, strV cas, strV nam, .int .i64 0, .int .i64 0, strV [], .slice none 0 0, .slice none 0 0, .slice At st.length ct] ++ dc (List.replicate 32 0))], [row b1 31 noEA.cells]] R [0, 3, 4, 1, 2, 5] hA86 rfl
              exact hJ3 _ _ st At ct Zt pt yt (by rw [hb]; exact hgt) hRt hlt hpt (hF.keep [0, 2, 4, 5, 6] rfl) hA87
          rcases tf f.named with hb | hb
          · refine vc_falseB hF rfl hb ?_
            apply wp_skip
            exact hJ2 _ _ [] p5 y5 (by rw [hb]; rfl) hp5 (hF.keep [0, 2, 4, 5, 6] rfl) hA
          · refine vc_trueB hF rfl hb ?_
            refine wp_region_lit ?_
            refine vc_y hF rfl rfl (by decide) _ (y_move rfl rfl) (fun a hF => ?_)
            have hA88 : Hp w0 ([row rb 152 [.slice A0 raw.length c0, .int .i64 (p5 : Nat), .int .i64 (y5 : Nat)]] :: X :: [row b19 129 [.bool f.typed, .bool f.cased, .bool f.named, .bool f.valued, .bool f.args, .bool f.source]] :: [row b12 31 ([.int .i64 ((k : Nat) : Int), .int .i64 (i64 n), .int .i64 (i64 cl), strV typ, strV cas, strV [], .int .i64 0, .int .i64 0, strV [], .slice none 0 0, .slice none 0 0, .slice none 0 0] ++ dc (List.replicate 32 0))] :: [row b1 31 noEA.cells] :: R) x := Hp.ord [[row b19 129 [.bool f.typed, .bool f.cased, .bool f.named, .bool f.valued, .bool f.args, .bool f.source]], [row b12 31 ([.int .i64 ((k : Nat) : Int), .int .i64 (i64 n), .int .i64 (i64 cl), strV typ, strV cas, strV [], .int .i64 0, .int .i64 0, strV [], .slice none 0 0, .slice none 0 0, .slice none 0 0] ++ dc (List.replicate 32 0))], [row rb 152 [.slice A0 raw.length c0, .int .i64 (p5 : Nat), .int .i64 (y5 : Nat)]], X, [row b1 31 noEA.cells]] R [2, 3, 0, 1, 4] hA rfl
            refine vc_op rfl (fun K hK => ws_call hF rfl (by decide) cl81_v7 rfl rfl ?_)
            with_reducible refine (hg_text w0 _ ([row b19 129 [.bool f.typed, .bool f.cased, .bool f.named, .bool f.valued, .bool f.args, .bool f.source]] :: [row b12 31 ([.int .i64 ((k : Nat) : Int), .int .i64 (i64 n), .int .i64 (i64 cl), strV typ, strV cas, strV [], .int .i64 0, .int .i64 0, strV [], .slice none 0 0, .slice none 0 0, .slice none 0 0] ++ dc (List.replicate 32 0))] :: [row b1 31 noEA.cells] :: R) rb A0 raw c0 p5 y5 X 64 hO hA88 hp5 (by omega) ).mono ?_
            rintro e' w89 ⟨st, pt, yt, rfl, hgt, hpt, hA90⟩
            refine ⟨_, rfl, fun a hF => hK _ _ ?_⟩
            clear hK K
            replace hA90 : Hp w0 ([row rb 152 [.slice A0 raw.length c0, .int .i64 (pt : Nat), .int .i64 (yt : Nat)]] :: X :: [row b19 129 [.bool f.typed, .bool f.cased, .bool f.named, .bool f.valued, .bool f.args, .bool f.source]] :: [row b12 31 ([.int .i64 ((k : Nat) : Int), .int .i64 (i64 n), .int .i64 (i64 cl), strV typ, strV cas, strV [], .int .i64 0, .int .i64 0, strV [], .slice none 0 0, .slice none 0 0, .slice none 0 0] ++ dc (List.replicate 32 0))] :: [row b1 31 noEA.cells] :: R) w89 := hA90
            refine vc_y hF rfl rfl (by decide) _ (y_field rfl Tryz.underlying31 rfl sz9_v7 (by decide) rfl (rfl : (⟨_, 0 + _, none⟩ : Addr) = ⟨_, 5, none⟩)) (fun a hF => ?_)
            refine vc_op rfl (fun K hK => hs_store1 hF rfl rfl hA90 rfl rfl 3 rfl (by simp) rfl sz9_v7 (fun w91 hA92 => hK _ _ ?_))
            clear hK K
            replace hA92 : Hp w0 ([row rb 152 [.slice A0 raw.length c0, .int .i64 (pt : Nat), .int .i64 (yt : Nat)]] :: X :: [row b19 129 [.bool f.typed, .bool f.cased, .bool f.named, .bool f.valued, .bool f.args, .bool f.source]] :: [row b12 31 ([.int .i64 ((k : Nat) : Int), .int .i64 (i64 n), .int .i64 (i64 cl), strV typ, strV cas, strV st, .int .i64 0, .int .i64 0, strV [], .slice none 0 0, .slice none 0 0, .slice none 0 0] ++ dc (List.replicate 32 0))] :: [row b1 31 noEA.cells] :: R) w91 := hA92
            refine vc_nil ?_
            have hA93 : Hp w0 ([row b19 129 [.bool f.typed, .bool f.cased, .bool f.named, .bool f.valued, .bool f.args, .bool f.source]] :: [row b12 31 ([.int .i64 ((k : Nat) : Int), .int .i64 (i64 n), .int .i64 (i64 cl), strV typ, strV cas, strV st, .int .i64 0, .int .i64 0, strV [], .slice none 0 0, .slice none 0 0, .slice none 0 0] ++ dc (List.replicate 32 0))] :: [row rb 152 [.slice A0 raw.length c0, .int .i64 (pt : Nat), .int .i64 (yt : Nat)]] :: X :: [row b1 31 noEA.cells] :: R) w91 := Hp.ord [[row rb 152 [.slice A0 raw.length c0, .int .i64 (pt : Nat), .int .i64 (yt : Nat)]], X, [row b19 129 [.bool f.typed, .bool f.cased, .bool f.named, .bool f.valued, .bool f.args, .bool f.source]], [row b12 31 ([.int .i64 ((k : Nat) : Int), .int .i64 (i64 n), .int .i64 (i64 cl), strV typ, strV cas, strV st, .int .i64 0, .int .i64 0, strV [], .slice none 0 0, .slice none 0 0, .slice none 0 0] ++ dc (List.replicate 32 0))], [row b1 31 noEA.cells]] R [2, 3, 0, 1, 4] hA92 rfl
            exact hJ2 _ _ st pt yt (by rw [hb]; exact hgt) hpt (hF.keep [0, 2, 4, 5, 6] rfl) hA93
        rcases tf f.typed with hb | hb
        · refine vc_falseB hF rfl hb ?_
          apply wp_skip
          exact hJ1 _ _ [] p4 y4 (by rw [hb]; rfl) hp4 (hF.keep [0, 2, 4, 5, 6] rfl) hA
        · refine vc_trueB hF rfl hb ?_
          refine wp_region_lit ?_
          refine vc_y hF rfl rfl (by decide) _ (y_move rfl rfl) (fun a hF => ?_)
          have hA94 : Hp w0 ([row rb 152 [.slice A0 raw.length c0, .int .i64 (p4 : Nat), .int .i64 (y4 : Nat)]] :: X :: [row b19 129 [.bool f.typed, .bool f.cased, .bool f.named, .bool f.valued, .bool f.args, .bool f.source]] :: [row b12 31 ([.int .i64 ((k : Nat) : Int), .int .i64 (i64 n), .int .i64 (i64 cl), strV [], strV cas, strV [], .int .i64 0, .int .i64 0, strV [], .slice none 0 0, .slice none 0 0, .slice none 0 0] ++ dc (List.replicate 32 0))] :: [row b1 31 noEA.cells] :: R) x := Hp.ord [[row b19 129 [.bool f.typed, .bool f.cased, .bool f.named, .bool f.valued, .bool f.args, .bool f.source]], [row b12 31 ([.int .i64 ((k : Nat) : Int), .int .i64 (i64 n), .int .i64 (i64 cl), strV [], strV cas, strV [], .int .i64 0, .int .i64 0, strV [], .slice none 0 0, .slice none 0 0, .slice none 0 0] ++ dc (List.replicate 32 0))], [row rb 152 [.slice A0 raw.length c0, .int .i64 (p4 : Nat), .int .i64 (y4 : Nat)]], X, [row b1 31 noEA.cells]] R [2, 3, 0, 1, 4] hA rfl
          refine vc_op rfl (fun K hK => ws_call hF rfl (by decide) cl81_v7 rfl rfl ?_)
          with_reducible refine (hg_text w0 _ ([row b19 129 [.bool f.typed, .bool f.cased, .bool f.named, .bool f.valued, .bool f.args, .bool f.source]] :: [row b12 31 ([.int .i64 ((k : Nat) : Int), .int .i64 (i64 n), .int .i64 (i64 cl), strV [], strV cas, strV [], .int .i64 0, .int .i64 0, strV [], .slice none 0 0, .slice none 0 0, .slice none 0 0] ++ dc (List.replicate 32 0))] :: [row b1 31 noEA.cells] :: R) rb A0 raw c0 p4 y4 X 64 hO hA94 hp4 (by omega) ).mono ?_
          rintro e' w95 ⟨st, pt, yt, rfl, hgt, hpt, hA96⟩
          refine ⟨_, rfl, fun a hF => hK _ _ ?_⟩
          clear hK K
          replace hA96 : Hp w0 ([row rb 152 [.slice A0 raw.length c0, .int .i64 (pt : Nat), .int .i64 (yt : Nat)]] :: X :: [row b19 129 [.bool f.typed, .bool f.cased, .bool f.named, .bool f.valued, .bool f.args, .bool f.source]] :: [row b12 31 ([.int .i64 ((k : Nat) : Int), .int .i64 (i64 n), .int .i64 (i64 cl), strV [], strV cas, strV [], .int .i64 0, .int .i64 0, strV [], .slice none 0 0, .slice none 0 0, .slice none 0 0] ++ dc (List.replicate 32 0))] :: [row b1 31 noEA.cells] :: R) w95 := hA96
          refine vc_y hF rfl rfl (by decide) _ (y_field rfl Tryz.underlying31 rfl sz9_v7 (by decide) rfl (rfl : (⟨_, 0 + _, none⟩ : Addr) = ⟨_, 3, none⟩)) (fun a hF => ?_)
          refine vc_op rfl (fun K hK => hs_store1 hF rfl rfl hA96 rfl rfl 3 rfl (by simp) rfl sz9_v7 (fun w97 hA98 => hK _ _ ?_))
          clear hK K
          replace hA98 : Hp w0 ([row rb 152 [.slice A0 raw.length c0, .int .i64 (pt : Nat), .int .i64 (yt : Nat)]] :: X :: [row b19 129 [.bool f.typed, .bool f.cased, .bool f.named, .bool f.valued, .bool f.args, .bool f.source]] :: [row b12 31 ([.int .i64 ((k : Nat) : Int), .int .i64 (i64 n), .int .i64 (i64 cl), strV st, strV cas, strV [], .int .i64 0, .int .i64 0, strV [], .slice none 0 0, .slice none 0 0, .slice none 0 0] ++ dc (List.replicate 32 0))] :: [row b1 31 noEA.cells] :: R) w97 := hA98
          refine vc_nil ?_
          have hA99 : Hp w0 ([row b19 129 [.bool f.typed, .bool f.cased, .bool f.named, .bool f.valued, .bool f.args, .bool f.source]] :: [row b12 31 ([.int .i64 ((k : Nat) : Int), .int .i64 (i64 n), .int .i64 (i64 cl), strV st, strV cas, strV [], .int .i64 0, .int .i64 0, strV [], .slice none 0 0, .slice none 0 0, .slice none 0 0] ++ dc (List.replicate 32 0))] :: [row rb 152 [.slice A0 raw.length c0, .int .i64 (pt : Nat), .int .i64 (yt : Nat)]] :: X :: [row b1 31 noEA.cells] :: R) w97 := Hp.ord [[row rb 152 [.slice A0 raw.length c0, .int .i64 (pt : Nat), .int .i64 (yt : Nat)]], X, [row b19 129 [.bool f.typed, .bool f.cased, .bool f.named, .bool f.valued, .bool f.args, .bool f.source]], [row b12 31 ([.int .i64 ((k : Nat) : Int), .int .i64 (i64 n), .int .i64 (i64 cl), strV st, strV cas, strV [], .int .i64 0, .int .i64 0, strV [], .slice none 0 0, .slice none 0 0, .slice none 0 0] ++ dc (List.replicate 32 0))], [row b1 31 noEA.cells]] R [2, 3, 0, 1, 4] hA98 rfl
          exact hJ1 _ _ st pt yt (by rw [hb]; exact hgt) hpt (hF.keep [0, 2, 4, 5, 6] rfl) hA99
      rcases tf f.cased with hb | hb
      · refine vc_falseB hF rfl hb ?_
        apply wp_skip
        exact hJ0 _ _ [] p3 y3 (by rw [hb]; rfl) hp3 (hF.keep [0, 2, 4, 5, 6] rfl) hA23
      · refine vc_trueB hF rfl hb ?_
        refine wp_region_lit ?_
        refine vc_y hF rfl rfl (by decide) _ (y_move rfl rfl) (fun a hF => ?_)
        have hA100 : Hp w0 ([row rb 152 [.slice A0 raw.length c0, .int .i64 (p3 : Nat), .int .i64 (y3 : Nat)]] :: X :: [row b19 129 [.bool f.typed, .bool f.cased, .bool f.named, .bool f.valued, .bool f.args, .bool f.source]] :: [row b12 31 ([.int .i64 ((k : Nat) : Int), .int .i64 (i64 n), .int .i64 (i64 cl), strV [], strV [], strV [], .int .i64 0, .int .i64 0, strV [], .slice none 0 0, .slice none 0 0, .slice none 0 0] ++ dc (List.replicate 32 0))] :: [row b1 31 noEA.cells] :: R) w22 := Hp.ord [[row b19 129 [.bool f.typed, .bool f.cased, .bool f.named, .bool f.valued, .bool f.args, .bool f.source]], [row b12 31 ([.int .i64 ((k : Nat) : Int), .int .i64 (i64 n), .int .i64 (i64 cl), strV [], strV [], strV [], .int .i64 0, .int .i64 0, strV [], .slice none 0 0, .slice none 0 0, .slice none 0 0] ++ dc (List.replicate 32 0))], [row rb 152 [.slice A0 raw.length c0, .int .i64 (p3 : Nat), .int .i64 (y3 : Nat)]], X, [row b1 31 noEA.cells]] R [2, 3, 0, 1, 4] hA23 rfl
        refine vc_op rfl (fun K hK => ws_call hF rfl (by decide) cl81_v7 rfl rfl ?_)
        with_reducible refine (hg_text w0 _ ([row b19 129 [.bool f.typed, .bool f.cased, .bool f.named, .bool f.valued, .bool f.args, .bool f.source]] :: [row b12 31 ([.int .i64 ((k : Nat) : Int), .int .i64 (i64 n), .int .i64 (i64 cl), strV [], strV [], strV [], .int .i64 0, .int .i64 0, strV [], .slice none 0 0, .slice none 0 0, .slice none 0 0] ++ dc (List.replicate 32 0))] :: [row b1 31 noEA.cells] :: R) rb A0 raw c0 p3 y3 X 64 hO hA100 hp3 (by omega) ).mono ?_
        rintro e' w101 ⟨st, pt, yt, rfl, hgt, hpt, hA102⟩
        refine ⟨_, rfl, fun a hF => hK _ _ ?_⟩
        clear hK K
        replace hA102 : Hp w0 ([row rb 152 [.slice A0 raw.length c0, .int .i64 (pt : Nat), .int .i64 (yt : Nat)]] :: X :: [row b19 129 [.bool f.typed, .bool f.cased, .bool f.named, .bool f.valued, .bool f.args, .bool f.source]] :: [row b12 31 ([.int .i64 ((k : Nat) : Int), .int .i64 (i64 n), .int .i64 (i64 cl), strV [], strV [], strV [], .int .i64 0, .int .i64 0, strV [], .slice none 0 0, .slice none 0 0, .slice none 0 0] ++ dc (List.replicate 32 0))] :: [row b1 31 noEA.cells] :: R) w101 := hA102
        refine vc_y hF rfl rfl (by decide) _ (y_field rfl Tryz.underlying31 rfl sz9_v7 (by decide) rfl (rfl : (⟨_, 0 + _, none⟩ : Addr) = ⟨_, 4, none⟩)) (fun a hF => ?_)
        refine vc_op rfl (fun K hK => hs_store1 hF rfl rfl hA102 rfl rfl 3 rfl (by simp) rfl sz9_v7 (fun w103 hA104 => hK _ _ ?_))
        clear hK K
        replace hA104 : Hp w0 ([row rb 152 [.slice A0 raw.length c0, .int .i64 (pt : Nat), .int .i64 (yt : Nat)]] :: X :: [row b19 129 [.bool f.typed, .bool f.cased, .bool f.named, .bool f.valued, .bool f.args, .bool f.source]] :: [row b12 31 ([.int .i64 ((k : Nat) : Int), .int .i64 (i64 n), .int .i64 (i64 cl), strV [], strV st, strV [], .int .i64 0, .int .i64 0, strV [], .slice none 0 0, .slice none 0 0, .slice none 0 0] ++ dc (List.replicate 32 0))] :: [row b1 31 noEA.cells] :: R) w103 := hA104
        refine vc_nil ?_
        have hA105 : Hp w0 ([row b19 129 [.bool f.typed, .bool f.cased, .bool f.named, .bool f.valued, .bool f.args, .bool f.source]] :: [row b12 31 ([.int .i64 ((k : Nat) : Int), .int .i64 (i64 n), .int .i64 (i64 cl), strV [], strV st, strV [], .int .i64 0, .int .i64 0, strV [], .slice none 0 0, .slice none 0 0, .slice none 0 0] ++ dc (List.replicate 32 0))] :: [row rb 152 [.slice A0 raw.length c0, .int .i64 (pt : Nat), .int .i64 (yt : Nat)]] :: X :: [row b1 31 noEA.cells] :: R) w103 := Hp.ord [[row rb 152 [.slice A0 raw.length c0, .int .i64 (pt : Nat), .int .i64 (yt : Nat)]], X, [row b19 129 [.bool f.typed, .bool f.cased, .bool f.named, .bool f.valued, .bool f.args, .bool f.source]], [row b12 31 ([.int .i64 ((k : Nat) : Int), .int .i64 (i64 n), .int .i64 (i64 cl), strV [], strV st, strV [], .int .i64 0, .int .i64 0, strV [], .slice none 0 0, .slice none 0 0, .slice none 0 0] ++ dc (List.replicate 32 0))], [row b1 31 noEA.cells]] R [2, 3, 0, 1, 4] hA104 rfl
        exact hJ0 _ _ st pt yt (by rw [hb]; exact hgt) hpt (hF.keep [0, 2, 4, 5, 6] rfl) hA105
    · refine wp_region_lit ?_
      refine vc_y hF rfl rfl (by decide) _ (y_field rfl Tryz.underlying31 rfl sz3_v7 (by decide) rfl (rfl : (⟨_, 0 + _, none⟩ : Addr) = ⟨_, 0, none⟩)) (fun a hF => ?_)
      refine vc_y hF rfl rfl (by decide) _ (y_ld rfl hA16.q rfl 0 rfl rfl nr3_v7) (fun a hF => ?_)
      refine vc_op rfl (fun K hK => ws_call hF rfl (by decide) cl72_v7 rfl rfl ?_)
      with_reducible refine (ev_fields_no ((k : Nat) : Int) hop _ hA16 ).mono ?_
      rintro e' w106 ⟨rfl, hA107⟩
      refine ⟨_, rfl, fun a hF => hK _ _ ?_⟩
      clear hK K
      replace hA107 : Hp w0 ([row b12 31 ([.int .i64 ((k : Nat) : Int), .int .i64 (i64 n), .int .i64 (i64 cl), strV [], strV [], strV [], .int .i64 0, .int .i64 0, strV [], .slice none 0 0, .slice none 0 0, .slice none 0 0] ++ dc (List.replicate 32 0))] :: [row rb 152 [.slice A0 raw.length c0, .int .i64 (p3 : Nat), .int .i64 (y3 : Nat)]] :: X :: [row b1 31 noEA.cells] :: R) w106 := hA107
      refine vc_y hF rfl rfl (by decide) _ (y_move rfl rfl) (fun a hF => ?_)
      refine vc_y hF rfl rfl (by decide) _ (y_extract (v := .agg ([.bool false, .bool false, .bool false, .bool false, .bool false, .bool false]).toArray) rfl rfl rfl) (fun a hF => ?_)
      refine vc_y hF rfl rfl (by decide) _ (y_extract (v := .bool false) rfl rfl rfl) (fun a hF => ?_)
      refine vc_op rfl (fun K hK => hs_alloc hF rfl (by decide) rfl hA107 (zr129_v7) (fun b108 w109 a hb108 hF hA110 => hK _ _ ?_))
      clear hK K
      replace hA110 : Hp w0 ([row b108 129 [.bool false, .bool false, .bool false, .bool false, .bool false, .bool false]] :: [row b12 31 ([.int .i64 ((k : Nat) : Int), .int .i64 (i64 n), .int .i64 (i64 cl), strV [], strV [], strV [], .int .i64 0, .int .i64 0, strV [], .slice none 0 0, .slice none 0 0, .slice none 0 0] ++ dc (List.replicate 32 0))] :: [row rb 152 [.slice A0 raw.length c0, .int .i64 (p3 : Nat), .int .i64 (y3 : Nat)]] :: X :: [row b1 31 noEA.cells] :: R) w109 := hA110
      refine vc_op rfl (fun K hK => hs_storeAll (new := [.bool false, .bool false, .bool false, .bool false, .bool false, .bool false]) hF rfl rfl hA110 rfl rfl 0 rfl rfl (by simp [Value.oneCell']) sz129_v7 (fun w111 hA112 => hK _ _ ?_))
      clear hK K
      replace hA112 : Hp w0 ([row b108 129 [.bool false, .bool false, .bool false, .bool false, .bool false, .bool false]] :: [row b12 31 ([.int .i64 ((k : Nat) : Int), .int .i64 (i64 n), .int .i64 (i64 cl), strV [], strV [], strV [], .int .i64 0, .int .i64 0, strV [], .slice none 0 0, .slice none 0 0, .slice none 0 0] ++ dc (List.replicate 32 0))] :: [row rb 152 [.slice A0 raw.length c0, .int .i64 (p3 : Nat), .int .i64 (y3 : Nat)]] :: X :: [row b1 31 noEA.cells] :: R) w111 := hA112
      refine vc_y hF rfl rfl (by decide) _ (y_assign rfl rfl) (fun a hF => ?_)
      refine vc_nil ?_
      refine hK6 _ _ ?_; clear  hK6 K6
      apply wp_seq_k; intro K37 hK37
      apply wp_seq_k; intro K38 hK38
      refine wp_region_lit ?_
      refine vc_y hF rfl rfl (by decide) _ (y_move rfl rfl) (fun a hF => ?_)
      refine vc_y hF rfl rfl (by decide) _ (y_not rfl rfl rfl) (fun a hF => ?_)
      refine vc_nil ?_
      refine hK38 _ _ ?_; clear  hK38 K38
      refine vc_true hF rfl ?_
      apply wp_seq_k; intro K39 hK39
      refine wp_region_lit ?_
      refine vc_y hF rfl rfl (by decide) _ (y_build0 rfl ev_bE0) (fun a hF => ?_)
      refine vc_op rfl (fun K hK => hs_storeAll (new := noEA.cells) hF rfl rfl hA112 rfl rfl 4 rfl rfl (fun v hv => evc_one (e := noEA) hv) ev_szE (fun w113 hA114 => hK _ _ ?_))
      clear hK K
      replace hA114 : Hp w0 ([row b108 129 [.bool false, .bool false, .bool false, .bool false, .bool false, .bool false]] :: [row b12 31 ([.int .i64 ((k : Nat) : Int), .int .i64 (i64 n), .int .i64 (i64 cl), strV [], strV [], strV [], .int .i64 0, .int .i64 0, strV [], .slice none 0 0, .slice none 0 0, .slice none 0 0] ++ dc (List.replicate 32 0))] :: [row rb 152 [.slice A0 raw.length c0, .int .i64 (p3 : Nat), .int .i64 (y3 : Nat)]] :: X :: [row b1 31 noEA.cells] :: R) w113 := hA114
      refine vc_y hF rfl rfl (by decide) _ (y_assign rfl rfl) (fun a hF => ?_)
      refine vc_nil ?_
      refine hK39 _ _ ?_; clear  hK39 K39
      apply wp_ret
      have hno : ¬ decOK raw := fun hd => hop (dec_op hg1 ▸ hd.2.1)
      simp only [Exit.then]
      refine vc_retCT hF Tryz.results21 hA114.q rfl rfl 4 rfl ev_rwE ?_
      have hA115 : Hp w0 (R) w113 := Hp.sel [[row b108 129 [.bool false, .bool false, .bool false, .bool false, .bool false, .bool false]], [row b12 31 ([.int .i64 ((k : Nat) : Int), .int .i64 (i64 n), .int .i64 (i64 cl), strV [], strV [], strV [], .int .i64 0, .int .i64 0, strV [], .slice none 0 0, .slice none 0 0, .slice none 0 0] ++ dc (List.replicate 32 0))], [row rb 152 [.slice A0 raw.length c0, .int .i64 (p3 : Nat), .int .i64 (y3 : Nat)]], X, [row b1 31 noEA.cells]] R [] [0, 1, 2, 3, 4] hA114 rfl
      exact ⟨noEA, [], by rw [show decE raw = 8 from if_neg hno]; rfl, by rw [show decV raw = noEv from if_neg hno]; rfl, noEA_ok, Hp.nil hA115⟩
  · refine vc_trueB hF rfl h0 ?_
    apply wp_seq_k; intro K40 hK40
    refine wp_region_lit ?_
    refine vc_y hF rfl rfl (by decide) _ (y_build0 rfl ev_bE0) (fun a hF => ?_)
    refine vc_op rfl (fun K hK => hs_storeAll (new := noEA.cells) hF rfl rfl hA3 rfl rfl 0 rfl rfl (fun v hv => evc_one (e := noEA) hv) ev_szE (fun w116 hA117 => hK _ _ ?_))
    clear hK K
    replace hA117 : Hp w0 ([row b1 31 noEA.cells] :: R) w116 := hA117
    refine vc_y hF rfl rfl (by decide) _ (y_assign rfl rfl) (fun a hF => ?_)
    refine vc_nil ?_
    refine hK40 _ _ ?_; clear  hK40 K40
    apply wp_ret
    have hno : ¬ decOK raw := fun hd => len_gt h0 hd.1
    simp only [Exit.then]
    refine vc_retCT hF Tryz.results21 hA117.q rfl rfl 0 rfl ev_rwE ?_
    have hA118 : Hp w0 (R) w116 := Hp.sel [[row b1 31 noEA.cells]] R [] [0] hA117 rfl
    exact ⟨noEA, [], by rw [show decE raw = 8 from if_neg hno]; rfl, by rw [show decV raw = noEv from if_neg hno]; rfl, noEA_ok, Hp.nil hA118⟩
end Go.Proofs.YtepbmdlgdaedpaaGreatDoor
