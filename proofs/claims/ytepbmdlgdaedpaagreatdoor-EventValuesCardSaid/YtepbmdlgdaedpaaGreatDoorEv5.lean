/- An event's bytes: Encode. -/
import Derived.Test.YtepbmdlgdaedpaaGreatDoorEv4
namespace Go.Proofs.YtepbmdlgdaedpaaGreatDoor
open Go.RowKit Go.Dk

theorem nr3_v5 : notRow Tryz.prog 3 = true := by kernel_rfl
theorem nr4_v5 : notRow Tryz.prog 4 = true := by kernel_rfl
theorem nr9_v5 : notRow Tryz.prog 9 = true := by kernel_rfl
theorem nr26_v5 : notRow Tryz.prog 26 = true := by kernel_rfl
theorem nr27_v5 : notRow Tryz.prog 27 = true := by kernel_rfl
theorem rw25_v5 : isRow Tryz.prog 25 4 = true := by kernel_rfl
theorem rw29_v5 : isRow Tryz.prog 29 32 = true := by kernel_rfl
theorem rw31_v5 : isRow Tryz.prog 31 44 = true := by kernel_rfl
theorem rw129_v5 : isRow Tryz.prog 129 6 = true := by kernel_rfl
theorem sz3_v5 : (Tryz.prog.info? 3).map (·.size) = some 1 := by kernel_rfl
theorem sz4_v5 : (Tryz.prog.info? 4).map (·.size) = some 1 := by kernel_rfl
theorem sz9_v5 : (Tryz.prog.info? 9).map (·.size) = some 1 := by kernel_rfl
theorem sz25_v5 : (Tryz.prog.info? 25).map (·.size) = some 4 := by kernel_rfl
theorem sz26_v5 : (Tryz.prog.info? 26).map (·.size) = some 1 := by kernel_rfl
theorem sz27_v5 : (Tryz.prog.info? 27).map (·.size) = some 1 := by kernel_rfl
theorem sz29_v5 : (Tryz.prog.info? 29).map (·.size) = some 32 := by kernel_rfl
theorem sz129_v5 : (Tryz.prog.info? 129).map (·.size) = some 6 := by kernel_rfl
theorem cl45_v5 : CallsTo Tryz.prog 45 := ⟨_, Tryz.func45, by kernel_rfl, by kernel_rfl⟩
theorem cl48_v5 : CallsTo Tryz.prog 48 := ⟨_, Tryz.func48, by kernel_rfl, by kernel_rfl⟩
theorem cl50_v5 : CallsTo Tryz.prog 50 := ⟨_, Tryz.func50, by kernel_rfl, by kernel_rfl⟩
theorem cl72_v5 : CallsTo Tryz.prog 72 := ⟨_, Tryz.func72, by kernel_rfl, by kernel_rfl⟩
theorem cl73_v5 : CallsTo Tryz.prog 73 := ⟨_, Tryz.func73, by kernel_rfl, by kernel_rfl⟩
theorem cl74_v5 : CallsTo Tryz.prog 74 := ⟨_, Tryz.func74, by kernel_rfl, by kernel_rfl⟩
theorem cl75_v5 : CallsTo Tryz.prog 75 := ⟨_, Tryz.func75, by kernel_rfl, by kernel_rfl⟩
theorem cl76_v5 : CallsTo Tryz.prog 76 := ⟨_, Tryz.func76, by kernel_rfl, by kernel_rfl⟩
theorem cl77_v5 : CallsTo Tryz.prog 77 := ⟨_, Tryz.func77, by kernel_rfl, by kernel_rfl⟩
theorem cl78_v5 : CallsTo Tryz.prog 78 := ⟨_, Tryz.func78, by kernel_rfl, by kernel_rfl⟩
theorem cl79_v5 : CallsTo Tryz.prog 79 := ⟨_, Tryz.func79, by kernel_rfl, by kernel_rfl⟩

theorem zr25_v5 : zeroIs Tryz.prog 25 (.agg ([.int .i64 0, .int .i64 0, .string (⟨#[]⟩), .slice none 0 0] : List Value).toArray) := by unfold zeroIs; kernel_rfl
theorem zr129_v5 : zeroIs Tryz.prog 129 (.agg ([.bool false, .bool false, .bool false, .bool false, .bool false, .bool false] : List Value).toArray) := by unfold zeroIs; kernel_rfl
theorem ev_fields_ok {w0 : World} {R : List Seg} (op : Int) (f : Fld) (hf : f = fldOf op) (h : okOp op) (w : World) (hA : Hp w0 R w) : Calls Tryz.prog 72 #[.int .i64 op] w fun e w' => e = .returned (.tuple #[.agg f.cells.toArray, .bool true]) ∧ Hp w0 R w' := by
  have := ev_fields op w hA
  rw [fldC, if_pos h, ← hf, decide_eq_true h] at this
  exact this
theorem ev_fields_no {w0 : World} {R : List Seg} (op : Int) (h : ¬ okOp op) (w : World) (hA : Hp w0 R w) : Calls Tryz.prog 72 #[.int .i64 op] w fun e w' => e = .returned (.tuple #[.agg ([.bool false, .bool false, .bool false, .bool false, .bool false, .bool false] : List Value).toArray, .bool false]) ∧ Hp w0 R w' := by
  have := ev_fields op w hA
  rw [fldC, if_neg h, decide_eq_false h] at this
  exact this
theorem enc_op {ea : EA} (h : ¬ okOp ea.op) : encE ea.ev = 8 := if_pos h
theorem enc_ref {ea : EA} {f : Fld} (h : okOp ea.op) (hf : f = fldOf ea.op) (hr : ¬ refusedE ea.ev f = 0) : encE ea.ev = refusedE ea.ev f := by
  subst hf
  exact (if_neg (fun hh => hh h)).trans (if_neg hr)
theorem enc_long {ea : EA} {f : Fld} (h : okOp ea.op) (hf : f = fldOf ea.op) (hr : refusedE ea.ev f = 0) (hl : 65536 < (ea.ev.bytes f).length) : encE ea.ev = 6 := by
  subst hf
  exact (if_neg (fun hh => hh h)).trans ((if_pos hr).trans (if_pos hl))
theorem enc_ok {ea : EA} {f : Fld} (h : okOp ea.op) (hf : f = fldOf ea.op) (hr : refusedE ea.ev f = 0) (hl : ¬ 65536 < (ea.ev.bytes f).length) : encE ea.ev = 0 ∧ encB ea.ev = ea.ev.bytes f := by
  subst hf
  have h1 : encE ea.ev = 0 := (if_neg (fun hh => hh h)).trans ((if_pos hr).trans (if_neg hl))
  exact ⟨h1, if_pos h1⟩
theorem enc_nil {e : Ev} (h : ¬ encE e = 0) : Buf 5 1 [] (.slice none 0 0) (encB e).length (dc (encB e)) := by
  rw [show encB e = [] from if_neg h]
  exact Buf.nil _ _
theorem len_no {n : Nat} (h : cmpB .gtr (n : Int) 65536 = false) : ¬ 65536 < n := by simp [cmpB] at h; omega
theorem len_yes {n : Nat} (h : cmpB .gtr (n : Int) 65536 = true) : 65536 < n := by simp [cmpB] at h; omega
theorem ref_zero {ea : EA} {f : Fld} (h : refusedE ea.ev f = 0) : spareE ea.ev f = true ∧ (f.cased = true → legalC ea.cas 64 = true) ∧ (f.typed = true → legalN ea.typ = true) ∧ (f.named = true → legalN ea.nam = true) ∧ (0 ≤ ea.num ∧ ea.num < 1099511627776) ∧ (0 ≤ ea.clk ∧ ea.clk ≤ 4611686018427387904) ∧ ea.args.length ≤ 16 ∧ ea.v.v.right = 0 ∧ (∀ v ∈ ea.args.map VA.v, v.right = 0) ∧ ea.src.length ≤ 60000 := by
  unfold refusedE at h
  split at h
  · exact absurd h (by decide)
  rename_i hsp
  split at h
  · exact absurd h (by decide)
  rename_i hnm
  split at h
  · exact absurd h (by decide)
  rename_i hnum
  split at h
  · exact absurd h (by decide)
  rename_i hclk
  split at h
  · exact absurd h (by decide)
  rename_i hargs
  split at h
  rotate_left
  · rename_i h0; exact absurd h h0
  rename_i hfirst
  split at h
  · exact absurd h (by decide)
  rename_i hsrc
  have hv := firstR_zero hfirst
  have e1 : ea.ev.num = ea.num := rfl
  have e2 : ea.ev.clk = ea.clk := rfl
  have e3 : ea.ev.args.length = ea.args.length := List.length_map ..
  have e4 : ea.ev.src.length = ea.src.length := rfl
  refine ⟨by simpa using hsp, fun hc => ?_, fun hc => ?_, fun hc => ?_, by omega, by omega, by omega, hv _ (List.mem_cons_self ..), fun v hm => hv v (List.mem_cons_of_mem _ hm), by omega⟩
  · cases hh : legalC ea.cas 64 with
    | true => rfl
    | false => exact absurd (.inl ⟨hc, hh⟩) hnm
  · cases hh : legalN ea.typ with
    | true => rfl
    | false => exact absurd (.inr (.inl ⟨hc, hh⟩)) hnm
  · cases hh : legalN ea.nam with
    | true => rfl
    | false => exact absurd (.inr (.inr ⟨hc, hh⟩)) hnm
theorem bytesB_small {t : List UInt8} {m : Int} (h0 : 0 ≤ m) (h1 : m ≤ 2147483647) (ht : (t.length : Int) ≤ m) : bytesB t m = be 4 t.length ++ t := by
  unfold bytesB
  rw [bnd_at h0 h1, if_neg (by omega)]
theorem puts_len {vs : List Val} (h : ∀ v ∈ vs, v.right = 0) : (vs.flatMap Val.put).length ≤ vs.length * 65667 := by
  induction vs with
  | nil => exact Nat.le_refl _
  | cons v vs ih =>
    have h1 := put_len (h v (List.mem_cons_self ..))
    have h2 := ih fun u hu => h u (List.mem_cons_of_mem _ hu)
    rw [List.flatMap_cons, List.length_append, List.length_cons]
    omega
theorem puts_take {l : List VA} (hn : l.length ≤ 16) (h : ∀ v ∈ l.map VA.v, v.right = 0) (i : Nat) : (((l.take i).map VA.v).flatMap Val.put).length ≤ 1050672 := by
  have h1 := puts_len (vs := (l.take i).map VA.v) fun v hv => h v (by
    obtain ⟨a, ha, rfl⟩ := List.mem_map.1 hv
    exact List.mem_map.2 ⟨a, List.mem_of_mem_take ha, rfl⟩)
  rw [List.length_map, List.length_take] at h1
  omega
theorem puts_step {l : List VA} {i : Nat} {va : VA} (h : l[i]? = some va) : ((l.take (i + 1)).map VA.v).flatMap Val.put = ((l.take i).map VA.v).flatMap Val.put ++ va.v.put := by
  rw [List.take_add_one, h]
  simp
theorem ev_bytes (ea : EA) (f : Fld) : ea.ev.bytes f = be 1 ea.op.toNat ++ be 8 (u64 ea.num) ++ be 8 (u64 ea.clk) ++ (if f.cased then nameB ea.cas else []) ++ (if f.typed then nameB ea.typ else []) ++ (if f.named then nameB ea.nam else []) ++ (if f.source then (be 4 ea.src.length ++ ea.src) else []) ++ (if f.valued then ea.v.v.put else []) ++ (if f.args then (be 1 ea.args.length ++ (ea.args.map VA.v).flatMap Val.put) else []) ++ ea.eff := by
  unfold Ev.bytes EA.ev
  simp only [List.length_map]
theorem ev_digs {w0 : World} {R : List Seg} {A : Option Addr} {d : List UInt8} (h : Rc w0 R A (dc d)) : Rc w0 R A (digV [d]) := by
  have e : digV [d] = dc d := by simp [digV]
  rw [e]; exact h
theorem ev_digest1 (w0 w : World) (R : List Seg) (wb : Nat) (l : List UInt8) (Y : Seg) (pa : Option Addr) (d : List UInt8) (h32 : d.length = 32) (hD : Rc w0 R pa (digV [d])) (hY : WrS wb l Y) (hA : Hp w0 (Y :: R) w) (hl : l.length + d.length < 140737500000000) : Calls Tryz.prog 78 #[.pointer (some ⟨wb, 0, none⟩), .slice pa 1 1] w fun e w' => ∃ Y', e = .returned (.tuple #[]) ∧ WrS wb (l ++ d) Y' ∧ Hp w0 (Y' :: R) w' :=
  (hw_digests w0 w R wb l Y pa [d] 1 hD (by intro x hx; rw [List.mem_singleton.1 hx]; exact h32) hY hA (by rw [List.flatten_cons, List.flatten_nil, List.append_nil]; exact hl) (Nat.le_of_ble_eq_true rfl)).mono fun e w' ⟨Y', h1, h2, h3⟩ => ⟨Y', h1, h2.same (by simp), h3⟩
set_option maxRecDepth 100000 in
theorem ev_bsD0 (f : Nat → UInt8) (w : World) : (Instr.buildSlice 59 1 #[(0, .agg (dc ((List.range 32).map f)).toArray)]).run Tryz.prog w = .ok (.slice (some ⟨w.heap.size, 0, none⟩) 1 1) (w.alloc (.cells (dc ((List.range 32).map f)).toArray 29)) := by kernel_rfl
theorem list32 {k : List UInt8} (h : k.length = 32) : (List.range 32).map (bAt k) = k := by
  apply List.ext_getElem?
  intro i
  rw [List.getElem?_map]
  rcases Nat.lt_or_ge i 32 with h1 | h1
  · rw [List.getElem?_range h1, bAt_lt (by omega)]; rfl
  · rw [List.getElem?_eq_none (by rw [List.length_range]; omega), List.getElem?_eq_none (by omega)]; rfl
theorem ev_bsD {d : List UInt8} (hd : d.length = 32) (w : World) : (Instr.buildSlice 59 1 #[(0, .agg (dc d).toArray)]).run Tryz.prog w = .ok (.slice (some ⟨w.heap.size, 0, none⟩) 1 1) (w.alloc (.cells (dc d).toArray 29)) := by
  have h1 := ev_bsD0 (bAt d) w
  rw [list32 hd] at h1
  exact h1

set_option maxRecDepth 100000 in
set_option maxHeartbeats 4000000 in
theorem ev_encode {w0 : World} {R : List Seg} {G : List Seg} (ea : EA) (w : World) (hT : TabS w0) (hV : ea.Ok w0 G) (hG : G ⊆ R) (hA : Hp w0 R w) : Calls Tryz.prog 20 #[.agg ea.cells.toArray] w fun e w' => ∃ v Z, e = .returned (.tuple #[v, .int .i64 (encE ea.ev : Nat)]) ∧ Buf 5 1 Z v (encB ea.ev).length (dc (encB ea.ev)) ∧ Hp w0 (Z :: R) w' := by
  have he32 : ea.eff.length = 32 := hV.i.2.2.2.2.2
  have hn := hV.n
  have hsn := hV.sn
  have hvn := hV.v.n
  obtain ⟨f, hf⟩ : ∃ f, f = fldOf ea.op := ⟨_, rfl⟩
  by_cases hop : okOp ea.op
  · refine vc_enter Tryz.func20 rfl Tryz.ntmps20 (Nat.le_of_ble_eq_true rfl) (fun a hF => ?_)
    apply wp_seq_k; intro K1 hK1
    refine wp_region_lit ?_
    refine vc_op rfl (fun K hK => hs_box (cs := ea.cells) hF rfl (by decide) rfl hA rfl (fun b1 w2 a hb1 hF hA3 => hK _ _ ?_))
    clear hK K
    replace hA3 : Hp w0 ([row b1 31 ([.int .i64 ea.op, .int .i64 ea.num, .int .i64 ea.clk, strV ea.typ, strV ea.cas, strV ea.nam, .int .i64 ea.v.v.k, .int .i64 ea.v.v.n, strV ea.v.v.t, .slice ea.v.sA ea.v.v.s.length ea.v.sC, .slice ea.aA ea.args.length ea.aC, .slice ea.bA ea.src.length ea.bC] ++ dc ea.eff)] :: R) w2 := hA3
    refine vc_y hF rfl rfl (by decide) _ (y_assign rfl rfl) (fun a hF => ?_)
    refine vc_y hF rfl rfl (by decide) _ (y_assign rfl rfl) (fun a hF => ?_)
    refine vc_nil ?_
    refine hK1 _ _ ?_; clear  hK1 K1
    apply wp_seq_k; intro K2 hK2
    refine wp_region_lit ?_
    refine vc_y hF rfl rfl (by decide) _ (y_field rfl Tryz.underlying31 rfl sz3_v5 (by decide) rfl (rfl : (⟨_, 0 + _, none⟩ : Addr) = ⟨_, 0, none⟩)) (fun a hF => ?_)
    refine vc_y hF rfl rfl (by decide) _ (y_ld rfl hA3.q rfl 0 rfl rfl nr3_v5) (fun a hF => ?_)
    refine vc_op rfl (fun K hK => ws_call hF rfl (by decide) cl72_v5 rfl rfl ?_)
    with_reducible refine (ev_fields_ok ea.op f hf hop _ hA3 ).mono ?_
    rintro e' w4 ⟨rfl, hA5⟩
    refine ⟨_, rfl, fun a hF => hK _ _ ?_⟩
    clear hK K
    replace hA5 : Hp w0 ([row b1 31 ([.int .i64 ea.op, .int .i64 ea.num, .int .i64 ea.clk, strV ea.typ, strV ea.cas, strV ea.nam, .int .i64 ea.v.v.k, .int .i64 ea.v.v.n, strV ea.v.v.t, .slice ea.v.sA ea.v.v.s.length ea.v.sC, .slice ea.aA ea.args.length ea.aC, .slice ea.bA ea.src.length ea.bC] ++ dc ea.eff)] :: R) w4 := hA5
    refine vc_y hF rfl rfl (by decide) _ (y_move rfl rfl) (fun a hF => ?_)
    refine vc_y hF rfl rfl (by decide) _ (y_extract (v := .agg ([.bool f.typed, .bool f.cased, .bool f.named, .bool f.valued, .bool f.args, .bool f.source]).toArray) rfl rfl rfl) (fun a hF => ?_)
    refine vc_y hF rfl rfl (by decide) _ (y_extract (v := .bool true) rfl rfl rfl) (fun a hF => ?_)
    refine vc_op rfl (fun K hK => hs_alloc hF rfl (by decide) rfl hA5 (zr129_v5) (fun b6 w7 a hb6 hF hA8 => hK _ _ ?_))
    clear hK K
    replace hA8 : Hp w0 ([row b6 129 [.bool false, .bool false, .bool false, .bool false, .bool false, .bool false]] :: [row b1 31 ([.int .i64 ea.op, .int .i64 ea.num, .int .i64 ea.clk, strV ea.typ, strV ea.cas, strV ea.nam, .int .i64 ea.v.v.k, .int .i64 ea.v.v.n, strV ea.v.v.t, .slice ea.v.sA ea.v.v.s.length ea.v.sC, .slice ea.aA ea.args.length ea.aC, .slice ea.bA ea.src.length ea.bC] ++ dc ea.eff)] :: R) w7 := hA8
    refine vc_op rfl (fun K hK => hs_storeAll (new := [.bool f.typed, .bool f.cased, .bool f.named, .bool f.valued, .bool f.args, .bool f.source]) hF rfl rfl hA8 rfl rfl 0 rfl rfl (by simp [Value.oneCell']) sz129_v5 (fun w9 hA10 => hK _ _ ?_))
    clear hK K
    replace hA10 : Hp w0 ([row b6 129 [.bool f.typed, .bool f.cased, .bool f.named, .bool f.valued, .bool f.args, .bool f.source]] :: [row b1 31 ([.int .i64 ea.op, .int .i64 ea.num, .int .i64 ea.clk, strV ea.typ, strV ea.cas, strV ea.nam, .int .i64 ea.v.v.k, .int .i64 ea.v.v.n, strV ea.v.v.t, .slice ea.v.sA ea.v.v.s.length ea.v.sC, .slice ea.aA ea.args.length ea.aC, .slice ea.bA ea.src.length ea.bC] ++ dc ea.eff)] :: R) w9 := hA10
    refine vc_y hF rfl rfl (by decide) _ (y_assign rfl rfl) (fun a hF => ?_)
    refine vc_nil ?_
    refine hK2 _ _ ?_; clear  hK2 K2
    apply wp_seq_k; intro K3 hK3
    apply wp_seq_k; intro K4 hK4
    refine wp_region_lit ?_
    refine vc_y hF rfl rfl (by decide) _ (y_move rfl rfl) (fun a hF => ?_)
    refine vc_y hF rfl rfl (by decide) _ (y_not rfl rfl rfl) (fun a hF => ?_)
    refine vc_nil ?_
    refine hK4 _ _ ?_; clear  hK4 K4
    refine vc_false hF rfl ?_
    apply wp_skip
    refine hK3 _ _ ?_; clear  hK3 K3
    apply wp_seq_k; intro K5 hK5
    apply wp_seq_k; intro K6 hK6
    refine wp_region_lit ?_
    refine vc_y hF rfl rfl (by decide) _ (y_ldRow (new := [.int .i64 ea.op, .int .i64 ea.num, .int .i64 ea.clk, strV ea.typ, strV ea.cas, strV ea.nam, .int .i64 ea.v.v.k, .int .i64 ea.v.v.n, strV ea.v.v.t, .slice ea.v.sA ea.v.v.s.length ea.v.sC, .slice ea.aA ea.args.length ea.aC, .slice ea.bA ea.src.length ea.bC] ++ dc ea.eff) rfl hA10.q rfl 1 rfl rw31_v5 (by rw [List.length_append, dc_length, he32]; exact Nat.le_of_ble_eq_true rfl) (by rw [List.drop_zero]; exact List.take_of_length_le (by rw [List.length_append, dc_length, he32]; exact Nat.le_of_ble_eq_true rfl))) (fun a hF => ?_)
    refine vc_y hF rfl rfl (by decide) _ (y_ldRow (new := [.bool f.typed, .bool f.cased, .bool f.named, .bool f.valued, .bool f.args, .bool f.source]) rfl hA10.q rfl 0 rfl rw129_v5 (Nat.le_of_ble_eq_true rfl) rfl) (fun a hF => ?_)
    refine vc_op rfl (fun K hK => ws_call hF rfl (by decide) cl73_v5 rfl rfl ?_)
    with_reducible refine (ev_refused ea f _ hT hV (List.Subset.trans hG (subC (subC (sub0)))) hA10 ).mono ?_
    rintro e' w11 ⟨rfl, hA12⟩
    refine ⟨_, rfl, fun a hF => hK _ _ ?_⟩
    clear hK K
    replace hA12 : Hp w0 ([row b6 129 [.bool f.typed, .bool f.cased, .bool f.named, .bool f.valued, .bool f.args, .bool f.source]] :: [row b1 31 ([.int .i64 ea.op, .int .i64 ea.num, .int .i64 ea.clk, strV ea.typ, strV ea.cas, strV ea.nam, .int .i64 ea.v.v.k, .int .i64 ea.v.v.n, strV ea.v.v.t, .slice ea.v.sA ea.v.v.s.length ea.v.sC, .slice ea.aA ea.args.length ea.aC, .slice ea.bA ea.src.length ea.bC] ++ dc ea.eff)] :: R) w11 := hA12
    refine vc_y hF rfl rfl (by decide) _ (y_assign rfl rfl) (fun a hF => ?_)
    refine vc_nil ?_
    refine hK6 _ _ ?_; clear  hK6 K6
    apply wp_seq_k; intro K7 hK7
    refine wp_region_lit ?_
    refine vc_y hF rfl rfl (by decide) _ (y_move rfl rfl) (fun a hF => ?_)
    refine vc_y hF rfl rfl (by decide) _ (y_cmp rfl rfl rfl rfl rfl) (fun a hF => ?_)
    refine vc_nil ?_
    refine hK7 _ _ ?_; clear  hK7 K7
    rcases tf (cmpB .neq (((refusedE ea.ev f : Nat) : Int)) (0)) with hr | hr
    · refine vc_falseB hF rfl hr ?_
      have h0 := neq_no hr
      obtain ⟨hsp, hcas, htyp, hnam, hnum, hclk, hargs, hvr, hvs, hsrc⟩ := ref_zero h0
      have hopb : 1 ≤ ea.op ∧ ea.op ≤ 5 := hop
      have hops : ea.op = ((ea.op.toNat : Nat) : Int) := by omega
      apply wp_skip
      refine hK5 _ _ ?_; clear  hK5 K5
      apply wp_seq_k; intro K8 hK8
      refine wp_region_lit ?_
      refine vc_op rfl (fun K hK => ws_call hF rfl (by decide) cl45_v5 rfl rfl ?_)
      with_reducible refine (hw_new w0 _ _ hA12 ).mono ?_
      rintro e' w13 ⟨wb, Y, rfl, hY, hA14⟩
      refine ⟨_, rfl, fun a hF => hK _ _ ?_⟩
      clear hK K
      replace hA14 : Hp w0 (Y :: [row b6 129 [.bool f.typed, .bool f.cased, .bool f.named, .bool f.valued, .bool f.args, .bool f.source]] :: [row b1 31 ([.int .i64 ea.op, .int .i64 ea.num, .int .i64 ea.clk, strV ea.typ, strV ea.cas, strV ea.nam, .int .i64 ea.v.v.k, .int .i64 ea.v.v.n, strV ea.v.v.t, .slice ea.v.sA ea.v.v.s.length ea.v.sC, .slice ea.aA ea.args.length ea.aC, .slice ea.bA ea.src.length ea.bC] ++ dc ea.eff)] :: R) w13 := hA14
      refine vc_y hF rfl rfl (by decide) _ (y_assign rfl rfl) (fun a hF => ?_)
      refine vc_nil ?_
      refine hK8 _ _ ?_; clear  hK8 K8
      apply wp_seq_k; intro K9 hK9
      refine wp_region_lit ?_
      refine vc_y hF rfl rfl (by decide) _ (y_move rfl rfl) (fun a hF => ?_)
      refine vc_y hF rfl rfl (by decide) _ (y_field rfl Tryz.underlying31 rfl sz3_v5 (by decide) rfl (rfl : (⟨_, 0 + _, none⟩ : Addr) = ⟨_, 0, none⟩)) (fun a hF => ?_)
      refine vc_y hF rfl rfl (by decide) _ (y_ld rfl hA14.q rfl 2 rfl rfl nr3_v5) (fun a hF => ?_)
      refine vc_y hF rfl rfl (by decide) _ (y_conv rfl Tryz.underlying3 Tryz.underlying5 rfl (show IntKind.u8.wrap (ea.op) = ea.op by rw [IntKind.wrap_u8]; omega)) (fun a hF => ?_)
      refine vc_op rfl (fun K hK => ws_call hF rfl (by decide) cl74_v5 rfl rfl ?_)
      with_reducible refine (hw_put_uint8 w0 _ ([row b6 129 [.bool f.typed, .bool f.cased, .bool f.named, .bool f.valued, .bool f.args, .bool f.source]] :: [row b1 31 ([.int .i64 ea.op, .int .i64 ea.num, .int .i64 ea.clk, strV ea.typ, strV ea.cas, strV ea.nam, .int .i64 ea.v.v.k, .int .i64 ea.v.v.n, strV ea.v.v.t, .slice ea.v.sA ea.v.v.s.length ea.v.sC, .slice ea.aA ea.args.length ea.aC, .slice ea.bA ea.src.length ea.bC] ++ dc ea.eff)] :: R) wb _ _ ea.op.toNat (by show ea.op.toNat < 256; omega) ea.op hops hY hA14 (by decide) ).mono ?_
      rintro e' w15 ⟨Y1, rfl, hY, hA16⟩
      refine ⟨_, rfl, fun a hF => hK _ _ ?_⟩
      clear hK K
      replace hA16 : Hp w0 (Y1 :: [row b6 129 [.bool f.typed, .bool f.cased, .bool f.named, .bool f.valued, .bool f.args, .bool f.source]] :: [row b1 31 ([.int .i64 ea.op, .int .i64 ea.num, .int .i64 ea.clk, strV ea.typ, strV ea.cas, strV ea.nam, .int .i64 ea.v.v.k, .int .i64 ea.v.v.n, strV ea.v.v.t, .slice ea.v.sA ea.v.v.s.length ea.v.sC, .slice ea.aA ea.args.length ea.aC, .slice ea.bA ea.src.length ea.bC] ++ dc ea.eff)] :: R) w15 := hA16
      rw [List.nil_append] at hY
      refine vc_nil ?_
      refine hK9 _ _ ?_; clear  hK9 K9
      apply wp_seq_k; intro K10 hK10
      refine wp_region_lit ?_
      refine vc_y hF rfl rfl (by decide) _ (y_move rfl rfl) (fun a hF => ?_)
      refine vc_y hF rfl rfl (by decide) _ (y_field rfl Tryz.underlying31 rfl sz3_v5 (by decide) rfl (rfl : (⟨_, 0 + _, none⟩ : Addr) = ⟨_, 1, none⟩)) (fun a hF => ?_)
      refine vc_y hF rfl rfl (by decide) _ (y_ld rfl hA16.q rfl 2 rfl rfl nr3_v5) (fun a hF => ?_)
      refine vc_y hF rfl rfl (by decide) _ (y_conv rfl Tryz.underlying3 Tryz.underlying135 rfl (u64_wrap _)) (fun a hF => ?_)
      refine vc_op rfl (fun K hK => ws_call hF rfl (by decide) cl75_v5 rfl rfl ?_)
      with_reducible refine (hw_put_uint64 w0 _ ([row b6 129 [.bool f.typed, .bool f.cased, .bool f.named, .bool f.valued, .bool f.args, .bool f.source]] :: [row b1 31 ([.int .i64 ea.op, .int .i64 ea.num, .int .i64 ea.clk, strV ea.typ, strV ea.cas, strV ea.nam, .int .i64 ea.v.v.k, .int .i64 ea.v.v.n, strV ea.v.v.t, .slice ea.v.sA ea.v.v.s.length ea.v.sC, .slice ea.aA ea.args.length ea.aC, .slice ea.bA ea.src.length ea.bC] ++ dc ea.eff)] :: R) wb _ _ (u64 ea.num) (u64_lt _) _ rfl hY hA16 (by simp only [List.length_append, be_length]; omega) ).mono ?_
      rintro e' w17 ⟨Y2, rfl, hY, hA18⟩
      refine ⟨_, rfl, fun a hF => hK _ _ ?_⟩
      clear hK K
      replace hA18 : Hp w0 (Y2 :: [row b6 129 [.bool f.typed, .bool f.cased, .bool f.named, .bool f.valued, .bool f.args, .bool f.source]] :: [row b1 31 ([.int .i64 ea.op, .int .i64 ea.num, .int .i64 ea.clk, strV ea.typ, strV ea.cas, strV ea.nam, .int .i64 ea.v.v.k, .int .i64 ea.v.v.n, strV ea.v.v.t, .slice ea.v.sA ea.v.v.s.length ea.v.sC, .slice ea.aA ea.args.length ea.aC, .slice ea.bA ea.src.length ea.bC] ++ dc ea.eff)] :: R) w17 := hA18
      refine vc_nil ?_
      refine hK10 _ _ ?_; clear  hK10 K10
      apply wp_seq_k; intro K11 hK11
      refine wp_region_lit ?_
      refine vc_y hF rfl rfl (by decide) _ (y_move rfl rfl) (fun a hF => ?_)
      refine vc_y hF rfl rfl (by decide) _ (y_field rfl Tryz.underlying31 rfl sz3_v5 (by decide) rfl (rfl : (⟨_, 0 + _, none⟩ : Addr) = ⟨_, 2, none⟩)) (fun a hF => ?_)
      refine vc_y hF rfl rfl (by decide) _ (y_ld rfl hA18.q rfl 2 rfl rfl nr3_v5) (fun a hF => ?_)
      refine vc_y hF rfl rfl (by decide) _ (y_conv rfl Tryz.underlying3 Tryz.underlying135 rfl (u64_wrap _)) (fun a hF => ?_)
      refine vc_op rfl (fun K hK => ws_call hF rfl (by decide) cl75_v5 rfl rfl ?_)
      with_reducible refine (hw_put_uint64 w0 _ ([row b6 129 [.bool f.typed, .bool f.cased, .bool f.named, .bool f.valued, .bool f.args, .bool f.source]] :: [row b1 31 ([.int .i64 ea.op, .int .i64 ea.num, .int .i64 ea.clk, strV ea.typ, strV ea.cas, strV ea.nam, .int .i64 ea.v.v.k, .int .i64 ea.v.v.n, strV ea.v.v.t, .slice ea.v.sA ea.v.v.s.length ea.v.sC, .slice ea.aA ea.args.length ea.aC, .slice ea.bA ea.src.length ea.bC] ++ dc ea.eff)] :: R) wb _ _ (u64 ea.clk) (u64_lt _) _ rfl hY hA18 (by simp only [List.length_append, be_length]; omega) ).mono ?_
      rintro e' w19 ⟨Y3, rfl, hY, hA20⟩
      refine ⟨_, rfl, fun a hF => hK _ _ ?_⟩
      clear hK K
      replace hA20 : Hp w0 (Y3 :: [row b6 129 [.bool f.typed, .bool f.cased, .bool f.named, .bool f.valued, .bool f.args, .bool f.source]] :: [row b1 31 ([.int .i64 ea.op, .int .i64 ea.num, .int .i64 ea.clk, strV ea.typ, strV ea.cas, strV ea.nam, .int .i64 ea.v.v.k, .int .i64 ea.v.v.n, strV ea.v.v.t, .slice ea.v.sA ea.v.v.s.length ea.v.sC, .slice ea.aA ea.args.length ea.aC, .slice ea.bA ea.src.length ea.bC] ++ dc ea.eff)] :: R) w19 := hA20
      refine vc_nil ?_
      refine hK11 _ _ ?_; clear  hK11 K11
      apply wp_seq_k; intro K12 hK12
      apply wp_seq_k; intro K13 hK13
      refine wp_region_lit ?_
      refine vc_y hF rfl rfl (by decide) _ (y_field rfl Tryz.underlying129 rfl sz4_v5 (by decide) rfl (rfl : (⟨_, 0 + _, none⟩ : Addr) = ⟨_, 1, none⟩)) (fun a hF => ?_)
      refine vc_y hF rfl rfl (by decide) _ (y_ld rfl hA20.q rfl 1 rfl rfl nr4_v5) (fun a hF => ?_)
      refine vc_nil ?_
      refine hK13 _ _ ?_; clear  hK13 K13
      have hln : (be 1 ea.op.toNat ++ be 8 (u64 ea.num) ++ be 8 (u64 ea.clk)).length ≤ 17 := by simp only [List.length_append, be_length]; omega
      have hJ0 : ∀ (a : Act) (x : World) (Z0 : Seg), Fr 99 [(1, .pointer (some ⟨b1, 0, none⟩)), (4, .pointer (some ⟨b6, 0, none⟩)), (7, .pointer (some ⟨wb, 0, none⟩))] a → WrS wb (be 1 ea.op.toNat ++ be 8 (u64 ea.num) ++ be 8 (u64 ea.clk) ++ (if f.cased then nameB ea.cas else [])) Z0 → (be 1 ea.op.toNat ++ be 8 (u64 ea.num) ++ be 8 (u64 ea.clk) ++ (if f.cased then nameB ea.cas else [])).length ≤ 83 → Hp w0 (Z0 :: [row b6 129 [.bool f.typed, .bool f.cased, .bool f.named, .bool f.valued, .bool f.args, .bool f.source]] :: [row b1 31 ([.int .i64 ea.op, .int .i64 ea.num, .int .i64 ea.clk, strV ea.typ, strV ea.cas, strV ea.nam, .int .i64 ea.v.v.k, .int .i64 ea.v.v.n, strV ea.v.v.t, .slice ea.v.sA ea.v.v.s.length ea.v.sC, .slice ea.aA ea.args.length ea.aC, .slice ea.bA ea.src.length ea.bC] ++ dc ea.eff)] :: R) x → K12 a x := by
        clear hF
        intro a x Z0 hF hY hln hA
        refine hK12 _ _ ?_; clear  hK12 K12
        apply wp_seq_k; intro K14 hK14
        apply wp_seq_k; intro K15 hK15
        refine wp_region_lit ?_
        refine vc_y hF rfl rfl (by decide) _ (y_field rfl Tryz.underlying129 rfl sz4_v5 (by decide) rfl (rfl : (⟨_, 0 + _, none⟩ : Addr) = ⟨_, 0, none⟩)) (fun a hF => ?_)
        refine vc_y hF rfl rfl (by decide) _ (y_ld rfl hA.q rfl 1 rfl rfl nr4_v5) (fun a hF => ?_)
        refine vc_nil ?_
        refine hK15 _ _ ?_; clear  hK15 K15
        have hJ1 : ∀ (a : Act) (x : World) (Z1 : Seg), Fr 99 [(1, .pointer (some ⟨b1, 0, none⟩)), (4, .pointer (some ⟨b6, 0, none⟩)), (7, .pointer (some ⟨wb, 0, none⟩))] a → WrS wb (be 1 ea.op.toNat ++ be 8 (u64 ea.num) ++ be 8 (u64 ea.clk) ++ (if f.cased then nameB ea.cas else []) ++ (if f.typed then nameB ea.typ else [])) Z1 → (be 1 ea.op.toNat ++ be 8 (u64 ea.num) ++ be 8 (u64 ea.clk) ++ (if f.cased then nameB ea.cas else []) ++ (if f.typed then nameB ea.typ else [])).length ≤ 149 → Hp w0 (Z1 :: [row b6 129 [.bool f.typed, .bool f.cased, .bool f.named, .bool f.valued, .bool f.args, .bool f.source]] :: [row b1 31 ([.int .i64 ea.op, .int .i64 ea.num, .int .i64 ea.clk, strV ea.typ, strV ea.cas, strV ea.nam, .int .i64 ea.v.v.k, .int .i64 ea.v.v.n, strV ea.v.v.t, .slice ea.v.sA ea.v.v.s.length ea.v.sC, .slice ea.aA ea.args.length ea.aC, .slice ea.bA ea.src.length ea.bC] ++ dc ea.eff)] :: R) x → K14 a x := by
          clear hF
          intro a x Z1 hF hY hln hA
          refine hK14 _ _ ?_; clear  hK14 K14
          apply wp_seq_k; intro K16 hK16
          apply wp_seq_k; intro K17 hK17
          refine wp_region_lit ?_
          refine vc_y hF rfl rfl (by decide) _ (y_field rfl Tryz.underlying129 rfl sz4_v5 (by decide) rfl (rfl : (⟨_, 0 + _, none⟩ : Addr) = ⟨_, 2, none⟩)) (fun a hF => ?_)
          refine vc_y hF rfl rfl (by decide) _ (y_ld rfl hA.q rfl 1 rfl rfl nr4_v5) (fun a hF => ?_)
          refine vc_nil ?_
          refine hK17 _ _ ?_; clear  hK17 K17
          have hJ2 : ∀ (a : Act) (x : World) (Z2 : Seg), Fr 99 [(1, .pointer (some ⟨b1, 0, none⟩)), (4, .pointer (some ⟨b6, 0, none⟩)), (7, .pointer (some ⟨wb, 0, none⟩))] a → WrS wb (be 1 ea.op.toNat ++ be 8 (u64 ea.num) ++ be 8 (u64 ea.clk) ++ (if f.cased then nameB ea.cas else []) ++ (if f.typed then nameB ea.typ else []) ++ (if f.named then nameB ea.nam else [])) Z2 → (be 1 ea.op.toNat ++ be 8 (u64 ea.num) ++ be 8 (u64 ea.clk) ++ (if f.cased then nameB ea.cas else []) ++ (if f.typed then nameB ea.typ else []) ++ (if f.named then nameB ea.nam else [])).length ≤ 215 → Hp w0 (Z2 :: [row b6 129 [.bool f.typed, .bool f.cased, .bool f.named, .bool f.valued, .bool f.args, .bool f.source]] :: [row b1 31 ([.int .i64 ea.op, .int .i64 ea.num, .int .i64 ea.clk, strV ea.typ, strV ea.cas, strV ea.nam, .int .i64 ea.v.v.k, .int .i64 ea.v.v.n, strV ea.v.v.t, .slice ea.v.sA ea.v.v.s.length ea.v.sC, .slice ea.aA ea.args.length ea.aC, .slice ea.bA ea.src.length ea.bC] ++ dc ea.eff)] :: R) x → K16 a x := by
            clear hF
            intro a x Z2 hF hY hln hA
            refine hK16 _ _ ?_; clear  hK16 K16
            apply wp_seq_k; intro K18 hK18
            apply wp_seq_k; intro K19 hK19
            refine wp_region_lit ?_
            refine vc_y hF rfl rfl (by decide) _ (y_field rfl Tryz.underlying129 rfl sz4_v5 (by decide) rfl (rfl : (⟨_, 0 + _, none⟩ : Addr) = ⟨_, 5, none⟩)) (fun a hF => ?_)
            refine vc_y hF rfl rfl (by decide) _ (y_ld rfl hA.q rfl 1 rfl rfl nr4_v5) (fun a hF => ?_)
            refine vc_nil ?_
            refine hK19 _ _ ?_; clear  hK19 K19
            have hJ3 : ∀ (a : Act) (x : World) (Z3 : Seg), Fr 99 [(1, .pointer (some ⟨b1, 0, none⟩)), (4, .pointer (some ⟨b6, 0, none⟩)), (7, .pointer (some ⟨wb, 0, none⟩))] a → WrS wb (be 1 ea.op.toNat ++ be 8 (u64 ea.num) ++ be 8 (u64 ea.clk) ++ (if f.cased then nameB ea.cas else []) ++ (if f.typed then nameB ea.typ else []) ++ (if f.named then nameB ea.nam else []) ++ (if f.source then (be 4 ea.src.length ++ ea.src) else [])) Z3 → (be 1 ea.op.toNat ++ be 8 (u64 ea.num) ++ be 8 (u64 ea.clk) ++ (if f.cased then nameB ea.cas else []) ++ (if f.typed then nameB ea.typ else []) ++ (if f.named then nameB ea.nam else []) ++ (if f.source then (be 4 ea.src.length ++ ea.src) else [])).length ≤ 60219 → Hp w0 (Z3 :: [row b6 129 [.bool f.typed, .bool f.cased, .bool f.named, .bool f.valued, .bool f.args, .bool f.source]] :: [row b1 31 ([.int .i64 ea.op, .int .i64 ea.num, .int .i64 ea.clk, strV ea.typ, strV ea.cas, strV ea.nam, .int .i64 ea.v.v.k, .int .i64 ea.v.v.n, strV ea.v.v.t, .slice ea.v.sA ea.v.v.s.length ea.v.sC, .slice ea.aA ea.args.length ea.aC, .slice ea.bA ea.src.length ea.bC] ++ dc ea.eff)] :: R) x → K18 a x := by
              clear hF
              intro a x Z3 hF hY hln hA
              refine hK18 _ _ ?_; clear  hK18 K18
              apply wp_seq_k; intro K20 hK20
              apply wp_seq_k; intro K21 hK21
              refine wp_region_lit ?_
              refine vc_y hF rfl rfl (by decide) _ (y_field rfl Tryz.underlying129 rfl sz4_v5 (by decide) rfl (rfl : (⟨_, 0 + _, none⟩ : Addr) = ⟨_, 3, none⟩)) (fun a hF => ?_)
              refine vc_y hF rfl rfl (by decide) _ (y_ld rfl hA.q rfl 1 rfl rfl nr4_v5) (fun a hF => ?_)
              refine vc_nil ?_
              refine hK21 _ _ ?_; clear  hK21 K21
              have hJ4 : ∀ (a : Act) (x : World) (Z4 : Seg), Fr 99 [(1, .pointer (some ⟨b1, 0, none⟩)), (4, .pointer (some ⟨b6, 0, none⟩)), (7, .pointer (some ⟨wb, 0, none⟩))] a → WrS wb (be 1 ea.op.toNat ++ be 8 (u64 ea.num) ++ be 8 (u64 ea.clk) ++ (if f.cased then nameB ea.cas else []) ++ (if f.typed then nameB ea.typ else []) ++ (if f.named then nameB ea.nam else []) ++ (if f.source then (be 4 ea.src.length ++ ea.src) else []) ++ (if f.valued then ea.v.v.put else [])) Z4 → (be 1 ea.op.toNat ++ be 8 (u64 ea.num) ++ be 8 (u64 ea.clk) ++ (if f.cased then nameB ea.cas else []) ++ (if f.typed then nameB ea.typ else []) ++ (if f.named then nameB ea.nam else []) ++ (if f.source then (be 4 ea.src.length ++ ea.src) else []) ++ (if f.valued then ea.v.v.put else [])).length ≤ 125886 → Hp w0 (Z4 :: [row b6 129 [.bool f.typed, .bool f.cased, .bool f.named, .bool f.valued, .bool f.args, .bool f.source]] :: [row b1 31 ([.int .i64 ea.op, .int .i64 ea.num, .int .i64 ea.clk, strV ea.typ, strV ea.cas, strV ea.nam, .int .i64 ea.v.v.k, .int .i64 ea.v.v.n, strV ea.v.v.t, .slice ea.v.sA ea.v.v.s.length ea.v.sC, .slice ea.aA ea.args.length ea.aC, .slice ea.bA ea.src.length ea.bC] ++ dc ea.eff)] :: R) x → K20 a x := by
                clear hF
                intro a x Z4 hF hY hln hA
                refine hK20 _ _ ?_; clear  hK20 K20
                apply wp_seq_k; intro K22 hK22
                apply wp_seq_k; intro K23 hK23
                refine wp_region_lit ?_
                refine vc_y hF rfl rfl (by decide) _ (y_field rfl Tryz.underlying129 rfl sz4_v5 (by decide) rfl (rfl : (⟨_, 0 + _, none⟩ : Addr) = ⟨_, 4, none⟩)) (fun a hF => ?_)
                refine vc_y hF rfl rfl (by decide) _ (y_ld rfl hA.q rfl 1 rfl rfl nr4_v5) (fun a hF => ?_)
                refine vc_nil ?_
                refine hK23 _ _ ?_; clear  hK23 K23
                have hJ5 : ∀ (a : Act) (x : World) (Z5 : Seg), Fr 99 [(1, .pointer (some ⟨b1, 0, none⟩)), (4, .pointer (some ⟨b6, 0, none⟩)), (7, .pointer (some ⟨wb, 0, none⟩))] a → WrS wb (be 1 ea.op.toNat ++ be 8 (u64 ea.num) ++ be 8 (u64 ea.clk) ++ (if f.cased then nameB ea.cas else []) ++ (if f.typed then nameB ea.typ else []) ++ (if f.named then nameB ea.nam else []) ++ (if f.source then (be 4 ea.src.length ++ ea.src) else []) ++ (if f.valued then ea.v.v.put else []) ++ (if f.args then (be 1 ea.args.length ++ (ea.args.map VA.v).flatMap Val.put) else [])) Z5 → (be 1 ea.op.toNat ++ be 8 (u64 ea.num) ++ be 8 (u64 ea.clk) ++ (if f.cased then nameB ea.cas else []) ++ (if f.typed then nameB ea.typ else []) ++ (if f.named then nameB ea.nam else []) ++ (if f.source then (be 4 ea.src.length ++ ea.src) else []) ++ (if f.valued then ea.v.v.put else []) ++ (if f.args then (be 1 ea.args.length ++ (ea.args.map VA.v).flatMap Val.put) else [])).length ≤ 1176559 → Hp w0 (Z5 :: [row b6 129 [.bool f.typed, .bool f.cased, .bool f.named, .bool f.valued, .bool f.args, .bool f.source]] :: [row b1 31 ([.int .i64 ea.op, .int .i64 ea.num, .int .i64 ea.clk, strV ea.typ, strV ea.cas, strV ea.nam, .int .i64 ea.v.v.k, .int .i64 ea.v.v.n, strV ea.v.v.t, .slice ea.v.sA ea.v.v.s.length ea.v.sC, .slice ea.aA ea.args.length ea.aC, .slice ea.bA ea.src.length ea.bC] ++ dc ea.eff)] :: R) x → K22 a x := by
                  clear hF
                  intro a x Z5 hF hY hln hA
                  obtain ⟨l0, hl0⟩ : ∃ l0, l0 = be 1 ea.op.toNat ++ be 8 (u64 ea.num) ++ be 8 (u64 ea.clk) ++ (if f.cased then nameB ea.cas else []) ++ (if f.typed then nameB ea.typ else []) ++ (if f.named then nameB ea.nam else []) ++ (if f.source then (be 4 ea.src.length ++ ea.src) else []) ++ (if f.valued then ea.v.v.put else []) ++ (if f.args then (be 1 ea.args.length ++ (ea.args.map VA.v).flatMap Val.put) else []) := ⟨_, rfl⟩
                  rw [← hl0] at hY hln
                  refine hK22 _ _ ?_; clear  hK22 K22
                  apply wp_seq_k; intro K24 hK24
                  refine wp_region_lit ?_
                  refine vc_y hF rfl rfl (by decide) _ (y_move rfl rfl) (fun a hF => ?_)
                  refine vc_y hF rfl rfl (by decide) _ (y_field rfl Tryz.underlying31 rfl sz29_v5 (by decide) rfl (rfl : (⟨_, 0 + _, none⟩ : Addr) = ⟨_, 12, none⟩)) (fun a hF => ?_)
                  refine vc_y hF rfl rfl (by decide) _ (y_ldRow (new := dc ea.eff) rfl hA.q rfl 2 rfl rw29_v5 (by rw [List.length_append, dc_length, he32]; exact Nat.le_of_ble_eq_true rfl) (by show (dc ea.eff).take 32 = _; exact List.take_of_length_le (by rw [dc_length, he32]; exact Nat.le_refl _))) (fun a hF => ?_)
                  refine vc_op rfl (fun K hK => hs_bs (qs := #[(0, .agg (dc ea.eff).toArray)]) (cells := (dc ea.eff).toArray) hF rfl (by decide) rfl hA rfl (ev_bsD he32) (fun b21 w22 a hb21 hF hA23 => hK _ _ ?_))
                  clear hK K
                  replace hA23 : Hp w0 ([row b21 29 (dc ea.eff)] :: Z5 :: [row b6 129 [.bool f.typed, .bool f.cased, .bool f.named, .bool f.valued, .bool f.args, .bool f.source]] :: [row b1 31 ([.int .i64 ea.op, .int .i64 ea.num, .int .i64 ea.clk, strV ea.typ, strV ea.cas, strV ea.nam, .int .i64 ea.v.v.k, .int .i64 ea.v.v.n, strV ea.v.v.t, .slice ea.v.sA ea.v.v.s.length ea.v.sC, .slice ea.aA ea.args.length ea.aC, .slice ea.bA ea.src.length ea.bC] ++ dc ea.eff)] :: R) w22 := hA23
                  have hA24 : Hp w0 (Z5 :: [row b21 29 (dc ea.eff)] :: [row b6 129 [.bool f.typed, .bool f.cased, .bool f.named, .bool f.valued, .bool f.args, .bool f.source]] :: [row b1 31 ([.int .i64 ea.op, .int .i64 ea.num, .int .i64 ea.clk, strV ea.typ, strV ea.cas, strV ea.nam, .int .i64 ea.v.v.k, .int .i64 ea.v.v.n, strV ea.v.v.t, .slice ea.v.sA ea.v.v.s.length ea.v.sC, .slice ea.aA ea.args.length ea.aC, .slice ea.bA ea.src.length ea.bC] ++ dc ea.eff)] :: R) w22 := Hp.ord [[row b21 29 (dc ea.eff)], Z5, [row b6 129 [.bool f.typed, .bool f.cased, .bool f.named, .bool f.valued, .bool f.args, .bool f.source]], [row b1 31 ([.int .i64 ea.op, .int .i64 ea.num, .int .i64 ea.clk, strV ea.typ, strV ea.cas, strV ea.nam, .int .i64 ea.v.v.k, .int .i64 ea.v.v.n, strV ea.v.v.t, .slice ea.v.sA ea.v.v.s.length ea.v.sC, .slice ea.aA ea.args.length ea.aC, .slice ea.bA ea.src.length ea.bC] ++ dc ea.eff)]] R [1, 0, 2, 3] hA23 rfl
                  refine vc_op rfl (fun K hK => ws_call hF rfl (by decide) cl78_v5 rfl rfl ?_)
                  with_reducible refine (ev_digest1 w0 _ ([row b21 29 (dc ea.eff)] :: [row b6 129 [.bool f.typed, .bool f.cased, .bool f.named, .bool f.valued, .bool f.args, .bool f.source]] :: [row b1 31 ([.int .i64 ea.op, .int .i64 ea.num, .int .i64 ea.clk, strV ea.typ, strV ea.cas, strV ea.nam, .int .i64 ea.v.v.k, .int .i64 ea.v.v.n, strV ea.v.v.t, .slice ea.v.sA ea.v.v.s.length ea.v.sC, .slice ea.aA ea.args.length ea.aC, .slice ea.bA ea.src.length ea.bC] ++ dc ea.eff)] :: R) wb _ _ (some ⟨b21, 0, none⟩) ea.eff he32 (ev_digs (Rc.ofRow (i := 0) (off := 0) rfl (by rw [List.drop_zero]; exact List.take_length ..))) hY hA24 (by rw [he32]; omega) ).mono ?_
                  rintro e' w25 ⟨YD, rfl, hY, hA26⟩
                  refine ⟨_, rfl, fun a hF => hK _ _ ?_⟩
                  clear hK K
                  replace hA26 : Hp w0 (YD :: [row b21 29 (dc ea.eff)] :: [row b6 129 [.bool f.typed, .bool f.cased, .bool f.named, .bool f.valued, .bool f.args, .bool f.source]] :: [row b1 31 ([.int .i64 ea.op, .int .i64 ea.num, .int .i64 ea.clk, strV ea.typ, strV ea.cas, strV ea.nam, .int .i64 ea.v.v.k, .int .i64 ea.v.v.n, strV ea.v.v.t, .slice ea.v.sA ea.v.v.s.length ea.v.sC, .slice ea.aA ea.args.length ea.aC, .slice ea.bA ea.src.length ea.bC] ++ dc ea.eff)] :: R) w25 := hA26
                  have hBe : ea.ev.bytes f = l0 ++ ea.eff := by rw [hl0]; exact ev_bytes ea f
                  have hLn : (l0 ++ ea.eff).length ≤ 1300000 := by rw [List.length_append, he32]; omega
                  refine vc_nil ?_
                  refine hK24 _ _ ?_; clear  hK24 K24
                  apply wp_seq_k; intro K25 hK25
                  apply wp_seq_k; intro K26 hK26
                  refine wp_region_lit ?_
                  refine vc_y hF rfl rfl (by decide) _ (y_move rfl rfl) (fun a hF => ?_)
                  refine vc_op rfl (fun K hK => ws_call hF rfl (by decide) cl79_v5 rfl rfl ?_)
                  with_reducible refine (hw_len w0 _ ([row b21 29 (dc ea.eff)] :: [row b6 129 [.bool f.typed, .bool f.cased, .bool f.named, .bool f.valued, .bool f.args, .bool f.source]] :: [row b1 31 ([.int .i64 ea.op, .int .i64 ea.num, .int .i64 ea.clk, strV ea.typ, strV ea.cas, strV ea.nam, .int .i64 ea.v.v.k, .int .i64 ea.v.v.n, strV ea.v.v.t, .slice ea.v.sA ea.v.v.s.length ea.v.sC, .slice ea.aA ea.args.length ea.aC, .slice ea.bA ea.src.length ea.bC] ++ dc ea.eff)] :: R) wb _ _ hY hA26 ).mono ?_
                  rintro e' w29 ⟨rfl, rfl⟩
                  refine ⟨_, rfl, fun a hF => hK _ _ ?_⟩
                  clear hK K
                  refine vc_y hF rfl rfl (by decide) _ (y_cmp rfl rfl rfl rfl rfl) (fun a hF => ?_)
                  refine vc_nil ?_
                  refine hK26 _ _ ?_; clear  hK26 K26
                  rcases tf (cmpB .gtr ((((l0 ++ ea.eff).length : Nat) : Int)) (65536)) with h6 | h6
                  · refine vc_falseB hF rfl h6 ?_
                    apply wp_skip
                    refine hK25 _ _ ?_; clear  hK25 K25
                    apply wp_seq_k; intro K27 hK27
                    refine wp_region_lit ?_
                    refine vc_y hF rfl rfl (by decide) _ (y_move rfl rfl) (fun a hF => ?_)
                    refine vc_op rfl (fun K hK => ws_call hF rfl (by decide) cl50_v5 rfl rfl ?_)
                    with_reducible refine (hw_all w0 _ ([row b21 29 (dc ea.eff)] :: [row b6 129 [.bool f.typed, .bool f.cased, .bool f.named, .bool f.valued, .bool f.args, .bool f.source]] :: [row b1 31 ([.int .i64 ea.op, .int .i64 ea.num, .int .i64 ea.clk, strV ea.typ, strV ea.cas, strV ea.nam, .int .i64 ea.v.v.k, .int .i64 ea.v.v.n, strV ea.v.v.t, .slice ea.v.sA ea.v.v.s.length ea.v.sC, .slice ea.aA ea.args.length ea.aC, .slice ea.bA ea.src.length ea.bC] ++ dc ea.eff)] :: R) wb _ _ hY hA26 (by omega) ).mono ?_
                    rintro e' w30 ⟨vA, ZA, YE, rfl, hZ, hY, hA31⟩
                    refine ⟨_, rfl, fun a hF => hK _ _ ?_⟩
                    clear hK K
                    replace hA31 : Hp w0 (ZA :: YE :: [row b21 29 (dc ea.eff)] :: [row b6 129 [.bool f.typed, .bool f.cased, .bool f.named, .bool f.valued, .bool f.args, .bool f.source]] :: [row b1 31 ([.int .i64 ea.op, .int .i64 ea.num, .int .i64 ea.clk, strV ea.typ, strV ea.cas, strV ea.nam, .int .i64 ea.v.v.k, .int .i64 ea.v.v.n, strV ea.v.v.t, .slice ea.v.sA ea.v.v.s.length ea.v.sC, .slice ea.aA ea.args.length ea.aC, .slice ea.bA ea.src.length ea.bC] ++ dc ea.eff)] :: R) w30 := hA31
                    refine vc_y hF rfl rfl (by decide) _ (y_assign rfl rfl) (fun a hF => ?_)
                    refine vc_y hF rfl rfl (by decide) _ (y_assign rfl rfl) (fun a hF => ?_)
                    refine vc_nil ?_
                    refine hK27 _ _ ?_; clear  hK27 K27
                    apply wp_ret
                    refine vc_ret2 hF Tryz.results20 rfl rfl ?_
                    have hA32 : Hp w0 (ZA :: R) w30 := Hp.sel [ZA, YE, [row b21 29 (dc ea.eff)], [row b6 129 [.bool f.typed, .bool f.cased, .bool f.named, .bool f.valued, .bool f.args, .bool f.source]], [row b1 31 ([.int .i64 ea.op, .int .i64 ea.num, .int .i64 ea.clk, strV ea.typ, strV ea.cas, strV ea.nam, .int .i64 ea.v.v.k, .int .i64 ea.v.v.n, strV ea.v.v.t, .slice ea.v.sA ea.v.v.s.length ea.v.sC, .slice ea.aA ea.args.length ea.aC, .slice ea.bA ea.src.length ea.bC] ++ dc ea.eff)]] R [0] [1, 2, 3, 4] hA31 rfl
                    obtain ⟨heq, heb⟩ := enc_ok hop hf h0 (by rw [hBe]; exact len_no h6)
                    rw [hBe] at heb
                    exact ⟨_, ZA, by rw [heq]; rfl, by rw [heb]; exact hZ, hA32⟩
                  · refine vc_trueB hF rfl h6 ?_
                    apply wp_seq_k; intro K28 hK28
                    refine wp_region_lit ?_
                    refine vc_y hF rfl rfl (by decide) _ (y_assign rfl rfl) (fun a hF => ?_)
                    refine vc_y hF rfl rfl (by decide) _ (y_assign rfl rfl) (fun a hF => ?_)
                    refine vc_nil ?_
                    refine hK28 _ _ ?_; clear  hK28 K28
                    apply wp_ret
                    simp only [Exit.then]
                    refine vc_ret2 hF Tryz.results20 rfl rfl ?_
                    have hA33 : Hp w0 (R) w25 := Hp.sel [YD, [row b21 29 (dc ea.eff)], [row b6 129 [.bool f.typed, .bool f.cased, .bool f.named, .bool f.valued, .bool f.args, .bool f.source]], [row b1 31 ([.int .i64 ea.op, .int .i64 ea.num, .int .i64 ea.clk, strV ea.typ, strV ea.cas, strV ea.nam, .int .i64 ea.v.v.k, .int .i64 ea.v.v.n, strV ea.v.v.t, .slice ea.v.sA ea.v.v.s.length ea.v.sC, .slice ea.aA ea.args.length ea.aC, .slice ea.bA ea.src.length ea.bC] ++ dc ea.eff)]] R [] [0, 1, 2, 3] hA26 rfl
                    have heq := enc_long hop hf h0 (by rw [hBe]; exact len_yes h6)
                    exact ⟨_, [], by rw [heq] <;> rfl, enc_nil (by rw [heq]; exact by decide), Hp.nil hA33⟩
                rcases tf f.args with hb | hb
                · refine vc_falseB hF rfl hb ?_
                  apply wp_skip
                  exact hJ5 _ _ _ (hF.keep [1, 4, 7] rfl) (hY.same (by rw [hb]; exact (List.append_nil _).symm)) (by rw [hb]; exact Nat.le_trans (Nat.le_of_eq (congrArg List.length (List.append_nil _))) (by omega)) hA
                · refine vc_trueB hF rfl hb ?_
                  apply wp_seq_k; intro K29 hK29
                  refine wp_region_lit ?_
                  refine vc_y hF rfl rfl (by decide) _ (y_move rfl rfl) (fun a hF => ?_)
                  refine vc_y hF rfl rfl (by decide) _ (y_field rfl Tryz.underlying31 rfl sz26_v5 (by decide) rfl (rfl : (⟨_, 0 + _, none⟩ : Addr) = ⟨_, 10, none⟩)) (fun a hF => ?_)
                  refine vc_y hF rfl rfl (by decide) _ (y_ld rfl hA.q rfl 2 rfl rfl nr26_v5) (fun a hF => ?_)
                  refine vc_y hF rfl rfl (by decide) _ (y_lenSl rfl Tryz.underlying26 rfl rfl) (fun a hF => ?_)
                  refine vc_y hF rfl rfl (by decide) _ (y_conv rfl Tryz.underlying3 Tryz.underlying5 rfl (show IntKind.u8.wrap ((ea.args.length : Nat) : Int) = ((ea.args.length : Nat) : Int) by rw [IntKind.wrap_u8]; omega)) (fun a hF => ?_)
                  refine vc_op rfl (fun K hK => ws_call hF rfl (by decide) cl74_v5 rfl rfl ?_)
                  with_reducible refine (hw_put_uint8 w0 _ ([row b6 129 [.bool f.typed, .bool f.cased, .bool f.named, .bool f.valued, .bool f.args, .bool f.source]] :: [row b1 31 ([.int .i64 ea.op, .int .i64 ea.num, .int .i64 ea.clk, strV ea.typ, strV ea.cas, strV ea.nam, .int .i64 ea.v.v.k, .int .i64 ea.v.v.n, strV ea.v.v.t, .slice ea.v.sA ea.v.v.s.length ea.v.sC, .slice ea.aA ea.args.length ea.aC, .slice ea.bA ea.src.length ea.bC] ++ dc ea.eff)] :: R) wb _ _ ea.args.length (by show ea.args.length < 256; omega) _ rfl hY hA (by omega) ).mono ?_
                  rintro e' w34 ⟨YT, rfl, hY, hA35⟩
                  refine ⟨_, rfl, fun a hF => hK _ _ ?_⟩
                  clear hK K
                  replace hA35 : Hp w0 (YT :: [row b6 129 [.bool f.typed, .bool f.cased, .bool f.named, .bool f.valued, .bool f.args, .bool f.source]] :: [row b1 31 ([.int .i64 ea.op, .int .i64 ea.num, .int .i64 ea.clk, strV ea.typ, strV ea.cas, strV ea.nam, .int .i64 ea.v.v.k, .int .i64 ea.v.v.n, strV ea.v.v.t, .slice ea.v.sA ea.v.v.s.length ea.v.sC, .slice ea.aA ea.args.length ea.aC, .slice ea.bA ea.src.length ea.bC] ++ dc ea.eff)] :: R) w34 := hA35
                  refine vc_nil ?_
                  refine hK29 _ _ ?_; clear  hK29 K29
                  apply wp_seq_k; intro K30 hK30
                  refine wp_region_lit ?_
                  refine vc_y hF rfl rfl (by decide) _ (y_field rfl Tryz.underlying31 rfl sz26_v5 (by decide) rfl (rfl : (⟨_, 0 + _, none⟩ : Addr) = ⟨_, 10, none⟩)) (fun a hF => ?_)
                  refine vc_y hF rfl rfl (by decide) _ (y_ld rfl hA35.q rfl 2 rfl rfl nr26_v5) (fun a hF => ?_)
                  refine vc_y hF rfl rfl (by decide) _ (y_lenSl rfl Tryz.underlying26 rfl rfl) (fun a hF => ?_)
                  refine vc_y hF rfl rfl (by decide) _ (y_move rfl rfl) (fun a hF => ?_)
                  refine vc_nil ?_
                  refine hK30 _ _ ?_; clear  hK30 K30
                  apply wp_block
                  obtain ⟨l0, hl0⟩ : ∃ l0, l0 = be 1 ea.op.toNat ++ be 8 (u64 ea.num) ++ be 8 (u64 ea.clk) ++ (if f.cased then nameB ea.cas else []) ++ (if f.typed then nameB ea.typ else []) ++ (if f.named then nameB ea.nam else []) ++ (if f.source then (be 4 ea.src.length ++ ea.src) else []) ++ (if f.valued then ea.v.v.put else []) := ⟨_, rfl⟩
                  rw [← hl0] at hY hln
                  refine vc_loop (G := Nat) (fun i a x => ∃ (YV : Seg), i ≤ ea.args.length ∧ WrS wb (l0 ++ be 1 ea.args.length ++ ((ea.args.take i).map VA.v).flatMap Val.put) YV ∧ Fr 99 [(81, .int .i64 (i : Int)), (1, .pointer (some ⟨b1, 0, none⟩)), (4, .pointer (some ⟨b6, 0, none⟩)), (7, .pointer (some ⟨wb, 0, none⟩)), (79, .slice ea.aA ea.args.length ea.aC), (80, .int .i64 ea.args.length)] a ∧ Hp w0 (YV :: [row b6 129 [.bool f.typed, .bool f.cased, .bool f.named, .bool f.valued, .bool f.args, .bool f.source]] :: [row b1 31 ([.int .i64 ea.op, .int .i64 ea.num, .int .i64 ea.clk, strV ea.typ, strV ea.cas, strV ea.nam, .int .i64 ea.v.v.k, .int .i64 ea.v.v.n, strV ea.v.v.t, .slice ea.v.sA ea.v.v.s.length ea.v.sC, .slice ea.aA ea.args.length ea.aC, .slice ea.bA ea.src.length ea.bC] ++ dc ea.eff)] :: R) x) (fun i => ea.args.length - i) 0 (⟨_, Nat.zero_le _, (hY.same (List.append_nil _).symm), hF.keep [81, 1, 4, 7, 79, 80] rfl, hA35⟩) ?_
                  clear hF
                  rintro i a w37 ⟨YV, hi, hY, hF, hA36⟩
                  apply wp_seq_k; intro K31 hK31
                  refine wp_region_lit ?_
                  refine vc_y hF rfl rfl (by decide) _ (y_cmp rfl rfl rfl rfl rfl) (fun a hF => ?_)
                  refine vc_nil ?_
                  refine hK31 _ _ ?_; clear  hK31 K31
                  apply wp_seq_k; intro K32 hK32
                  have hll : (((ea.args.take i).map VA.v).flatMap Val.put).length ≤ 1050672 := puts_take hargs hvs i
                  by_cases hlt : i < ea.args.length
                  · refine vc_trueB hF rfl (lss_t (by omega)) ?_
                    obtain ⟨va, hp⟩ : ∃ q, ea.args[i]? = some q := ⟨_, List.getElem?_eq_getElem hlt⟩
                    obtain ⟨hat, hle4⟩ := Go.Dk.flat_at (z := 4) (Ws := ea.args.map VA.cells) (V := va.cells) (i := i) (fun V hV => by obtain ⟨u, _, rfl⟩ := List.mem_map.1 hV; rfl) (by rw [List.getElem?_map, hp]; rfl)
                    obtain ⟨b, o, hsA, hc⟩ := hV.rc.ne (i := i * 4) (by have := argC_len ea.args; omega)
                    rw [hsA] at hF
                    have hva := hV.args va (List.mem_of_getElem? hp)
                    have hvan := hva.n
                    apply wp_skip
                    refine hK32 _ _ ?_; clear  hK32 K32
                    apply wp_seq_k; intro K33 hK33
                    apply wp_block
                    apply wp_seq_k; intro K34 hK34
                    refine wp_region_lit ?_
                    refine vc_y hF rfl rfl (by decide) _ (y_ixSl rfl Tryz.underlying26 sz25_v5 rfl rfl i rfl hlt rfl) (fun a hF => ?_)
                    refine vc_y hF rfl rfl (by decide) _ (y_ldRowC (new := va.cells) rfl (Hq.sub hA36.q (List.Subset.trans hG (subC (subC (subC (sub0)))))) rfl hc (i * 4) hle4 rfl hat rw25_v5) (fun a hF => ?_)
                    refine vc_op rfl (fun K hK => hs_alloc hF rfl (by decide) rfl hA36 (zr25_v5) (fun b38 w39 a hb38 hF hA40 => hK _ _ ?_))
                    clear hK K
                    replace hA40 : Hp w0 ([row b38 25 [.int .i64 0, .int .i64 0, .string (⟨#[]⟩), .slice none 0 0]] :: YV :: [row b6 129 [.bool f.typed, .bool f.cased, .bool f.named, .bool f.valued, .bool f.args, .bool f.source]] :: [row b1 31 ([.int .i64 ea.op, .int .i64 ea.num, .int .i64 ea.clk, strV ea.typ, strV ea.cas, strV ea.nam, .int .i64 ea.v.v.k, .int .i64 ea.v.v.n, strV ea.v.v.t, .slice ea.v.sA ea.v.v.s.length ea.v.sC, .slice ea.aA ea.args.length ea.aC, .slice ea.bA ea.src.length ea.bC] ++ dc ea.eff)] :: R) w39 := hA40
                    refine vc_op rfl (fun K hK => hs_storeAll (new := [.int .i64 va.v.k, .int .i64 va.v.n, strV va.v.t, .slice va.sA va.v.s.length va.sC]) hF rfl rfl hA40 rfl rfl 0 rfl rfl (by simp [Value.oneCell']) sz25_v5 (fun w41 hA42 => hK _ _ ?_))
                    clear hK K
                    replace hA42 : Hp w0 ([row b38 25 [.int .i64 va.v.k, .int .i64 va.v.n, strV va.v.t, .slice va.sA va.v.s.length va.sC]] :: YV :: [row b6 129 [.bool f.typed, .bool f.cased, .bool f.named, .bool f.valued, .bool f.args, .bool f.source]] :: [row b1 31 ([.int .i64 ea.op, .int .i64 ea.num, .int .i64 ea.clk, strV ea.typ, strV ea.cas, strV ea.nam, .int .i64 ea.v.v.k, .int .i64 ea.v.v.n, strV ea.v.v.t, .slice ea.v.sA ea.v.v.s.length ea.v.sC, .slice ea.aA ea.args.length ea.aC, .slice ea.bA ea.src.length ea.bC] ++ dc ea.eff)] :: R) w41 := hA42
                    refine vc_nil ?_
                    refine hK34 _ _ ?_; clear  hK34 K34
                    refine wp_region_lit ?_
                    refine vc_y hF rfl rfl (by decide) _ (y_move rfl rfl) (fun a hF => ?_)
                    refine vc_y hF rfl rfl (by decide) _ (y_ldRow (new := [.int .i64 va.v.k, .int .i64 va.v.n, strV va.v.t, .slice va.sA va.v.s.length va.sC]) rfl hA42.q rfl 0 rfl rw25_v5 (Nat.le_of_ble_eq_true rfl) rfl) (fun a hF => ?_)
                    have hA43 : Hp w0 (YV :: [row b38 25 [.int .i64 va.v.k, .int .i64 va.v.n, strV va.v.t, .slice va.sA va.v.s.length va.sC]] :: [row b6 129 [.bool f.typed, .bool f.cased, .bool f.named, .bool f.valued, .bool f.args, .bool f.source]] :: [row b1 31 ([.int .i64 ea.op, .int .i64 ea.num, .int .i64 ea.clk, strV ea.typ, strV ea.cas, strV ea.nam, .int .i64 ea.v.v.k, .int .i64 ea.v.v.n, strV ea.v.v.t, .slice ea.v.sA ea.v.v.s.length ea.v.sC, .slice ea.aA ea.args.length ea.aC, .slice ea.bA ea.src.length ea.bC] ++ dc ea.eff)] :: R) w41 := Hp.ord [[row b38 25 [.int .i64 va.v.k, .int .i64 va.v.n, strV va.v.t, .slice va.sA va.v.s.length va.sC]], YV, [row b6 129 [.bool f.typed, .bool f.cased, .bool f.named, .bool f.valued, .bool f.args, .bool f.source]], [row b1 31 ([.int .i64 ea.op, .int .i64 ea.num, .int .i64 ea.clk, strV ea.typ, strV ea.cas, strV ea.nam, .int .i64 ea.v.v.k, .int .i64 ea.v.v.n, strV ea.v.v.t, .slice ea.v.sA ea.v.v.s.length ea.v.sC, .slice ea.aA ea.args.length ea.aC, .slice ea.bA ea.src.length ea.bC] ++ dc ea.eff)]] R [1, 0, 2, 3] hA42 rfl
                    refine vc_op rfl (fun K hK => ws_call hF rfl (by decide) cl48_v5 rfl rfl ?_)
                    with_reducible refine (ev_put wb _ _ va _ hva (List.Subset.trans hG (subC (subC (subC (sub0))))) hY hA43 (by simp only [List.length_append, be_length]; omega) ).mono ?_
                    rintro e' w44 ⟨YW, rfl, hY, hA45⟩
                    refine ⟨_, rfl, fun a hF => hK _ _ ?_⟩
                    clear hK K
                    replace hA45 : Hp w0 (YW :: [row b38 25 [.int .i64 va.v.k, .int .i64 va.v.n, strV va.v.t, .slice va.sA va.v.s.length va.sC]] :: [row b6 129 [.bool f.typed, .bool f.cased, .bool f.named, .bool f.valued, .bool f.args, .bool f.source]] :: [row b1 31 ([.int .i64 ea.op, .int .i64 ea.num, .int .i64 ea.clk, strV ea.typ, strV ea.cas, strV ea.nam, .int .i64 ea.v.v.k, .int .i64 ea.v.v.n, strV ea.v.v.t, .slice ea.v.sA ea.v.v.s.length ea.v.sC, .slice ea.aA ea.args.length ea.aC, .slice ea.bA ea.src.length ea.bC] ++ dc ea.eff)] :: R) w44 := hA45
                    refine vc_nil ?_
                    refine hK33 _ _ ?_; clear  hK33 K33
                    refine wp_region_lit ?_
                    refine vc_y hF rfl rfl (by decide) _ (y_add rfl rfl rfl (IntWalk.i64_in _ (by omega))) (fun a hF => ?_)
                    refine vc_y hF rfl rfl (by decide) _ (y_move rfl rfl) (fun a hF => ?_)
                    refine vc_nil ?_
                    rw [← hsA] at hF
                    have hA46 : Hp w0 (YW :: [row b6 129 [.bool f.typed, .bool f.cased, .bool f.named, .bool f.valued, .bool f.args, .bool f.source]] :: [row b1 31 ([.int .i64 ea.op, .int .i64 ea.num, .int .i64 ea.clk, strV ea.typ, strV ea.cas, strV ea.nam, .int .i64 ea.v.v.k, .int .i64 ea.v.v.n, strV ea.v.v.t, .slice ea.v.sA ea.v.v.s.length ea.v.sC, .slice ea.aA ea.args.length ea.aC, .slice ea.bA ea.src.length ea.bC] ++ dc ea.eff)] :: R) w44 := Hp.sel [YW, [row b38 25 [.int .i64 va.v.k, .int .i64 va.v.n, strV va.v.t, .slice va.sA va.v.s.length va.sC]], [row b6 129 [.bool f.typed, .bool f.cased, .bool f.named, .bool f.valued, .bool f.args, .bool f.source]], [row b1 31 ([.int .i64 ea.op, .int .i64 ea.num, .int .i64 ea.clk, strV ea.typ, strV ea.cas, strV ea.nam, .int .i64 ea.v.v.k, .int .i64 ea.v.v.n, strV ea.v.v.t, .slice ea.v.sA ea.v.v.s.length ea.v.sC, .slice ea.aA ea.args.length ea.aC, .slice ea.bA ea.src.length ea.bC] ++ dc ea.eff)]] R [0, 2, 3] [1] hA45 rfl
                    exact ⟨i + 1, by omega, YW, by omega, hY.same (by rw [List.append_assoc, ← puts_step hp]), hF.keep [81, 1, 4, 7, 79, 80] rfl, hA46⟩
                  · refine vc_falseB hF rfl (lss_f (by omega)) ?_
                    obtain rfl : i = ea.args.length := by omega
                    rw [List.take_length, List.append_assoc, hl0] at hY
                    rw [hl0] at hln
                    apply wp_exit
                    exact hJ5 _ _ _ (hF.keep [1, 4, 7] rfl) (hY.same (by rw [if_pos hb])) (by rw [List.length_append, if_pos hb]; have h9 := puts_len hvs; rw [List.length_map] at h9; have e : (be 1 ea.args.length ++ (ea.args.map VA.v).flatMap Val.put).length = 1 + ((ea.args.map VA.v).flatMap Val.put).length := (by rw [List.length_append, be_length]); omega) hA36
              rcases tf f.valued with hb | hb
              · refine vc_falseB hF rfl hb ?_
                apply wp_skip
                exact hJ4 _ _ _ (hF.keep [1, 4, 7] rfl) (hY.same (by rw [hb]; exact (List.append_nil _).symm)) (by rw [hb]; exact Nat.le_trans (Nat.le_of_eq (congrArg List.length (List.append_nil _))) (by omega)) hA
              · refine vc_trueB hF rfl hb ?_
                refine wp_region_lit ?_
                refine vc_y hF rfl rfl (by decide) _ (y_move rfl rfl) (fun a hF => ?_)
                refine vc_y hF rfl rfl (by decide) _ (y_field rfl Tryz.underlying31 rfl sz25_v5 (by decide) rfl (rfl : (⟨_, 0 + _, none⟩ : Addr) = ⟨_, 6, none⟩)) (fun a hF => ?_)
                refine vc_y hF rfl rfl (by decide) _ (y_ldRow (new := [.int .i64 ea.v.v.k, .int .i64 ea.v.v.n, strV ea.v.v.t, .slice ea.v.sA ea.v.v.s.length ea.v.sC]) rfl hA.q rfl 2 rfl rw25_v5 (by rw [List.length_append]; exact Nat.le_add_right_of_le (Nat.le_of_ble_eq_true rfl)) rfl) (fun a hF => ?_)
                refine vc_op rfl (fun K hK => ws_call hF rfl (by decide) cl48_v5 rfl rfl ?_)
                with_reducible refine (ev_put wb _ _ ea.v _ hV.v (List.Subset.trans hG (subC (subC (sub0)))) hY hA (by omega) ).mono ?_
                rintro e' w47 ⟨YT, rfl, hY, hA48⟩
                refine ⟨_, rfl, fun a hF => hK _ _ ?_⟩
                clear hK K
                replace hA48 : Hp w0 (YT :: [row b6 129 [.bool f.typed, .bool f.cased, .bool f.named, .bool f.valued, .bool f.args, .bool f.source]] :: [row b1 31 ([.int .i64 ea.op, .int .i64 ea.num, .int .i64 ea.clk, strV ea.typ, strV ea.cas, strV ea.nam, .int .i64 ea.v.v.k, .int .i64 ea.v.v.n, strV ea.v.v.t, .slice ea.v.sA ea.v.v.s.length ea.v.sC, .slice ea.aA ea.args.length ea.aC, .slice ea.bA ea.src.length ea.bC] ++ dc ea.eff)] :: R) w47 := hA48
                refine vc_nil ?_
                exact hJ4 _ _ _ (hF.keep [1, 4, 7] rfl) (hY.same (by rw [if_pos hb])) (by rw [List.length_append, if_pos hb]; have := put_len hvr; omega) hA48
            rcases tf f.source with hb | hb
            · refine vc_falseB hF rfl hb ?_
              apply wp_skip
              exact hJ3 _ _ _ (hF.keep [1, 4, 7] rfl) (hY.same (by rw [hb]; exact (List.append_nil _).symm)) (by rw [hb]; exact Nat.le_trans (Nat.le_of_eq (congrArg List.length (List.append_nil _))) (by omega)) hA
            · refine vc_trueB hF rfl hb ?_
              refine wp_region_lit ?_
              refine vc_y hF rfl rfl (by decide) _ (y_move rfl rfl) (fun a hF => ?_)
              refine vc_y hF rfl rfl (by decide) _ (y_field rfl Tryz.underlying31 rfl sz27_v5 (by decide) rfl (rfl : (⟨_, 0 + _, none⟩ : Addr) = ⟨_, 11, none⟩)) (fun a hF => ?_)
              refine vc_y hF rfl rfl (by decide) _ (y_ld rfl hA.q rfl 2 rfl rfl nr27_v5) (fun a hF => ?_)
              refine vc_op rfl (fun K hK => ws_call hF rfl (by decide) cl77_v5 rfl rfl ?_)
              with_reducible refine (hw_bytes w0 _ ([row b6 129 [.bool f.typed, .bool f.cased, .bool f.named, .bool f.valued, .bool f.args, .bool f.source]] :: [row b1 31 ([.int .i64 ea.op, .int .i64 ea.num, .int .i64 ea.clk, strV ea.typ, strV ea.cas, strV ea.nam, .int .i64 ea.v.v.k, .int .i64 ea.v.v.n, strV ea.v.v.t, .slice ea.v.sA ea.v.v.s.length ea.v.sC, .slice ea.aA ea.args.length ea.aC, .slice ea.bA ea.src.length ea.bC] ++ dc ea.eff)] :: R) wb _ _ ea.src ea.bA ea.bC (hV.src.mono (List.Subset.trans hG (subC (subC (sub0))))) 60000 hY hA (by omega) ).mono ?_
              rintro e' w49 ⟨YT, rfl, hY, hA50⟩
              refine ⟨_, rfl, fun a hF => hK _ _ ?_⟩
              clear hK K
              replace hA50 : Hp w0 (YT :: [row b6 129 [.bool f.typed, .bool f.cased, .bool f.named, .bool f.valued, .bool f.args, .bool f.source]] :: [row b1 31 ([.int .i64 ea.op, .int .i64 ea.num, .int .i64 ea.clk, strV ea.typ, strV ea.cas, strV ea.nam, .int .i64 ea.v.v.k, .int .i64 ea.v.v.n, strV ea.v.v.t, .slice ea.v.sA ea.v.v.s.length ea.v.sC, .slice ea.aA ea.args.length ea.aC, .slice ea.bA ea.src.length ea.bC] ++ dc ea.eff)] :: R) w49 := hA50
              rw [bytesB_small (by decide) (by decide) (by omega)] at hY
              refine vc_nil ?_
              exact hJ3 _ _ _ (hF.keep [1, 4, 7] rfl) (hY.same (by rw [if_pos hb])) (by rw [List.length_append, if_pos hb]; have e : (be 4 ea.src.length ++ ea.src).length = 4 + ea.src.length := (by rw [List.length_append, be_length]); omega) hA50
          rcases tf f.named with hb | hb
          · refine vc_falseB hF rfl hb ?_
            apply wp_skip
            exact hJ2 _ _ _ (hF.keep [1, 4, 7] rfl) (hY.same (by rw [hb]; exact (List.append_nil _).symm)) (by rw [hb]; exact Nat.le_trans (Nat.le_of_eq (congrArg List.length (List.append_nil _))) (by omega)) hA
          · refine vc_trueB hF rfl hb ?_
            refine wp_region_lit ?_
            refine vc_y hF rfl rfl (by decide) _ (y_move rfl rfl) (fun a hF => ?_)
            refine vc_y hF rfl rfl (by decide) _ (y_field rfl Tryz.underlying31 rfl sz9_v5 (by decide) rfl (rfl : (⟨_, 0 + _, none⟩ : Addr) = ⟨_, 5, none⟩)) (fun a hF => ?_)
            refine vc_y hF rfl rfl (by decide) _ (y_ld rfl hA.q rfl 2 rfl rfl nr9_v5) (fun a hF => ?_)
            refine vc_op rfl (fun K hK => ws_call hF rfl (by decide) cl76_v5 rfl rfl ?_)
            with_reducible refine (hw_text w0 _ ([row b6 129 [.bool f.typed, .bool f.cased, .bool f.named, .bool f.valued, .bool f.args, .bool f.source]] :: [row b1 31 ([.int .i64 ea.op, .int .i64 ea.num, .int .i64 ea.clk, strV ea.typ, strV ea.cas, strV ea.nam, .int .i64 ea.v.v.k, .int .i64 ea.v.v.n, strV ea.v.v.t, .slice ea.v.sA ea.v.v.s.length ea.v.sC, .slice ea.aA ea.args.length ea.aC, .slice ea.bA ea.src.length ea.bC] ++ dc ea.eff)] :: R) wb _ _ ea.nam 64 hY hA (by have := legalN_len (hnam hb); omega) ).mono ?_
            rintro e' w51 ⟨YT, rfl, hY, hA52⟩
            refine ⟨_, rfl, fun a hF => hK _ _ ?_⟩
            clear hK K
            replace hA52 : Hp w0 (YT :: [row b6 129 [.bool f.typed, .bool f.cased, .bool f.named, .bool f.valued, .bool f.args, .bool f.source]] :: [row b1 31 ([.int .i64 ea.op, .int .i64 ea.num, .int .i64 ea.clk, strV ea.typ, strV ea.cas, strV ea.nam, .int .i64 ea.v.v.k, .int .i64 ea.v.v.n, strV ea.v.v.t, .slice ea.v.sA ea.v.v.s.length ea.v.sC, .slice ea.aA ea.args.length ea.aC, .slice ea.bA ea.src.length ea.bC] ++ dc ea.eff)] :: R) w51 := hA52
            rw [textB_small (by decide) (by decide) (by have := legalN_len (hnam hb); omega)] at hY
            refine vc_nil ?_
            exact hJ2 _ _ _ (hF.keep [1, 4, 7] rfl) (hY.same (by rw [if_pos hb])) (by rw [List.length_append, if_pos hb]; have := legalN_len (hnam hb); rw [nameB_len]; omega) hA52
        rcases tf f.typed with hb | hb
        · refine vc_falseB hF rfl hb ?_
          apply wp_skip
          exact hJ1 _ _ _ (hF.keep [1, 4, 7] rfl) (hY.same (by rw [hb]; exact (List.append_nil _).symm)) (by rw [hb]; exact Nat.le_trans (Nat.le_of_eq (congrArg List.length (List.append_nil _))) (by omega)) hA
        · refine vc_trueB hF rfl hb ?_
          refine wp_region_lit ?_
          refine vc_y hF rfl rfl (by decide) _ (y_move rfl rfl) (fun a hF => ?_)
          refine vc_y hF rfl rfl (by decide) _ (y_field rfl Tryz.underlying31 rfl sz9_v5 (by decide) rfl (rfl : (⟨_, 0 + _, none⟩ : Addr) = ⟨_, 3, none⟩)) (fun a hF => ?_)
          refine vc_y hF rfl rfl (by decide) _ (y_ld rfl hA.q rfl 2 rfl rfl nr9_v5) (fun a hF => ?_)
          refine vc_op rfl (fun K hK => ws_call hF rfl (by decide) cl76_v5 rfl rfl ?_)
          with_reducible refine (hw_text w0 _ ([row b6 129 [.bool f.typed, .bool f.cased, .bool f.named, .bool f.valued, .bool f.args, .bool f.source]] :: [row b1 31 ([.int .i64 ea.op, .int .i64 ea.num, .int .i64 ea.clk, strV ea.typ, strV ea.cas, strV ea.nam, .int .i64 ea.v.v.k, .int .i64 ea.v.v.n, strV ea.v.v.t, .slice ea.v.sA ea.v.v.s.length ea.v.sC, .slice ea.aA ea.args.length ea.aC, .slice ea.bA ea.src.length ea.bC] ++ dc ea.eff)] :: R) wb _ _ ea.typ 64 hY hA (by have := legalN_len (htyp hb); omega) ).mono ?_
          rintro e' w53 ⟨YT, rfl, hY, hA54⟩
          refine ⟨_, rfl, fun a hF => hK _ _ ?_⟩
          clear hK K
          replace hA54 : Hp w0 (YT :: [row b6 129 [.bool f.typed, .bool f.cased, .bool f.named, .bool f.valued, .bool f.args, .bool f.source]] :: [row b1 31 ([.int .i64 ea.op, .int .i64 ea.num, .int .i64 ea.clk, strV ea.typ, strV ea.cas, strV ea.nam, .int .i64 ea.v.v.k, .int .i64 ea.v.v.n, strV ea.v.v.t, .slice ea.v.sA ea.v.v.s.length ea.v.sC, .slice ea.aA ea.args.length ea.aC, .slice ea.bA ea.src.length ea.bC] ++ dc ea.eff)] :: R) w53 := hA54
          rw [textB_small (by decide) (by decide) (by have := legalN_len (htyp hb); omega)] at hY
          refine vc_nil ?_
          exact hJ1 _ _ _ (hF.keep [1, 4, 7] rfl) (hY.same (by rw [if_pos hb])) (by rw [List.length_append, if_pos hb]; have := legalN_len (htyp hb); rw [nameB_len]; omega) hA54
      rcases tf f.cased with hb | hb
      · refine vc_falseB hF rfl hb ?_
        apply wp_skip
        exact hJ0 _ _ _ (hF.keep [1, 4, 7] rfl) (hY.same (by rw [hb]; exact (List.append_nil _).symm)) (by rw [hb]; exact Nat.le_trans (Nat.le_of_eq (congrArg List.length (List.append_nil _))) (by omega)) hA20
      · refine vc_trueB hF rfl hb ?_
        refine wp_region_lit ?_
        refine vc_y hF rfl rfl (by decide) _ (y_move rfl rfl) (fun a hF => ?_)
        refine vc_y hF rfl rfl (by decide) _ (y_field rfl Tryz.underlying31 rfl sz9_v5 (by decide) rfl (rfl : (⟨_, 0 + _, none⟩ : Addr) = ⟨_, 4, none⟩)) (fun a hF => ?_)
        refine vc_y hF rfl rfl (by decide) _ (y_ld rfl hA20.q rfl 2 rfl rfl nr9_v5) (fun a hF => ?_)
        refine vc_op rfl (fun K hK => ws_call hF rfl (by decide) cl76_v5 rfl rfl ?_)
        with_reducible refine (hw_text w0 _ ([row b6 129 [.bool f.typed, .bool f.cased, .bool f.named, .bool f.valued, .bool f.args, .bool f.source]] :: [row b1 31 ([.int .i64 ea.op, .int .i64 ea.num, .int .i64 ea.clk, strV ea.typ, strV ea.cas, strV ea.nam, .int .i64 ea.v.v.k, .int .i64 ea.v.v.n, strV ea.v.v.t, .slice ea.v.sA ea.v.v.s.length ea.v.sC, .slice ea.aA ea.args.length ea.aC, .slice ea.bA ea.src.length ea.bC] ++ dc ea.eff)] :: R) wb _ _ ea.cas 64 hY hA20 (by have := legalC_len (hcas hb); omega) ).mono ?_
        rintro e' w55 ⟨YT, rfl, hY, hA56⟩
        refine ⟨_, rfl, fun a hF => hK _ _ ?_⟩
        clear hK K
        replace hA56 : Hp w0 (YT :: [row b6 129 [.bool f.typed, .bool f.cased, .bool f.named, .bool f.valued, .bool f.args, .bool f.source]] :: [row b1 31 ([.int .i64 ea.op, .int .i64 ea.num, .int .i64 ea.clk, strV ea.typ, strV ea.cas, strV ea.nam, .int .i64 ea.v.v.k, .int .i64 ea.v.v.n, strV ea.v.v.t, .slice ea.v.sA ea.v.v.s.length ea.v.sC, .slice ea.aA ea.args.length ea.aC, .slice ea.bA ea.src.length ea.bC] ++ dc ea.eff)] :: R) w55 := hA56
        rw [textB_small (by decide) (by decide) (by have := legalC_len (hcas hb); omega)] at hY
        refine vc_nil ?_
        exact hJ0 _ _ _ (hF.keep [1, 4, 7] rfl) (hY.same (by rw [if_pos hb])) (by rw [List.length_append, if_pos hb]; have := legalC_len (hcas hb); rw [nameB_len]; omega) hA56
    · refine vc_trueB hF rfl hr ?_
      apply wp_seq_k; intro K35 hK35
      refine wp_region_lit ?_
      refine vc_y hF rfl rfl (by decide) _ (y_move rfl rfl) (fun a hF => ?_)
      refine vc_y hF rfl rfl (by decide) _ (y_assign rfl rfl) (fun a hF => ?_)
      refine vc_y hF rfl rfl (by decide) _ (y_assign rfl rfl) (fun a hF => ?_)
      refine vc_nil ?_
      refine hK35 _ _ ?_; clear  hK35 K35
      apply wp_ret
      simp only [Exit.then]
      refine vc_ret2 hF Tryz.results20 rfl rfl ?_
      have hA57 : Hp w0 (R) w11 := Hp.sel [[row b6 129 [.bool f.typed, .bool f.cased, .bool f.named, .bool f.valued, .bool f.args, .bool f.source]], [row b1 31 ([.int .i64 ea.op, .int .i64 ea.num, .int .i64 ea.clk, strV ea.typ, strV ea.cas, strV ea.nam, .int .i64 ea.v.v.k, .int .i64 ea.v.v.n, strV ea.v.v.t, .slice ea.v.sA ea.v.v.s.length ea.v.sC, .slice ea.aA ea.args.length ea.aC, .slice ea.bA ea.src.length ea.bC] ++ dc ea.eff)]] R [] [0, 1] hA12 rfl
      have heq := enc_ref hop hf (neq_yes hr)
      exact ⟨_, [], by rw [heq] <;> rfl, enc_nil (by rw [heq]; exact neq_yes hr), Hp.nil hA57⟩
  · refine vc_enter Tryz.func20 rfl Tryz.ntmps20 (Nat.le_of_ble_eq_true rfl) (fun a hF => ?_)
    apply wp_seq_k; intro K36 hK36
    refine wp_region_lit ?_
    refine vc_op rfl (fun K hK => hs_box (cs := ea.cells) hF rfl (by decide) rfl hA rfl (fun b58 w59 a hb58 hF hA60 => hK _ _ ?_))
    clear hK K
    replace hA60 : Hp w0 ([row b58 31 ([.int .i64 ea.op, .int .i64 ea.num, .int .i64 ea.clk, strV ea.typ, strV ea.cas, strV ea.nam, .int .i64 ea.v.v.k, .int .i64 ea.v.v.n, strV ea.v.v.t, .slice ea.v.sA ea.v.v.s.length ea.v.sC, .slice ea.aA ea.args.length ea.aC, .slice ea.bA ea.src.length ea.bC] ++ dc ea.eff)] :: R) w59 := hA60
    refine vc_y hF rfl rfl (by decide) _ (y_assign rfl rfl) (fun a hF => ?_)
    refine vc_y hF rfl rfl (by decide) _ (y_assign rfl rfl) (fun a hF => ?_)
    refine vc_nil ?_
    refine hK36 _ _ ?_; clear  hK36 K36
    apply wp_seq_k; intro K37 hK37
    refine wp_region_lit ?_
    refine vc_y hF rfl rfl (by decide) _ (y_field rfl Tryz.underlying31 rfl sz3_v5 (by decide) rfl (rfl : (⟨_, 0 + _, none⟩ : Addr) = ⟨_, 0, none⟩)) (fun a hF => ?_)
    refine vc_y hF rfl rfl (by decide) _ (y_ld rfl hA60.q rfl 0 rfl rfl nr3_v5) (fun a hF => ?_)
    refine vc_op rfl (fun K hK => ws_call hF rfl (by decide) cl72_v5 rfl rfl ?_)
    with_reducible refine (ev_fields_no ea.op hop _ hA60 ).mono ?_
    rintro e' w61 ⟨rfl, hA62⟩
    refine ⟨_, rfl, fun a hF => hK _ _ ?_⟩
    clear hK K
    replace hA62 : Hp w0 ([row b58 31 ([.int .i64 ea.op, .int .i64 ea.num, .int .i64 ea.clk, strV ea.typ, strV ea.cas, strV ea.nam, .int .i64 ea.v.v.k, .int .i64 ea.v.v.n, strV ea.v.v.t, .slice ea.v.sA ea.v.v.s.length ea.v.sC, .slice ea.aA ea.args.length ea.aC, .slice ea.bA ea.src.length ea.bC] ++ dc ea.eff)] :: R) w61 := hA62
    refine vc_y hF rfl rfl (by decide) _ (y_move rfl rfl) (fun a hF => ?_)
    refine vc_y hF rfl rfl (by decide) _ (y_extract (v := .agg ([.bool false, .bool false, .bool false, .bool false, .bool false, .bool false]).toArray) rfl rfl rfl) (fun a hF => ?_)
    refine vc_y hF rfl rfl (by decide) _ (y_extract (v := .bool false) rfl rfl rfl) (fun a hF => ?_)
    refine vc_op rfl (fun K hK => hs_alloc hF rfl (by decide) rfl hA62 (zr129_v5) (fun b63 w64 a hb63 hF hA65 => hK _ _ ?_))
    clear hK K
    replace hA65 : Hp w0 ([row b63 129 [.bool false, .bool false, .bool false, .bool false, .bool false, .bool false]] :: [row b58 31 ([.int .i64 ea.op, .int .i64 ea.num, .int .i64 ea.clk, strV ea.typ, strV ea.cas, strV ea.nam, .int .i64 ea.v.v.k, .int .i64 ea.v.v.n, strV ea.v.v.t, .slice ea.v.sA ea.v.v.s.length ea.v.sC, .slice ea.aA ea.args.length ea.aC, .slice ea.bA ea.src.length ea.bC] ++ dc ea.eff)] :: R) w64 := hA65
    refine vc_op rfl (fun K hK => hs_storeAll (new := [.bool false, .bool false, .bool false, .bool false, .bool false, .bool false]) hF rfl rfl hA65 rfl rfl 0 rfl rfl (by simp [Value.oneCell']) sz129_v5 (fun w66 hA67 => hK _ _ ?_))
    clear hK K
    replace hA67 : Hp w0 ([row b63 129 [.bool false, .bool false, .bool false, .bool false, .bool false, .bool false]] :: [row b58 31 ([.int .i64 ea.op, .int .i64 ea.num, .int .i64 ea.clk, strV ea.typ, strV ea.cas, strV ea.nam, .int .i64 ea.v.v.k, .int .i64 ea.v.v.n, strV ea.v.v.t, .slice ea.v.sA ea.v.v.s.length ea.v.sC, .slice ea.aA ea.args.length ea.aC, .slice ea.bA ea.src.length ea.bC] ++ dc ea.eff)] :: R) w66 := hA67
    refine vc_y hF rfl rfl (by decide) _ (y_assign rfl rfl) (fun a hF => ?_)
    refine vc_nil ?_
    refine hK37 _ _ ?_; clear  hK37 K37
    apply wp_seq_k; intro K38 hK38
    apply wp_seq_k; intro K39 hK39
    refine wp_region_lit ?_
    refine vc_y hF rfl rfl (by decide) _ (y_move rfl rfl) (fun a hF => ?_)
    refine vc_y hF rfl rfl (by decide) _ (y_not rfl rfl rfl) (fun a hF => ?_)
    refine vc_nil ?_
    refine hK39 _ _ ?_; clear  hK39 K39
    refine vc_true hF rfl ?_
    apply wp_seq_k; intro K40 hK40
    refine wp_region_lit ?_
    refine vc_y hF rfl rfl (by decide) _ (y_assign rfl rfl) (fun a hF => ?_)
    refine vc_y hF rfl rfl (by decide) _ (y_assign rfl rfl) (fun a hF => ?_)
    refine vc_nil ?_
    refine hK40 _ _ ?_; clear  hK40 K40
    apply wp_ret
    simp only [Exit.then]
    refine vc_ret2 hF Tryz.results20 rfl rfl ?_
    have hA68 : Hp w0 (R) w66 := Hp.sel [[row b63 129 [.bool false, .bool false, .bool false, .bool false, .bool false, .bool false]], [row b58 31 ([.int .i64 ea.op, .int .i64 ea.num, .int .i64 ea.clk, strV ea.typ, strV ea.cas, strV ea.nam, .int .i64 ea.v.v.k, .int .i64 ea.v.v.n, strV ea.v.v.t, .slice ea.v.sA ea.v.v.s.length ea.v.sC, .slice ea.aA ea.args.length ea.aC, .slice ea.bA ea.src.length ea.bC] ++ dc ea.eff)]] R [] [0, 1] hA67 rfl
    have heq := enc_op hop
    exact ⟨_, [], by rw [heq] <;> rfl, enc_nil (by rw [heq]; exact by decide), Hp.nil hA68⟩
end Go.Proofs.YtepbmdlgdaedpaaGreatDoor
