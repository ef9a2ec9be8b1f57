/- The statement about writers: its steps. -/
import Derived.Test.YthphfbohhbkdgaaOps0
import Derived.Test.YthphfbohhbkdgaaRf
import Derived.Test.YthphfbohhbkdgaaKc0
import Derived.Test.YthphfbohhbkdgaaBook3
namespace Go.Proofs.Ythphfbohhbkdgaa
open Go.RowKit Go.Dk

theorem be_mod (K n : Nat) : be K (n % 256 ^ K) = be K n := by
  unfold be
  refine List.map_congr_left (fun i hi => ?_)
  rw [List.mem_range] at hi
  apply UInt8.toNat.inj
  rw [UInt8.toNat_ofNat', UInt8.toNat_ofNat']
  have e : 256 ^ K = 256 ^ (K - 1 - i) * (256 * 256 ^ i) := by
    rw [← Nat.pow_succ', ← Nat.pow_add]
    congr 1
    omega
  rw [e, Nat.mod_mul_right_div_self]
  exact Nat.mod_mul_right_mod _ 256 _
/-- the bytes of a step's number -/
def numB (o : OpX) : List UInt8 := if o.kind = 1 then be 1 o.v.n else if o.kind = 2 then be 2 o.v.n else if o.kind = 3 then be 4 o.v.n else be 8 o.v.n
theorem nr3_ws : notRow Try.prog 3 = true := by kernel_rfl
theorem nr4_ws : notRow Try.prog 4 = true := by kernel_rfl
theorem nr9_ws : notRow Try.prog 9 = true := by kernel_rfl
theorem nr27_ws : notRow Try.prog 27 = true := by kernel_rfl
theorem nr33_ws : notRow Try.prog 33 = true := by kernel_rfl
theorem nr34_ws : notRow Try.prog 34 = true := by kernel_rfl
theorem nr35_ws : notRow Try.prog 35 = true := by kernel_rfl
theorem nr36_ws : notRow Try.prog 36 = true := by kernel_rfl
theorem rw38_ws : isRow Try.prog 38 12 = true := by kernel_rfl
theorem sz3_ws : (Try.prog.info? 3).map (·.size) = some 1 := by kernel_rfl
theorem sz4_ws : (Try.prog.info? 4).map (·.size) = some 1 := by kernel_rfl
theorem sz5_ws : (Try.prog.info? 5).map (·.size) = some 1 := by kernel_rfl
theorem sz9_ws : (Try.prog.info? 9).map (·.size) = some 1 := by kernel_rfl
theorem sz27_ws : (Try.prog.info? 27).map (·.size) = some 1 := by kernel_rfl
theorem sz33_ws : (Try.prog.info? 33).map (·.size) = some 1 := by kernel_rfl
theorem sz34_ws : (Try.prog.info? 34).map (·.size) = some 1 := by kernel_rfl
theorem sz35_ws : (Try.prog.info? 35).map (·.size) = some 1 := by kernel_rfl
theorem sz36_ws : (Try.prog.info? 36).map (·.size) = some 1 := by kernel_rfl
theorem sz74_ws : (Try.prog.info? 74).map (·.size) = some 32 := by kernel_rfl
theorem cl17_ws : CallsTo Try.prog 17 := ⟨_, Try.func17, by kernel_rfl, by kernel_rfl⟩
theorem cl18_ws : CallsTo Try.prog 18 := ⟨_, Try.func18, by kernel_rfl, by kernel_rfl⟩
theorem cl24_ws : CallsTo Try.prog 24 := ⟨_, Try.func24, by kernel_rfl, by kernel_rfl⟩
theorem cl25_ws : CallsTo Try.prog 25 := ⟨_, Try.func25, by kernel_rfl, by kernel_rfl⟩
theorem cl58_ws : CallsTo Try.prog 58 := ⟨_, Try.func58, by kernel_rfl, by kernel_rfl⟩
theorem cl59_ws : CallsTo Try.prog 59 := ⟨_, Try.func59, by kernel_rfl, by kernel_rfl⟩
theorem cl65_ws : CallsTo Try.prog 65 := ⟨_, Try.func65, by kernel_rfl, by kernel_rfl⟩
theorem cl66_ws : CallsTo Try.prog 66 := ⟨_, Try.func66, by kernel_rfl, by kernel_rfl⟩
theorem cl67_ws : CallsTo Try.prog 67 := ⟨_, Try.func67, by kernel_rfl, by kernel_rfl⟩
theorem cl68_ws : CallsTo Try.prog 68 := ⟨_, Try.func68, by kernel_rfl, by kernel_rfl⟩
theorem cl69_ws : CallsTo Try.prog 69 := ⟨_, Try.func69, by kernel_rfl, by kernel_rfl⟩
theorem cl70_ws : CallsTo Try.prog 70 := ⟨_, Try.func70, by kernel_rfl, by kernel_rfl⟩
theorem cl79_ws : CallsTo Try.prog 79 := ⟨_, Try.func79, by kernel_rfl, by kernel_rfl⟩
theorem cl80_ws : CallsTo Try.prog 80 := ⟨_, Try.func80, by kernel_rfl, by kernel_rfl⟩
theorem cl81_ws : CallsTo Try.prog 81 := ⟨_, Try.func81, by kernel_rfl, by kernel_rfl⟩
theorem cl82_ws : CallsTo Try.prog 82 := ⟨_, Try.func82, by kernel_rfl, by kernel_rfl⟩
theorem cl83_ws : CallsTo Try.prog 83 := ⟨_, Try.func83, by kernel_rfl, by kernel_rfl⟩
theorem cl84_ws : CallsTo Try.prog 84 := ⟨_, Try.func84, by kernel_rfl, by kernel_rfl⟩
theorem cl85_ws : CallsTo Try.prog 85 := ⟨_, Try.func85, by kernel_rfl, by kernel_rfl⟩
theorem cl86_ws : CallsTo Try.prog 86 := ⟨_, Try.func86, by kernel_rfl, by kernel_rfl⟩
theorem cl104_ws : CallsTo Try.prog 104 := ⟨_, Try.func104, by kernel_rfl, by kernel_rfl⟩
theorem cl105_ws : CallsTo Try.prog 105 := ⟨_, Try.func105, by kernel_rfl, by kernel_rfl⟩


set_option maxRecDepth 100000 in
set_option maxHeartbeats 4000000 in
theorem ws_number (w0 w : World) (R : List Seg) (wb : Nat) (l : List UInt8) (Y : Seg) (o : OpX) (hok : OpOK w0 R o) (hY : WrS wb l Y) (hA : Hp w0 (Y :: R) w) (hl : l.length < 140737488353000) : Calls Try.prog 86 #[.pointer (some ⟨wb, 0, none⟩), .agg (opC o).toArray] w fun e w' => ∃ v' X Y', e = .returned v' ∧ Buf 5 1 X v' (numB o).length (dc (numB o)) ∧ WrS wb (l ++ numB o) Y' ∧ Hp w0 (X :: Y' :: R) w' := by
  have hOn := hok.n
  refine vc_enter Try.func86 rfl Try.ntmps86 (Nat.le_of_ble_eq_true rfl) (fun a hF => ?_)
  apply wp_seq_k; intro K1 hK1
  refine wp_region_lit ?_
  refine vc_op rfl (fun K hK => hs_box (cs := [.int .i64 o.kind, .int .i64 o.at_, .int .u64 (o.v.n : Int), .int .i64 o.many, .bool o.v.b, .slice o.dA o.v.ds.length o.dC, .slice o.qA o.ps.length o.qC, .slice o.pA o.v.p.length o.pC, strV o.v.s, .slice o.sA o.v.ss.length o.sC, .int .i64 o.most, .int .i64 o.each]) hF rfl (by decide) rfl hA rfl (fun b1 w2 a hb1 hF hA3 => hK _ _ ?_))
  clear hK K
  replace hA3 : Hp w0 ([row b1 38 [.int .i64 o.kind, .int .i64 o.at_, .int .u64 (o.v.n : Int), .int .i64 o.many, .bool o.v.b, .slice o.dA o.v.ds.length o.dC, .slice o.qA o.ps.length o.qC, .slice o.pA o.v.p.length o.pC, strV o.v.s, .slice o.sA o.v.ss.length o.sC, .int .i64 o.most, .int .i64 o.each]] :: Y :: R) w2 := hA3
  refine vc_y hF rfl rfl (by decide) _ (y_assign rfl rfl) (fun a hF => ?_)
  refine vc_nil ?_
  refine hK1 _ _ ?_; clear  hK1 K1
  apply wp_seq_k; intro K2 hK2
  apply wp_seq_k; intro K3 hK3
  refine wp_region_lit ?_
  refine vc_y hF rfl rfl (by decide) _ (y_field rfl Try.underlying38 rfl sz3_ws (by decide) rfl (rfl : (⟨_, 0 + _, none⟩ : Addr) = ⟨_, 0, none⟩)) (fun a hF => ?_)
  refine vc_y hF rfl rfl (by decide) _ (y_ld rfl hA3.q rfl 0 rfl rfl nr3_ws) (fun a hF => ?_)
  refine vc_nil ?_
  refine hK3 _ _ ?_; clear  hK3 K3
  apply wp_block
  apply wp_seq_k; intro K4 hK4
  refine wp_region_lit ?_
  refine vc_y hF rfl rfl (by decide) _ (y_cmp rfl rfl rfl rfl rfl) (fun a hF => ?_)
  refine vc_y hF rfl rfl (by decide) _ (y_assign rfl rfl) (fun a hF => ?_)
  refine vc_nil ?_
  refine hK4 _ _ ?_; clear  hK4 K4
  by_cases k1 : o.kind = 1
  · refine vc_trueB hF rfl (eql_t (by omega)) ?_
    apply wp_seq_k; intro K5 hK5
    refine wp_region_lit ?_
    refine vc_y hF rfl rfl (by decide) _ (y_move rfl rfl) (fun a hF => ?_)
    refine vc_y hF rfl rfl (by decide) _ (y_field rfl Try.underlying38 rfl sz33_ws (by decide) rfl (rfl : (⟨_, 0 + _, none⟩ : Addr) = ⟨_, 2, none⟩)) (fun a hF => ?_)
    refine vc_y hF rfl rfl (by decide) _ (y_ld rfl hA3.q rfl 0 rfl rfl nr33_ws) (fun a hF => ?_)
    refine vc_y hF rfl rfl (by decide) _ (y_conv rfl Try.underlying33 Try.underlying5 rfl (show IntKind.u8.wrap (o.v.n : Int) = ((o.v.n % 256 : Nat) : Int) by rw [IntKind.wrap_u8]; omega)) (fun a hF => ?_)
    have hA4 : Hp w0 (Y :: [row b1 38 [.int .i64 o.kind, .int .i64 o.at_, .int .u64 (o.v.n : Int), .int .i64 o.many, .bool o.v.b, .slice o.dA o.v.ds.length o.dC, .slice o.qA o.ps.length o.qC, .slice o.pA o.v.p.length o.pC, strV o.v.s, .slice o.sA o.v.ss.length o.sC, .int .i64 o.most, .int .i64 o.each]] :: R) w2 := Hp.ord [[row b1 38 [.int .i64 o.kind, .int .i64 o.at_, .int .u64 (o.v.n : Int), .int .i64 o.many, .bool o.v.b, .slice o.dA o.v.ds.length o.dC, .slice o.qA o.ps.length o.qC, .slice o.pA o.v.p.length o.pC, strV o.v.s, .slice o.sA o.v.ss.length o.sC, .int .i64 o.most, .int .i64 o.each]], Y] R [1, 0] hA3 rfl
    refine vc_op rfl (fun K hK => ws_call hF rfl (by decide) cl17_ws rfl rfl ?_)
    with_reducible refine (hw_put_uint8 w0 _ _ wb l Y (o.v.n % 256) (Nat.mod_lt _ (by decide)) _ rfl hY hA4 (by omega) ).mono ?_
    rintro e' w5 ⟨Y', rfl, hY', hA6⟩
    refine ⟨_, rfl, fun a hF => hK _ _ ?_⟩
    clear hK K
    replace hA6 : Hp w0 (Y' :: [row b1 38 [.int .i64 o.kind, .int .i64 o.at_, .int .u64 (o.v.n : Int), .int .i64 o.many, .bool o.v.b, .slice o.dA o.v.ds.length o.dC, .slice o.qA o.ps.length o.qC, .slice o.pA o.v.p.length o.pC, strV o.v.s, .slice o.sA o.v.ss.length o.sC, .int .i64 o.most, .int .i64 o.each]] :: R) w5 := hA6
    refine vc_nil ?_
    refine hK5 _ _ ?_; clear  hK5 K5
    apply wp_seq_k; intro K6 hK6
    refine wp_region_lit ?_
    refine vc_y hF rfl rfl (by decide) _ (y_field rfl Try.underlying38 rfl sz33_ws (by decide) rfl (rfl : (⟨_, 0 + _, none⟩ : Addr) = ⟨_, 2, none⟩)) (fun a hF => ?_)
    refine vc_y hF rfl rfl (by decide) _ (y_ld rfl hA6.q rfl 1 rfl rfl nr33_ws) (fun a hF => ?_)
    refine vc_op rfl (fun K hK => ws_call hF rfl (by decide) cl104_ws rfl rfl ?_)
    with_reducible refine (rf_number w0 _ (Y' :: [row b1 38 [.int .i64 o.kind, .int .i64 o.at_, .int .u64 (o.v.n : Int), .int .i64 o.many, .bool o.v.b, .slice o.dA o.v.ds.length o.dC, .slice o.qA o.ps.length o.qC, .slice o.pA o.v.p.length o.pC, strV o.v.s, .slice o.sA o.v.ss.length o.sC, .int .i64 o.most, .int .i64 o.each]] :: R) o.v.n 1 _ 1 rfl rfl (by decide) hA6 ).mono ?_
    rintro e' w7 ⟨g, rfl, hA8⟩
    refine ⟨_, rfl, fun a hF => hK _ _ ?_⟩
    clear hK K
    replace hA8 : Hp w0 ([row g 5 (dc (be 1 o.v.n))] :: Y' :: [row b1 38 [.int .i64 o.kind, .int .i64 o.at_, .int .u64 (o.v.n : Int), .int .i64 o.many, .bool o.v.b, .slice o.dA o.v.ds.length o.dC, .slice o.qA o.ps.length o.qC, .slice o.pA o.v.p.length o.pC, strV o.v.s, .slice o.sA o.v.ss.length o.sC, .int .i64 o.most, .int .i64 o.each]] :: R) w7 := hA8
    refine vc_y hF rfl rfl (by decide) _ (y_assign rfl rfl) (fun a hF => ?_)
    refine vc_nil ?_
    refine hK6 _ _ ?_; clear  hK6 K6
    apply wp_ret
    simp only [Exit.then, Exit.inBlock]
    refine vc_ret1 hF Try.results86 rfl ?_
    have hA9 : Hp w0 ([row g 5 (dc (be 1 o.v.n))] :: Y' :: R) w7 := Hp.sel [[row g 5 (dc (be 1 o.v.n))], Y', [row b1 38 [.int .i64 o.kind, .int .i64 o.at_, .int .u64 (o.v.n : Int), .int .i64 o.many, .bool o.v.b, .slice o.dA o.v.ds.length o.dC, .slice o.qA o.ps.length o.qC, .slice o.pA o.v.p.length o.pC, strV o.v.s, .slice o.sA o.v.ss.length o.sC, .int .i64 o.most, .int .i64 o.each]]] R [0, 1] [2] hA8 rfl
    have hN : numB o = be 1 o.v.n := by rw [numB, if_pos k1]
    have hO := Buf.full (e := 5) (g := g) (size := 1) (m := 1) (W := dc (be 1 o.v.n)) (by rw [dc_length, be_length]) (by decide)
    have hm : be 1 (o.v.n % 256) = be 1 o.v.n := be_mod 1 o.v.n
    rw [hm] at hY'
    rw [hN]
    exact ⟨_, _, Y', rfl, by rw [be_length]; exact hO, hY', hA9⟩
  · refine vc_falseB hF rfl (eql_f (by omega)) ?_
    apply wp_seq_k; intro K7 hK7
    refine wp_region_lit ?_
    refine vc_y hF rfl rfl (by decide) _ (y_cmp rfl rfl rfl rfl rfl) (fun a hF => ?_)
    refine vc_y hF rfl rfl (by decide) _ (y_assign rfl rfl) (fun a hF => ?_)
    refine vc_nil ?_
    refine hK7 _ _ ?_; clear  hK7 K7
    by_cases k2 : o.kind = 2
    · refine vc_trueB hF rfl (eql_t (by omega)) ?_
      apply wp_seq_k; intro K8 hK8
      apply wp_seq_k; intro K9 hK9
      refine wp_region_lit ?_
      refine vc_y hF rfl rfl (by decide) _ (y_field rfl Try.underlying38 rfl sz4_ws (by decide) rfl (rfl : (⟨_, 0 + _, none⟩ : Addr) = ⟨_, 4, none⟩)) (fun a hF => ?_)
      refine vc_y hF rfl rfl (by decide) _ (y_ld rfl hA3.q rfl 0 rfl rfl nr4_ws) (fun a hF => ?_)
      refine vc_nil ?_
      refine hK9 _ _ ?_; clear  hK9 K9
      by_cases hb : o.v.b = true
      · refine vc_trueB hF rfl hb ?_
        refine wp_region_lit ?_
        refine vc_y hF rfl rfl (by decide) _ (y_move rfl rfl) (fun a hF => ?_)
        refine vc_y hF rfl rfl (by decide) _ (y_field rfl Try.underlying38 rfl sz33_ws (by decide) rfl (rfl : (⟨_, 0 + _, none⟩ : Addr) = ⟨_, 2, none⟩)) (fun a hF => ?_)
        refine vc_y hF rfl rfl (by decide) _ (y_ld rfl hA3.q rfl 0 rfl rfl nr33_ws) (fun a hF => ?_)
        refine vc_y hF rfl rfl (by decide) _ (y_conv rfl Try.underlying33 Try.underlying139 rfl (show IntKind.u16.wrap (o.v.n : Int) = ((o.v.n % 65536 : Nat) : Int) by rw [IntKind.wrap_u16]; omega)) (fun a hF => ?_)
        have hA10 : Hp w0 (Y :: [row b1 38 [.int .i64 o.kind, .int .i64 o.at_, .int .u64 (o.v.n : Int), .int .i64 o.many, .bool o.v.b, .slice o.dA o.v.ds.length o.dC, .slice o.qA o.ps.length o.qC, .slice o.pA o.v.p.length o.pC, strV o.v.s, .slice o.sA o.v.ss.length o.sC, .int .i64 o.most, .int .i64 o.each]] :: R) w2 := Hp.ord [[row b1 38 [.int .i64 o.kind, .int .i64 o.at_, .int .u64 (o.v.n : Int), .int .i64 o.many, .bool o.v.b, .slice o.dA o.v.ds.length o.dC, .slice o.qA o.ps.length o.qC, .slice o.pA o.v.p.length o.pC, strV o.v.s, .slice o.sA o.v.ss.length o.sC, .int .i64 o.most, .int .i64 o.each]], Y] R [1, 0] hA3 rfl
        refine vc_op rfl (fun K hK => ws_call hF rfl (by decide) cl105_ws rfl rfl ?_)
        with_reducible refine (hw_put_Mine w0 _ _ wb l Y (o.v.n % 65536) (Nat.mod_lt _ (by decide)) _ rfl hY hA10 (by omega) ).mono ?_
        rintro e' w11 ⟨Y', rfl, hY', hA12⟩
        refine ⟨_, rfl, fun a hF => hK _ _ ?_⟩
        clear hK K
        replace hA12 : Hp w0 (Y' :: [row b1 38 [.int .i64 o.kind, .int .i64 o.at_, .int .u64 (o.v.n : Int), .int .i64 o.many, .bool o.v.b, .slice o.dA o.v.ds.length o.dC, .slice o.qA o.ps.length o.qC, .slice o.pA o.v.p.length o.pC, strV o.v.s, .slice o.sA o.v.ss.length o.sC, .int .i64 o.most, .int .i64 o.each]] :: R) w11 := hA12
        refine vc_nil ?_
        refine hK8 _ _ ?_; clear  hK8 K8
        apply wp_seq_k; intro K10 hK10
        refine wp_region_lit ?_
        refine vc_y hF rfl rfl (by decide) _ (y_field rfl Try.underlying38 rfl sz33_ws (by decide) rfl (rfl : (⟨_, 0 + _, none⟩ : Addr) = ⟨_, 2, none⟩)) (fun a hF => ?_)
        refine vc_y hF rfl rfl (by decide) _ (y_ld rfl hA12.q rfl 1 rfl rfl nr33_ws) (fun a hF => ?_)
        refine vc_op rfl (fun K hK => ws_call hF rfl (by decide) cl104_ws rfl rfl ?_)
        with_reducible refine (rf_number w0 _ (Y' :: [row b1 38 [.int .i64 o.kind, .int .i64 o.at_, .int .u64 (o.v.n : Int), .int .i64 o.many, .bool o.v.b, .slice o.dA o.v.ds.length o.dC, .slice o.qA o.ps.length o.qC, .slice o.pA o.v.p.length o.pC, strV o.v.s, .slice o.sA o.v.ss.length o.sC, .int .i64 o.most, .int .i64 o.each]] :: R) o.v.n 2 _ 2 rfl rfl (by decide) hA12 ).mono ?_
        rintro e' w13 ⟨g, rfl, hA14⟩
        refine ⟨_, rfl, fun a hF => hK _ _ ?_⟩
        clear hK K
        replace hA14 : Hp w0 ([row g 5 (dc (be 2 o.v.n))] :: Y' :: [row b1 38 [.int .i64 o.kind, .int .i64 o.at_, .int .u64 (o.v.n : Int), .int .i64 o.many, .bool o.v.b, .slice o.dA o.v.ds.length o.dC, .slice o.qA o.ps.length o.qC, .slice o.pA o.v.p.length o.pC, strV o.v.s, .slice o.sA o.v.ss.length o.sC, .int .i64 o.most, .int .i64 o.each]] :: R) w13 := hA14
        refine vc_y hF rfl rfl (by decide) _ (y_assign rfl rfl) (fun a hF => ?_)
        refine vc_nil ?_
        refine hK10 _ _ ?_; clear  hK10 K10
        apply wp_ret
        simp only [Exit.then, Exit.inBlock]
        refine vc_ret1 hF Try.results86 rfl ?_
        have hA15 : Hp w0 ([row g 5 (dc (be 2 o.v.n))] :: Y' :: R) w13 := Hp.sel [[row g 5 (dc (be 2 o.v.n))], Y', [row b1 38 [.int .i64 o.kind, .int .i64 o.at_, .int .u64 (o.v.n : Int), .int .i64 o.many, .bool o.v.b, .slice o.dA o.v.ds.length o.dC, .slice o.qA o.ps.length o.qC, .slice o.pA o.v.p.length o.pC, strV o.v.s, .slice o.sA o.v.ss.length o.sC, .int .i64 o.most, .int .i64 o.each]]] R [0, 1] [2] hA14 rfl
        have hN : numB o = be 2 o.v.n := by rw [numB, if_neg k1, if_pos k2]
        have hO := Buf.full (e := 5) (g := g) (size := 1) (m := 2) (W := dc (be 2 o.v.n)) (by rw [dc_length, be_length]) (by decide)
        have hm : be 2 (o.v.n % 65536) = be 2 o.v.n := be_mod 2 o.v.n
        rw [hm] at hY'
        rw [hN]
        exact ⟨_, _, Y', rfl, by rw [be_length]; exact hO, hY', hA15⟩
      · replace hb : o.v.b = false := by simpa using hb
        refine vc_falseB hF rfl hb ?_
        refine wp_region_lit ?_
        refine vc_y hF rfl rfl (by decide) _ (y_move rfl rfl) (fun a hF => ?_)
        refine vc_y hF rfl rfl (by decide) _ (y_field rfl Try.underlying38 rfl sz33_ws (by decide) rfl (rfl : (⟨_, 0 + _, none⟩ : Addr) = ⟨_, 2, none⟩)) (fun a hF => ?_)
        refine vc_y hF rfl rfl (by decide) _ (y_ld rfl hA3.q rfl 0 rfl rfl nr33_ws) (fun a hF => ?_)
        refine vc_y hF rfl rfl (by decide) _ (y_conv rfl Try.underlying33 Try.underlying51 rfl (show IntKind.u16.wrap (o.v.n : Int) = ((o.v.n % 65536 : Nat) : Int) by rw [IntKind.wrap_u16]; omega)) (fun a hF => ?_)
        have hA16 : Hp w0 (Y :: [row b1 38 [.int .i64 o.kind, .int .i64 o.at_, .int .u64 (o.v.n : Int), .int .i64 o.many, .bool o.v.b, .slice o.dA o.v.ds.length o.dC, .slice o.qA o.ps.length o.qC, .slice o.pA o.v.p.length o.pC, strV o.v.s, .slice o.sA o.v.ss.length o.sC, .int .i64 o.most, .int .i64 o.each]] :: R) w2 := Hp.ord [[row b1 38 [.int .i64 o.kind, .int .i64 o.at_, .int .u64 (o.v.n : Int), .int .i64 o.many, .bool o.v.b, .slice o.dA o.v.ds.length o.dC, .slice o.qA o.ps.length o.qC, .slice o.pA o.v.p.length o.pC, strV o.v.s, .slice o.sA o.v.ss.length o.sC, .int .i64 o.most, .int .i64 o.each]], Y] R [1, 0] hA3 rfl
        refine vc_op rfl (fun K hK => ws_call hF rfl (by decide) cl24_ws rfl rfl ?_)
        with_reducible refine (hw_put_uint16 w0 _ _ wb l Y (o.v.n % 65536) (Nat.mod_lt _ (by decide)) _ rfl hY hA16 (by omega) ).mono ?_
        rintro e' w17 ⟨Y', rfl, hY', hA18⟩
        refine ⟨_, rfl, fun a hF => hK _ _ ?_⟩
        clear hK K
        replace hA18 : Hp w0 (Y' :: [row b1 38 [.int .i64 o.kind, .int .i64 o.at_, .int .u64 (o.v.n : Int), .int .i64 o.many, .bool o.v.b, .slice o.dA o.v.ds.length o.dC, .slice o.qA o.ps.length o.qC, .slice o.pA o.v.p.length o.pC, strV o.v.s, .slice o.sA o.v.ss.length o.sC, .int .i64 o.most, .int .i64 o.each]] :: R) w17 := hA18
        refine vc_nil ?_
        refine hK8 _ _ ?_; clear  hK8 K8
        apply wp_seq_k; intro K11 hK11
        refine wp_region_lit ?_
        refine vc_y hF rfl rfl (by decide) _ (y_field rfl Try.underlying38 rfl sz33_ws (by decide) rfl (rfl : (⟨_, 0 + _, none⟩ : Addr) = ⟨_, 2, none⟩)) (fun a hF => ?_)
        refine vc_y hF rfl rfl (by decide) _ (y_ld rfl hA18.q rfl 1 rfl rfl nr33_ws) (fun a hF => ?_)
        refine vc_op rfl (fun K hK => ws_call hF rfl (by decide) cl104_ws rfl rfl ?_)
        with_reducible refine (rf_number w0 _ (Y' :: [row b1 38 [.int .i64 o.kind, .int .i64 o.at_, .int .u64 (o.v.n : Int), .int .i64 o.many, .bool o.v.b, .slice o.dA o.v.ds.length o.dC, .slice o.qA o.ps.length o.qC, .slice o.pA o.v.p.length o.pC, strV o.v.s, .slice o.sA o.v.ss.length o.sC, .int .i64 o.most, .int .i64 o.each]] :: R) o.v.n 2 _ 2 rfl rfl (by decide) hA18 ).mono ?_
        rintro e' w19 ⟨g, rfl, hA20⟩
        refine ⟨_, rfl, fun a hF => hK _ _ ?_⟩
        clear hK K
        replace hA20 : Hp w0 ([row g 5 (dc (be 2 o.v.n))] :: Y' :: [row b1 38 [.int .i64 o.kind, .int .i64 o.at_, .int .u64 (o.v.n : Int), .int .i64 o.many, .bool o.v.b, .slice o.dA o.v.ds.length o.dC, .slice o.qA o.ps.length o.qC, .slice o.pA o.v.p.length o.pC, strV o.v.s, .slice o.sA o.v.ss.length o.sC, .int .i64 o.most, .int .i64 o.each]] :: R) w19 := hA20
        refine vc_y hF rfl rfl (by decide) _ (y_assign rfl rfl) (fun a hF => ?_)
        refine vc_nil ?_
        refine hK11 _ _ ?_; clear  hK11 K11
        apply wp_ret
        simp only [Exit.then, Exit.inBlock]
        refine vc_ret1 hF Try.results86 rfl ?_
        have hA21 : Hp w0 ([row g 5 (dc (be 2 o.v.n))] :: Y' :: R) w19 := Hp.sel [[row g 5 (dc (be 2 o.v.n))], Y', [row b1 38 [.int .i64 o.kind, .int .i64 o.at_, .int .u64 (o.v.n : Int), .int .i64 o.many, .bool o.v.b, .slice o.dA o.v.ds.length o.dC, .slice o.qA o.ps.length o.qC, .slice o.pA o.v.p.length o.pC, strV o.v.s, .slice o.sA o.v.ss.length o.sC, .int .i64 o.most, .int .i64 o.each]]] R [0, 1] [2] hA20 rfl
        have hN : numB o = be 2 o.v.n := by rw [numB, if_neg k1, if_pos k2]
        have hO := Buf.full (e := 5) (g := g) (size := 1) (m := 2) (W := dc (be 2 o.v.n)) (by rw [dc_length, be_length]) (by decide)
        have hm : be 2 (o.v.n % 65536) = be 2 o.v.n := be_mod 2 o.v.n
        rw [hm] at hY'
        rw [hN]
        exact ⟨_, _, Y', rfl, by rw [be_length]; exact hO, hY', hA21⟩
    · refine vc_falseB hF rfl (eql_f (by omega)) ?_
      apply wp_seq_k; intro K12 hK12
      refine wp_region_lit ?_
      refine vc_y hF rfl rfl (by decide) _ (y_cmp rfl rfl rfl rfl rfl) (fun a hF => ?_)
      refine vc_y hF rfl rfl (by decide) _ (y_assign rfl rfl) (fun a hF => ?_)
      refine vc_nil ?_
      refine hK12 _ _ ?_; clear  hK12 K12
      by_cases k3 : o.kind = 3
      · refine vc_trueB hF rfl (eql_t (by omega)) ?_
        apply wp_seq_k; intro K13 hK13
        refine wp_region_lit ?_
        refine vc_y hF rfl rfl (by decide) _ (y_move rfl rfl) (fun a hF => ?_)
        refine vc_y hF rfl rfl (by decide) _ (y_field rfl Try.underlying38 rfl sz33_ws (by decide) rfl (rfl : (⟨_, 0 + _, none⟩ : Addr) = ⟨_, 2, none⟩)) (fun a hF => ?_)
        refine vc_y hF rfl rfl (by decide) _ (y_ld rfl hA3.q rfl 0 rfl rfl nr33_ws) (fun a hF => ?_)
        refine vc_y hF rfl rfl (by decide) _ (y_conv rfl Try.underlying33 Try.underlying114 rfl (show IntKind.u32.wrap (o.v.n : Int) = ((o.v.n % 4294967296 : Nat) : Int) by rw [IntKind.wrap_u32]; omega)) (fun a hF => ?_)
        have hA22 : Hp w0 (Y :: [row b1 38 [.int .i64 o.kind, .int .i64 o.at_, .int .u64 (o.v.n : Int), .int .i64 o.many, .bool o.v.b, .slice o.dA o.v.ds.length o.dC, .slice o.qA o.ps.length o.qC, .slice o.pA o.v.p.length o.pC, strV o.v.s, .slice o.sA o.v.ss.length o.sC, .int .i64 o.most, .int .i64 o.each]] :: R) w2 := Hp.ord [[row b1 38 [.int .i64 o.kind, .int .i64 o.at_, .int .u64 (o.v.n : Int), .int .i64 o.many, .bool o.v.b, .slice o.dA o.v.ds.length o.dC, .slice o.qA o.ps.length o.qC, .slice o.pA o.v.p.length o.pC, strV o.v.s, .slice o.sA o.v.ss.length o.sC, .int .i64 o.most, .int .i64 o.each]], Y] R [1, 0] hA3 rfl
        refine vc_op rfl (fun K hK => ws_call hF rfl (by decide) cl65_ws rfl rfl ?_)
        with_reducible refine (hw_put_uint32 w0 _ _ wb l Y (o.v.n % 4294967296) (Nat.mod_lt _ (by decide)) _ rfl hY hA22 (by omega) ).mono ?_
        rintro e' w23 ⟨Y', rfl, hY', hA24⟩
        refine ⟨_, rfl, fun a hF => hK _ _ ?_⟩
        clear hK K
        replace hA24 : Hp w0 (Y' :: [row b1 38 [.int .i64 o.kind, .int .i64 o.at_, .int .u64 (o.v.n : Int), .int .i64 o.many, .bool o.v.b, .slice o.dA o.v.ds.length o.dC, .slice o.qA o.ps.length o.qC, .slice o.pA o.v.p.length o.pC, strV o.v.s, .slice o.sA o.v.ss.length o.sC, .int .i64 o.most, .int .i64 o.each]] :: R) w23 := hA24
        refine vc_nil ?_
        refine hK13 _ _ ?_; clear  hK13 K13
        apply wp_seq_k; intro K14 hK14
        refine wp_region_lit ?_
        refine vc_y hF rfl rfl (by decide) _ (y_field rfl Try.underlying38 rfl sz33_ws (by decide) rfl (rfl : (⟨_, 0 + _, none⟩ : Addr) = ⟨_, 2, none⟩)) (fun a hF => ?_)
        refine vc_y hF rfl rfl (by decide) _ (y_ld rfl hA24.q rfl 1 rfl rfl nr33_ws) (fun a hF => ?_)
        refine vc_op rfl (fun K hK => ws_call hF rfl (by decide) cl104_ws rfl rfl ?_)
        with_reducible refine (rf_number w0 _ (Y' :: [row b1 38 [.int .i64 o.kind, .int .i64 o.at_, .int .u64 (o.v.n : Int), .int .i64 o.many, .bool o.v.b, .slice o.dA o.v.ds.length o.dC, .slice o.qA o.ps.length o.qC, .slice o.pA o.v.p.length o.pC, strV o.v.s, .slice o.sA o.v.ss.length o.sC, .int .i64 o.most, .int .i64 o.each]] :: R) o.v.n 4 _ 4 rfl rfl (by decide) hA24 ).mono ?_
        rintro e' w25 ⟨g, rfl, hA26⟩
        refine ⟨_, rfl, fun a hF => hK _ _ ?_⟩
        clear hK K
        replace hA26 : Hp w0 ([row g 5 (dc (be 4 o.v.n))] :: Y' :: [row b1 38 [.int .i64 o.kind, .int .i64 o.at_, .int .u64 (o.v.n : Int), .int .i64 o.many, .bool o.v.b, .slice o.dA o.v.ds.length o.dC, .slice o.qA o.ps.length o.qC, .slice o.pA o.v.p.length o.pC, strV o.v.s, .slice o.sA o.v.ss.length o.sC, .int .i64 o.most, .int .i64 o.each]] :: R) w25 := hA26
        refine vc_y hF rfl rfl (by decide) _ (y_assign rfl rfl) (fun a hF => ?_)
        refine vc_nil ?_
        refine hK14 _ _ ?_; clear  hK14 K14
        apply wp_ret
        simp only [Exit.then, Exit.inBlock]
        refine vc_ret1 hF Try.results86 rfl ?_
        have hA27 : Hp w0 ([row g 5 (dc (be 4 o.v.n))] :: Y' :: R) w25 := Hp.sel [[row g 5 (dc (be 4 o.v.n))], Y', [row b1 38 [.int .i64 o.kind, .int .i64 o.at_, .int .u64 (o.v.n : Int), .int .i64 o.many, .bool o.v.b, .slice o.dA o.v.ds.length o.dC, .slice o.qA o.ps.length o.qC, .slice o.pA o.v.p.length o.pC, strV o.v.s, .slice o.sA o.v.ss.length o.sC, .int .i64 o.most, .int .i64 o.each]]] R [0, 1] [2] hA26 rfl
        have hN : numB o = be 4 o.v.n := by rw [numB, if_neg k1, if_neg k2, if_pos k3]
        have hO := Buf.full (e := 5) (g := g) (size := 1) (m := 4) (W := dc (be 4 o.v.n)) (by rw [dc_length, be_length]) (by decide)
        have hm : be 4 (o.v.n % 4294967296) = be 4 o.v.n := be_mod 4 o.v.n
        rw [hm] at hY'
        rw [hN]
        exact ⟨_, _, Y', rfl, by rw [be_length]; exact hO, hY', hA27⟩
      · refine vc_falseB hF rfl (eql_f (by omega)) ?_
        apply wp_skip
        refine hK2 _ _ ?_; clear  hK2 K2
        apply wp_seq_k; intro K15 hK15
        refine wp_region_lit ?_
        refine vc_y hF rfl rfl (by decide) _ (y_move rfl rfl) (fun a hF => ?_)
        refine vc_y hF rfl rfl (by decide) _ (y_field rfl Try.underlying38 rfl sz33_ws (by decide) rfl (rfl : (⟨_, 0 + _, none⟩ : Addr) = ⟨_, 2, none⟩)) (fun a hF => ?_)
        refine vc_y hF rfl rfl (by decide) _ (y_ld rfl hA3.q rfl 0 rfl rfl nr33_ws) (fun a hF => ?_)
        have hA28 : Hp w0 (Y :: [row b1 38 [.int .i64 o.kind, .int .i64 o.at_, .int .u64 (o.v.n : Int), .int .i64 o.many, .bool o.v.b, .slice o.dA o.v.ds.length o.dC, .slice o.qA o.ps.length o.qC, .slice o.pA o.v.p.length o.pC, strV o.v.s, .slice o.sA o.v.ss.length o.sC, .int .i64 o.most, .int .i64 o.each]] :: R) w2 := Hp.ord [[row b1 38 [.int .i64 o.kind, .int .i64 o.at_, .int .u64 (o.v.n : Int), .int .i64 o.many, .bool o.v.b, .slice o.dA o.v.ds.length o.dC, .slice o.qA o.ps.length o.qC, .slice o.pA o.v.p.length o.pC, strV o.v.s, .slice o.sA o.v.ss.length o.sC, .int .i64 o.most, .int .i64 o.each]], Y] R [1, 0] hA3 rfl
        refine vc_op rfl (fun K hK => ws_call hF rfl (by decide) cl18_ws rfl rfl ?_)
        with_reducible refine (hw_put_uint64 w0 _ _ wb l Y o.v.n (by omega) _ rfl hY hA28 (by omega) ).mono ?_
        rintro e' w29 ⟨Y', rfl, hY', hA30⟩
        refine ⟨_, rfl, fun a hF => hK _ _ ?_⟩
        clear hK K
        replace hA30 : Hp w0 (Y' :: [row b1 38 [.int .i64 o.kind, .int .i64 o.at_, .int .u64 (o.v.n : Int), .int .i64 o.many, .bool o.v.b, .slice o.dA o.v.ds.length o.dC, .slice o.qA o.ps.length o.qC, .slice o.pA o.v.p.length o.pC, strV o.v.s, .slice o.sA o.v.ss.length o.sC, .int .i64 o.most, .int .i64 o.each]] :: R) w29 := hA30
        refine vc_nil ?_
        refine hK15 _ _ ?_; clear  hK15 K15
        apply wp_seq_k; intro K16 hK16
        refine wp_region_lit ?_
        refine vc_y hF rfl rfl (by decide) _ (y_field rfl Try.underlying38 rfl sz33_ws (by decide) rfl (rfl : (⟨_, 0 + _, none⟩ : Addr) = ⟨_, 2, none⟩)) (fun a hF => ?_)
        refine vc_y hF rfl rfl (by decide) _ (y_ld rfl hA30.q rfl 1 rfl rfl nr33_ws) (fun a hF => ?_)
        refine vc_op rfl (fun K hK => ws_call hF rfl (by decide) cl104_ws rfl rfl ?_)
        with_reducible refine (rf_number w0 _ (Y' :: [row b1 38 [.int .i64 o.kind, .int .i64 o.at_, .int .u64 (o.v.n : Int), .int .i64 o.many, .bool o.v.b, .slice o.dA o.v.ds.length o.dC, .slice o.qA o.ps.length o.qC, .slice o.pA o.v.p.length o.pC, strV o.v.s, .slice o.sA o.v.ss.length o.sC, .int .i64 o.most, .int .i64 o.each]] :: R) o.v.n 8 _ 8 rfl rfl (by decide) hA30 ).mono ?_
        rintro e' w31 ⟨g, rfl, hA32⟩
        refine ⟨_, rfl, fun a hF => hK _ _ ?_⟩
        clear hK K
        replace hA32 : Hp w0 ([row g 5 (dc (be 8 o.v.n))] :: Y' :: [row b1 38 [.int .i64 o.kind, .int .i64 o.at_, .int .u64 (o.v.n : Int), .int .i64 o.many, .bool o.v.b, .slice o.dA o.v.ds.length o.dC, .slice o.qA o.ps.length o.qC, .slice o.pA o.v.p.length o.pC, strV o.v.s, .slice o.sA o.v.ss.length o.sC, .int .i64 o.most, .int .i64 o.each]] :: R) w31 := hA32
        refine vc_y hF rfl rfl (by decide) _ (y_assign rfl rfl) (fun a hF => ?_)
        refine vc_nil ?_
        refine hK16 _ _ ?_; clear  hK16 K16
        apply wp_ret
        refine vc_ret1 hF Try.results86 rfl ?_
        have hA33 : Hp w0 ([row g 5 (dc (be 8 o.v.n))] :: Y' :: R) w31 := Hp.sel [[row g 5 (dc (be 8 o.v.n))], Y', [row b1 38 [.int .i64 o.kind, .int .i64 o.at_, .int .u64 (o.v.n : Int), .int .i64 o.many, .bool o.v.b, .slice o.dA o.v.ds.length o.dC, .slice o.qA o.ps.length o.qC, .slice o.pA o.v.p.length o.pC, strV o.v.s, .slice o.sA o.v.ss.length o.sC, .int .i64 o.most, .int .i64 o.each]]] R [0, 1] [2] hA32 rfl
        have hN : numB o = be 8 o.v.n := by rw [numB, if_neg k1, if_neg k2, if_neg k3]
        have hO := Buf.full (e := 5) (g := g) (size := 1) (m := 8) (W := dc (be 8 o.v.n)) (by rw [dc_length, be_length]) (by decide)
        rw [hN]
        exact ⟨_, _, Y', rfl, by rw [be_length]; exact hO, hY', hA33⟩

theorem ws_roomyB (w0 w : World) (R : List Seg) (B : Option Addr) (l : List UInt8) (c : Nat) (hB : Rd w0 R B l) (hA : Hp w0 R w) (hl : l.length < 8796093000000) : Calls Try.prog 58 #[.slice B l.length c, .int .u8 165] w fun e w' => ∃ g, e = .returned (.slice (some ⟨g, 0, none⟩) (l.length + 80) (l.length + 80)) ∧ Hp w0 ([row g 5 (cel cB (l ++ List.replicate 80 165))] :: R) w' :=
  kb_roomy_byte w0 w R B l c 165 (by rw [← cel_dc]; exact hB) (fun _ _ => rfl) rfl hA (by omega)
theorem ws_intactB (w0 w : World) (R : List Seg) (B B2 : Option Addr) (l : List UInt8) (c c2 : Nat) (hB : Rc w0 R B (cel cB (l ++ List.replicate 80 165))) (hB2 : Rd w0 R B2 l) (hc : l.length + 80 ≤ c) (hA : Hp w0 R w) (hl : l.length < 8796093000000) : Calls Try.prog 59 #[.slice B (l.length + 80) c, .slice B2 l.length c2, .int .u8 165] w fun e w' => e = .returned (.bool true) ∧ Hp w0 R w' :=
  kb_intact_byte w0 w R B B2 l c c2 165 hB (by rw [← cel_dc]; exact hB2) (fun _ _ => rfl) rfl hc hA (by omega)
def ws_behind : List UInt8 := [98, 101, 104, 105, 110, 100]
theorem ws_roomyS (w0 w : World) (R : List Seg) (B : Option Addr) (l : List (List UInt8)) (c : Nat) (hB : Rc w0 R B (l.map strV)) (hA : Hp w0 R w) (hl : l.length < 8796093000000) : Calls Try.prog 82 #[.slice B l.length c, .string ⟨#[98, 101, 104, 105, 110, 100]⟩] w fun e w' => ∃ g, e = .returned (.slice (some ⟨g, 0, none⟩) (l.length + 80) (l.length + 80)) ∧ Hp w0 ([row g 9 (cel cS (l ++ List.replicate 80 ws_behind))] :: R) w' :=
  kb_roomy_string w0 w R B l c ws_behind (by rw [← cel_str]; exact hB) (fun _ _ => rfl) rfl hA (by omega)
theorem ws_intactS (w0 w : World) (R : List Seg) (B B2 : Option Addr) (l : List (List UInt8)) (c c2 : Nat) (hB : Rc w0 R B (cel cS (l ++ List.replicate 80 ws_behind))) (hB2 : Rc w0 R B2 (l.map strV)) (hc : l.length + 80 ≤ c) (hA : Hp w0 R w) (hl : l.length < 8796093000000) : Calls Try.prog 83 #[.slice B (l.length + 80) c, .slice B2 l.length c2, .string ⟨#[98, 101, 104, 105, 110, 100]⟩] w fun e w' => e = .returned (.bool true) ∧ Hp w0 R w' :=
  kb_intact_string w0 w R B B2 l c c2 ws_behind hB (by rw [← cel_str]; exact hB2) (fun _ _ => rfl) rfl hc hA (by omega)
/-- the bytes of a form that may be refused -/
def sizedB (o : OpX) : List UInt8 := if o.kind = 8 then textB o.v.s o.most else if o.kind = 9 then bytesB o.v.p o.most else textsB o.v.ss o.most o.each

set_option maxRecDepth 100000 in
set_option maxHeartbeats 4000000 in
theorem ws_sized (w0 w : World) (R : List Seg) (wb : Nat) (l : List UInt8) (Y : Seg) (o : OpX) (hok : OpOK w0 R o) (hY : WrS wb l Y) (hA : Hp w0 (Y :: R) w) (hl : l.length + vSz o.v < 140737488353000) (hvp : o.v.p.length < 8796093000000) (hvs : o.v.ss.length < 8796093000000) : Calls Try.prog 47 #[.pointer (some ⟨wb, 0, none⟩), .agg (opC o).toArray] w fun e w' => ∃ v' X Y', e = .returned (.tuple #[v', .bool true]) ∧ Buf 5 1 X v' (sizedB o).length (dc (sizedB o)) ∧ WrS wb (l ++ sizedB o) Y' ∧ Hp w0 (X :: Y' :: R) w' := by
  have hsz : l.length + (8 + o.v.p.length + o.v.s.length + o.v.ds.flatten.length + (tflat o.v.ss).length) < 140737488353000 := hl
  refine vc_enter Try.func47 rfl Try.ntmps47 (Nat.le_of_ble_eq_true rfl) (fun a hF => ?_)
  apply wp_seq_k; intro K1 hK1
  refine wp_region_lit ?_
  refine vc_op rfl (fun K hK => hs_box (cs := [.int .i64 o.kind, .int .i64 o.at_, .int .u64 (o.v.n : Int), .int .i64 o.many, .bool o.v.b, .slice o.dA o.v.ds.length o.dC, .slice o.qA o.ps.length o.qC, .slice o.pA o.v.p.length o.pC, strV o.v.s, .slice o.sA o.v.ss.length o.sC, .int .i64 o.most, .int .i64 o.each]) hF rfl (by decide) rfl hA rfl (fun b1 w2 a hb1 hF hA3 => hK _ _ ?_))
  clear hK K
  replace hA3 : Hp w0 ([row b1 38 [.int .i64 o.kind, .int .i64 o.at_, .int .u64 (o.v.n : Int), .int .i64 o.many, .bool o.v.b, .slice o.dA o.v.ds.length o.dC, .slice o.qA o.ps.length o.qC, .slice o.pA o.v.p.length o.pC, strV o.v.s, .slice o.sA o.v.ss.length o.sC, .int .i64 o.most, .int .i64 o.each]] :: Y :: R) w2 := hA3
  refine vc_y hF rfl rfl (by decide) _ (y_assign rfl rfl) (fun a hF => ?_)
  refine vc_y hF rfl rfl (by decide) _ (y_assign rfl rfl) (fun a hF => ?_)
  refine vc_nil ?_
  refine hK1 _ _ ?_; clear  hK1 K1
  apply wp_seq_k; intro K2 hK2
  apply wp_seq_k; intro K3 hK3
  refine wp_region_lit ?_
  refine vc_y hF rfl rfl (by decide) _ (y_field rfl Try.underlying38 rfl sz3_ws (by decide) rfl (rfl : (⟨_, 0 + _, none⟩ : Addr) = ⟨_, 0, none⟩)) (fun a hF => ?_)
  refine vc_y hF rfl rfl (by decide) _ (y_ld rfl hA3.q rfl 0 rfl rfl nr3_ws) (fun a hF => ?_)
  refine vc_nil ?_
  refine hK3 _ _ ?_; clear  hK3 K3
  apply wp_block
  apply wp_seq_k; intro K4 hK4
  refine wp_region_lit ?_
  refine vc_y hF rfl rfl (by decide) _ (y_cmp rfl rfl rfl rfl rfl) (fun a hF => ?_)
  refine vc_y hF rfl rfl (by decide) _ (y_assign rfl rfl) (fun a hF => ?_)
  refine vc_nil ?_
  refine hK4 _ _ ?_; clear  hK4 K4
  by_cases k8 : o.kind = 8
  · refine vc_trueB hF rfl (eql_t (by omega)) ?_
    apply wp_seq_k; intro K5 hK5
    refine wp_region_lit ?_
    refine vc_y hF rfl rfl (by decide) _ (y_field rfl Try.underlying38 rfl sz9_ws (by decide) rfl (rfl : (⟨_, 0 + _, none⟩ : Addr) = ⟨_, 8, none⟩)) (fun a hF => ?_)
    refine vc_y hF rfl rfl (by decide) _ (y_ld rfl hA3.q rfl 0 rfl rfl nr9_ws) (fun a hF => ?_)
    refine vc_y hF rfl rfl (by decide) _ (y_field rfl Try.underlying38 rfl sz3_ws (by decide) rfl (rfl : (⟨_, 0 + _, none⟩ : Addr) = ⟨_, 10, none⟩)) (fun a hF => ?_)
    refine vc_y hF rfl rfl (by decide) _ (y_ld rfl hA3.q rfl 0 rfl rfl nr3_ws) (fun a hF => ?_)
    refine vc_op rfl (fun K hK => ws_call hF rfl (by decide) cl79_ws rfl rfl ?_)
    with_reducible refine (rf_text w0 _ ([row b1 38 [.int .i64 o.kind, .int .i64 o.at_, .int .u64 (o.v.n : Int), .int .i64 o.many, .bool o.v.b, .slice o.dA o.v.ds.length o.dC, .slice o.qA o.ps.length o.qC, .slice o.pA o.v.p.length o.pC, strV o.v.s, .slice o.sA o.v.ss.length o.sC, .int .i64 o.most, .int .i64 o.each]] :: Y :: R) o.v.s o.most hA3 (by omega) ).mono ?_
    rintro e' w4 ⟨vT, XT, rfl, hT, hA5⟩
    refine ⟨_, rfl, fun a hF => hK _ _ ?_⟩
    clear hK K
    replace hA5 : Hp w0 (XT :: [row b1 38 [.int .i64 o.kind, .int .i64 o.at_, .int .u64 (o.v.n : Int), .int .i64 o.many, .bool o.v.b, .slice o.dA o.v.ds.length o.dC, .slice o.qA o.ps.length o.qC, .slice o.pA o.v.p.length o.pC, strV o.v.s, .slice o.sA o.v.ss.length o.sC, .int .i64 o.most, .int .i64 o.each]] :: Y :: R) w4 := hA5
    refine vc_y hF rfl rfl (by decide) _ (y_move rfl rfl) (fun a hF => ?_)
    refine vc_y hF rfl rfl (by decide) _ (y_extract (v := vT) rfl rfl rfl) (fun a hF => ?_)
    refine vc_y hF rfl rfl (by decide) _ (y_extract (v := .int .i64 (textE o.v.s o.most : Nat)) rfl rfl rfl) (fun a hF => ?_)
    refine vc_y hF rfl rfl (by decide) _ (y_assign rfl rfl) (fun a hF => ?_)
    refine vc_y hF rfl rfl (by decide) _ (y_assign rfl rfl) (fun a hF => ?_)
    refine vc_nil ?_
    refine hK5 _ _ ?_; clear  hK5 K5
    apply wp_seq_k; intro K6 hK6
    refine wp_region_lit ?_
    refine vc_y hF rfl rfl (by decide) _ (y_move rfl rfl) (fun a hF => ?_)
    refine vc_y hF rfl rfl (by decide) _ (y_move rfl rfl) (fun a hF => ?_)
    refine vc_y hF rfl rfl (by decide) _ (y_field rfl Try.underlying38 rfl sz9_ws (by decide) rfl (rfl : (⟨_, 0 + _, none⟩ : Addr) = ⟨_, 8, none⟩)) (fun a hF => ?_)
    refine vc_y hF rfl rfl (by decide) _ (y_ld rfl hA5.q rfl 1 rfl rfl nr9_ws) (fun a hF => ?_)
    refine vc_y hF rfl rfl (by decide) _ (y_field rfl Try.underlying38 rfl sz3_ws (by decide) rfl (rfl : (⟨_, 0 + _, none⟩ : Addr) = ⟨_, 10, none⟩)) (fun a hF => ?_)
    refine vc_y hF rfl rfl (by decide) _ (y_ld rfl hA5.q rfl 1 rfl rfl nr3_ws) (fun a hF => ?_)
    have hA6 : Hp w0 (Y :: XT :: [row b1 38 [.int .i64 o.kind, .int .i64 o.at_, .int .u64 (o.v.n : Int), .int .i64 o.many, .bool o.v.b, .slice o.dA o.v.ds.length o.dC, .slice o.qA o.ps.length o.qC, .slice o.pA o.v.p.length o.pC, strV o.v.s, .slice o.sA o.v.ss.length o.sC, .int .i64 o.most, .int .i64 o.each]] :: R) w4 := Hp.ord [XT, [row b1 38 [.int .i64 o.kind, .int .i64 o.at_, .int .u64 (o.v.n : Int), .int .i64 o.many, .bool o.v.b, .slice o.dA o.v.ds.length o.dC, .slice o.qA o.ps.length o.qC, .slice o.pA o.v.p.length o.pC, strV o.v.s, .slice o.sA o.v.ss.length o.sC, .int .i64 o.most, .int .i64 o.each]], Y] R [2, 0, 1] hA5 rfl
    refine vc_op rfl (fun K hK => ws_call hF rfl (by decide) cl68_ws rfl rfl ?_)
    with_reducible refine (hw_text w0 _ _ wb l Y o.v.s o.most hY hA6 (by omega) ).mono ?_
    rintro e' w7 ⟨Y', rfl, hY', hA8⟩
    refine ⟨_, rfl, fun a hF => hK _ _ ?_⟩
    clear hK K
    replace hA8 : Hp w0 (Y' :: XT :: [row b1 38 [.int .i64 o.kind, .int .i64 o.at_, .int .u64 (o.v.n : Int), .int .i64 o.many, .bool o.v.b, .slice o.dA o.v.ds.length o.dC, .slice o.qA o.ps.length o.qC, .slice o.pA o.v.p.length o.pC, strV o.v.s, .slice o.sA o.v.ss.length o.sC, .int .i64 o.most, .int .i64 o.each]] :: R) w7 := hA8
    refine vc_y hF rfl rfl (by decide) _ (y_move rfl rfl) (fun a hF => ?_)
    refine vc_y hF rfl rfl (by decide) _ (y_cmp rfl rfl rfl rfl (eql_t rfl)) (fun a hF => ?_)
    refine vc_y hF rfl rfl (by decide) _ (y_assign rfl rfl) (fun a hF => ?_)
    refine vc_y hF rfl rfl (by decide) _ (y_assign rfl rfl) (fun a hF => ?_)
    refine vc_nil ?_
    refine hK6 _ _ ?_; clear  hK6 K6
    apply wp_ret
    simp only [Exit.then, Exit.inBlock]
    refine vc_ret2 hF Try.results47 rfl rfl ?_
    have hN : sizedB o = textB o.v.s o.most := by rw [sizedB, if_pos k8]
    have hA9 : Hp w0 (XT :: Y' :: R) w7 := Hp.sel [Y', XT, [row b1 38 [.int .i64 o.kind, .int .i64 o.at_, .int .u64 (o.v.n : Int), .int .i64 o.many, .bool o.v.b, .slice o.dA o.v.ds.length o.dC, .slice o.qA o.ps.length o.qC, .slice o.pA o.v.p.length o.pC, strV o.v.s, .slice o.sA o.v.ss.length o.sC, .int .i64 o.most, .int .i64 o.each]]] R [1, 0] [2] hA8 rfl
    rw [hN]
    exact ⟨vT, XT, Y', rfl, hT, hY', hA9⟩
  · refine vc_falseB hF rfl (eql_f (by omega)) ?_
    apply wp_seq_k; intro K7 hK7
    refine wp_region_lit ?_
    refine vc_y hF rfl rfl (by decide) _ (y_cmp rfl rfl rfl rfl rfl) (fun a hF => ?_)
    refine vc_y hF rfl rfl (by decide) _ (y_assign rfl rfl) (fun a hF => ?_)
    refine vc_nil ?_
    refine hK7 _ _ ?_; clear  hK7 K7
    by_cases k9 : o.kind = 9
    · refine vc_trueB hF rfl (eql_t (by omega)) ?_
      apply wp_seq_k; intro K8 hK8
      refine wp_region_lit ?_
      refine vc_y hF rfl rfl (by decide) _ (y_field rfl Try.underlying38 rfl sz35_ws (by decide) rfl (rfl : (⟨_, 0 + _, none⟩ : Addr) = ⟨_, 7, none⟩)) (fun a hF => ?_)
      refine vc_y hF rfl rfl (by decide) _ (y_ld rfl hA3.q rfl 0 rfl rfl nr35_ws) (fun a hF => ?_)
      refine vc_y hF rfl rfl (by decide) _ (y_field rfl Try.underlying38 rfl sz3_ws (by decide) rfl (rfl : (⟨_, 0 + _, none⟩ : Addr) = ⟨_, 10, none⟩)) (fun a hF => ?_)
      refine vc_y hF rfl rfl (by decide) _ (y_ld rfl hA3.q rfl 0 rfl rfl nr3_ws) (fun a hF => ?_)
      refine vc_op rfl (fun K hK => ws_call hF rfl (by decide) cl80_ws rfl rfl ?_)
      with_reducible refine (rf_bytes w0 _ ([row b1 38 [.int .i64 o.kind, .int .i64 o.at_, .int .u64 (o.v.n : Int), .int .i64 o.many, .bool o.v.b, .slice o.dA o.v.ds.length o.dC, .slice o.qA o.ps.length o.qC, .slice o.pA o.v.p.length o.pC, strV o.v.s, .slice o.sA o.v.ss.length o.sC, .int .i64 o.most, .int .i64 o.each]] :: Y :: R) o.v.p o.pA o.pC (hok.p.mono (subC (subC (sub0)))) o.most hA3 (by omega) ).mono ?_
      rintro e' w10 ⟨vT, XT, rfl, hT, hA11⟩
      refine ⟨_, rfl, fun a hF => hK _ _ ?_⟩
      clear hK K
      replace hA11 : Hp w0 (XT :: [row b1 38 [.int .i64 o.kind, .int .i64 o.at_, .int .u64 (o.v.n : Int), .int .i64 o.many, .bool o.v.b, .slice o.dA o.v.ds.length o.dC, .slice o.qA o.ps.length o.qC, .slice o.pA o.v.p.length o.pC, strV o.v.s, .slice o.sA o.v.ss.length o.sC, .int .i64 o.most, .int .i64 o.each]] :: Y :: R) w10 := hA11
      refine vc_y hF rfl rfl (by decide) _ (y_move rfl rfl) (fun a hF => ?_)
      refine vc_y hF rfl rfl (by decide) _ (y_extract (v := vT) rfl rfl rfl) (fun a hF => ?_)
      refine vc_y hF rfl rfl (by decide) _ (y_extract (v := .int .i64 (bytesE o.v.p o.most : Nat)) rfl rfl rfl) (fun a hF => ?_)
      refine vc_y hF rfl rfl (by decide) _ (y_assign rfl rfl) (fun a hF => ?_)
      refine vc_y hF rfl rfl (by decide) _ (y_assign rfl rfl) (fun a hF => ?_)
      refine vc_nil ?_
      refine hK8 _ _ ?_; clear  hK8 K8
      apply wp_seq_k; intro K9 hK9
      refine wp_region_lit ?_
      refine vc_y hF rfl rfl (by decide) _ (y_field rfl Try.underlying38 rfl sz35_ws (by decide) rfl (rfl : (⟨_, 0 + _, none⟩ : Addr) = ⟨_, 7, none⟩)) (fun a hF => ?_)
      refine vc_y hF rfl rfl (by decide) _ (y_ld rfl hA11.q rfl 1 rfl rfl nr35_ws) (fun a hF => ?_)
      refine vc_op rfl (fun K hK => ws_call hF rfl (by decide) cl58_ws rfl rfl ?_)
      with_reducible refine (ws_roomyB w0 _ (XT :: [row b1 38 [.int .i64 o.kind, .int .i64 o.at_, .int .u64 (o.v.n : Int), .int .i64 o.many, .bool o.v.b, .slice o.dA o.v.ds.length o.dC, .slice o.qA o.ps.length o.qC, .slice o.pA o.v.p.length o.pC, strV o.v.s, .slice o.sA o.v.ss.length o.sC, .int .i64 o.most, .int .i64 o.each]] :: Y :: R) o.pA o.v.p o.pC (hok.p.mono (subC (subC (subC (sub0))))) hA11 (by omega) ).mono ?_
      rintro e' w12 ⟨g, rfl, hA13⟩
      refine ⟨_, rfl, fun a hF => hK _ _ ?_⟩
      clear hK K
      replace hA13 : Hp w0 ([row g 5 (cel cB (o.v.p ++ List.replicate 80 165))] :: XT :: [row b1 38 [.int .i64 o.kind, .int .i64 o.at_, .int .u64 (o.v.n : Int), .int .i64 o.many, .bool o.v.b, .slice o.dA o.v.ds.length o.dC, .slice o.qA o.ps.length o.qC, .slice o.pA o.v.p.length o.pC, strV o.v.s, .slice o.sA o.v.ss.length o.sC, .int .i64 o.most, .int .i64 o.each]] :: Y :: R) w12 := hA13
      refine vc_y hF rfl rfl (by decide) _ (y_assign rfl rfl) (fun a hF => ?_)
      refine vc_nil ?_
      refine hK9 _ _ ?_; clear  hK9 K9
      apply wp_seq_k; intro K10 hK10
      refine wp_region_plan 17 [8,15,17] [0,1,2,3,4,5,6,7,9,8,10,11,12,13,14,15,16,17] (fun x => Hq w0 ([row g 5 (cel cB (o.v.p ++ List.replicate 80 165))] :: [row b1 38 [.int .i64 o.kind, .int .i64 o.at_, .int .u64 (o.v.n : Int), .int .i64 o.many, .bool o.v.b, .slice o.dA o.v.ds.length o.dC, .slice o.qA o.ps.length o.qC, .slice o.pA o.v.p.length o.pC, strV o.v.s, .slice o.sA o.v.ss.length o.sC, .int .i64 o.most, .int .i64 o.each]] :: R) x) (by kernel_rfl) (by kernel_rfl) (Hq.drew (Hp.qp [[row g 5 (cel cB (o.v.p ++ List.replicate 80 165))], XT, [row b1 38 [.int .i64 o.kind, .int .i64 o.at_, .int .u64 (o.v.n : Int), .int .i64 o.many, .bool o.v.b, .slice o.dA o.v.ds.length o.dC, .slice o.qA o.ps.length o.qC, .slice o.pA o.v.p.length o.pC, strV o.v.s, .slice o.sA o.v.ss.length o.sC, .int .i64 o.most, .int .i64 o.each]], Y] R [0, 2] hA13)) ?_
      have hA14 := Hl.drew hA13
      refine vp_y hF rfl rfl rfl rfl (by decide) _ (fun x hx => y_move rfl rfl) (fun a hF => ?_)
      refine vp_y hF rfl rfl rfl rfl (by decide) _ (fun x hx => y_move rfl rfl) (fun a hF => ?_)
      refine vp_y hF rfl rfl rfl rfl (by decide) _ (fun x hx => y_field rfl Try.underlying38 rfl sz35_ws (by decide) rfl (rfl : (⟨_, 0 + _, none⟩ : Addr) = ⟨_, 7, none⟩)) (fun a hF => ?_)
      refine vp_y hF rfl rfl rfl rfl (by decide) _ (fun x hx => y_ld rfl hx rfl 1 rfl rfl nr35_ws) (fun a hF => ?_)
      refine vp_y hF rfl rfl rfl rfl (by decide) _ (fun x hx => y_lenSl rfl Try.underlying35 rfl rfl) (fun a hF => ?_)
      refine vp_y hF rfl rfl rfl rfl (by decide) _ (fun x hx => y_slice rfl Try.underlying35 kb_sz_byte rfl (.none 0) (.some rfl rfl) (Nat.zero_le _) (by omega) slice_to) (fun a hF => ?_)
      refine vp_y hF rfl rfl rfl rfl (by decide) _ (fun x hx => y_field rfl Try.underlying38 rfl sz3_ws (by decide) rfl (rfl : (⟨_, 0 + _, none⟩ : Addr) = ⟨_, 10, none⟩)) (fun a hF => ?_)
      refine vp_y hF rfl rfl rfl rfl (by decide) _ (fun x hx => y_ld rfl hx rfl 1 rfl rfl nr3_ws) (fun a hF => ?_)
      refine vp_y hF rfl rfl rfl rfl (by decide) _ (fun x hx => y_move rfl rfl) (fun a hF => ?_)
      have hA15 : Hp w0 (Y :: [row g 5 (cel cB (o.v.p ++ List.replicate 80 165))] :: XT :: [row b1 38 [.int .i64 o.kind, .int .i64 o.at_, .int .u64 (o.v.n : Int), .int .i64 o.many, .bool o.v.b, .slice o.dA o.v.ds.length o.dC, .slice o.qA o.ps.length o.qC, .slice o.pA o.v.p.length o.pC, strV o.v.s, .slice o.sA o.v.ss.length o.sC, .int .i64 o.most, .int .i64 o.each]] :: R) w12.drew := Hp.ord [[row g 5 (cel cB (o.v.p ++ List.replicate 80 165))], XT, [row b1 38 [.int .i64 o.kind, .int .i64 o.at_, .int .u64 (o.v.n : Int), .int .i64 o.many, .bool o.v.b, .slice o.dA o.v.ds.length o.dC, .slice o.qA o.ps.length o.qC, .slice o.pA o.v.p.length o.pC, strV o.v.s, .slice o.sA o.v.ss.length o.sC, .int .i64 o.most, .int .i64 o.each]], Y] R [3, 0, 1, 2] hA14 rfl
      have hRg : Rd w0 ([row g 5 (cel cB (o.v.p ++ List.replicate 80 165))] :: XT :: [row b1 38 [.int .i64 o.kind, .int .i64 o.at_, .int .u64 (o.v.n : Int), .int .i64 o.many, .bool o.v.b, .slice o.dA o.v.ds.length o.dC, .slice o.qA o.ps.length o.qC, .slice o.pA o.v.p.length o.pC, strV o.v.s, .slice o.sA o.v.ss.length o.sC, .int .i64 o.most, .int .i64 o.each]] :: R) (some ⟨g, 0, none⟩) o.v.p := by
        have h1 : Rc w0 ([row g 5 (cel cB (o.v.p ++ List.replicate 80 165))] :: XT :: [row b1 38 [.int .i64 o.kind, .int .i64 o.at_, .int .u64 (o.v.n : Int), .int .i64 o.many, .bool o.v.b, .slice o.dA o.v.ds.length o.dC, .slice o.qA o.ps.length o.qC, .slice o.pA o.v.p.length o.pC, strV o.v.s, .slice o.sA o.v.ss.length o.sC, .int .i64 o.most, .int .i64 o.each]] :: R) (some ⟨g, 0, none⟩) (cel cB (o.v.p ++ List.replicate 80 165)) := Rc.ofRow (i := 0) (off := 0) rfl (by rw [List.drop_zero, List.take_length])
        have h2 := h1.take (cel cB o.v.p).length
        have e2 : (cel cB (o.v.p ++ List.replicate 80 165)).take (cel cB o.v.p).length = cel cB o.v.p := by rw [cel_append, List.take_left]
        rw [e2] at h2
        rw [Rd, cel_dc]; exact h2
      refine vp_l rfl rfl rfl (fun K hK => ws_call hF rfl (by decide) cl69_ws rfl rfl ?_)
      with_reducible refine (hw_bytes w0 _ ([row g 5 (cel cB (o.v.p ++ List.replicate 80 165))] :: XT :: [row b1 38 [.int .i64 o.kind, .int .i64 o.at_, .int .u64 (o.v.n : Int), .int .i64 o.many, .bool o.v.b, .slice o.dA o.v.ds.length o.dC, .slice o.qA o.ps.length o.qC, .slice o.pA o.v.p.length o.pC, strV o.v.s, .slice o.sA o.v.ss.length o.sC, .int .i64 o.most, .int .i64 o.each]] :: R) wb l Y o.v.p (some ⟨g, 0, none⟩) (o.v.p.length + 80) hRg o.most hY hA15 (by omega) ).mono ?_
      rintro e' w16 ⟨Y', rfl, hY', hA17⟩
      refine ⟨_, rfl, fun a hF => hK _ _ (fun _ => ?_) ?_⟩
      · exact Hp.qp [Y', [row g 5 (cel cB (o.v.p ++ List.replicate 80 165))], XT, [row b1 38 [.int .i64 o.kind, .int .i64 o.at_, .int .u64 (o.v.n : Int), .int .i64 o.many, .bool o.v.b, .slice o.dA o.v.ds.length o.dC, .slice o.qA o.ps.length o.qC, .slice o.pA o.v.p.length o.pC, strV o.v.s, .slice o.sA o.v.ss.length o.sC, .int .i64 o.most, .int .i64 o.each]]] R [1, 3] hA17
      clear hK K
      replace hA17 : Hp w0 (Y' :: [row g 5 (cel cB (o.v.p ++ List.replicate 80 165))] :: XT :: [row b1 38 [.int .i64 o.kind, .int .i64 o.at_, .int .u64 (o.v.n : Int), .int .i64 o.many, .bool o.v.b, .slice o.dA o.v.ds.length o.dC, .slice o.qA o.ps.length o.qC, .slice o.pA o.v.p.length o.pC, strV o.v.s, .slice o.sA o.v.ss.length o.sC, .int .i64 o.most, .int .i64 o.each]] :: R) w16 := hA17
      refine vp_y hF rfl rfl rfl rfl (by decide) _ (fun x hx => y_cmp rfl rfl rfl rfl (eql_t rfl)) (fun a hF => ?_)
      refine vp_y hF rfl rfl rfl rfl (by decide) _ (fun x hx => y_move rfl rfl) (fun a hF => ?_)
      refine vp_yg hF rfl rfl rfl rfl rfl rfl rfl (by decide) _ (fun x hx => y_move rfl rfl) (fun a hF => ?_)
      refine vp_yg hF rfl rfl rfl rfl rfl rfl rfl (by decide) _ (fun x hx => y_field rfl Try.underlying38 rfl sz35_ws (by decide) rfl (rfl : (⟨_, 0 + _, none⟩ : Addr) = ⟨_, 7, none⟩)) (fun a hF => ?_)
      refine vp_yg hF rfl rfl rfl rfl rfl rfl rfl (by decide) _ (fun x hx => y_ld rfl hx rfl 1 rfl rfl nr35_ws) (fun a hF => ?_)
      refine vp_lg hF rfl rfl rfl rfl rfl rfl (fun K hK => ws_call hF rfl (by decide) cl59_ws rfl rfl ?_)
      with_reducible refine (ws_intactB w0 _ (Y' :: [row g 5 (cel cB (o.v.p ++ List.replicate 80 165))] :: XT :: [row b1 38 [.int .i64 o.kind, .int .i64 o.at_, .int .u64 (o.v.n : Int), .int .i64 o.many, .bool o.v.b, .slice o.dA o.v.ds.length o.dC, .slice o.qA o.ps.length o.qC, .slice o.pA o.v.p.length o.pC, strV o.v.s, .slice o.sA o.v.ss.length o.sC, .int .i64 o.most, .int .i64 o.each]] :: R) (some ⟨g, 0, none⟩) o.pA o.v.p (o.v.p.length + 80) o.pC (Rc.ofRow (i := 1) (off := 0) rfl (by rw [List.drop_zero, List.take_length])) (hok.p.mono (subC (subC (subC (subC (sub0)))))) (Nat.le_refl _) hA17 (by omega) ).mono ?_
      rintro e' w18 ⟨rfl, hA19⟩
      refine ⟨_, rfl, fun a hF => hK _ _ (fun _ => ?_) ?_⟩
      · exact Hp.qp [Y', [row g 5 (cel cB (o.v.p ++ List.replicate 80 165))], XT, [row b1 38 [.int .i64 o.kind, .int .i64 o.at_, .int .u64 (o.v.n : Int), .int .i64 o.many, .bool o.v.b, .slice o.dA o.v.ds.length o.dC, .slice o.qA o.ps.length o.qC, .slice o.pA o.v.p.length o.pC, strV o.v.s, .slice o.sA o.v.ss.length o.sC, .int .i64 o.most, .int .i64 o.each]]] R [1, 3] hA19
      clear hK K
      replace hA19 : Hp w0 (Y' :: [row g 5 (cel cB (o.v.p ++ List.replicate 80 165))] :: XT :: [row b1 38 [.int .i64 o.kind, .int .i64 o.at_, .int .u64 (o.v.n : Int), .int .i64 o.many, .bool o.v.b, .slice o.dA o.v.ds.length o.dC, .slice o.qA o.ps.length o.qC, .slice o.pA o.v.p.length o.pC, strV o.v.s, .slice o.sA o.v.ss.length o.sC, .int .i64 o.most, .int .i64 o.each]] :: R) w18 := hA19
      refine vp_y hF rfl rfl rfl rfl (by decide) _ (fun x hx => y_pick rfl rfl rfl) (fun a hF => ?_)
      refine vp_ly hF rfl rfl rfl rfl (by decide) _ (y_assign rfl rfl) (fun h => absurd h (by decide)) (fun a hF => ?_)
      refine plan_end ?_
      refine hK10 _ _ ?_; clear  hK10 K10
      apply wp_seq_k; intro K11 hK11
      apply wp_seq_k; intro K12 hK12
      refine wp_region_lit ?_
      refine vc_y hF rfl rfl (by decide) _ (y_assign rfl rfl) (fun a hF => ?_)
      refine vc_nil ?_
      refine hK12 _ _ ?_; clear  hK12 K12
      apply wp_block
      have hA20 : Hp w0 (XT :: Y' :: [row g 5 (cel cB (o.v.p ++ List.replicate 80 165))] :: R) w18 := Hp.sel [Y', [row g 5 (cel cB (o.v.p ++ List.replicate 80 165))], XT, [row b1 38 [.int .i64 o.kind, .int .i64 o.at_, .int .u64 (o.v.n : Int), .int .i64 o.many, .bool o.v.b, .slice o.dA o.v.ds.length o.dC, .slice o.qA o.ps.length o.qC, .slice o.pA o.v.p.length o.pC, strV o.v.s, .slice o.sA o.v.ss.length o.sC, .int .i64 o.most, .int .i64 o.each]]] R [2, 0, 1] [3] hA19 rfl
      refine vc_loop (G := Nat) (fun j a x => ∃ (cs : List Value), j ≤ o.v.p.length + 80 ∧ cs.length = o.v.p.length + 80 ∧ Fr 123 [(12, .int .i64 (j : Int)), (8, vT), (10, .slice (some ⟨g, 0, none⟩) (o.v.p.length + 80) (o.v.p.length + 80)), (11, .bool true)] a ∧ Hp w0 (XT :: Y' :: [row g 5 cs] :: R) x) (fun j => o.v.p.length + 80 - j) 0 (⟨_, Nat.zero_le _, (by rw [cel_len (sz := 1) (fun x _ => rfl), List.length_append, List.length_replicate]; omega), hF.keep [12, 8, 10, 11] rfl, hA20⟩) ?_
      clear hF
      rintro j a w22 ⟨cs, hj, hcs, hF, hA21⟩
      apply wp_seq_k; intro K13 hK13
      apply wp_seq_k; intro K14 hK14
      refine wp_region_lit ?_
      refine vc_y hF rfl rfl (by decide) _ (y_move rfl rfl) (fun a hF => ?_)
      refine vc_y hF rfl rfl (by decide) _ (y_move rfl rfl) (fun a hF => ?_)
      refine vc_y hF rfl rfl (by decide) _ (y_lenSl rfl Try.underlying35 rfl rfl) (fun a hF => ?_)
      refine vc_y hF rfl rfl (by decide) _ (y_cmp rfl rfl rfl rfl rfl) (fun a hF => ?_)
      refine vc_nil ?_
      refine hK14 _ _ ?_; clear  hK14 K14
      by_cases hlt : j < o.v.p.length + 80
      · refine vc_trueB hF rfl (lss_t (by omega)) ?_
        apply wp_skip
        refine hK13 _ _ ?_; clear  hK13 K13
        apply wp_seq_k; intro K15 hK15
        apply wp_block
        refine wp_region_lit ?_
        refine vc_y hF rfl rfl (by decide) _ (y_move rfl rfl) (fun a hF => ?_)
        refine vc_y hF rfl rfl (by decide) _ (y_move rfl rfl) (fun a hF => ?_)
        refine vc_y hF rfl rfl (by decide) _ (y_ixSl rfl Try.underlying35 sz5_ws rfl rfl j rfl hlt (ad2 _ _ _)) (fun a hF => ?_)
        refine vc_op rfl (fun K hK => hs_store1 hF rfl rfl hA21 rfl rfl 2 rfl (by rw [hcs]; omega) rfl sz5_ws (fun w23 hA24 => hK _ _ ?_))
        clear hK K
        replace hA24 : Hp w0 (XT :: Y' :: [row g 5 (cs.set (0 + j) (.int .u8 166))] :: R) w23 := hA24
        refine vc_nil ?_
        refine hK15 _ _ ?_; clear  hK15 K15
        refine wp_region_lit ?_
        refine vc_y hF rfl rfl (by decide) _ (y_move rfl rfl) (fun a hF => ?_)
        refine vc_y hF rfl rfl (by decide) _ (y_add rfl rfl rfl (IntWalk.i64_in _ (by omega))) (fun a hF => ?_)
        refine vc_y hF rfl rfl (by decide) _ (y_assign rfl rfl) (fun a hF => ?_)
        refine vc_nil ?_
        exact ⟨j + 1, by omega, _, by omega, (by rw [List.length_set]; exact hcs), hF.keep [12, 8, 10, 11] rfl, hA24⟩
      · refine vc_falseB hF rfl (lss_f (by omega)) ?_
        apply wp_exit
        refine hK11 _ _ ?_; clear hK13 K13 hK11 K11
        apply wp_seq_k; intro K16 hK16
        refine wp_region_lit ?_
        refine vc_y hF rfl rfl (by decide) _ (y_move rfl rfl) (fun a hF => ?_)
        refine vc_y hF rfl rfl (by decide) _ (y_move rfl rfl) (fun a hF => ?_)
        refine vc_y hF rfl rfl (by decide) _ (y_assign rfl rfl) (fun a hF => ?_)
        refine vc_y hF rfl rfl (by decide) _ (y_assign rfl rfl) (fun a hF => ?_)
        refine vc_nil ?_
        refine hK16 _ _ ?_; clear  hK16 K16
        apply wp_ret
        simp only [Exit.then, Exit.inBlock]
        refine vc_ret2 hF Try.results47 rfl rfl ?_
        have hN : sizedB o = bytesB o.v.p o.most := by rw [sizedB, if_neg k8, if_pos k9]
        have hA25 : Hp w0 (XT :: Y' :: R) w22 := Hp.sel [XT, Y', [row g 5 cs]] R [0, 1] [2] hA21 rfl
        rw [hN]
        exact ⟨vT, XT, Y', rfl, hT, hY', hA25⟩
    · refine vc_falseB hF rfl (eql_f (by omega)) ?_
      apply wp_skip
      refine hK2 _ _ ?_; clear  hK2 K2
      apply wp_seq_k; intro K17 hK17
      refine wp_region_lit ?_
      refine vc_y hF rfl rfl (by decide) _ (y_field rfl Try.underlying38 rfl sz36_ws (by decide) rfl (rfl : (⟨_, 0 + _, none⟩ : Addr) = ⟨_, 9, none⟩)) (fun a hF => ?_)
      refine vc_y hF rfl rfl (by decide) _ (y_ld rfl hA3.q rfl 0 rfl rfl nr36_ws) (fun a hF => ?_)
      refine vc_y hF rfl rfl (by decide) _ (y_field rfl Try.underlying38 rfl sz3_ws (by decide) rfl (rfl : (⟨_, 0 + _, none⟩ : Addr) = ⟨_, 10, none⟩)) (fun a hF => ?_)
      refine vc_y hF rfl rfl (by decide) _ (y_ld rfl hA3.q rfl 0 rfl rfl nr3_ws) (fun a hF => ?_)
      refine vc_y hF rfl rfl (by decide) _ (y_field rfl Try.underlying38 rfl sz3_ws (by decide) rfl (rfl : (⟨_, 0 + _, none⟩ : Addr) = ⟨_, 11, none⟩)) (fun a hF => ?_)
      refine vc_y hF rfl rfl (by decide) _ (y_ld rfl hA3.q rfl 0 rfl rfl nr3_ws) (fun a hF => ?_)
      refine vc_op rfl (fun K hK => ws_call hF rfl (by decide) cl81_ws rfl rfl ?_)
      with_reducible refine (rf_texts w0 _ ([row b1 38 [.int .i64 o.kind, .int .i64 o.at_, .int .u64 (o.v.n : Int), .int .i64 o.many, .bool o.v.b, .slice o.dA o.v.ds.length o.dC, .slice o.qA o.ps.length o.qC, .slice o.pA o.v.p.length o.pC, strV o.v.s, .slice o.sA o.v.ss.length o.sC, .int .i64 o.most, .int .i64 o.each]] :: Y :: R) o.sA o.v.ss o.sC (hok.ss.mono (subC (subC (sub0)))) o.most o.each hA3 (by omega) hok.ssl ).mono ?_
      rintro e' w26 ⟨vT, XT, rfl, hT, hA27⟩
      refine ⟨_, rfl, fun a hF => hK _ _ ?_⟩
      clear hK K
      replace hA27 : Hp w0 (XT :: [row b1 38 [.int .i64 o.kind, .int .i64 o.at_, .int .u64 (o.v.n : Int), .int .i64 o.many, .bool o.v.b, .slice o.dA o.v.ds.length o.dC, .slice o.qA o.ps.length o.qC, .slice o.pA o.v.p.length o.pC, strV o.v.s, .slice o.sA o.v.ss.length o.sC, .int .i64 o.most, .int .i64 o.each]] :: Y :: R) w26 := hA27
      refine vc_y hF rfl rfl (by decide) _ (y_move rfl rfl) (fun a hF => ?_)
      refine vc_y hF rfl rfl (by decide) _ (y_extract (v := vT) rfl rfl rfl) (fun a hF => ?_)
      refine vc_y hF rfl rfl (by decide) _ (y_extract (v := .int .i64 (textsE o.v.ss o.most o.each : Nat)) rfl rfl rfl) (fun a hF => ?_)
      refine vc_y hF rfl rfl (by decide) _ (y_assign rfl rfl) (fun a hF => ?_)
      refine vc_y hF rfl rfl (by decide) _ (y_assign rfl rfl) (fun a hF => ?_)
      refine vc_nil ?_
      refine hK17 _ _ ?_; clear  hK17 K17
      apply wp_seq_k; intro K18 hK18
      refine wp_region_lit ?_
      refine vc_y hF rfl rfl (by decide) _ (y_field rfl Try.underlying38 rfl sz36_ws (by decide) rfl (rfl : (⟨_, 0 + _, none⟩ : Addr) = ⟨_, 9, none⟩)) (fun a hF => ?_)
      refine vc_y hF rfl rfl (by decide) _ (y_ld rfl hA27.q rfl 1 rfl rfl nr36_ws) (fun a hF => ?_)
      refine vc_op rfl (fun K hK => ws_call hF rfl (by decide) cl82_ws rfl rfl ?_)
      with_reducible refine (ws_roomyS w0 _ (XT :: [row b1 38 [.int .i64 o.kind, .int .i64 o.at_, .int .u64 (o.v.n : Int), .int .i64 o.many, .bool o.v.b, .slice o.dA o.v.ds.length o.dC, .slice o.qA o.ps.length o.qC, .slice o.pA o.v.p.length o.pC, strV o.v.s, .slice o.sA o.v.ss.length o.sC, .int .i64 o.most, .int .i64 o.each]] :: Y :: R) o.sA o.v.ss o.sC (hok.ss.mono (subC (subC (subC (sub0))))) hA27 hvs ).mono ?_
      rintro e' w28 ⟨g, rfl, hA29⟩
      refine ⟨_, rfl, fun a hF => hK _ _ ?_⟩
      clear hK K
      replace hA29 : Hp w0 ([row g 9 (cel cS (o.v.ss ++ List.replicate 80 ws_behind))] :: XT :: [row b1 38 [.int .i64 o.kind, .int .i64 o.at_, .int .u64 (o.v.n : Int), .int .i64 o.many, .bool o.v.b, .slice o.dA o.v.ds.length o.dC, .slice o.qA o.ps.length o.qC, .slice o.pA o.v.p.length o.pC, strV o.v.s, .slice o.sA o.v.ss.length o.sC, .int .i64 o.most, .int .i64 o.each]] :: Y :: R) w28 := hA29
      refine vc_y hF rfl rfl (by decide) _ (y_assign rfl rfl) (fun a hF => ?_)
      refine vc_nil ?_
      refine hK18 _ _ ?_; clear  hK18 K18
      apply wp_seq_k; intro K19 hK19
      refine wp_region_plan 19 [10,17,19] [0,1,2,3,4,5,6,7,8,9,11,10,12,13,14,15,16,17,18,19] (fun x => Hq w0 ([row g 9 (cel cS (o.v.ss ++ List.replicate 80 ws_behind))] :: [row b1 38 [.int .i64 o.kind, .int .i64 o.at_, .int .u64 (o.v.n : Int), .int .i64 o.many, .bool o.v.b, .slice o.dA o.v.ds.length o.dC, .slice o.qA o.ps.length o.qC, .slice o.pA o.v.p.length o.pC, strV o.v.s, .slice o.sA o.v.ss.length o.sC, .int .i64 o.most, .int .i64 o.each]] :: R) x) (by kernel_rfl) (by kernel_rfl) (Hq.drew (Hp.qp [[row g 9 (cel cS (o.v.ss ++ List.replicate 80 ws_behind))], XT, [row b1 38 [.int .i64 o.kind, .int .i64 o.at_, .int .u64 (o.v.n : Int), .int .i64 o.many, .bool o.v.b, .slice o.dA o.v.ds.length o.dC, .slice o.qA o.ps.length o.qC, .slice o.pA o.v.p.length o.pC, strV o.v.s, .slice o.sA o.v.ss.length o.sC, .int .i64 o.most, .int .i64 o.each]], Y] R [0, 2] hA29)) ?_
      have hA30 := Hl.drew hA29
      refine vp_y hF rfl rfl rfl rfl (by decide) _ (fun x hx => y_move rfl rfl) (fun a hF => ?_)
      refine vp_y hF rfl rfl rfl rfl (by decide) _ (fun x hx => y_move rfl rfl) (fun a hF => ?_)
      refine vp_y hF rfl rfl rfl rfl (by decide) _ (fun x hx => y_field rfl Try.underlying38 rfl sz36_ws (by decide) rfl (rfl : (⟨_, 0 + _, none⟩ : Addr) = ⟨_, 9, none⟩)) (fun a hF => ?_)
      refine vp_y hF rfl rfl rfl rfl (by decide) _ (fun x hx => y_ld rfl hx rfl 1 rfl rfl nr36_ws) (fun a hF => ?_)
      refine vp_y hF rfl rfl rfl rfl (by decide) _ (fun x hx => y_lenSl rfl Try.underlying36 rfl rfl) (fun a hF => ?_)
      refine vp_y hF rfl rfl rfl rfl (by decide) _ (fun x hx => y_slice rfl Try.underlying36 kb_sz_string rfl (.none 0) (.some rfl rfl) (Nat.zero_le _) (by omega) slice_to) (fun a hF => ?_)
      refine vp_y hF rfl rfl rfl rfl (by decide) _ (fun x hx => y_field rfl Try.underlying38 rfl sz3_ws (by decide) rfl (rfl : (⟨_, 0 + _, none⟩ : Addr) = ⟨_, 10, none⟩)) (fun a hF => ?_)
      refine vp_y hF rfl rfl rfl rfl (by decide) _ (fun x hx => y_ld rfl hx rfl 1 rfl rfl nr3_ws) (fun a hF => ?_)
      refine vp_y hF rfl rfl rfl rfl (by decide) _ (fun x hx => y_field rfl Try.underlying38 rfl sz3_ws (by decide) rfl (rfl : (⟨_, 0 + _, none⟩ : Addr) = ⟨_, 11, none⟩)) (fun a hF => ?_)
      refine vp_y hF rfl rfl rfl rfl (by decide) _ (fun x hx => y_ld rfl hx rfl 1 rfl rfl nr3_ws) (fun a hF => ?_)
      refine vp_y hF rfl rfl rfl rfl (by decide) _ (fun x hx => y_move rfl rfl) (fun a hF => ?_)
      have hA31 : Hp w0 (Y :: [row g 9 (cel cS (o.v.ss ++ List.replicate 80 ws_behind))] :: XT :: [row b1 38 [.int .i64 o.kind, .int .i64 o.at_, .int .u64 (o.v.n : Int), .int .i64 o.many, .bool o.v.b, .slice o.dA o.v.ds.length o.dC, .slice o.qA o.ps.length o.qC, .slice o.pA o.v.p.length o.pC, strV o.v.s, .slice o.sA o.v.ss.length o.sC, .int .i64 o.most, .int .i64 o.each]] :: R) w28.drew := Hp.ord [[row g 9 (cel cS (o.v.ss ++ List.replicate 80 ws_behind))], XT, [row b1 38 [.int .i64 o.kind, .int .i64 o.at_, .int .u64 (o.v.n : Int), .int .i64 o.many, .bool o.v.b, .slice o.dA o.v.ds.length o.dC, .slice o.qA o.ps.length o.qC, .slice o.pA o.v.p.length o.pC, strV o.v.s, .slice o.sA o.v.ss.length o.sC, .int .i64 o.most, .int .i64 o.each]], Y] R [3, 0, 1, 2] hA30 rfl
      have hRg : Rc w0 ([row g 9 (cel cS (o.v.ss ++ List.replicate 80 ws_behind))] :: XT :: [row b1 38 [.int .i64 o.kind, .int .i64 o.at_, .int .u64 (o.v.n : Int), .int .i64 o.many, .bool o.v.b, .slice o.dA o.v.ds.length o.dC, .slice o.qA o.ps.length o.qC, .slice o.pA o.v.p.length o.pC, strV o.v.s, .slice o.sA o.v.ss.length o.sC, .int .i64 o.most, .int .i64 o.each]] :: R) (some ⟨g, 0, none⟩) (o.v.ss.map strV) := by
        have h1 : Rc w0 ([row g 9 (cel cS (o.v.ss ++ List.replicate 80 ws_behind))] :: XT :: [row b1 38 [.int .i64 o.kind, .int .i64 o.at_, .int .u64 (o.v.n : Int), .int .i64 o.many, .bool o.v.b, .slice o.dA o.v.ds.length o.dC, .slice o.qA o.ps.length o.qC, .slice o.pA o.v.p.length o.pC, strV o.v.s, .slice o.sA o.v.ss.length o.sC, .int .i64 o.most, .int .i64 o.each]] :: R) (some ⟨g, 0, none⟩) (cel cS (o.v.ss ++ List.replicate 80 ws_behind)) := Rc.ofRow (i := 0) (off := 0) rfl (by rw [List.drop_zero, List.take_length])
        have h2 := h1.take (cel cS o.v.ss).length
        have e2 : (cel cS (o.v.ss ++ List.replicate 80 ws_behind)).take (cel cS o.v.ss).length = cel cS o.v.ss := by rw [cel_append, List.take_left]
        rw [e2] at h2
        rw [cel_str]; exact h2
      refine vp_l rfl rfl rfl (fun K hK => ws_call hF rfl (by decide) cl70_ws rfl rfl ?_)
      with_reducible refine (hw_texts w0 _ ([row g 9 (cel cS (o.v.ss ++ List.replicate 80 ws_behind))] :: XT :: [row b1 38 [.int .i64 o.kind, .int .i64 o.at_, .int .u64 (o.v.n : Int), .int .i64 o.many, .bool o.v.b, .slice o.dA o.v.ds.length o.dC, .slice o.qA o.ps.length o.qC, .slice o.pA o.v.p.length o.pC, strV o.v.s, .slice o.sA o.v.ss.length o.sC, .int .i64 o.most, .int .i64 o.each]] :: R) wb l Y (some ⟨g, 0, none⟩) o.v.ss (o.v.ss.length + 80) hRg o.most o.each hY hA31 (by omega) hok.ssl ).mono ?_
      rintro e' w32 ⟨Y', rfl, hY', hA33⟩
      refine ⟨_, rfl, fun a hF => hK _ _ (fun _ => ?_) ?_⟩
      · exact Hp.qp [Y', [row g 9 (cel cS (o.v.ss ++ List.replicate 80 ws_behind))], XT, [row b1 38 [.int .i64 o.kind, .int .i64 o.at_, .int .u64 (o.v.n : Int), .int .i64 o.many, .bool o.v.b, .slice o.dA o.v.ds.length o.dC, .slice o.qA o.ps.length o.qC, .slice o.pA o.v.p.length o.pC, strV o.v.s, .slice o.sA o.v.ss.length o.sC, .int .i64 o.most, .int .i64 o.each]]] R [1, 3] hA33
      clear hK K
      replace hA33 : Hp w0 (Y' :: [row g 9 (cel cS (o.v.ss ++ List.replicate 80 ws_behind))] :: XT :: [row b1 38 [.int .i64 o.kind, .int .i64 o.at_, .int .u64 (o.v.n : Int), .int .i64 o.many, .bool o.v.b, .slice o.dA o.v.ds.length o.dC, .slice o.qA o.ps.length o.qC, .slice o.pA o.v.p.length o.pC, strV o.v.s, .slice o.sA o.v.ss.length o.sC, .int .i64 o.most, .int .i64 o.each]] :: R) w32 := hA33
      refine vp_y hF rfl rfl rfl rfl (by decide) _ (fun x hx => y_cmp rfl rfl rfl rfl (eql_t rfl)) (fun a hF => ?_)
      refine vp_y hF rfl rfl rfl rfl (by decide) _ (fun x hx => y_move rfl rfl) (fun a hF => ?_)
      refine vp_yg hF rfl rfl rfl rfl rfl rfl rfl (by decide) _ (fun x hx => y_move rfl rfl) (fun a hF => ?_)
      refine vp_yg hF rfl rfl rfl rfl rfl rfl rfl (by decide) _ (fun x hx => y_field rfl Try.underlying38 rfl sz36_ws (by decide) rfl (rfl : (⟨_, 0 + _, none⟩ : Addr) = ⟨_, 9, none⟩)) (fun a hF => ?_)
      refine vp_yg hF rfl rfl rfl rfl rfl rfl rfl (by decide) _ (fun x hx => y_ld rfl hx rfl 1 rfl rfl nr36_ws) (fun a hF => ?_)
      refine vp_lg hF rfl rfl rfl rfl rfl rfl (fun K hK => ws_call hF rfl (by decide) cl83_ws rfl rfl ?_)
      with_reducible refine (ws_intactS w0 _ (Y' :: [row g 9 (cel cS (o.v.ss ++ List.replicate 80 ws_behind))] :: XT :: [row b1 38 [.int .i64 o.kind, .int .i64 o.at_, .int .u64 (o.v.n : Int), .int .i64 o.many, .bool o.v.b, .slice o.dA o.v.ds.length o.dC, .slice o.qA o.ps.length o.qC, .slice o.pA o.v.p.length o.pC, strV o.v.s, .slice o.sA o.v.ss.length o.sC, .int .i64 o.most, .int .i64 o.each]] :: R) (some ⟨g, 0, none⟩) o.sA o.v.ss (o.v.ss.length + 80) o.sC (Rc.ofRow (i := 1) (off := 0) rfl (by rw [List.drop_zero, List.take_length])) (hok.ss.mono (subC (subC (subC (subC (sub0)))))) (Nat.le_refl _) hA33 hvs ).mono ?_
      rintro e' w34 ⟨rfl, hA35⟩
      refine ⟨_, rfl, fun a hF => hK _ _ (fun _ => ?_) ?_⟩
      · exact Hp.qp [Y', [row g 9 (cel cS (o.v.ss ++ List.replicate 80 ws_behind))], XT, [row b1 38 [.int .i64 o.kind, .int .i64 o.at_, .int .u64 (o.v.n : Int), .int .i64 o.many, .bool o.v.b, .slice o.dA o.v.ds.length o.dC, .slice o.qA o.ps.length o.qC, .slice o.pA o.v.p.length o.pC, strV o.v.s, .slice o.sA o.v.ss.length o.sC, .int .i64 o.most, .int .i64 o.each]]] R [1, 3] hA35
      clear hK K
      replace hA35 : Hp w0 (Y' :: [row g 9 (cel cS (o.v.ss ++ List.replicate 80 ws_behind))] :: XT :: [row b1 38 [.int .i64 o.kind, .int .i64 o.at_, .int .u64 (o.v.n : Int), .int .i64 o.many, .bool o.v.b, .slice o.dA o.v.ds.length o.dC, .slice o.qA o.ps.length o.qC, .slice o.pA o.v.p.length o.pC, strV o.v.s, .slice o.sA o.v.ss.length o.sC, .int .i64 o.most, .int .i64 o.each]] :: R) w34 := hA35
      refine vp_y hF rfl rfl rfl rfl (by decide) _ (fun x hx => y_pick rfl rfl rfl) (fun a hF => ?_)
      refine vp_ly hF rfl rfl rfl rfl (by decide) _ (y_assign rfl rfl) (fun h => absurd h (by decide)) (fun a hF => ?_)
      refine plan_end ?_
      refine hK19 _ _ ?_; clear  hK19 K19
      apply wp_seq_k; intro K20 hK20
      apply wp_seq_k; intro K21 hK21
      refine wp_region_lit ?_
      refine vc_y hF rfl rfl (by decide) _ (y_assign rfl rfl) (fun a hF => ?_)
      refine vc_nil ?_
      refine hK21 _ _ ?_; clear  hK21 K21
      apply wp_block
      have hA36 : Hp w0 (XT :: Y' :: [row g 9 (cel cS (o.v.ss ++ List.replicate 80 ws_behind))] :: R) w34 := Hp.sel [Y', [row g 9 (cel cS (o.v.ss ++ List.replicate 80 ws_behind))], XT, [row b1 38 [.int .i64 o.kind, .int .i64 o.at_, .int .u64 (o.v.n : Int), .int .i64 o.many, .bool o.v.b, .slice o.dA o.v.ds.length o.dC, .slice o.qA o.ps.length o.qC, .slice o.pA o.v.p.length o.pC, strV o.v.s, .slice o.sA o.v.ss.length o.sC, .int .i64 o.most, .int .i64 o.each]]] R [2, 0, 1] [3] hA35 rfl
      refine vc_loop (G := Nat) (fun j a x => ∃ (cs : List Value), j ≤ o.v.ss.length + 80 ∧ cs.length = o.v.ss.length + 80 ∧ Fr 123 [(17, .int .i64 (j : Int)), (13, vT), (15, .slice (some ⟨g, 0, none⟩) (o.v.ss.length + 80) (o.v.ss.length + 80)), (16, .bool true)] a ∧ Hp w0 (XT :: Y' :: [row g 9 cs] :: R) x) (fun j => o.v.ss.length + 80 - j) 0 (⟨_, Nat.zero_le _, (by rw [cel_len (sz := 1) (fun x _ => rfl), List.length_append, List.length_replicate]; omega), hF.keep [17, 13, 15, 16] rfl, hA36⟩) ?_
      clear hF
      rintro j a w38 ⟨cs, hj, hcs, hF, hA37⟩
      apply wp_seq_k; intro K22 hK22
      apply wp_seq_k; intro K23 hK23
      refine wp_region_lit ?_
      refine vc_y hF rfl rfl (by decide) _ (y_move rfl rfl) (fun a hF => ?_)
      refine vc_y hF rfl rfl (by decide) _ (y_move rfl rfl) (fun a hF => ?_)
      refine vc_y hF rfl rfl (by decide) _ (y_lenSl rfl Try.underlying36 rfl rfl) (fun a hF => ?_)
      refine vc_y hF rfl rfl (by decide) _ (y_cmp rfl rfl rfl rfl rfl) (fun a hF => ?_)
      refine vc_nil ?_
      refine hK23 _ _ ?_; clear  hK23 K23
      by_cases hlt : j < o.v.ss.length + 80
      · refine vc_trueB hF rfl (lss_t (by omega)) ?_
        apply wp_skip
        refine hK22 _ _ ?_; clear  hK22 K22
        apply wp_seq_k; intro K24 hK24
        apply wp_block
        refine wp_region_lit ?_
        refine vc_y hF rfl rfl (by decide) _ (y_move rfl rfl) (fun a hF => ?_)
        refine vc_y hF rfl rfl (by decide) _ (y_move rfl rfl) (fun a hF => ?_)
        refine vc_y hF rfl rfl (by decide) _ (y_ixSl rfl Try.underlying36 sz9_ws rfl rfl j rfl hlt (ad2 _ _ _)) (fun a hF => ?_)
        refine vc_op rfl (fun K hK => hs_store1 hF rfl rfl hA37 rfl rfl 2 rfl (by rw [hcs]; omega) rfl sz9_ws (fun w39 hA40 => hK _ _ ?_))
        clear hK K
        replace hA40 : Hp w0 (XT :: Y' :: [row g 9 (cs.set (0 + j) (strV [97, 110, 111, 116, 104, 101, 114, 32, 111, 110, 101]))] :: R) w39 := hA40
        refine vc_nil ?_
        refine hK24 _ _ ?_; clear  hK24 K24
        refine wp_region_lit ?_
        refine vc_y hF rfl rfl (by decide) _ (y_move rfl rfl) (fun a hF => ?_)
        refine vc_y hF rfl rfl (by decide) _ (y_add rfl rfl rfl (IntWalk.i64_in _ (by omega))) (fun a hF => ?_)
        refine vc_y hF rfl rfl (by decide) _ (y_assign rfl rfl) (fun a hF => ?_)
        refine vc_nil ?_
        exact ⟨j + 1, by omega, _, by omega, (by rw [List.length_set]; exact hcs), hF.keep [17, 13, 15, 16] rfl, hA40⟩
      · refine vc_falseB hF rfl (lss_f (by omega)) ?_
        apply wp_exit
        refine hK20 _ _ ?_; clear hK22 K22 hK20 K20
        apply wp_seq_k; intro K25 hK25
        refine wp_region_lit ?_
        refine vc_y hF rfl rfl (by decide) _ (y_move rfl rfl) (fun a hF => ?_)
        refine vc_y hF rfl rfl (by decide) _ (y_move rfl rfl) (fun a hF => ?_)
        refine vc_y hF rfl rfl (by decide) _ (y_assign rfl rfl) (fun a hF => ?_)
        refine vc_y hF rfl rfl (by decide) _ (y_assign rfl rfl) (fun a hF => ?_)
        refine vc_nil ?_
        refine hK25 _ _ ?_; clear  hK25 K25
        apply wp_ret
        refine vc_ret2 hF Try.results47 rfl rfl ?_
        have hN : sizedB o = textsB o.v.ss o.most o.each := by rw [sizedB, if_neg k8, if_neg k9]
        have hA41 : Hp w0 (XT :: Y' :: R) w38 := Hp.sel [XT, Y', [row g 9 cs]] R [0, 1] [2] hA37 rfl
        rw [hN]
        exact ⟨vT, XT, Y', rfl, hT, hY', hA41⟩

/-- the bytes of a form that nothing refuses -/
def plainB (o : OpX) : List UInt8 := if o.kind = 5 then [if o.v.b then 1 else 0] else if o.kind = 6 then o.v.ds.flatten else if o.kind = 7 then pflat o.ps else numB o
theorem ws_part {w0 : World} {R : List Seg} {b p k : Nat} {W V : List Value} (hc : ∀ x, Hq w0 R x → b < x.heap.size ∧ ∀ i, i < W.length → x.cell? ⟨b, p + i, none⟩ = W[i]?) (hV : (W.drop k).take V.length = V) (hk : k + V.length ≤ W.length) : Rc w0 R (some ⟨b, p + k, none⟩) V := fun _ => ⟨b, p + k, rfl, fun x hx => ⟨(hc x hx).1, fun j hj => by
  have h2 := congrArg (fun L => L[j]?) hV
  simp only [List.getElem?_take, if_pos hj, List.getElem?_drop] at h2
  rw [Nat.add_assoc, (hc x hx).2 (k + j) (by omega), h2]⟩⟩

def ws_d7 : List UInt8 := 7 :: List.replicate 31 0
theorem ws_numberX (w0 w : World) (R : List Seg) (wb : Nat) (l : List UInt8) (Y : Seg) (o : OpX) (hok : OpOK w0 R o) (hY : WrS wb l Y) (hA : Hp w0 (Y :: R) w) (hl : l.length < 140737488353000) : Calls Try.prog 86 #[.pointer (some ⟨wb, 0, none⟩), .agg ([.int .i64 o.kind, .int .i64 o.at_, .int .u64 (o.v.n : Int), .int .i64 o.many, .bool o.v.b, .slice o.dA o.v.ds.length o.dC, .slice o.qA o.ps.length o.qC, .slice o.pA o.v.p.length o.pC, strV o.v.s, .slice o.sA o.v.ss.length o.sC, .int .i64 o.most, .int .i64 o.each]).toArray] w fun e w' => ∃ v' X Y', e = .returned v' ∧ Buf 5 1 X v' (numB o).length (dc (numB o)) ∧ WrS wb (l ++ numB o) Y' ∧ Hp w0 (X :: Y' :: R) w' := ws_number w0 w R wb l Y o hok hY hA hl
theorem ws_raw (w0 w : World) (R : List Seg) (wb : Nat) (l : List UInt8) (Y : Seg) (pa : Option Addr) (ps : List Piece) (c n : Nat) (hn : n = ps.length) (hP : PcS w0 R pa ps) (hY : WrS wb l Y) (hA : Hp w0 (Y :: R) w) (hl : l.length + (pflat ps).length < 140737488354000) (hps : ps.length ≤ 9223372036854775807) : Calls Try.prog 67 #[.pointer (some ⟨wb, 0, none⟩), .slice pa n c] w fun e w' => ∃ Y', e = .returned (.tuple #[]) ∧ WrS wb (l ++ pflat ps) Y' ∧ Hp w0 (Y' :: R) w' := by
  subst hn
  exact hw_raw w0 w R wb l Y pa ps c hP hY hA hl hps
theorem ws_bs1 (z : Int) (w : World) : (Instr.buildSlice 35 1 #[(0, .int .u8 z)]).run Try.prog w = .ok (.slice (some ⟨w.heap.size, 0, none⟩) 1 1) (w.alloc (.cells #[.int .u8 z] 5)) := by kernel_rfl
theorem ws_b7 (w : World) : (Instr.build 74 #[(0, .int .u8 7)]).run Try.prog w = .ok (.agg (dc ws_d7).toArray) w := by kernel_rfl

set_option maxRecDepth 100000 in
set_option maxHeartbeats 4000000 in
theorem ws_plain (w0 w : World) (R : List Seg) (wb : Nat) (l : List UInt8) (Y : Seg) (o : OpX) (hok : OpOK w0 R o) (hY : WrS wb l Y) (hA : Hp w0 (Y :: R) w) (hl : l.length + vSz o.v < 140737488353000) (hvd : o.v.ds.length < 8796093000000) (hP : PcS w0 R o.qA o.ps) (hpl : ∀ p ∈ o.ps, p.2.2.length < 8796093000000) (hps : l.length + (pflat o.ps).length < 140737488353000) (hpn : o.ps.length < 900000000000) : Calls Try.prog 48 #[.pointer (some ⟨wb, 0, none⟩), .agg (opC o).toArray] w fun e w' => ∃ v' X Y', e = .returned (.tuple #[v', .bool true]) ∧ Buf 5 1 X v' (plainB o).length (dc (plainB o)) ∧ WrS wb (l ++ plainB o) Y' ∧ Hp w0 (X :: Y' :: R) w' := by
  have hsz : l.length + (8 + o.v.p.length + o.v.s.length + o.v.ds.flatten.length + (tflat o.v.ss).length) < 140737488353000 := hl
  refine vc_enter Try.func48 rfl Try.ntmps48 (Nat.le_of_ble_eq_true rfl) (fun a hF => ?_)
  apply wp_seq_k; intro K1 hK1
  refine wp_region_lit ?_
  refine vc_op rfl (fun K hK => hs_box (cs := [.int .i64 o.kind, .int .i64 o.at_, .int .u64 (o.v.n : Int), .int .i64 o.many, .bool o.v.b, .slice o.dA o.v.ds.length o.dC, .slice o.qA o.ps.length o.qC, .slice o.pA o.v.p.length o.pC, strV o.v.s, .slice o.sA o.v.ss.length o.sC, .int .i64 o.most, .int .i64 o.each]) hF rfl (by decide) rfl hA rfl (fun b1 w2 a hb1 hF hA3 => hK _ _ ?_))
  clear hK K
  replace hA3 : Hp w0 ([row b1 38 [.int .i64 o.kind, .int .i64 o.at_, .int .u64 (o.v.n : Int), .int .i64 o.many, .bool o.v.b, .slice o.dA o.v.ds.length o.dC, .slice o.qA o.ps.length o.qC, .slice o.pA o.v.p.length o.pC, strV o.v.s, .slice o.sA o.v.ss.length o.sC, .int .i64 o.most, .int .i64 o.each]] :: Y :: R) w2 := hA3
  refine vc_y hF rfl rfl (by decide) _ (y_assign rfl rfl) (fun a hF => ?_)
  refine vc_y hF rfl rfl (by decide) _ (y_assign rfl rfl) (fun a hF => ?_)
  refine vc_nil ?_
  refine hK1 _ _ ?_; clear  hK1 K1
  apply wp_seq_k; intro K2 hK2
  refine wp_region_lit ?_
  refine vc_y hF rfl rfl (by decide) _ (y_assign rfl rfl) (fun a hF => ?_)
  refine vc_nil ?_
  refine hK2 _ _ ?_; clear  hK2 K2
  apply wp_seq_k; intro K3 hK3
  apply wp_seq_k; intro K4 hK4
  refine wp_region_lit ?_
  refine vc_y hF rfl rfl (by decide) _ (y_field rfl Try.underlying38 rfl sz3_ws (by decide) rfl (rfl : (⟨_, 0 + _, none⟩ : Addr) = ⟨_, 0, none⟩)) (fun a hF => ?_)
  refine vc_y hF rfl rfl (by decide) _ (y_ld rfl hA3.q rfl 0 rfl rfl nr3_ws) (fun a hF => ?_)
  refine vc_nil ?_
  refine hK4 _ _ ?_; clear  hK4 K4
  apply wp_block
  apply wp_seq_k; intro K5 hK5
  refine wp_region_lit ?_
  refine vc_y hF rfl rfl (by decide) _ (y_cmp rfl rfl rfl rfl rfl) (fun a hF => ?_)
  refine vc_y hF rfl rfl (by decide) _ (y_assign rfl rfl) (fun a hF => ?_)
  refine vc_nil ?_
  refine hK5 _ _ ?_; clear  hK5 K5
  by_cases k5 : o.kind = 5
  · refine vc_trueB hF rfl (eql_t (by omega)) ?_
    apply wp_seq_k; intro K6 hK6
    refine wp_region_lit ?_
    refine vc_y hF rfl rfl (by decide) _ (y_move rfl rfl) (fun a hF => ?_)
    refine vc_y hF rfl rfl (by decide) _ (y_field rfl Try.underlying38 rfl sz4_ws (by decide) rfl (rfl : (⟨_, 0 + _, none⟩ : Addr) = ⟨_, 4, none⟩)) (fun a hF => ?_)
    refine vc_y hF rfl rfl (by decide) _ (y_ld rfl hA3.q rfl 0 rfl rfl nr4_ws) (fun a hF => ?_)
    have hA4 : Hp w0 (Y :: [row b1 38 [.int .i64 o.kind, .int .i64 o.at_, .int .u64 (o.v.n : Int), .int .i64 o.many, .bool o.v.b, .slice o.dA o.v.ds.length o.dC, .slice o.qA o.ps.length o.qC, .slice o.pA o.v.p.length o.pC, strV o.v.s, .slice o.sA o.v.ss.length o.sC, .int .i64 o.most, .int .i64 o.each]] :: R) w2 := Hp.ord [[row b1 38 [.int .i64 o.kind, .int .i64 o.at_, .int .u64 (o.v.n : Int), .int .i64 o.many, .bool o.v.b, .slice o.dA o.v.ds.length o.dC, .slice o.qA o.ps.length o.qC, .slice o.pA o.v.p.length o.pC, strV o.v.s, .slice o.sA o.v.ss.length o.sC, .int .i64 o.most, .int .i64 o.each]], Y] R [1, 0] hA3 rfl
    refine vc_op rfl (fun K hK => ws_call hF rfl (by decide) cl25_ws rfl rfl ?_)
    with_reducible refine (hw_flag w0 _ _ wb l Y o.v.b hY hA4 (by omega) ).mono ?_
    rintro e' w5 ⟨Y', rfl, hY', hA6⟩
    refine ⟨_, rfl, fun a hF => hK _ _ ?_⟩
    clear hK K
    replace hA6 : Hp w0 (Y' :: [row b1 38 [.int .i64 o.kind, .int .i64 o.at_, .int .u64 (o.v.n : Int), .int .i64 o.many, .bool o.v.b, .slice o.dA o.v.ds.length o.dC, .slice o.qA o.ps.length o.qC, .slice o.pA o.v.p.length o.pC, strV o.v.s, .slice o.sA o.v.ss.length o.sC, .int .i64 o.most, .int .i64 o.each]] :: R) w5 := hA6
    refine vc_nil ?_
    refine hK6 _ _ ?_; clear  hK6 K6
    apply wp_seq_k; intro K7 hK7
    apply wp_seq_k; intro K8 hK8
    refine wp_region_lit ?_
    refine vc_y hF rfl rfl (by decide) _ (y_field rfl Try.underlying38 rfl sz4_ws (by decide) rfl (rfl : (⟨_, 0 + _, none⟩ : Addr) = ⟨_, 4, none⟩)) (fun a hF => ?_)
    refine vc_y hF rfl rfl (by decide) _ (y_ld rfl hA6.q rfl 1 rfl rfl nr4_ws) (fun a hF => ?_)
    refine vc_nil ?_
    refine hK8 _ _ ?_; clear  hK8 K8
    by_cases hb : o.v.b = true
    · refine vc_trueB hF rfl hb ?_
      apply wp_seq_k; intro K9 hK9
      refine wp_region_lit ?_
      refine vc_op rfl (fun K hK => hs_bs1 (u1 := .int .u8 1) hF rfl (by decide) rfl hA6 rfl (ws_bs1 1) (fun b7 w8 a hb7 hF hA9 => hK _ _ ?_))
      clear hK K
      replace hA9 : Hp w0 ([row b7 5 [.int .u8 1]] :: Y' :: [row b1 38 [.int .i64 o.kind, .int .i64 o.at_, .int .u64 (o.v.n : Int), .int .i64 o.many, .bool o.v.b, .slice o.dA o.v.ds.length o.dC, .slice o.qA o.ps.length o.qC, .slice o.pA o.v.p.length o.pC, strV o.v.s, .slice o.sA o.v.ss.length o.sC, .int .i64 o.most, .int .i64 o.each]] :: R) w8 := hA9
      refine vc_y hF rfl rfl (by decide) _ (y_assign rfl rfl) (fun a hF => ?_)
      refine vc_y hF rfl rfl (by decide) _ (y_assign rfl rfl) (fun a hF => ?_)
      refine vc_nil ?_
      refine hK9 _ _ ?_; clear  hK9 K9
      apply wp_ret
      simp only [Exit.then, Exit.inBlock]
      refine vc_ret2 hF Try.results48 rfl rfl ?_
      have hA10 : Hp w0 ([row b7 5 [.int .u8 1]] :: Y' :: R) w8 := Hp.sel [[row b7 5 [.int .u8 1]], Y', [row b1 38 [.int .i64 o.kind, .int .i64 o.at_, .int .u64 (o.v.n : Int), .int .i64 o.many, .bool o.v.b, .slice o.dA o.v.ds.length o.dC, .slice o.qA o.ps.length o.qC, .slice o.pA o.v.p.length o.pC, strV o.v.s, .slice o.sA o.v.ss.length o.sC, .int .i64 o.most, .int .i64 o.each]]] R [0, 1] [2] hA9 rfl
      have hN : plainB o = [1] := by rw [plainB, if_pos k5, hb]; rfl
      have hO := Buf.full (e := 5) (g := b7) (size := 1) (m := 1) (W := dc [1]) rfl (by decide)
      rw [hb] at hY'
      rw [hN]
      exact ⟨_, _, Y', rfl, hO, hY', hA10⟩
    · replace hb : o.v.b = false := by simpa using hb
      refine vc_falseB hF rfl hb ?_
      apply wp_skip
      refine hK7 _ _ ?_; clear  hK7 K7
      apply wp_seq_k; intro K10 hK10
      refine wp_region_lit ?_
      refine vc_op rfl (fun K hK => hs_bs1 (u1 := .int .u8 0) hF rfl (by decide) rfl hA6 rfl (ws_bs1 0) (fun b11 w12 a hb11 hF hA13 => hK _ _ ?_))
      clear hK K
      replace hA13 : Hp w0 ([row b11 5 [.int .u8 0]] :: Y' :: [row b1 38 [.int .i64 o.kind, .int .i64 o.at_, .int .u64 (o.v.n : Int), .int .i64 o.many, .bool o.v.b, .slice o.dA o.v.ds.length o.dC, .slice o.qA o.ps.length o.qC, .slice o.pA o.v.p.length o.pC, strV o.v.s, .slice o.sA o.v.ss.length o.sC, .int .i64 o.most, .int .i64 o.each]] :: R) w12 := hA13
      refine vc_y hF rfl rfl (by decide) _ (y_assign rfl rfl) (fun a hF => ?_)
      refine vc_y hF rfl rfl (by decide) _ (y_assign rfl rfl) (fun a hF => ?_)
      refine vc_nil ?_
      refine hK10 _ _ ?_; clear  hK10 K10
      apply wp_ret
      simp only [Exit.then, Exit.inBlock]
      refine vc_ret2 hF Try.results48 rfl rfl ?_
      have hA14 : Hp w0 ([row b11 5 [.int .u8 0]] :: Y' :: R) w12 := Hp.sel [[row b11 5 [.int .u8 0]], Y', [row b1 38 [.int .i64 o.kind, .int .i64 o.at_, .int .u64 (o.v.n : Int), .int .i64 o.many, .bool o.v.b, .slice o.dA o.v.ds.length o.dC, .slice o.qA o.ps.length o.qC, .slice o.pA o.v.p.length o.pC, strV o.v.s, .slice o.sA o.v.ss.length o.sC, .int .i64 o.most, .int .i64 o.each]]] R [0, 1] [2] hA13 rfl
      have hN : plainB o = [0] := by rw [plainB, if_pos k5, hb]; rfl
      have hO := Buf.full (e := 5) (g := b11) (size := 1) (m := 1) (W := dc [0]) rfl (by decide)
      rw [hb] at hY'
      rw [hN]
      exact ⟨_, _, Y', rfl, hO, hY', hA14⟩
  · refine vc_falseB hF rfl (eql_f (by omega)) ?_
    apply wp_seq_k; intro K11 hK11
    refine wp_region_lit ?_
    refine vc_y hF rfl rfl (by decide) _ (y_cmp rfl rfl rfl rfl rfl) (fun a hF => ?_)
    refine vc_y hF rfl rfl (by decide) _ (y_assign rfl rfl) (fun a hF => ?_)
    refine vc_nil ?_
    refine hK11 _ _ ?_; clear  hK11 K11
    by_cases k6 : o.kind = 6
    · refine vc_trueB hF rfl (eql_t (by omega)) ?_
      apply wp_seq_k; intro K12 hK12
      refine wp_region_lit ?_
      refine vc_y hF rfl rfl (by decide) _ (y_field rfl Try.underlying38 rfl sz34_ws (by decide) rfl (rfl : (⟨_, 0 + _, none⟩ : Addr) = ⟨_, 5, none⟩)) (fun a hF => ?_)
      refine vc_y hF rfl rfl (by decide) _ (y_ld rfl hA3.q rfl 0 rfl rfl nr34_ws) (fun a hF => ?_)
      refine vc_y hF rfl rfl (by decide) _ (y_build (qs := #[(0, .int .u8 7)]) rfl rfl ws_b7) (fun a hF => ?_)
      refine vc_op rfl (fun K hK => ws_call hF rfl (by decide) cl84_ws rfl rfl ?_)
      with_reducible refine (kb_roomy_digest w0 _ ([row b1 38 [.int .i64 o.kind, .int .i64 o.at_, .int .u64 (o.v.n : Int), .int .i64 o.many, .bool o.v.b, .slice o.dA o.v.ds.length o.dC, .slice o.qA o.ps.length o.qC, .slice o.pA o.v.p.length o.pC, strV o.v.s, .slice o.sA o.v.ss.length o.sC, .int .i64 o.most, .int .i64 o.each]] :: Y :: R) o.dA o.v.ds o.dC ws_d7 (hok.ds.mono (subC (subC (sub0)))) (fun x hx => by rw [dc_length]; exact hok.d32 x hx) (by decide) hA3 (by omega) ).mono ?_
      rintro e' w15 ⟨g, rfl, hA16⟩
      refine ⟨_, rfl, fun a hF => hK _ _ ?_⟩
      clear hK K
      replace hA16 : Hp w0 ([row g 74 (cel dc (o.v.ds ++ List.replicate 80 ws_d7))] :: [row b1 38 [.int .i64 o.kind, .int .i64 o.at_, .int .u64 (o.v.n : Int), .int .i64 o.many, .bool o.v.b, .slice o.dA o.v.ds.length o.dC, .slice o.qA o.ps.length o.qC, .slice o.pA o.v.p.length o.pC, strV o.v.s, .slice o.sA o.v.ss.length o.sC, .int .i64 o.most, .int .i64 o.each]] :: Y :: R) w15 := hA16
      refine vc_y hF rfl rfl (by decide) _ (y_assign rfl rfl) (fun a hF => ?_)
      refine vc_nil ?_
      refine hK12 _ _ ?_; clear  hK12 K12
      apply wp_seq_k; intro K13 hK13
      refine wp_region_lit ?_
      refine vc_y hF rfl rfl (by decide) _ (y_move rfl rfl) (fun a hF => ?_)
      refine vc_y hF rfl rfl (by decide) _ (y_move rfl rfl) (fun a hF => ?_)
      refine vc_y hF rfl rfl (by decide) _ (y_field rfl Try.underlying38 rfl sz34_ws (by decide) rfl (rfl : (⟨_, 0 + _, none⟩ : Addr) = ⟨_, 5, none⟩)) (fun a hF => ?_)
      refine vc_y hF rfl rfl (by decide) _ (y_ld rfl hA16.q rfl 1 rfl rfl nr34_ws) (fun a hF => ?_)
      refine vc_y hF rfl rfl (by decide) _ (y_lenSl rfl Try.underlying34 rfl rfl) (fun a hF => ?_)
      refine vc_y hF rfl rfl (by decide) _ (y_slice rfl Try.underlying34 kb_sz_digest rfl (.none 0) (.some rfl rfl) (Nat.zero_le _) (by omega) slice_to) (fun a hF => ?_)
      have hA17 : Hp w0 (Y :: [row g 74 (cel dc (o.v.ds ++ List.replicate 80 ws_d7))] :: [row b1 38 [.int .i64 o.kind, .int .i64 o.at_, .int .u64 (o.v.n : Int), .int .i64 o.many, .bool o.v.b, .slice o.dA o.v.ds.length o.dC, .slice o.qA o.ps.length o.qC, .slice o.pA o.v.p.length o.pC, strV o.v.s, .slice o.sA o.v.ss.length o.sC, .int .i64 o.most, .int .i64 o.each]] :: R) w15 := Hp.ord [[row g 74 (cel dc (o.v.ds ++ List.replicate 80 ws_d7))], [row b1 38 [.int .i64 o.kind, .int .i64 o.at_, .int .u64 (o.v.n : Int), .int .i64 o.many, .bool o.v.b, .slice o.dA o.v.ds.length o.dC, .slice o.qA o.ps.length o.qC, .slice o.pA o.v.p.length o.pC, strV o.v.s, .slice o.sA o.v.ss.length o.sC, .int .i64 o.most, .int .i64 o.each]], Y] R [2, 0, 1] hA16 rfl
      have hRg : Rc w0 ([row g 74 (cel dc (o.v.ds ++ List.replicate 80 ws_d7))] :: [row b1 38 [.int .i64 o.kind, .int .i64 o.at_, .int .u64 (o.v.n : Int), .int .i64 o.many, .bool o.v.b, .slice o.dA o.v.ds.length o.dC, .slice o.qA o.ps.length o.qC, .slice o.pA o.v.p.length o.pC, strV o.v.s, .slice o.sA o.v.ss.length o.sC, .int .i64 o.most, .int .i64 o.each]] :: R) (some ⟨g, 0, none⟩) (digV o.v.ds) := by
        have h1 : Rc w0 ([row g 74 (cel dc (o.v.ds ++ List.replicate 80 ws_d7))] :: [row b1 38 [.int .i64 o.kind, .int .i64 o.at_, .int .u64 (o.v.n : Int), .int .i64 o.many, .bool o.v.b, .slice o.dA o.v.ds.length o.dC, .slice o.qA o.ps.length o.qC, .slice o.pA o.v.p.length o.pC, strV o.v.s, .slice o.sA o.v.ss.length o.sC, .int .i64 o.most, .int .i64 o.each]] :: R) (some ⟨g, 0, none⟩) (cel dc (o.v.ds ++ List.replicate 80 ws_d7)) := Rc.ofRow (i := 0) (off := 0) rfl (by rw [List.drop_zero, List.take_length])
        have h2 := h1.take (cel dc o.v.ds).length
        have e2 : (cel dc (o.v.ds ++ List.replicate 80 ws_d7)).take (cel dc o.v.ds).length = cel dc o.v.ds := by rw [cel_append, List.take_left]
        rw [e2] at h2
        exact h2
      refine vc_op rfl (fun K hK => ws_call hF rfl (by decide) cl66_ws rfl rfl ?_)
      with_reducible refine (hw_digests w0 _ ([row g 74 (cel dc (o.v.ds ++ List.replicate 80 ws_d7))] :: [row b1 38 [.int .i64 o.kind, .int .i64 o.at_, .int .u64 (o.v.n : Int), .int .i64 o.many, .bool o.v.b, .slice o.dA o.v.ds.length o.dC, .slice o.qA o.ps.length o.qC, .slice o.pA o.v.p.length o.pC, strV o.v.s, .slice o.sA o.v.ss.length o.sC, .int .i64 o.most, .int .i64 o.each]] :: R) wb l Y (some ⟨g, 0, none⟩) o.v.ds (o.v.ds.length + 80) hRg hok.d32 hY hA17 (by omega) hok.dsl ).mono ?_
      rintro e' w18 ⟨Y', rfl, hY', hA19⟩
      refine ⟨_, rfl, fun a hF => hK _ _ ?_⟩
      clear hK K
      replace hA19 : Hp w0 (Y' :: [row g 74 (cel dc (o.v.ds ++ List.replicate 80 ws_d7))] :: [row b1 38 [.int .i64 o.kind, .int .i64 o.at_, .int .u64 (o.v.n : Int), .int .i64 o.many, .bool o.v.b, .slice o.dA o.v.ds.length o.dC, .slice o.qA o.ps.length o.qC, .slice o.pA o.v.p.length o.pC, strV o.v.s, .slice o.sA o.v.ss.length o.sC, .int .i64 o.most, .int .i64 o.each]] :: R) w18 := hA19
      refine vc_nil ?_
      refine hK13 _ _ ?_; clear  hK13 K13
      apply wp_seq_k; intro K14 hK14
      apply wp_seq_k; intro K15 hK15
      refine wp_region_lit ?_
      refine vc_y hF rfl rfl (by decide) _ (y_assign rfl rfl) (fun a hF => ?_)
      refine vc_nil ?_
      refine hK15 _ _ ?_; clear  hK15 K15
      apply wp_block
      have hA20 : Hp w0 (([] : Seg) :: Y' :: [row g 74 (cel dc (o.v.ds ++ List.replicate 80 ws_d7))] :: [row b1 38 [.int .i64 o.kind, .int .i64 o.at_, .int .u64 (o.v.n : Int), .int .i64 o.many, .bool o.v.b, .slice o.dA o.v.ds.length o.dC, .slice o.qA o.ps.length o.qC, .slice o.pA o.v.p.length o.pC, strV o.v.s, .slice o.sA o.v.ss.length o.sC, .int .i64 o.most, .int .i64 o.each]] :: R) w18 := Hp.nil hA19
      refine vc_loop (G := Nat) (fun i a x => ∃ (v3 : Value) (X3 : Seg), i ≤ o.v.ds.length ∧ Buf 5 1 X3 v3 ((o.v.ds.take i).flatten).length (dc ((o.v.ds.take i).flatten)) ∧ Fr 151 [(8, .int .i64 (i : Int)), (6, v3), (3, .pointer (some ⟨b1, 0, none⟩)), (7, .slice (some ⟨g, 0, none⟩) (o.v.ds.length + 80) (o.v.ds.length + 80))] a ∧ Hp w0 (X3 :: Y' :: [row g 74 (cel dc (o.v.ds ++ List.replicate 80 ws_d7))] :: [row b1 38 [.int .i64 o.kind, .int .i64 o.at_, .int .u64 (o.v.n : Int), .int .i64 o.many, .bool o.v.b, .slice o.dA o.v.ds.length o.dC, .slice o.qA o.ps.length o.qC, .slice o.pA o.v.p.length o.pC, strV o.v.s, .slice o.sA o.v.ss.length o.sC, .int .i64 o.most, .int .i64 o.each]] :: R) x) (fun i => o.v.ds.length - i) 0 (⟨.slice none 0 0, [], Nat.zero_le _, by rw [List.take_zero]; exact Buf.nil _ _, hF.keep [8, 6, 3, 7] rfl, hA20⟩) ?_
      clear hF
      rintro i a w22 ⟨v3, X3, hi, hB, hF, hA21⟩
      apply wp_seq_k; intro K16 hK16
      apply wp_seq_k; intro K17 hK17
      refine wp_region_lit ?_
      refine vc_y hF rfl rfl (by decide) _ (y_move rfl rfl) (fun a hF => ?_)
      refine vc_y hF rfl rfl (by decide) _ (y_field rfl Try.underlying38 rfl sz34_ws (by decide) rfl (rfl : (⟨_, 0 + _, none⟩ : Addr) = ⟨_, 5, none⟩)) (fun a hF => ?_)
      refine vc_y hF rfl rfl (by decide) _ (y_ld rfl hA21.q rfl 3 rfl rfl nr34_ws) (fun a hF => ?_)
      refine vc_y hF rfl rfl (by decide) _ (y_lenSl rfl Try.underlying34 rfl rfl) (fun a hF => ?_)
      refine vc_y hF rfl rfl (by decide) _ (y_cmp rfl rfl rfl rfl rfl) (fun a hF => ?_)
      refine vc_nil ?_
      refine hK17 _ _ ?_; clear  hK17 K17
      by_cases hlt : i < o.v.ds.length
      · refine vc_trueB hF rfl (lss_t (by omega)) ?_
        obtain ⟨q, hp⟩ : ∃ q, o.v.ds[i]? = some q := ⟨_, List.getElem?_eq_getElem hlt⟩
        have hq := hok.d32 q (List.mem_of_getElem? hp)
        obtain ⟨hat, hle⟩ := cel_at (C := dc) (sz := 32) (fun x hx => by rw [dc_length]; exact hok.d32 x hx) hp
        obtain ⟨b, p, edA, hc⟩ := hok.ds.ne (i := i * 32) (by rw [cel_dig]; omega)
        have hft : (o.v.ds.take (i + 1)).flatten = (o.v.ds.take i).flatten ++ q := by rw [List.take_add_one, hp]; simp
        have hfle : ((o.v.ds.take i).flatten).length + q.length ≤ o.v.ds.flatten.length := by
          have h2 : o.v.ds.flatten = (o.v.ds.take (i + 1)).flatten ++ (o.v.ds.drop (i + 1)).flatten := by rw [← List.flatten_append, List.take_append_drop]
          rw [h2, hft, List.length_append, List.length_append]; omega
        have hRq : Rd w0 R (some ⟨b, p + i * 32, none⟩) q := ws_part hc (by rw [dc_length, hq]; exact hat) (by rw [dc_length, hq, cel_dig]; exact hle)
        rw [edA] at hA21
        apply wp_skip
        refine hK16 _ _ ?_; clear  hK16 K16
        apply wp_seq_k; intro K18 hK18
        apply wp_block
        refine wp_region_lit ?_
        refine vc_y hF rfl rfl (by decide) _ (y_move rfl rfl) (fun a hF => ?_)
        refine vc_y hF rfl rfl (by decide) _ (y_field rfl Try.underlying38 rfl sz34_ws (by decide) rfl (rfl : (⟨_, 0 + _, none⟩ : Addr) = ⟨_, 5, none⟩)) (fun a hF => ?_)
        refine vc_y hF rfl rfl (by decide) _ (y_ld rfl hA21.q rfl 3 rfl rfl nr34_ws) (fun a hF => ?_)
        refine vc_y hF rfl rfl (by decide) _ (y_move rfl rfl) (fun a hF => ?_)
        refine vc_y hF rfl rfl (by decide) _ (y_ixSl rfl Try.underlying34 sz74_ws rfl rfl i rfl hlt rfl) (fun a hF => ?_)
        refine vc_y hF rfl rfl (by decide) _ (y_sliceArr rfl Try.underlying74 kb_size1 rfl (.none 0) (.none 32) (by omega) (by omega) slice_to) (fun a hF => ?_)
        refine vc_op rfl (fun K hK => hs_append hF rfl (by decide) rfl hA21 0 rfl hB Try.underlying35 ow_elem5 rfl rfl (by have h := Rc.src (l := q) (c := 32) (show Rd w0 (X3 :: Y' :: [row g 74 (cel dc (o.v.ds ++ List.replicate 80 ws_d7))] :: [row b1 38 [.int .i64 o.kind, .int .i64 o.at_, .int .u64 (o.v.n : Int), .int .i64 o.many, .bool o.v.b, .slice (some ⟨b, p, none⟩) o.v.ds.length o.dC, .slice o.qA o.ps.length o.qC, .slice o.pA o.v.p.length o.pC, strV o.v.s, .slice o.sA o.v.ss.length o.sC, .int .i64 o.most, .int .i64 o.each]] :: R) (some ⟨b, p + i * 32, none⟩) q from hRq.mono (subC (subC (subC (subC (sub0)))))) hA21.q Try.underlying35; rw [hq] at h; exact h) (by omega) (by decide) (fun v4 X4 w23 a hB4 hF hA24 => hK _ _ ?_))
        clear hK K
        replace hA24 : Hp w0 (X4 :: Y' :: [row g 74 (cel dc (o.v.ds ++ List.replicate 80 ws_d7))] :: [row b1 38 [.int .i64 o.kind, .int .i64 o.at_, .int .u64 (o.v.n : Int), .int .i64 o.many, .bool o.v.b, .slice (some ⟨b, p, none⟩) o.v.ds.length o.dC, .slice o.qA o.ps.length o.qC, .slice o.pA o.v.p.length o.pC, strV o.v.s, .slice o.sA o.v.ss.length o.sC, .int .i64 o.most, .int .i64 o.each]] :: R) w23 := hA24
        refine vc_y hF rfl rfl (by decide) _ (y_assign rfl rfl) (fun a hF => ?_)
        refine vc_nil ?_
        refine hK18 _ _ ?_; clear  hK18 K18
        refine wp_region_lit ?_
        refine vc_y hF rfl rfl (by decide) _ (y_move rfl rfl) (fun a hF => ?_)
        refine vc_y hF rfl rfl (by decide) _ (y_add rfl rfl rfl (IntWalk.i64_in _ (by omega))) (fun a hF => ?_)
        refine vc_y hF rfl rfl (by decide) _ (y_assign rfl rfl) (fun a hF => ?_)
        refine vc_nil ?_
        rw [← edA] at hA24
        rw [← dc_append, ← hq, ← List.length_append, ← hft] at hB4
        exact ⟨i + 1, by omega, v4, X4, by omega, hB4, hF.keep [8, 6, 3, 7] rfl, hA24⟩
      · refine vc_falseB hF rfl (lss_f (by omega)) ?_
        have hie : i = o.v.ds.length := by omega
        rw [hie, List.take_length] at hB
        apply wp_exit
        refine hK14 _ _ ?_; clear hK16 K16 hK14 K14
        apply wp_seq_k; intro K19 hK19
        refine wp_region_lit ?_
        refine vc_y hF rfl rfl (by decide) _ (y_move rfl rfl) (fun a hF => ?_)
        refine vc_y hF rfl rfl (by decide) _ (y_move rfl rfl) (fun a hF => ?_)
        refine vc_y hF rfl rfl (by decide) _ (y_field rfl Try.underlying38 rfl sz34_ws (by decide) rfl (rfl : (⟨_, 0 + _, none⟩ : Addr) = ⟨_, 5, none⟩)) (fun a hF => ?_)
        refine vc_y hF rfl rfl (by decide) _ (y_ld rfl hA21.q rfl 3 rfl rfl nr34_ws) (fun a hF => ?_)
        refine vc_y hF rfl rfl (by decide) _ (y_build (qs := #[(0, .int .u8 7)]) rfl rfl ws_b7) (fun a hF => ?_)
        refine vc_op rfl (fun K hK => ws_call hF rfl (by decide) cl85_ws rfl rfl ?_)
        with_reducible refine (kb_intact_digest w0 _ (X3 :: Y' :: [row g 74 (cel dc (o.v.ds ++ List.replicate 80 ws_d7))] :: [row b1 38 [.int .i64 o.kind, .int .i64 o.at_, .int .u64 (o.v.n : Int), .int .i64 o.many, .bool o.v.b, .slice o.dA o.v.ds.length o.dC, .slice o.qA o.ps.length o.qC, .slice o.pA o.v.p.length o.pC, strV o.v.s, .slice o.sA o.v.ss.length o.sC, .int .i64 o.most, .int .i64 o.each]] :: R) (some ⟨g, 0, none⟩) o.dA o.v.ds (o.v.ds.length + 80) o.dC ws_d7 (Rc.ofRow (i := 2) (off := 0) rfl (by rw [List.drop_zero, List.take_length])) (hok.ds.mono (subC (subC (subC (subC (sub0)))))) (fun x hx => by rw [dc_length]; exact hok.d32 x hx) (by decide) (Nat.le_refl _) hA21 (by omega) ).mono ?_
        rintro e' w25 ⟨rfl, hA26⟩
        refine ⟨_, rfl, fun a hF => hK _ _ ?_⟩
        clear hK K
        replace hA26 : Hp w0 (X3 :: Y' :: [row g 74 (cel dc (o.v.ds ++ List.replicate 80 ws_d7))] :: [row b1 38 [.int .i64 o.kind, .int .i64 o.at_, .int .u64 (o.v.n : Int), .int .i64 o.many, .bool o.v.b, .slice o.dA o.v.ds.length o.dC, .slice o.qA o.ps.length o.qC, .slice o.pA o.v.p.length o.pC, strV o.v.s, .slice o.sA o.v.ss.length o.sC, .int .i64 o.most, .int .i64 o.each]] :: R) w25 := hA26
        refine vc_y hF rfl rfl (by decide) _ (y_assign rfl rfl) (fun a hF => ?_)
        refine vc_y hF rfl rfl (by decide) _ (y_assign rfl rfl) (fun a hF => ?_)
        refine vc_nil ?_
        refine hK19 _ _ ?_; clear  hK19 K19
        apply wp_ret
        simp only [Exit.then, Exit.inBlock]
        refine vc_ret2 hF Try.results48 rfl rfl ?_
        have hA27 : Hp w0 (X3 :: Y' :: R) w25 := Hp.sel [X3, Y', [row g 74 (cel dc (o.v.ds ++ List.replicate 80 ws_d7))], [row b1 38 [.int .i64 o.kind, .int .i64 o.at_, .int .u64 (o.v.n : Int), .int .i64 o.many, .bool o.v.b, .slice o.dA o.v.ds.length o.dC, .slice o.qA o.ps.length o.qC, .slice o.pA o.v.p.length o.pC, strV o.v.s, .slice o.sA o.v.ss.length o.sC, .int .i64 o.most, .int .i64 o.each]]] R [0, 1] [2, 3] hA26 rfl
        have hN : plainB o = o.v.ds.flatten := by rw [plainB, if_neg k5, if_pos k6]
        rw [hN]
        exact ⟨v3, X3, Y', rfl, hB, hY', hA27⟩
    · refine vc_falseB hF rfl (eql_f (by omega)) ?_
      apply wp_seq_k; intro K20 hK20
      refine wp_region_lit ?_
      refine vc_y hF rfl rfl (by decide) _ (y_cmp rfl rfl rfl rfl rfl) (fun a hF => ?_)
      refine vc_y hF rfl rfl (by decide) _ (y_assign rfl rfl) (fun a hF => ?_)
      refine vc_nil ?_
      refine hK20 _ _ ?_; clear  hK20 K20
      by_cases k7 : o.kind = 7
      · refine vc_trueB hF rfl (eql_t (by omega)) ?_
        apply wp_seq_k; intro K21 hK21
        refine wp_region_lit ?_
        refine vc_y hF rfl rfl (by decide) _ (y_assign rfl rfl) (fun a hF => ?_)
        refine vc_y hF rfl rfl (by decide) _ (y_assign rfl rfl) (fun a hF => ?_)
        refine vc_nil ?_
        refine hK21 _ _ ?_; clear  hK21 K21
        apply wp_seq_k; intro K22 hK22
        apply wp_seq_k; intro K23 hK23
        refine wp_region_lit ?_
        refine vc_y hF rfl rfl (by decide) _ (y_assign rfl rfl) (fun a hF => ?_)
        refine vc_nil ?_
        refine hK23 _ _ ?_; clear  hK23 K23
        apply wp_block
        have hA28 : Hp w0 (([] : Seg) :: [row b1 38 [.int .i64 o.kind, .int .i64 o.at_, .int .u64 (o.v.n : Int), .int .i64 o.many, .bool o.v.b, .slice o.dA o.v.ds.length o.dC, .slice o.qA o.ps.length o.qC, .slice o.pA o.v.p.length o.pC, strV o.v.s, .slice o.sA o.v.ss.length o.sC, .int .i64 o.most, .int .i64 o.each]] :: Y :: R) w2 := Hp.nil hA3
        have hA29 : Hp w0 (([] : Seg) :: ([] : Seg) :: [row b1 38 [.int .i64 o.kind, .int .i64 o.at_, .int .u64 (o.v.n : Int), .int .i64 o.many, .bool o.v.b, .slice o.dA o.v.ds.length o.dC, .slice o.qA o.ps.length o.qC, .slice o.pA o.v.p.length o.pC, strV o.v.s, .slice o.sA o.v.ss.length o.sC, .int .i64 o.most, .int .i64 o.each]] :: Y :: R) w2 := Hp.nil hA28
        have hA30 : Hp w0 (([] : Seg) :: ([] : Seg) :: ([] : Seg) :: [row b1 38 [.int .i64 o.kind, .int .i64 o.at_, .int .u64 (o.v.n : Int), .int .i64 o.many, .bool o.v.b, .slice o.dA o.v.ds.length o.dC, .slice o.qA o.ps.length o.qC, .slice o.pA o.v.p.length o.pC, strV o.v.s, .slice o.sA o.v.ss.length o.sC, .int .i64 o.most, .int .i64 o.each]] :: Y :: R) w2 := Hp.nil hA29
        have hA31 : Hp w0 (([] : Seg) :: ([] : Seg) :: ([] : Seg) :: ([] : Seg) :: [row b1 38 [.int .i64 o.kind, .int .i64 o.at_, .int .u64 (o.v.n : Int), .int .i64 o.many, .bool o.v.b, .slice o.dA o.v.ds.length o.dC, .slice o.qA o.ps.length o.qC, .slice o.pA o.v.p.length o.pC, strV o.v.s, .slice o.sA o.v.ss.length o.sC, .int .i64 o.most, .int .i64 o.each]] :: Y :: R) w2 := Hp.nil hA30
        refine vc_loop (G := Nat) (fun i a x => ∃ (qs : List (Nat × List UInt8)) (fv : Value) (pv : Value) (bv : Value) (XF : Seg) (XP : Seg) (XB : Seg), i ≤ o.ps.length ∧ qs.map (·.2) = (o.ps.take i).map (·.2.2) ∧ Buf 35 1 XF fv qs.length (qs.map roomV) ∧ Buf 35 1 XP pv qs.length (qs.map partV) ∧ Buf 5 1 XB bv (pflat (o.ps.take i)).length (dc (pflat (o.ps.take i))) ∧ Fr 151 [(11, .int .i64 (i : Int)), (9, fv), (10, pv), (6, bv), (0, .pointer (some ⟨wb, 0, none⟩)), (3, .pointer (some ⟨b1, 0, none⟩))] a ∧ Hp w0 (XF :: XP :: XB :: (qs.map (roomS 5)).flatten :: [row b1 38 [.int .i64 o.kind, .int .i64 o.at_, .int .u64 (o.v.n : Int), .int .i64 o.many, .bool o.v.b, .slice o.dA o.v.ds.length o.dC, .slice o.qA o.ps.length o.qC, .slice o.pA o.v.p.length o.pC, strV o.v.s, .slice o.sA o.v.ss.length o.sC, .int .i64 o.most, .int .i64 o.each]] :: Y :: R) x) (fun i => o.ps.length - i) 0 (⟨[], .slice none 0 0, .slice none 0 0, .slice none 0 0, [], [], [], Nat.zero_le _, rfl, Buf.nil _ _, Buf.nil _ _, by rw [List.take_zero, pflat_nil]; exact Buf.nil _ _, hF.keep [11, 9, 10, 6, 0, 3] rfl, hA31⟩) ?_
        clear hF
        rintro i a w33 ⟨qs, fv, pv, bv, XF, XP, XB, hi, hqs, hF1, hP1, hB1, hF, hA32⟩
        apply wp_seq_k; intro K24 hK24
        apply wp_seq_k; intro K25 hK25
        refine wp_region_lit ?_
        refine vc_y hF rfl rfl (by decide) _ (y_move rfl rfl) (fun a hF => ?_)
        refine vc_y hF rfl rfl (by decide) _ (y_field rfl Try.underlying38 rfl sz27_ws (by decide) rfl (rfl : (⟨_, 0 + _, none⟩ : Addr) = ⟨_, 6, none⟩)) (fun a hF => ?_)
        refine vc_y hF rfl rfl (by decide) _ (y_ld rfl hA32.q rfl 4 rfl rfl nr27_ws) (fun a hF => ?_)
        refine vc_y hF rfl rfl (by decide) _ (y_lenSl rfl Try.underlying27 rfl rfl) (fun a hF => ?_)
        refine vc_y hF rfl rfl (by decide) _ (y_cmp rfl rfl rfl rfl rfl) (fun a hF => ?_)
        refine vc_nil ?_
        refine hK25 _ _ ?_; clear  hK25 K25
        by_cases hlt : i < o.ps.length
        · refine vc_trueB hF rfl (lss_t (by omega)) ?_
          obtain ⟨⟨A0, c0, l0⟩, hp⟩ : ∃ q, o.ps[i]? = some q := ⟨_, List.getElem?_eq_getElem hlt⟩
          have hmem := List.mem_of_getElem? hp
          obtain ⟨hc0, hR0⟩ := hP.2 _ hmem
          have hl0 := hpl _ hmem
          have hft := pflat_take hp
          have hfle := pflat_le hp
          obtain ⟨b, p, edA, hc⟩ := hP.1.ne (i := i) (by rw [List.length_map]; exact hlt)
          rw [edA] at hA32
          have hqn : qs.length = i := by
            have h1 := congrArg List.length hqs
            rw [List.length_map, List.length_map, List.length_take] at h1
            omega
          have hz4 : (qs.length + 1 + (qs.length + 1) / 4 + 192) * 24 ≤ 281474976710656 := by clear hc0 hl0 hfle hP1 hF1 hB1 hsz; omega
          apply wp_skip
          refine hK24 _ _ ?_; clear  hK24 K24
          apply wp_seq_k; intro K26 hK26
          apply wp_block
          apply wp_seq_k; intro K27 hK27
          refine wp_region_lit ?_
          refine vc_y hF rfl rfl (by decide) _ (y_field rfl Try.underlying38 rfl sz27_ws (by decide) rfl (rfl : (⟨_, 0 + _, none⟩ : Addr) = ⟨_, 6, none⟩)) (fun a hF => ?_)
          refine vc_y hF rfl rfl (by decide) _ (y_ld rfl hA32.q rfl 4 rfl rfl nr27_ws) (fun a hF => ?_)
          refine vc_y hF rfl rfl (by decide) _ (y_move rfl rfl) (fun a hF => ?_)
          refine vc_y hF rfl rfl (by decide) _ (y_ixSl rfl Try.underlying27 sz35_ws rfl rfl i rfl hlt (ad2 _ _ _)) (fun a hF => ?_)
          refine vc_y hF rfl rfl (by decide) _ (y_ldC (u := .slice A0 l0.length c0) rfl (Hq.sub hA32.q (subC (subC (subC (subC (subC (subC (sub0)))))))) rfl hc i (by rw [List.length_map]; exact hlt) rfl (by rw [List.getElem?_map, hp]; rfl) nr35_ws) (fun a hF => ?_)
          refine vc_op rfl (fun K hK => ws_call hF rfl (by decide) cl58_ws rfl rfl ?_)
          with_reducible refine (ws_roomyB w0 _ (XF :: XP :: XB :: (qs.map (roomS 5)).flatten :: [row b1 38 [.int .i64 o.kind, .int .i64 o.at_, .int .u64 (o.v.n : Int), .int .i64 o.many, .bool o.v.b, .slice o.dA o.v.ds.length o.dC, .slice (some ⟨b, p, none⟩) o.ps.length o.qC, .slice o.pA o.v.p.length o.pC, strV o.v.s, .slice o.sA o.v.ss.length o.sC, .int .i64 o.most, .int .i64 o.each]] :: Y :: R) A0 l0 c0 (hR0.mono (subC (subC (subC (subC (subC (subC (sub0)))))))) hA32 hl0 ).mono ?_
          rintro e' w34 ⟨g, rfl, hA35⟩
          refine ⟨_, rfl, fun a hF => hK _ _ ?_⟩
          clear hK K
          replace hA35 : Hp w0 ([row g 5 (cel cB (l0 ++ List.replicate 80 165))] :: XF :: XP :: XB :: (qs.map (roomS 5)).flatten :: [row b1 38 [.int .i64 o.kind, .int .i64 o.at_, .int .u64 (o.v.n : Int), .int .i64 o.many, .bool o.v.b, .slice o.dA o.v.ds.length o.dC, .slice (some ⟨b, p, none⟩) o.ps.length o.qC, .slice o.pA o.v.p.length o.pC, strV o.v.s, .slice o.sA o.v.ss.length o.sC, .int .i64 o.most, .int .i64 o.each]] :: Y :: R) w34 := hA35
          refine vc_y hF rfl rfl (by decide) _ (y_assign rfl rfl) (fun a hF => ?_)
          refine vc_nil ?_
          refine hK27 _ _ ?_; clear  hK27 K27
          apply wp_seq_k; intro K28 hK28
          refine wp_region_lit ?_
          refine vc_y hF rfl rfl (by decide) _ (y_move rfl rfl) (fun a hF => ?_)
          refine vc_y hF rfl rfl (by decide) _ (y_move rfl rfl) (fun a hF => ?_)
          refine vc_op rfl (fun K hK => hs_bs1 (u1 := .slice (some ⟨g, 0, none⟩) (l0.length + 80) (l0.length + 80)) hF rfl (by decide) rfl hA35 rfl (kb_bs_byte _ _ _) (fun b36 w37 a hb36 hF hA38 => hK _ _ ?_))
          clear hK K
          replace hA38 : Hp w0 ([row b36 35 [.slice (some ⟨g, 0, none⟩) (l0.length + 80) (l0.length + 80)]] :: [row g 5 (cel cB (l0 ++ List.replicate 80 165))] :: XF :: XP :: XB :: (qs.map (roomS 5)).flatten :: [row b1 38 [.int .i64 o.kind, .int .i64 o.at_, .int .u64 (o.v.n : Int), .int .i64 o.many, .bool o.v.b, .slice o.dA o.v.ds.length o.dC, .slice (some ⟨b, p, none⟩) o.ps.length o.qC, .slice o.pA o.v.p.length o.pC, strV o.v.s, .slice o.sA o.v.ss.length o.sC, .int .i64 o.most, .int .i64 o.each]] :: Y :: R) w37 := hA38
          refine vc_op rfl (fun K hK => hs_append hF rfl (by decide) rfl hA38 2 rfl hF1 Try.underlying27 kb_elemL_byte rfl rfl (Rc.srcC (W := [.slice (some ⟨g, 0, none⟩) (l0.length + 80) (l0.length + 80)]) (m := 1) (size := 1) (R := [row b36 35 [.slice (some ⟨g, 0, none⟩) (l0.length + 80) (l0.length + 80)]] :: [row g 5 (cel cB (l0 ++ List.replicate 80 165))] :: XF :: XP :: XB :: (qs.map (roomS 5)).flatten :: [row b1 38 [.int .i64 o.kind, .int .i64 o.at_, .int .u64 (o.v.n : Int), .int .i64 o.many, .bool o.v.b, .slice o.dA o.v.ds.length o.dC, .slice (some ⟨b, p, none⟩) o.ps.length o.qC, .slice o.pA o.v.p.length o.pC, strV o.v.s, .slice o.sA o.v.ss.length o.sC, .int .i64 o.most, .int .i64 o.each]] :: Y :: R) (Rc.ofRow (i := 0) (off := 0) rfl rfl) hA38.q Try.underlying27 (by decide) rfl (by simp [Value.oneCell'])) (hz4) (by decide) (fun fv2 XF2 w39 a hF2 hF hA40 => hK _ _ ?_))
          clear hK K
          replace hA40 : Hp w0 ([row b36 35 [.slice (some ⟨g, 0, none⟩) (l0.length + 80) (l0.length + 80)]] :: [row g 5 (cel cB (l0 ++ List.replicate 80 165))] :: XF2 :: XP :: XB :: (qs.map (roomS 5)).flatten :: [row b1 38 [.int .i64 o.kind, .int .i64 o.at_, .int .u64 (o.v.n : Int), .int .i64 o.many, .bool o.v.b, .slice o.dA o.v.ds.length o.dC, .slice (some ⟨b, p, none⟩) o.ps.length o.qC, .slice o.pA o.v.p.length o.pC, strV o.v.s, .slice o.sA o.v.ss.length o.sC, .int .i64 o.most, .int .i64 o.each]] :: Y :: R) w39 := hA40
          refine vc_y hF rfl rfl (by decide) _ (y_assign rfl rfl) (fun a hF => ?_)
          refine vc_nil ?_
          refine hK28 _ _ ?_; clear  hK28 K28
          apply wp_seq_k; intro K29 hK29
          refine wp_region_lit ?_
          refine vc_y hF rfl rfl (by decide) _ (y_move rfl rfl) (fun a hF => ?_)
          refine vc_y hF rfl rfl (by decide) _ (y_move rfl rfl) (fun a hF => ?_)
          refine vc_y hF rfl rfl (by decide) _ (y_field rfl Try.underlying38 rfl sz27_ws (by decide) rfl (rfl : (⟨_, 0 + _, none⟩ : Addr) = ⟨_, 6, none⟩)) (fun a hF => ?_)
          refine vc_y hF rfl rfl (by decide) _ (y_ld rfl hA40.q rfl 6 rfl rfl nr27_ws) (fun a hF => ?_)
          refine vc_y hF rfl rfl (by decide) _ (y_move rfl rfl) (fun a hF => ?_)
          refine vc_y hF rfl rfl (by decide) _ (y_ixSl rfl Try.underlying27 sz35_ws rfl rfl i rfl hlt (ad2 _ _ _)) (fun a hF => ?_)
          refine vc_y hF rfl rfl (by decide) _ (y_ldC (u := .slice A0 l0.length c0) rfl (Hq.sub hA40.q (subC (subC (subC (subC (subC (subC (subC (subC (sub0)))))))))) rfl hc i (by rw [List.length_map]; exact hlt) rfl (by rw [List.getElem?_map, hp]; rfl) nr35_ws) (fun a hF => ?_)
          refine vc_y hF rfl rfl (by decide) _ (y_lenSl rfl Try.underlying35 rfl rfl) (fun a hF => ?_)
          refine vc_y hF rfl rfl (by decide) _ (y_slice rfl Try.underlying35 kb_sz_byte rfl (.none 0) (.some rfl rfl) (Nat.zero_le _) (by omega) slice_to) (fun a hF => ?_)
          refine vc_op rfl (fun K hK => hs_bs1 (u1 := .slice (some ⟨g, 0, none⟩) l0.length (l0.length + 80)) hF rfl (by decide) rfl hA40 rfl (kb_bs_byte _ _ _) (fun b41 w42 a hb41 hF hA43 => hK _ _ ?_))
          clear hK K
          replace hA43 : Hp w0 ([row b41 35 [.slice (some ⟨g, 0, none⟩) l0.length (l0.length + 80)]] :: [row b36 35 [.slice (some ⟨g, 0, none⟩) (l0.length + 80) (l0.length + 80)]] :: [row g 5 (cel cB (l0 ++ List.replicate 80 165))] :: XF2 :: XP :: XB :: (qs.map (roomS 5)).flatten :: [row b1 38 [.int .i64 o.kind, .int .i64 o.at_, .int .u64 (o.v.n : Int), .int .i64 o.many, .bool o.v.b, .slice o.dA o.v.ds.length o.dC, .slice (some ⟨b, p, none⟩) o.ps.length o.qC, .slice o.pA o.v.p.length o.pC, strV o.v.s, .slice o.sA o.v.ss.length o.sC, .int .i64 o.most, .int .i64 o.each]] :: Y :: R) w42 := hA43
          refine vc_op rfl (fun K hK => hs_append hF rfl (by decide) rfl hA43 4 rfl hP1 Try.underlying27 kb_elemL_byte rfl rfl (Rc.srcC (W := [.slice (some ⟨g, 0, none⟩) l0.length (l0.length + 80)]) (m := 1) (size := 1) (R := [row b41 35 [.slice (some ⟨g, 0, none⟩) l0.length (l0.length + 80)]] :: [row b36 35 [.slice (some ⟨g, 0, none⟩) (l0.length + 80) (l0.length + 80)]] :: [row g 5 (cel cB (l0 ++ List.replicate 80 165))] :: XF2 :: XP :: XB :: (qs.map (roomS 5)).flatten :: [row b1 38 [.int .i64 o.kind, .int .i64 o.at_, .int .u64 (o.v.n : Int), .int .i64 o.many, .bool o.v.b, .slice o.dA o.v.ds.length o.dC, .slice (some ⟨b, p, none⟩) o.ps.length o.qC, .slice o.pA o.v.p.length o.pC, strV o.v.s, .slice o.sA o.v.ss.length o.sC, .int .i64 o.most, .int .i64 o.each]] :: Y :: R) (Rc.ofRow (i := 0) (off := 0) rfl rfl) hA43.q Try.underlying27 (by decide) rfl (by simp [Value.oneCell'])) (hz4) (by decide) (fun pv2 XP2 w44 a hP2 hF hA45 => hK _ _ ?_))
          clear hK K
          replace hA45 : Hp w0 ([row b41 35 [.slice (some ⟨g, 0, none⟩) l0.length (l0.length + 80)]] :: [row b36 35 [.slice (some ⟨g, 0, none⟩) (l0.length + 80) (l0.length + 80)]] :: [row g 5 (cel cB (l0 ++ List.replicate 80 165))] :: XF2 :: XP2 :: XB :: (qs.map (roomS 5)).flatten :: [row b1 38 [.int .i64 o.kind, .int .i64 o.at_, .int .u64 (o.v.n : Int), .int .i64 o.many, .bool o.v.b, .slice o.dA o.v.ds.length o.dC, .slice (some ⟨b, p, none⟩) o.ps.length o.qC, .slice o.pA o.v.p.length o.pC, strV o.v.s, .slice o.sA o.v.ss.length o.sC, .int .i64 o.most, .int .i64 o.each]] :: Y :: R) w44 := hA45
          refine vc_y hF rfl rfl (by decide) _ (y_assign rfl rfl) (fun a hF => ?_)
          refine vc_nil ?_
          refine hK29 _ _ ?_; clear  hK29 K29
          refine wp_region_lit ?_
          refine vc_y hF rfl rfl (by decide) _ (y_move rfl rfl) (fun a hF => ?_)
          refine vc_y hF rfl rfl (by decide) _ (y_field rfl Try.underlying38 rfl sz27_ws (by decide) rfl (rfl : (⟨_, 0 + _, none⟩ : Addr) = ⟨_, 6, none⟩)) (fun a hF => ?_)
          refine vc_y hF rfl rfl (by decide) _ (y_ld rfl hA45.q rfl 7 rfl rfl nr27_ws) (fun a hF => ?_)
          refine vc_y hF rfl rfl (by decide) _ (y_move rfl rfl) (fun a hF => ?_)
          refine vc_y hF rfl rfl (by decide) _ (y_ixSl rfl Try.underlying27 sz35_ws rfl rfl i rfl hlt (ad2 _ _ _)) (fun a hF => ?_)
          refine vc_y hF rfl rfl (by decide) _ (y_ldC (u := .slice A0 l0.length c0) rfl (Hq.sub hA45.q (subC (subC (subC (subC (subC (subC (subC (subC (subC (sub0))))))))))) rfl hc i (by rw [List.length_map]; exact hlt) rfl (by rw [List.getElem?_map, hp]; rfl) nr35_ws) (fun a hF => ?_)
          refine vc_op rfl (fun K hK => hs_append hF rfl (by decide) rfl hA45 5 rfl hB1 Try.underlying35 ow_elem5 rfl rfl (Rc.src (hR0.mono (subC (subC (subC (subC (subC (subC (subC (subC (subC (sub0))))))))))) hA45.q Try.underlying35) (by clear hz4; omega) (by decide) (fun bv2 XB2 w46 a hB2 hF hA47 => hK _ _ ?_))
          clear hK K
          replace hA47 : Hp w0 ([row b41 35 [.slice (some ⟨g, 0, none⟩) l0.length (l0.length + 80)]] :: [row b36 35 [.slice (some ⟨g, 0, none⟩) (l0.length + 80) (l0.length + 80)]] :: [row g 5 (cel cB (l0 ++ List.replicate 80 165))] :: XF2 :: XP2 :: XB2 :: (qs.map (roomS 5)).flatten :: [row b1 38 [.int .i64 o.kind, .int .i64 o.at_, .int .u64 (o.v.n : Int), .int .i64 o.many, .bool o.v.b, .slice o.dA o.v.ds.length o.dC, .slice (some ⟨b, p, none⟩) o.ps.length o.qC, .slice o.pA o.v.p.length o.pC, strV o.v.s, .slice o.sA o.v.ss.length o.sC, .int .i64 o.most, .int .i64 o.each]] :: Y :: R) w46 := hA47
          refine vc_y hF rfl rfl (by decide) _ (y_assign rfl rfl) (fun a hF => ?_)
          refine vc_nil ?_
          refine hK26 _ _ ?_; clear  hK26 K26
          refine wp_region_lit ?_
          refine vc_y hF rfl rfl (by decide) _ (y_move rfl rfl) (fun a hF => ?_)
          refine vc_y hF rfl rfl (by decide) _ (y_add rfl rfl rfl (IntWalk.i64_in _ (by omega))) (fun a hF => ?_)
          refine vc_y hF rfl rfl (by decide) _ (y_assign rfl rfl) (fun a hF => ?_)
          refine vc_nil ?_
          rw [← edA] at hA47
          rw [← dc_append, ← List.length_append, ← hft] at hB2
          have hA48 : Hp w0 (XF2 :: XP2 :: XB2 :: (qs.map (roomS 5)).flatten :: [row g 5 (cel cB (l0 ++ List.replicate 80 165))] :: [row b1 38 [.int .i64 o.kind, .int .i64 o.at_, .int .u64 (o.v.n : Int), .int .i64 o.many, .bool o.v.b, .slice o.dA o.v.ds.length o.dC, .slice o.qA o.ps.length o.qC, .slice o.pA o.v.p.length o.pC, strV o.v.s, .slice o.sA o.v.ss.length o.sC, .int .i64 o.most, .int .i64 o.each]] :: Y :: R) w46 := Hp.sel [[row b41 35 [.slice (some ⟨g, 0, none⟩) l0.length (l0.length + 80)]], [row b36 35 [.slice (some ⟨g, 0, none⟩) (l0.length + 80) (l0.length + 80)]], [row g 5 (cel cB (l0 ++ List.replicate 80 165))], XF2, XP2, XB2, (qs.map (roomS 5)).flatten, [row b1 38 [.int .i64 o.kind, .int .i64 o.at_, .int .u64 (o.v.n : Int), .int .i64 o.many, .bool o.v.b, .slice o.dA o.v.ds.length o.dC, .slice o.qA o.ps.length o.qC, .slice o.pA o.v.p.length o.pC, strV o.v.s, .slice o.sA o.v.ss.length o.sC, .int .i64 o.most, .int .i64 o.each]], Y] R [3, 4, 5, 6, 2, 7, 8] [0, 1] hA47 rfl
          have hA49 : Hp w0 (XF2 :: XP2 :: XB2 :: ((qs ++ [(g, l0)]).map (roomS 5)).flatten :: [row b1 38 [.int .i64 o.kind, .int .i64 o.at_, .int .u64 (o.v.n : Int), .int .i64 o.many, .bool o.v.b, .slice o.dA o.v.ds.length o.dC, .slice o.qA o.ps.length o.qC, .slice o.pA o.v.p.length o.pC, strV o.v.s, .slice o.sA o.v.ss.length o.sC, .int .i64 o.most, .int .i64 o.each]] :: Y :: R) w46 := hA48.cast (by simp [roomS])
          exact ⟨i + 1, by omega, qs ++ [(g, l0)], fv2, pv2, bv2, XF2, XP2, XB2, by omega, (by rw [List.map_append, hqs, List.take_add_one, hp]; simp), (by rw [List.length_append, List.map_append]; exact hF2), (by rw [List.length_append, List.map_append]; exact hP2), hB2, hF.keep [11, 9, 10, 6, 0, 3] rfl, hA49⟩
        · refine vc_falseB hF rfl (lss_f (by omega)) ?_
          have hie : i = o.ps.length := by omega
          rw [hie, List.take_length] at hB1 hqs
          have hqn : qs.length = o.ps.length := by
            have h1 := congrArg List.length hqs
            rwa [List.length_map, List.length_map] at h1
          have hpf : pflat (qs.map pcOf) = pflat o.ps := by
            have h1 : ∀ ps : List Piece, pflat ps = (ps.map (·.2.2)).flatten := fun ps => rfl
            rw [h1, h1, List.map_map, ← hqs]
            rfl
          obtain ⟨AF, cF, rfl, _⟩ := hF1.slice
          obtain ⟨AP, cP, rfl, _⟩ := hP1.slice
          apply wp_exit
          refine hK22 _ _ ?_; clear hK24 K24 hK22 K22
          apply wp_seq_k; intro K30 hK30
          refine wp_region_lit ?_
          refine vc_y hF rfl rfl (by decide) _ (y_move rfl rfl) (fun a hF => ?_)
          refine vc_y hF rfl rfl (by decide) _ (y_move rfl rfl) (fun a hF => ?_)
          have hA50 : Hp w0 (Y :: XF :: XP :: XB :: (qs.map (roomS 5)).flatten :: [row b1 38 [.int .i64 o.kind, .int .i64 o.at_, .int .u64 (o.v.n : Int), .int .i64 o.many, .bool o.v.b, .slice o.dA o.v.ds.length o.dC, .slice o.qA o.ps.length o.qC, .slice o.pA o.v.p.length o.pC, strV o.v.s, .slice o.sA o.v.ss.length o.sC, .int .i64 o.most, .int .i64 o.each]] :: R) w33 := Hp.ord [XF, XP, XB, (qs.map (roomS 5)).flatten, [row b1 38 [.int .i64 o.kind, .int .i64 o.at_, .int .u64 (o.v.n : Int), .int .i64 o.many, .bool o.v.b, .slice o.dA o.v.ds.length o.dC, .slice o.qA o.ps.length o.qC, .slice o.pA o.v.p.length o.pC, strV o.v.s, .slice o.sA o.v.ss.length o.sC, .int .i64 o.most, .int .i64 o.each]], Y] R [5, 0, 1, 2, 3, 4] hA32 rfl
          have hPc : PcS w0 (XF :: XP :: XB :: (qs.map (roomS 5)).flatten :: [row b1 38 [.int .i64 o.kind, .int .i64 o.at_, .int .u64 (o.v.n : Int), .int .i64 o.many, .bool o.v.b, .slice o.dA o.v.ds.length o.dC, .slice o.qA o.ps.length o.qC, .slice o.pA o.v.p.length o.pC, strV o.v.s, .slice o.sA o.v.ss.length o.sC, .int .i64 o.most, .int .i64 o.each]] :: R) AP (qs.map pcOf) := by
            obtain ⟨_, _, e1, _, h1⟩ := hP1.rc (w0 := w0) (R := XF :: XP :: XB :: (qs.map (roomS 5)).flatten :: [row b1 38 [.int .i64 o.kind, .int .i64 o.at_, .int .u64 (o.v.n : Int), .int .i64 o.many, .bool o.v.b, .slice o.dA o.v.ds.length o.dC, .slice o.qA o.ps.length o.qC, .slice o.pA o.v.p.length o.pC, strV o.v.s, .slice o.sA o.v.ss.length o.sC, .int .i64 o.most, .int .i64 o.each]] :: R) (by simp)
            injection e1 with e1 _ _
            subst e1
            exact pcs_of (e := 5) h1 (by simp)
          refine vc_op rfl (fun K hK => ws_call hF rfl (by decide) cl67_ws rfl rfl ?_)
          with_reducible refine (ws_raw w0 _ (XF :: XP :: XB :: (qs.map (roomS 5)).flatten :: [row b1 38 [.int .i64 o.kind, .int .i64 o.at_, .int .u64 (o.v.n : Int), .int .i64 o.many, .bool o.v.b, .slice o.dA o.v.ds.length o.dC, .slice o.qA o.ps.length o.qC, .slice o.pA o.v.p.length o.pC, strV o.v.s, .slice o.sA o.v.ss.length o.sC, .int .i64 o.most, .int .i64 o.each]] :: R) wb l Y AP (qs.map pcOf) cP qs.length (by rw [List.length_map]) hPc hY hA50 (by rw [hpf]; omega) (by rw [List.length_map]; omega) ).mono ?_
          rintro e' w51 ⟨Y', rfl, hY', hA52⟩
          refine ⟨_, rfl, fun a hF => hK _ _ ?_⟩
          clear hK K
          replace hA52 : Hp w0 (Y' :: XF :: XP :: XB :: (qs.map (roomS 5)).flatten :: [row b1 38 [.int .i64 o.kind, .int .i64 o.at_, .int .u64 (o.v.n : Int), .int .i64 o.many, .bool o.v.b, .slice o.dA o.v.ds.length o.dC, .slice o.qA o.ps.length o.qC, .slice o.pA o.v.p.length o.pC, strV o.v.s, .slice o.sA o.v.ss.length o.sC, .int .i64 o.most, .int .i64 o.each]] :: R) w51 := hA52
          refine vc_nil ?_
          refine hK30 _ _ ?_; clear  hK30 K30
          apply wp_seq_k; intro K31 hK31
          apply wp_seq_k; intro K32 hK32
          refine wp_region_lit ?_
          refine vc_y hF rfl rfl (by decide) _ (y_assign rfl rfl) (fun a hF => ?_)
          refine vc_nil ?_
          refine hK32 _ _ ?_; clear  hK32 K32
          apply wp_block
          rw [hpf] at hY'
          have hA53 : Hp w0 (Y' :: XF :: XP :: XB :: ((qs.drop 0).map (roomS 5)).flatten :: [row b1 38 [.int .i64 o.kind, .int .i64 o.at_, .int .u64 (o.v.n : Int), .int .i64 o.many, .bool o.v.b, .slice o.dA o.v.ds.length o.dC, .slice o.qA o.ps.length o.qC, .slice o.pA o.v.p.length o.pC, strV o.v.s, .slice o.sA o.v.ss.length o.sC, .int .i64 o.most, .int .i64 o.each]] :: R) w51 := hA52
          refine vc_loop (G := Nat) (fun i a x => i ≤ o.ps.length ∧ Fr 151 [(13, .int .i64 (i : Int)), (3, .pointer (some ⟨b1, 0, none⟩)), (9, .slice AF qs.length cF), (10, .slice AP qs.length cP), (6, bv)] a ∧ Hp w0 (Y' :: XF :: XP :: XB :: ((qs.drop i).map (roomS 5)).flatten :: [row b1 38 [.int .i64 o.kind, .int .i64 o.at_, .int .u64 (o.v.n : Int), .int .i64 o.many, .bool o.v.b, .slice o.dA o.v.ds.length o.dC, .slice o.qA o.ps.length o.qC, .slice o.pA o.v.p.length o.pC, strV o.v.s, .slice o.sA o.v.ss.length o.sC, .int .i64 o.most, .int .i64 o.each]] :: R) x) (fun i => o.ps.length - i) 0 (⟨Nat.zero_le _, hF.keep [13, 3, 9, 10, 6] rfl, hA53⟩) ?_
          clear hF
          rintro i a w55 ⟨hi2, hF, hA54⟩
          apply wp_seq_k; intro K33 hK33
          apply wp_seq_k; intro K34 hK34
          refine wp_region_lit ?_
          refine vc_y hF rfl rfl (by decide) _ (y_move rfl rfl) (fun a hF => ?_)
          refine vc_y hF rfl rfl (by decide) _ (y_field rfl Try.underlying38 rfl sz27_ws (by decide) rfl (rfl : (⟨_, 0 + _, none⟩ : Addr) = ⟨_, 6, none⟩)) (fun a hF => ?_)
          refine vc_y hF rfl rfl (by decide) _ (y_ld rfl hA54.q rfl 5 rfl rfl nr27_ws) (fun a hF => ?_)
          refine vc_y hF rfl rfl (by decide) _ (y_lenSl rfl Try.underlying27 rfl rfl) (fun a hF => ?_)
          refine vc_y hF rfl rfl (by decide) _ (y_cmp rfl rfl rfl rfl rfl) (fun a hF => ?_)
          refine vc_nil ?_
          refine hK34 _ _ ?_; clear  hK34 K34
          by_cases hlt2 : i < o.ps.length
          · refine vc_trueB hF rfl (lss_t (by omega)) ?_
            have hltq : i < qs.length := by omega
            obtain ⟨⟨g, l1⟩, hq⟩ : ∃ q, qs[i]? = some q := ⟨_, List.getElem?_eq_getElem hltq⟩
            obtain ⟨⟨A0, c0, l0⟩, hp⟩ : ∃ q, o.ps[i]? = some q := ⟨_, List.getElem?_eq_getElem hlt2⟩
            obtain rfl : l1 = l0 := by
              have h1 := congrArg (fun L => L[i]?) hqs
              simp only [List.getElem?_map, hq, hp, Option.map_some, Option.some.injEq] at h1
              exact h1
            have hmem := List.mem_of_getElem? hp
            obtain ⟨hc0, hR0⟩ := hP.2 _ hmem
            have hl0 : l1.length < 8796093000000 := hpl _ hmem
            have hdr : qs.drop i = (g, l1) :: qs.drop (i + 1) := by
              rw [List.drop_eq_getElem_cons hltq]
              rw [List.getElem?_eq_getElem hltq] at hq
              injection hq with hq
              rw [hq]
            obtain ⟨b, p, edA, hc⟩ := hP.1.ne (i := i) (by rw [List.length_map]; exact hlt2)
            obtain ⟨_, _, eF, _, hF2⟩ := hF1.rc (w0 := w0) (R := [XF]) (List.mem_cons_self ..)
            injection eF with eF _ _
            subst eF
            obtain ⟨bF, pF, rfl, hcF⟩ := hF2.ne (i := i) (by rw [List.length_map]; exact hltq)
            obtain ⟨_, _, eP, _, hP2⟩ := hP1.rc (w0 := w0) (R := [XP]) (List.mem_cons_self ..)
            injection eP with eP _ _
            subst eP
            obtain ⟨bP, pP, rfl, hcP⟩ := hP2.ne (i := i) (by rw [List.length_map]; exact hltq)
            rw [edA] at hA54
            have hA56 : Hp w0 (((qs.drop i).map (roomS 5)).flatten :: Y' :: XF :: XP :: XB :: [row b1 38 [.int .i64 o.kind, .int .i64 o.at_, .int .u64 (o.v.n : Int), .int .i64 o.many, .bool o.v.b, .slice o.dA o.v.ds.length o.dC, .slice (some ⟨b, p, none⟩) o.ps.length o.qC, .slice o.pA o.v.p.length o.pC, strV o.v.s, .slice o.sA o.v.ss.length o.sC, .int .i64 o.most, .int .i64 o.each]] :: R) w55 := Hp.ord [Y', XF, XP, XB, ((qs.drop i).map (roomS 5)).flatten, [row b1 38 [.int .i64 o.kind, .int .i64 o.at_, .int .u64 (o.v.n : Int), .int .i64 o.many, .bool o.v.b, .slice o.dA o.v.ds.length o.dC, .slice (some ⟨b, p, none⟩) o.ps.length o.qC, .slice o.pA o.v.p.length o.pC, strV o.v.s, .slice o.sA o.v.ss.length o.sC, .int .i64 o.most, .int .i64 o.each]]] R [4, 0, 1, 2, 3, 5] hA54 rfl
            have hA57 : Hp w0 ([row g 5 (cel cB (l1 ++ List.replicate 80 165))] :: ((qs.drop (i + 1)).map (roomS 5)).flatten :: Y' :: XF :: XP :: XB :: [row b1 38 [.int .i64 o.kind, .int .i64 o.at_, .int .u64 (o.v.n : Int), .int .i64 o.many, .bool o.v.b, .slice o.dA o.v.ds.length o.dC, .slice (some ⟨b, p, none⟩) o.ps.length o.qC, .slice o.pA o.v.p.length o.pC, strV o.v.s, .slice o.sA o.v.ss.length o.sC, .int .i64 o.most, .int .i64 o.each]] :: R) w55 := hA56.cast (by rw [hdr]; simp [roomS])
            apply wp_skip
            refine hK33 _ _ ?_; clear  hK33 K33
            apply wp_seq_k; intro K35 hK35
            apply wp_block
            apply wp_seq_k; intro K36 hK36
            apply wp_seq_k; intro K37 hK37
            refine wp_region_plan 24 [9,24] [0,1,2,3,4,5,6,7,8,9,10,11,12,13,14,15,16,17,18,19,20,21,22,23,24] (fun x => Hq w0 ([row g 5 (cel cB (l1 ++ List.replicate 80 165))] :: ((qs.drop (i + 1)).map (roomS 5)).flatten :: Y' :: XF :: XP :: XB :: [row b1 38 [.int .i64 o.kind, .int .i64 o.at_, .int .u64 (o.v.n : Int), .int .i64 o.many, .bool o.v.b, .slice o.dA o.v.ds.length o.dC, .slice (some ⟨b, p, none⟩) o.ps.length o.qC, .slice o.pA o.v.p.length o.pC, strV o.v.s, .slice o.sA o.v.ss.length o.sC, .int .i64 o.most, .int .i64 o.each]] :: R) x) (by kernel_rfl) (by kernel_rfl) (Hq.drew (Hp.qp [[row g 5 (cel cB (l1 ++ List.replicate 80 165))], ((qs.drop (i + 1)).map (roomS 5)).flatten, Y', XF, XP, XB, [row b1 38 [.int .i64 o.kind, .int .i64 o.at_, .int .u64 (o.v.n : Int), .int .i64 o.many, .bool o.v.b, .slice o.dA o.v.ds.length o.dC, .slice (some ⟨b, p, none⟩) o.ps.length o.qC, .slice o.pA o.v.p.length o.pC, strV o.v.s, .slice o.sA o.v.ss.length o.sC, .int .i64 o.most, .int .i64 o.each]]] R [0, 1, 2, 3, 4, 5, 6] hA57)) ?_
            have hA58 := Hl.drew hA57
            refine vp_y hF rfl rfl rfl rfl (by decide) _ (fun x hx => y_move rfl rfl) (fun a hF => ?_)
            refine vp_y hF rfl rfl rfl rfl (by decide) _ (fun x hx => y_move rfl rfl) (fun a hF => ?_)
            refine vp_y hF rfl rfl rfl rfl (by decide) _ (fun x hx => y_ixSl rfl Try.underlying27 sz35_ws rfl rfl i rfl hltq (ad2 _ _ _)) (fun a hF => ?_)
            refine vp_y hF rfl rfl rfl rfl (by decide) _ (fun x hx => y_ldC (u := .slice (some ⟨g, 0, none⟩) (l1.length + 80) (l1.length + 80)) rfl (Hq.sub hx (sub1 (.tail _ (.tail _ (.tail _ (.head _)))))) rfl hcF i (by rw [List.length_map]; exact hltq) rfl (by rw [List.getElem?_map, hq]; rfl) nr35_ws) (fun a hF => ?_)
            refine vp_y hF rfl rfl rfl rfl (by decide) _ (fun x hx => y_field rfl Try.underlying38 rfl sz27_ws (by decide) rfl (rfl : (⟨_, 0 + _, none⟩ : Addr) = ⟨_, 6, none⟩)) (fun a hF => ?_)
            refine vp_y hF rfl rfl rfl rfl (by decide) _ (fun x hx => y_ld rfl hx rfl 6 rfl rfl nr27_ws) (fun a hF => ?_)
            refine vp_y hF rfl rfl rfl rfl (by decide) _ (fun x hx => y_move rfl rfl) (fun a hF => ?_)
            refine vp_y hF rfl rfl rfl rfl (by decide) _ (fun x hx => y_ixSl rfl Try.underlying27 sz35_ws rfl rfl i rfl hlt2 (ad2 _ _ _)) (fun a hF => ?_)
            refine vp_y hF rfl rfl rfl rfl (by decide) _ (fun x hx => y_ldC (u := .slice A0 l1.length c0) rfl (Hq.sub hx (subC (subC (subC (subC (subC (subC (subC (sub0))))))))) rfl hc i (by rw [List.length_map]; exact hlt2) rfl (by rw [List.getElem?_map, hp]; rfl) nr35_ws) (fun a hF => ?_)
            refine vp_l rfl rfl rfl (fun K hK => ws_call hF rfl (by decide) cl59_ws rfl rfl ?_)
            with_reducible refine (ws_intactB w0 _ ([row g 5 (cel cB (l1 ++ List.replicate 80 165))] :: ((qs.drop (i + 1)).map (roomS 5)).flatten :: Y' :: XF :: XP :: XB :: [row b1 38 [.int .i64 o.kind, .int .i64 o.at_, .int .u64 (o.v.n : Int), .int .i64 o.many, .bool o.v.b, .slice o.dA o.v.ds.length o.dC, .slice (some ⟨b, p, none⟩) o.ps.length o.qC, .slice o.pA o.v.p.length o.pC, strV o.v.s, .slice o.sA o.v.ss.length o.sC, .int .i64 o.most, .int .i64 o.each]] :: R) (some ⟨g, 0, none⟩) A0 l1 (l1.length + 80) c0 (Rc.ofRow (i := 0) (off := 0) rfl (by rw [List.drop_zero, List.take_length])) (hR0.mono (subC (subC (subC (subC (subC (subC (subC (sub0))))))))) (Nat.le_refl _) hA58 hl0 ).mono ?_
            rintro e' w59 ⟨rfl, hA60⟩
            refine ⟨_, rfl, fun a hF => hK _ _ (fun _ => ?_) ?_⟩
            · exact Hp.qp [[row g 5 (cel cB (l1 ++ List.replicate 80 165))], ((qs.drop (i + 1)).map (roomS 5)).flatten, Y', XF, XP, XB, [row b1 38 [.int .i64 o.kind, .int .i64 o.at_, .int .u64 (o.v.n : Int), .int .i64 o.many, .bool o.v.b, .slice o.dA o.v.ds.length o.dC, .slice (some ⟨b, p, none⟩) o.ps.length o.qC, .slice o.pA o.v.p.length o.pC, strV o.v.s, .slice o.sA o.v.ss.length o.sC, .int .i64 o.most, .int .i64 o.each]]] R [0, 1, 2, 3, 4, 5, 6] hA60
            clear hK K
            replace hA60 : Hp w0 ([row g 5 (cel cB (l1 ++ List.replicate 80 165))] :: ((qs.drop (i + 1)).map (roomS 5)).flatten :: Y' :: XF :: XP :: XB :: [row b1 38 [.int .i64 o.kind, .int .i64 o.at_, .int .u64 (o.v.n : Int), .int .i64 o.many, .bool o.v.b, .slice o.dA o.v.ds.length o.dC, .slice (some ⟨b, p, none⟩) o.ps.length o.qC, .slice o.pA o.v.p.length o.pC, strV o.v.s, .slice o.sA o.v.ss.length o.sC, .int .i64 o.most, .int .i64 o.each]] :: R) w59 := hA60
            refine vp_y hF rfl rfl rfl rfl (by decide) _ (fun x hx => y_not rfl rfl rfl) (fun a hF => ?_)
            refine vp_y hF rfl rfl rfl rfl (by decide) _ (fun x hx => y_move rfl rfl) (fun a hF => ?_)
            refine vp_yg hF rfl rfl rfl rfl rfl rfl rfl (by decide) _ (fun x hx => y_move rfl rfl) (fun a hF => ?_)
            refine vp_yg hF rfl rfl rfl rfl rfl rfl rfl (by decide) _ (fun x hx => y_move rfl rfl) (fun a hF => ?_)
            refine vp_yg hF rfl rfl rfl rfl rfl rfl rfl (by decide) _ (fun x hx => y_ixSl rfl Try.underlying27 sz35_ws rfl rfl i rfl hltq (ad2 _ _ _)) (fun a hF => ?_)
            refine vp_yg hF rfl rfl rfl rfl rfl rfl rfl (by decide) _ (fun x hx => y_ldC (u := .slice (some ⟨g, 0, none⟩) l1.length (l1.length + 80)) rfl (Hq.sub hx (sub1 (.tail _ (.tail _ (.tail _ (.tail _ (.head _))))))) rfl hcP i (by rw [List.length_map]; exact hltq) rfl (by rw [List.getElem?_map, hq]; rfl) nr35_ws) (fun a hF => ?_)
            refine vp_yg hF rfl rfl rfl rfl rfl rfl rfl (by decide) _ (fun x hx => y_lenSl rfl Try.underlying35 rfl rfl) (fun a hF => ?_)
            refine vp_yg hF rfl rfl rfl rfl rfl rfl rfl (by decide) _ (fun x hx => y_field rfl Try.underlying38 rfl sz27_ws (by decide) rfl (rfl : (⟨_, 0 + _, none⟩ : Addr) = ⟨_, 6, none⟩)) (fun a hF => ?_)
            refine vp_yg hF rfl rfl rfl rfl rfl rfl rfl (by decide) _ (fun x hx => y_ld rfl hx rfl 6 rfl rfl nr27_ws) (fun a hF => ?_)
            refine vp_yg hF rfl rfl rfl rfl rfl rfl rfl (by decide) _ (fun x hx => y_move rfl rfl) (fun a hF => ?_)
            refine vp_yg hF rfl rfl rfl rfl rfl rfl rfl (by decide) _ (fun x hx => y_ixSl rfl Try.underlying27 sz35_ws rfl rfl i rfl hlt2 (ad2 _ _ _)) (fun a hF => ?_)
            refine vp_yg hF rfl rfl rfl rfl rfl rfl rfl (by decide) _ (fun x hx => y_ldC (u := .slice A0 l1.length c0) rfl (Hq.sub hx (subC (subC (subC (subC (subC (subC (subC (sub0))))))))) rfl hc i (by rw [List.length_map]; exact hlt2) rfl (by rw [List.getElem?_map, hp]; rfl) nr35_ws) (fun a hF => ?_)
            refine vp_yg hF rfl rfl rfl rfl rfl rfl rfl (by decide) _ (fun x hx => y_lenSl rfl Try.underlying35 rfl rfl) (fun a hF => ?_)
            refine vp_yg hF rfl rfl rfl rfl rfl rfl rfl (by decide) _ (fun x hx => y_cmp rfl rfl rfl rfl (neq_f (by omega))) (fun a hF => ?_)
            refine vp_ly hF rfl rfl rfl rfl (by decide) _ (y_pick rfl rfl rfl) (fun h => absurd h (by decide)) (fun a hF => ?_)
            refine plan_end ?_
            refine hK37 _ _ ?_; clear  hK37 K37
            refine vc_false hF rfl ?_
            apply wp_skip
            refine hK36 _ _ ?_; clear  hK36 K36
            apply wp_seq_k; intro K38 hK38
            refine wp_region_lit ?_
            refine vc_y hF rfl rfl (by decide) _ (y_assign rfl rfl) (fun a hF => ?_)
            refine vc_nil ?_
            refine hK38 _ _ ?_; clear  hK38 K38
            apply wp_block
            have hA61 : Hp w0 (((qs.drop (i + 1)).map (roomS 5)).flatten :: Y' :: XF :: XP :: XB :: [row b1 38 [.int .i64 o.kind, .int .i64 o.at_, .int .u64 (o.v.n : Int), .int .i64 o.many, .bool o.v.b, .slice o.dA o.v.ds.length o.dC, .slice (some ⟨b, p, none⟩) o.ps.length o.qC, .slice o.pA o.v.p.length o.pC, strV o.v.s, .slice o.sA o.v.ss.length o.sC, .int .i64 o.most, .int .i64 o.each]] :: [row g 5 (cel cB (l1 ++ List.replicate 80 165))] :: R) w59 := Hp.ord [[row g 5 (cel cB (l1 ++ List.replicate 80 165))], ((qs.drop (i + 1)).map (roomS 5)).flatten, Y', XF, XP, XB, [row b1 38 [.int .i64 o.kind, .int .i64 o.at_, .int .u64 (o.v.n : Int), .int .i64 o.many, .bool o.v.b, .slice o.dA o.v.ds.length o.dC, .slice (some ⟨b, p, none⟩) o.ps.length o.qC, .slice o.pA o.v.p.length o.pC, strV o.v.s, .slice o.sA o.v.ss.length o.sC, .int .i64 o.most, .int .i64 o.each]]] R [1, 2, 3, 4, 5, 6, 0] hA60 rfl
            refine vc_loop (G := Nat) (fun j a x => ∃ (cs : List Value), j ≤ l1.length + 80 ∧ cs.length = l1.length + 80 ∧ Fr 151 [(14, .int .i64 (j : Int)), (3, .pointer (some ⟨b1, 0, none⟩)), (9, .slice (some ⟨bF, pF, none⟩) qs.length cF), (10, .slice (some ⟨bP, pP, none⟩) qs.length cP), (6, bv), (13, .int .i64 (i : Int))] a ∧ Hp w0 (((qs.drop (i + 1)).map (roomS 5)).flatten :: Y' :: XF :: XP :: XB :: [row b1 38 [.int .i64 o.kind, .int .i64 o.at_, .int .u64 (o.v.n : Int), .int .i64 o.many, .bool o.v.b, .slice o.dA o.v.ds.length o.dC, .slice (some ⟨b, p, none⟩) o.ps.length o.qC, .slice o.pA o.v.p.length o.pC, strV o.v.s, .slice o.sA o.v.ss.length o.sC, .int .i64 o.most, .int .i64 o.each]] :: [row g 5 cs] :: R) x) (fun j => l1.length + 80 - j) 0 (⟨_, Nat.zero_le _, (by rw [cel_len (sz := 1) (fun x _ => rfl), List.length_append, List.length_replicate]; omega), hF.keep [14, 3, 9, 10, 6, 13] rfl, hA61⟩) ?_
            clear hF
            rintro j a w63 ⟨cs, hj, hcs, hF, hA62⟩
            apply wp_seq_k; intro K39 hK39
            apply wp_seq_k; intro K40 hK40
            refine wp_region_lit ?_
            refine vc_y hF rfl rfl (by decide) _ (y_move rfl rfl) (fun a hF => ?_)
            refine vc_y hF rfl rfl (by decide) _ (y_move rfl rfl) (fun a hF => ?_)
            refine vc_y hF rfl rfl (by decide) _ (y_move rfl rfl) (fun a hF => ?_)
            refine vc_y hF rfl rfl (by decide) _ (y_ixSl rfl Try.underlying27 sz35_ws rfl rfl i rfl hltq (ad2 _ _ _)) (fun a hF => ?_)
            refine vc_y hF rfl rfl (by decide) _ (y_ldC (u := .slice (some ⟨g, 0, none⟩) (l1.length + 80) (l1.length + 80)) rfl (Hq.sub hA62.q (sub1 (.tail _ (.tail _ (.head _))))) rfl hcF i (by rw [List.length_map]; exact hltq) rfl (by rw [List.getElem?_map, hq]; rfl) nr35_ws) (fun a hF => ?_)
            refine vc_y hF rfl rfl (by decide) _ (y_lenSl rfl Try.underlying35 rfl rfl) (fun a hF => ?_)
            refine vc_y hF rfl rfl (by decide) _ (y_cmp rfl rfl rfl rfl rfl) (fun a hF => ?_)
            refine vc_nil ?_
            refine hK40 _ _ ?_; clear  hK40 K40
            by_cases hlj : j < l1.length + 80
            · refine vc_trueB hF rfl (lss_t (by omega)) ?_
              apply wp_skip
              refine hK39 _ _ ?_; clear  hK39 K39
              apply wp_seq_k; intro K41 hK41
              apply wp_block
              refine wp_region_lit ?_
              refine vc_y hF rfl rfl (by decide) _ (y_move rfl rfl) (fun a hF => ?_)
              refine vc_y hF rfl rfl (by decide) _ (y_move rfl rfl) (fun a hF => ?_)
              refine vc_y hF rfl rfl (by decide) _ (y_ixSl rfl Try.underlying27 sz35_ws rfl rfl _ rfl (by omega) (ad2 _ _ _)) (fun a hF => ?_)
              refine vc_y hF rfl rfl (by decide) _ (y_ldC (u := .slice (some ⟨g, 0, none⟩) (l1.length + 80) (l1.length + 80)) rfl (Hq.sub hA62.q (sub1 (.tail _ (.tail _ (.head _))))) rfl hcF i (by rw [List.length_map]; exact hltq) rfl (by rw [List.getElem?_map, hq]; rfl) nr35_ws) (fun a hF => ?_)
              refine vc_y hF rfl rfl (by decide) _ (y_move rfl rfl) (fun a hF => ?_)
              refine vc_y hF rfl rfl (by decide) _ (y_ixSl rfl Try.underlying35 sz5_ws rfl rfl j rfl hlj (ad2 _ _ _)) (fun a hF => ?_)
              refine vc_op rfl (fun K hK => hs_store1 hF rfl rfl hA62 rfl rfl 6 rfl (by rw [hcs]; omega) rfl sz5_ws (fun w64 hA65 => hK _ _ ?_))
              clear hK K
              replace hA65 : Hp w0 (((qs.drop (i + 1)).map (roomS 5)).flatten :: Y' :: XF :: XP :: XB :: [row b1 38 [.int .i64 o.kind, .int .i64 o.at_, .int .u64 (o.v.n : Int), .int .i64 o.many, .bool o.v.b, .slice o.dA o.v.ds.length o.dC, .slice (some ⟨b, p, none⟩) o.ps.length o.qC, .slice o.pA o.v.p.length o.pC, strV o.v.s, .slice o.sA o.v.ss.length o.sC, .int .i64 o.most, .int .i64 o.each]] :: [row g 5 (cs.set (0 + j) (.int .u8 166))] :: R) w64 := hA65
              refine vc_nil ?_
              refine hK41 _ _ ?_; clear  hK41 K41
              refine wp_region_lit ?_
              refine vc_y hF rfl rfl (by decide) _ (y_move rfl rfl) (fun a hF => ?_)
              refine vc_y hF rfl rfl (by decide) _ (y_add rfl rfl rfl (IntWalk.i64_in _ (by omega))) (fun a hF => ?_)
              refine vc_y hF rfl rfl (by decide) _ (y_assign rfl rfl) (fun a hF => ?_)
              refine vc_nil ?_
              exact ⟨j + 1, by omega, _, by omega, (by rw [List.length_set]; exact hcs), hF.keep [14, 3, 9, 10, 6, 13] rfl, hA65⟩
            · refine vc_falseB hF rfl (lss_f (by omega)) ?_
              apply wp_exit
              refine hK35 _ _ ?_; clear hK39 K39 hK35 K35
              refine wp_region_lit ?_
              refine vc_y hF rfl rfl (by decide) _ (y_move rfl rfl) (fun a hF => ?_)
              refine vc_y hF rfl rfl (by decide) _ (y_add rfl rfl rfl (IntWalk.i64_in _ (by omega))) (fun a hF => ?_)
              refine vc_y hF rfl rfl (by decide) _ (y_assign rfl rfl) (fun a hF => ?_)
              refine vc_nil ?_
              rw [← edA] at hA62
              have hA66 : Hp w0 (Y' :: XF :: XP :: XB :: ((qs.drop (i + 1)).map (roomS 5)).flatten :: [row b1 38 [.int .i64 o.kind, .int .i64 o.at_, .int .u64 (o.v.n : Int), .int .i64 o.many, .bool o.v.b, .slice o.dA o.v.ds.length o.dC, .slice o.qA o.ps.length o.qC, .slice o.pA o.v.p.length o.pC, strV o.v.s, .slice o.sA o.v.ss.length o.sC, .int .i64 o.most, .int .i64 o.each]] :: R) w63 := Hp.sel [((qs.drop (i + 1)).map (roomS 5)).flatten, Y', XF, XP, XB, [row b1 38 [.int .i64 o.kind, .int .i64 o.at_, .int .u64 (o.v.n : Int), .int .i64 o.many, .bool o.v.b, .slice o.dA o.v.ds.length o.dC, .slice o.qA o.ps.length o.qC, .slice o.pA o.v.p.length o.pC, strV o.v.s, .slice o.sA o.v.ss.length o.sC, .int .i64 o.most, .int .i64 o.each]], [row g 5 cs]] R [1, 2, 3, 4, 0, 5] [6] hA62 rfl
              exact ⟨i + 1, by omega, by omega, hF.keep [13, 3, 9, 10, 6] rfl, hA66⟩
          · refine vc_falseB hF rfl (lss_f (by omega)) ?_
            apply wp_exit
            refine hK31 _ _ ?_; clear hK33 K33 hK31 K31
            apply wp_seq_k; intro K42 hK42
            refine wp_region_lit ?_
            refine vc_y hF rfl rfl (by decide) _ (y_move rfl rfl) (fun a hF => ?_)
            refine vc_y hF rfl rfl (by decide) _ (y_assign rfl rfl) (fun a hF => ?_)
            refine vc_y hF rfl rfl (by decide) _ (y_assign rfl rfl) (fun a hF => ?_)
            refine vc_nil ?_
            refine hK42 _ _ ?_; clear  hK42 K42
            apply wp_ret
            simp only [Exit.then, Exit.inBlock]
            refine vc_ret2 hF Try.results48 rfl rfl ?_
            have hA67 : Hp w0 (XB :: Y' :: R) w55 := Hp.sel [Y', XF, XP, XB, ((qs.drop i).map (roomS 5)).flatten, [row b1 38 [.int .i64 o.kind, .int .i64 o.at_, .int .u64 (o.v.n : Int), .int .i64 o.many, .bool o.v.b, .slice o.dA o.v.ds.length o.dC, .slice o.qA o.ps.length o.qC, .slice o.pA o.v.p.length o.pC, strV o.v.s, .slice o.sA o.v.ss.length o.sC, .int .i64 o.most, .int .i64 o.each]]] R [3, 0] [1, 2, 4, 5] hA54 rfl
            have hN : plainB o = pflat o.ps := by rw [plainB, if_neg k5, if_neg k6, if_pos k7]
            rw [hN]
            exact ⟨bv, XB, Y', rfl, hB1, hY', hA67⟩
      · refine vc_falseB hF rfl (eql_f (by omega)) ?_
        apply wp_skip
        refine hK3 _ _ ?_; clear  hK3 K3
        apply wp_seq_k; intro K43 hK43
        refine wp_region_lit ?_
        refine vc_y hF rfl rfl (by decide) _ (y_move rfl rfl) (fun a hF => ?_)
        refine vc_y hF rfl rfl (by decide) _ (y_ldRow (new := opC o) rfl hA3.q rfl 0 rfl rw38_ws (Nat.le_of_ble_eq_true rfl) rfl) (fun a hF => ?_)
        have hA68 : Hp w0 (Y :: [row b1 38 [.int .i64 o.kind, .int .i64 o.at_, .int .u64 (o.v.n : Int), .int .i64 o.many, .bool o.v.b, .slice o.dA o.v.ds.length o.dC, .slice o.qA o.ps.length o.qC, .slice o.pA o.v.p.length o.pC, strV o.v.s, .slice o.sA o.v.ss.length o.sC, .int .i64 o.most, .int .i64 o.each]] :: R) w2 := Hp.ord [[row b1 38 [.int .i64 o.kind, .int .i64 o.at_, .int .u64 (o.v.n : Int), .int .i64 o.many, .bool o.v.b, .slice o.dA o.v.ds.length o.dC, .slice o.qA o.ps.length o.qC, .slice o.pA o.v.p.length o.pC, strV o.v.s, .slice o.sA o.v.ss.length o.sC, .int .i64 o.most, .int .i64 o.each]], Y] R [1, 0] hA3 rfl
        refine vc_op rfl (fun K hK => ws_call hF rfl (by decide) cl86_ws rfl rfl ?_)
        with_reducible refine (ws_number w0 _ ([row b1 38 [.int .i64 o.kind, .int .i64 o.at_, .int .u64 (o.v.n : Int), .int .i64 o.many, .bool o.v.b, .slice o.dA o.v.ds.length o.dC, .slice o.qA o.ps.length o.qC, .slice o.pA o.v.p.length o.pC, strV o.v.s, .slice o.sA o.v.ss.length o.sC, .int .i64 o.most, .int .i64 o.each]] :: R) wb l Y o (hok.mono (subC (sub0))) hY hA68 (by omega) ).mono ?_
        rintro e' w69 ⟨v1, X1, Y', rfl, hB, hY', hA70⟩
        refine ⟨_, rfl, fun a hF => hK _ _ ?_⟩
        clear hK K
        replace hA70 : Hp w0 (X1 :: Y' :: [row b1 38 [.int .i64 o.kind, .int .i64 o.at_, .int .u64 (o.v.n : Int), .int .i64 o.many, .bool o.v.b, .slice o.dA o.v.ds.length o.dC, .slice o.qA o.ps.length o.qC, .slice o.pA o.v.p.length o.pC, strV o.v.s, .slice o.sA o.v.ss.length o.sC, .int .i64 o.most, .int .i64 o.each]] :: R) w69 := hA70
        refine vc_y hF rfl rfl (by decide) _ (y_assign rfl rfl) (fun a hF => ?_)
        refine vc_y hF rfl rfl (by decide) _ (y_assign rfl rfl) (fun a hF => ?_)
        refine vc_nil ?_
        refine hK43 _ _ ?_; clear  hK43 K43
        apply wp_ret
        refine vc_ret2 hF Try.results48 rfl rfl ?_
        have hA71 : Hp w0 (X1 :: Y' :: R) w69 := Hp.sel [X1, Y', [row b1 38 [.int .i64 o.kind, .int .i64 o.at_, .int .u64 (o.v.n : Int), .int .i64 o.many, .bool o.v.b, .slice o.dA o.v.ds.length o.dC, .slice o.qA o.ps.length o.qC, .slice o.pA o.v.p.length o.pC, strV o.v.s, .slice o.sA o.v.ss.length o.sC, .int .i64 o.most, .int .i64 o.each]]] R [0, 1] [2] hA70 rfl
        have hN : plainB o = numB o := by rw [plainB, if_neg k5, if_neg k6, if_neg k7]
        rw [hN]
        exact ⟨v1, X1, Y', rfl, hB, hY', hA71⟩
end Go.Proofs.Ythphfbohhbkdgaa
