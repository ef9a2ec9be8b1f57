/- Of what is cut off the first form that does not lie there whole is refused: plain facts of bytes. -/
import Derived.Test.YthphfbohhbkdgaaLawBack
namespace Go.Proofs.Ythphfbohhbkdgaa
open Go.RowKit Go.Dk

theorem sized_cut {K e m : Nat} {s t : List UInt8} {b : Int} (h : s.length < 256 ^ K) (hb : (s.length : Int) ≤ b) (hm : m < K + s.length) : sizedR K e ((be K s.length ++ s ++ t).take m) b = .no 8 := by
  have hl : ((be K s.length ++ s ++ t).take m).length = m := by rw [List.length_take, List.length_append, List.length_append, be_length]; omega
  by_cases hK : m < K
  · exact sized_short (by rw [hl]; exact hK)
  · have e1 : ((be K s.length ++ s ++ t).take m).take K = be K s.length := by
      rw [List.take_take, Nat.min_eq_left (by omega), List.append_assoc, take_be]
    exact sized_ends (by rw [hl]; exact hK) (by rw [e1, num_be_lt h]; omega) (by rw [e1, num_be_lt h, hl]; omega)
theorem textsGo_cut (each : Int) (ss acc : List (List UInt8)) (at_ m : Nat) (hm : m < (tflat ss).length) (h : ∀ j, acc.length ≤ j → j < (acc ++ ss).length → textsAt (acc ++ ss) each j = 0) : textsGo each ss.length acc at_ ((tflat ss).take m) = .no 8 := by
  induction ss generalizing acc at_ m with
  | nil => exact absurd hm (Nat.not_lt_zero _)
  | cons s ss ih =>
    have h0 := h acc.length (Nat.le_refl _) (by rw [List.length_append, List.length_cons]; omega)
    have hs : (acc ++ s :: ss).getD acc.length [] = s := by rw [List.getD_eq_getElem?_getD, List.getElem?_append_right (Nat.le_refl _), Nat.sub_self]; rfl
    unfold textsAt at h0
    rw [hs] at h0
    have hlen : ¬ bnd each 65535 < (s.length : Int) := fun hh => by rw [if_pos hh] at h0; exact absurd h0 (by decide)
    rw [if_neg hlen] at h0
    have hge : ¬ (0 < acc.length ∧ strB .geq ((acc ++ s :: ss).getD (acc.length - 1) []) s = true) := fun hh => by rw [if_pos hh] at h0; exact absurd h0 (by decide)
    have e : tflat (s :: ss) = be 2 s.length ++ s ++ tflat ss := by simp [tflat]
    have e3 : (tflat (s :: ss)).length = 2 + s.length + (tflat ss).length := by simp [tflat, be_length]; omega
    have hbl := bnd_le each 65535
    rw [List.length_cons, textsGo]
    by_cases hc : m < 2 + s.length
    · rw [e, show textR ((be 2 s.length ++ s ++ tflat ss).take m) each = .no 8 from sized_cut (by show s.length < 65536; omega) (by omega) hc]
    · have e4 : (tflat (s :: ss)).take m = be 2 s.length ++ s ++ (tflat ss).take (m - (2 + s.length)) := by
        rw [e, List.take_append, List.take_of_length_le (by rw [List.length_append, be_length]; omega), List.length_append, be_length]
      rw [e4, textR_app (by omega)]
      simp only
      have hn : ¬ (acc ≠ [] ∧ strB .geq (acc.getLastD []) s = true) := fun hh => hge (by
        have hp : 0 < acc.length := List.length_pos_iff.2 hh.1
        refine ⟨hp, ?_⟩
        have h3 : (acc ++ s :: ss).getD (acc.length - 1) [] = acc.getLastD [] := by
          rw [List.getD_eq_getElem?_getD, List.getElem?_append_left (by omega), List.getLastD_eq_getLast?, List.getLast?_eq_getElem?]
        rw [h3]; exact hh.2)
      have e2 : (be 2 s.length ++ s ++ (tflat ss).take (m - (2 + s.length))).drop (2 + s.length) = (tflat ss).take (m - (2 + s.length)) := List.drop_left' (by rw [List.length_append, be_length])
      rw [if_neg hn, e2]
      exact ih (acc ++ [s]) _ _ (by omega) (fun j h1 h2 => by
        have h4 := h j (by rw [List.length_append] at h1; omega) (by simpa using h2)
        rwa [show acc ++ s :: ss = acc ++ [s] ++ ss by simp] at h4)
theorem cut1 (o : OpX) (h32 : ∀ d ∈ o.v.ds, d.length = 32) (hm : o.many = if o.kind = 6 then (o.v.ds.length : Int) else (o.v.p.length : Int)) (hE : laysE o = 0) (m : Nat) (hcut : m < (laysL o).length) : agR o ((laysL o).take m) = .no 8 := by
  have hl : ((laysL o).take m).length = m := by rw [List.length_take]; omega
  obtain ⟨r, hr⟩ : ∃ r, r = (laysL o).take m := ⟨_, rfl⟩
  rw [← hr] at hl ⊢
  unfold laysE at hE
  unfold laysL at hcut hr
  unfold agR
  by_cases k1 : o.kind = 1
  · rw [if_pos k1, be_length] at hcut
    rw [if_pos k1, numR, if_pos (by omega)]; rfl
  rw [if_neg k1] at hcut hr ⊢
  by_cases k2 : o.kind = 2
  · rw [if_pos k2, be_length] at hcut
    rw [if_pos k2, numR, if_pos (by omega)]; rfl
  rw [if_neg k2] at hcut hr ⊢
  by_cases k3 : o.kind = 3
  · rw [if_pos k3, be_length] at hcut
    rw [if_pos k3, numR, if_pos (by omega)]; rfl
  rw [if_neg k3] at hcut hr ⊢
  by_cases k4 : o.kind = 4
  · rw [if_pos k4, be_length] at hcut
    rw [if_pos k4, numR, if_pos (by omega)]; rfl
  rw [if_neg k4] at hcut hr ⊢
  by_cases k5 : o.kind = 5
  · rw [if_pos k5, List.length_cons, List.length_nil] at hcut
    rw [if_pos k5, flagR, if_pos (.inl (by omega))]; rfl
  rw [if_neg k5] at hcut hr ⊢
  by_cases k6 : o.kind = 6
  · rw [if_pos k6] at hm
    rw [if_pos k6, flatten32 _ h32] at hcut
    rw [if_pos k6, hm, digestsR, if_pos (.inr (by omega))]; rfl
  rw [if_neg k6] at hcut hr hm ⊢
  by_cases k7 : o.kind = 7
  · rw [if_pos k7] at hcut
    rw [if_pos k7, hm, rawR, if_pos (.inr (by omega))]; rfl
  rw [if_neg k7] at hcut hr ⊢
  by_cases k8 : o.kind = 8
  · rw [if_pos k8] at hE hcut hr
    obtain ⟨h1, h2⟩ := textE_ok hE
    have hb := bnd_le o.most 65535
    rw [h2, List.length_append, be_length] at hcut
    rw [if_pos k8, hr, h2]
    have h3 := sized_cut (K := 2) (e := 6) (t := []) (b := bnd o.most 65535) (by show o.v.s.length < 65536; omega) h1 hcut
    rw [List.append_nil] at h3
    rw [textR, h3]; rfl
  rw [if_neg k8] at hE hcut hr ⊢
  by_cases k9 : o.kind = 9
  · rw [if_pos k9] at hE hcut hr
    obtain ⟨h1, h2⟩ := bytesE_ok hE
    have hb := bnd_le o.most 2147483647
    rw [h2, List.length_append, be_length] at hcut
    rw [if_pos k9, hr, h2]
    have h3 := sized_cut (K := 4) (e := 6) (t := []) (b := bnd o.most 2147483647) (by show o.v.p.length < 4294967296; omega) h1 hcut
    rw [List.append_nil] at h3
    rw [bytesR, h3]; rfl
  rw [if_neg k9] at hE hcut hr ⊢
  by_cases k10 : o.kind = 10
  · rw [if_pos k10] at hE hcut hr
    obtain ⟨_, h2⟩ := textsR_app hE []
    rw [h2, List.length_append, be_length] at hcut
    rw [h2] at hr
    rw [if_pos k10]
    unfold textsE at hE
    split at hE
    · exact absurd hE (by decide)
    · rename_i h1
      have hb := bnd_le o.most 65535
      have hlt : o.v.ss.length < 256 ^ 2 := by show o.v.ss.length < 65536; omega
      have hz := firstE_zero _ _ _ hE
      by_cases hm2 : m < 2
      · rw [textsR, if_pos (by omega)]; rfl
      · have e1 : r = be 2 o.v.ss.length ++ (tflat o.v.ss).take (m - 2) := by
          rw [hr, List.take_append, List.take_of_length_le (by rw [be_length]; omega), be_length]
        have h3 := textsGo_cut o.each o.v.ss [] 2 (m - 2) (by omega) (fun j _ h5 => by simpa using hz j (Nat.zero_le _) (by simpa using h5))
        rw [textsR, if_neg (by omega), e1, take_be, num_be_lt hlt, if_neg h1, drop_be, h3]; rfl
  · rw [if_neg k10] at hcut
    exact absurd hcut (Nat.not_lt_zero _)
/-- what goes first -/
def op7 : OpX := { kind := 2, at_ := 0, many := 0, most := 0, each := 0, v := vN 7, ps := [], dA := none, dC := 0, qA := none, qC := 0, pA := none, pC := 0, sA := none, sC := 0 }
theorem op7_ok {w0 : World} {R : List Seg} : OpOK w0 R op7 := ⟨(by decide), by decide, (fun d hd => by cases hd), Rc.nil, Rc.nil, Nat.le_refl 0, Rc.nil, op_z, op_z, op_z, op_z⟩
def cutOf (os : List OpX) : List OpX := op7 :: (os.map manyX).filter (fun o => decide (laysE o = 0) && decide (laysL o ≠ []))
theorem cutOf_take {os : List OpX} {i : Nat} {o : OpX} (h : os[i]? = some o) : cutOf (os.take (i + 1)) = cutOf (os.take i) ++ (if laysE (manyX o) = 0 ∧ laysL (manyX o) ≠ [] then [manyX o] else []) := by
  unfold cutOf
  rw [List.take_add_one, h, List.map_append, List.filter_append, List.cons_append]
  congr 2
  by_cases hE : laysE (manyX o) = 0 ∧ laysL (manyX o) ≠ []
  · simp [hE.1, hE.2]
  · rw [if_neg hE]
    simp only [Option.toList_some, List.map_cons, List.map_nil, List.filter_cons, List.filter_nil]
    rw [if_neg]
    simp only [Bool.and_eq_true, decide_eq_true_eq]
    exact hE
def endsOf (L : List OpX) : List Nat := (List.range L.length).map fun i => ((L.take (i + 1)).flatMap laysL).length
theorem endsOf_snoc (L : List OpX) (o : OpX) : endsOf (L ++ [o]) = endsOf L ++ [((L ++ [o]).flatMap laysL).length] := by
  unfold endsOf
  rw [List.length_append, List.length_cons, List.length_nil, List.range_succ, List.map_append]
  congr 1
  · apply List.map_congr_left
    intro i hi
    have hi := List.mem_range.1 hi
    rw [List.take_append_of_le_length (by omega)]
  · simp only [List.map_cons, List.map_nil]
    rw [List.take_of_length_le (by simp)]
theorem endsOf_len (L : List OpX) : (endsOf L).length = L.length := by simp [endsOf]
theorem endsOf_at {L : List OpX} {i : Nat} (h : i < L.length) : (endsOf L)[i]? = some ((L.take (i + 1)).flatMap laysL).length := by simp [endsOf, h]
theorem cut_le (os : List OpX) (h : ∀ o ∈ os, ∀ d ∈ o.v.ds, d.length = 32) : (((os.map manyX).filter (fun o => decide (laysE o = 0) && decide (laysL o ≠ []))).flatMap laysL).length ≤ 2 * (os.map opCost).sum := by
  induction os with
  | nil => exact Nat.le_refl _
  | cons o os ih =>
    have ih := ih (fun o ho => h o (List.mem_cons_of_mem _ ho))
    have h1 := (lays_size o (h o (List.mem_cons_self ..))).2
    rw [List.map_cons, List.map_cons, List.sum_cons, List.filter_cons]
    split
    · rw [List.flatMap_cons, List.length_append, laysL_many]; omega
    · omega
theorem cut_bytes (os : List OpX) (i : Nat) (h : ∀ o ∈ os, ∀ d ∈ o.v.ds, d.length = 32) : ((cutOf (os.take i)).flatMap laysL).length ≤ 2 + 2 * (os.map opCost).sum := by
  have h1 := cut_le (os.take i) (fun o ho => h o (List.mem_of_mem_take ho))
  have h2 := sum_take_le opCost os i
  have h3 : (laysL op7).length = 2 := by decide
  unfold cutOf
  rw [List.flatMap_cons, List.length_append, h3]; omega
theorem cut_count (os : List OpX) (i : Nat) : (cutOf (os.take i)).length ≤ i + 1 := by
  unfold cutOf
  have h1 := List.length_filter_le (fun o => decide (laysE o = 0) && decide (laysL o ≠ [])) ((os.take i).map manyX)
  rw [List.length_map, List.length_take] at h1
  rw [List.length_cons]; omega
theorem cut_pos (os : List OpX) : 0 < (cutOf os).length ∧ 2 ≤ ((cutOf os).flatMap laysL).length := by
  unfold cutOf
  have h3 : (laysL op7).length = 2 := by decide
  rw [List.flatMap_cons, List.length_append, List.length_cons, h3]
  exact ⟨Nat.succ_pos _, by omega⟩
theorem cut_facts {w0 : World} (os : List OpX) (h : ∀ o ∈ os, OpOK w0 [] o) : ∀ o ∈ cutOf os, OpOK w0 [] o ∧ (o.many = if o.kind = 6 then (o.v.ds.length : Int) else (o.v.p.length : Int)) ∧ laysE o = 0 := by
  intro o ho
  rcases List.mem_cons.1 ho with rfl | ho
  · exact ⟨op7_ok, rfl, by decide⟩
  · obtain ⟨h1, h2⟩ := List.mem_filter.1 ho
    obtain ⟨u, hu, rfl⟩ := List.mem_map.1 h1
    rw [Bool.and_eq_true] at h2
    exact ⟨manyX_ok (h u hu), rfl, of_decide_eq_true h2.1⟩
/-- what a reader of the first n bytes has before it -/
theorem cut_drop {L : List OpX} {i n q : Nat} {o : OpX} {l : List UInt8} (hl : l = L.flatMap laysL) (ho : L[i]? = some o) (hq : q = ((L.take i).flatMap laysL).length) (hn : n ≤ l.length) (_ : q ≤ n) :
    (q + (laysL o).length ≤ n → ∃ rest, (l.take n).drop q = laysL o ++ rest) ∧ (n < q + (laysL o).length → (l.take n).drop q = (laysL o).take (n - q)) := by
  have h1 : l.drop q = laysL o ++ (L.drop (i + 1)).flatMap laysL := by rw [hl, hq]; exact flat_drop ho
  have h2 : (l.take n).drop q = (laysL o ++ (L.drop (i + 1)).flatMap laysL).take (n - q) := by rw [List.drop_take, h1]
  refine ⟨fun h => ⟨((L.drop (i + 1)).flatMap laysL).take (n - q - (laysL o).length), ?_⟩, fun h => ?_⟩
  · rw [h2, List.take_append, List.take_of_length_le (by omega)]
  · rw [h2, List.take_append_of_le_length (by omega)]
end Go.Proofs.Ythphfbohhbkdgaa
