/- A slice of one's own that may begin inside its row (behind l = l[1:]) and is appended to. Plain lemmas over the model; no program. -/
import Derived.Test.YthphfbohhbkdgaaMore
import Derived.LaidEqlPtr
namespace Go.Dk
open Go Go.RowKit
/-- the slice v, of n elements, holds the cells W; X: its row, if it has one; what stands ahead of it in the row is not known -/
def OwnP (w0 : World) (e : TypeId) (size : Nat) (X : List Row) (v : Value) (n : Nat) (W : List Value) : Prop :=
  W.length = n * size ∧ ((v = .slice none 0 0 ∧ n = 0 ∧ X = []) ∨ ∃ g c B Z, v = .slice (some ⟨g, B.length, none⟩) n c ∧ n ≤ c ∧ w0.heap.size ≤ g ∧ Z.length = (c - n) * size ∧ X = [(g, e, B ++ W ++ Z)])
section
variable {P : Program} {Q : Exit → Act → World → Prop} {w w0 : World} {n : Nat} {F : List (Nat × Value)} {a : Act} {o : Oper} {d : Nat} {R X : List Row} {e : TypeId} {size m : Nat} {v : Value} {W : List Value}
theorem OwnP.nil (w0 : World) (e : TypeId) (size : Nat) : OwnP w0 e size [] (.slice none 0 0) 0 [] := ⟨by simp, .inl ⟨rfl, rfl, rfl⟩⟩
theorem Own.ownP (h : Own w0 e size X v m W) : OwnP w0 e size X v m W := by
  refine ⟨h.1, ?_⟩
  rcases h.2 with h2 | ⟨g, c, Z, h1, h2, h3, h4, h5⟩
  · exact .inl h2
  · exact .inr ⟨g, c, [], Z, h1, h2, h3, h4, h5⟩
theorem OwnP.slice (h : OwnP w0 e size X v m W) : ∃ A c, v = .slice A m c ∧ m ≤ c := by
  rcases h.2 with ⟨h1, h2, _⟩ | ⟨g, c, _, _, h1, h2, _⟩
  · subst h2; exact ⟨_, _, h1, Nat.le_refl _⟩
  · exact ⟨_, _, h1, h2⟩
theorem OwnP.one (h : OwnP w0 e size X v m W) : v.oneCell' = true := by
  obtain ⟨A, c, rfl, _⟩ := h.slice
  rfl
theorem OwnP.new (h : OwnP w0 e size X v m W) : ∀ r ∈ X, w0.heap.size ≤ (r : Row).1 := by
  rcases h.2 with ⟨_, _, h3⟩ | ⟨g, c, _, _, _, _, h3, _, h5⟩
  · rw [h3]; intro r hr; cases hr
  · rw [h5]; intro r hr; simp only [List.mem_cons, List.not_mem_nil, or_false] at hr; subst hr; exact h3
theorem ownP_append {y : Operand} {x : Operand} {t tx : TypeId} {bytes : Nat} (ho : o.op = .call { callee := .builtin .append, args := #[x, y], argTypes := #[t, tx] })
    (hA : At w0 (R ++ X) w) (hO : OwnP w0 e size X v m W) (hu : P.underlying t = some (.slice e)) (hb : elemInfo P e size bytes) (hx : a.eval x = v)
    {yv : Value} (hy : a.eval y = yv) {j : Nat} {news : List Value} (hs : Src P size tx yv j news w) (hmax : (m + j + (m + j) / 4 + 192) * bytes ≤ 281474976710656) (hbp : 0 < bytes) :
    ∃ v' X' w', (execOp a.eval o).run P w = .ok (.value v') w' ∧ OwnP w0 e size X' v' (m + j) (W ++ news) ∧ At w0 (R ++ X') w' := by
  obtain ⟨i, z, hi, hz, hsz, hbb, hzs⟩ := hb
  have hmx : m + j + (m + j) / 4 + 192 ≤ 281474976710656 := Nat.le_trans (Nat.le_mul_of_pos_right _ hbp) hmax
  have hs' : Src P i.size tx yv j news w := by rw [hsz]; exact hs
  rcases hO.2 with ⟨hv, hn, hX⟩ | ⟨g, c, B, Z, hv, hnc, hg, hZ, hX⟩
  · have hO' : Own w0 e size X v m W := ⟨hO.1, .inl ⟨hv, hn, hX⟩⟩
    obtain ⟨v', X', w', h1, h2, h3⟩ := own_append ho hA hO' hu ⟨i, z, hi, hz, hsz, hbb, hzs⟩ hx hy hs hmax hbp
    exact ⟨v', X', w', h1, h2.ownP, h3⟩
  · subst hX
    have hk : (R ++ [(g, e, B ++ W ++ Z)])[R.length]? = some (g, e, B ++ W ++ Z) := by simp
    by_cases hroom : m + j ≤ c
    · have hnl : news.length ≤ Z.length := by
        rw [hs.newsLen, hZ]; exact Nat.mul_le_mul_right _ (by omega)
      have hWl : m * i.size = W.length := by rw [hsz, hO.1]
      have hrun := run_append_room_src (P := P) w t tx o.type e i hu hi g B.length m c yv j news hs' hroom
        (fun j hj => by
          rw [hA.cell hk, hWl, List.getElem?_eq_getElem (by rw [List.length_append, List.length_append]; omega)]; rfl)
        (fun j hj => hA.frozen hk _)
      rw [hWl] at hrun
      have h1 := hA.setCells (off := B.length + W.length) (new := news) hk (by rw [List.length_append, List.length_append]; omega)
      have e1 : splice (B ++ W ++ Z) (B.length + W.length) news = B ++ (W ++ news) ++ Z.drop news.length := by
        unfold splice
        rw [List.take_left' (by rw [List.length_append]), List.drop_append, List.drop_of_length_le (by rw [List.length_append]; omega), List.nil_append, List.length_append, show B.length + W.length + news.length - (B.length + W.length) = news.length by omega]
        simp
      have e2 : (R ++ [(g, e, B ++ W ++ Z)]).set R.length (g, e, B ++ (W ++ news) ++ Z.drop news.length) = R ++ [(g, e, B ++ (W ++ news) ++ Z.drop news.length)] := by simp
      rw [e1, e2] at h1
      refine ⟨.slice (some ⟨g, B.length, none⟩) (m + j) c, _, _, ?_, ⟨?_, .inr ⟨g, c, B, Z.drop news.length, rfl, hroom, hg, ?_, rfl⟩⟩, h1⟩
      · unfold execOp
        simp only [ho, hx, hy, hv, resolve, invoke, builtin, Sem.run_bind, Sem.run_pure, Result.andThen_ok, List.map_toArray, List.map_cons, List.map_nil, hrun]
      · rw [List.length_append, hO.1, hs.newsLen, Nat.add_mul]
      · rw [List.length_drop, hZ, hs.newsLen, ← Nat.sub_mul, Nat.sub_sub]
    · have hold : (Builtin.firstCells i.size m (.slice (some ⟨g, B.length, none⟩) m c)).run P w.drew = .ok W.toArray w.drew :=
        run_firstCells_some (P := P) w.drew i.size m ⟨g, B.length, none⟩ m c W (by rw [hO.1, hsz]) (fun j u hj => by
          rw [Addr.add_mid, hA.drew.cell hk, List.append_assoc, List.getElem?_append_right (Nat.le_add_right _ _), Nat.add_sub_cancel_left, List.getElem?_append_left (List.getElem?_eq_some_iff.1 hj).1, hj])
      have hgr : c < m + j := by omega
      have hcap : Builtin.nextslicecap (m + j) c * i.bytes ≤ 281474976710656 := by
        have h1 := nextslicecap_le_wide (need := m + j) (old := c) hgr
        rw [hbb]
        exact Nat.le_trans (Nat.mul_le_mul_right _ h1) hmax
      have hrun := run_append_grow_src (P := P) w t tx o.type e i z hu hi hz (some ⟨g, B.length, none⟩) m c W hold yv j news hs' hgr (by omega) hcap
      have hqge := grownCap_ge w (m + j) c e
      generalize grownCap w (m + j) c e = q at hrun hqge
      have h1 := hA.drew.alloc ((W ++ news).toArray ++ Builtin.zeroCells z.cells (q - (m + j))) e
      rw [Array.toList_append, List.toList_toArray] at h1
      refine ⟨.slice (some ⟨w.heap.size, 0, none⟩) (m + j) q, [(w.heap.size, e, (W ++ news) ++ (Builtin.zeroCells z.cells (q - (m + j))).toList)], w.drew.alloc (.cells ((W ++ news).toArray ++ Builtin.zeroCells z.cells (q - (m + j))) e), ?_, ⟨?_, .inr ⟨w.heap.size, q, [], (Builtin.zeroCells z.cells (q - (m + j))).toList, rfl, hqge, hA.size, by rw [zc_length, hzs], rfl⟩⟩, ?_⟩
      · unfold execOp
        simp only [ho, hx, hy, hv, resolve, invoke, builtin, Sem.run_bind, Sem.run_pure, Result.andThen_ok, List.map_toArray, List.map_cons, List.map_nil, hrun]
      · rw [List.length_append, hO.1, hs.newsLen, Nat.add_mul]
      · have h2 : At w0 (((w.heap.size, e, (W ++ news) ++ (Builtin.zeroCells z.cells (q - (m + j))).toList) : Row) :: R) (w.drew.alloc (.cells ((W ++ news).toArray ++ Builtin.zeroCells z.cells (q - (m + j))) e)) := by
          refine h1.drop (List.Sublist.cons_cons _ (List.sublist_append_left _ _)) (fun r hr hlt => ?_)
          simp only [List.mem_cons, List.mem_append, List.not_mem_nil, or_false] at hr ⊢
          rcases hr with rfl | hr | rfl
          · exact .inl rfl
          · exact .inr hr
          · simp only at hlt; omega
        exact h2.perm (by exact (List.perm_append_singleton _ _).symm)
theorem ws_ownP {x y : Operand} {t tx : TypeId} {bytes : Nat} {K : Act → World → Prop} (hF : Fr n F a) (hd : o.dst = some d) (hlt : d < n) (ho : o.op = .call { callee := .builtin .append, args := #[x, y], argTypes := #[t, tx] })
    (R : List Row) (hA : At w0 (R ++ X) w) (hO : OwnP w0 e size X v m W) (hu : P.underlying t = some (.slice e)) (hb : elemInfo P e size bytes) (hx : ev F x = some v)
    {yv : Value} (hy : ev F y = some yv) {j : Nat} {news : List Value} (hs : Src P size tx yv j news w) (hmax : (m + j + (m + j) / 4 + 192) * bytes ≤ 281474976710656) (hbp : 0 < bytes)
    (h : ∀ v' X' w' a', OwnP w0 e size X' v' (m + j) (W ++ news) → Fr n ((d, v') :: F) a' → At w0 (R ++ X') w' → K a' w') : o.wp P a w K Q := by
  obtain ⟨v', X', w', h1, h2, h3⟩ := ownP_append (a := a) ho hA hO hu hb (hF.ev hx) (hF.ev hy) hs hmax hbp
  unfold Oper.wp
  rw [h1, Oper.upon_value, hd]
  exact h v' X' w' _ h2 (hF.put hlt) h3
/-- behind l[1:] -/
theorem OwnP.tail {u : Value} (h : OwnP w0 e 1 X v (m + 1) (u :: W)) : ∃ g c o, v = .slice (some ⟨g, o, none⟩) (m + 1) (c + 1) ∧ OwnP w0 e 1 X (.slice (some ⟨g, o + 1, none⟩) m c) m W := by
  rcases h.2 with ⟨_, h2, _⟩ | ⟨g, c, B, Z, h1, h2, h3, h4, h5⟩
  · omega
  · obtain ⟨c', rfl⟩ : ∃ c', c = c' + 1 := ⟨c - 1, by omega⟩
    refine ⟨g, c', B.length, h1, ?_, .inr ⟨g, c', B ++ [u], Z, by simp, by omega, h3, by omega, by rw [h5]; simp⟩⟩
    have := h.1
    simp only [List.length_cons] at this
    omega
/-- two pointers into unlike blocks -/
theorem y_ptrNe {x y : Operand} {t te t' : TypeId} {i : TypeInfo} {L : List Row} {g h k l : Nat} {ta tb : TypeId} {ca cb : List Value} (ho : o.op = .binOp .eql t x y t') (hu : P.underlying t = some (.pointer te)) (hi : P.info? te = some i) (hsz : i.size ≠ 0)
    (hA : At w0 L w) (hk : L[k]? = some (g, ta, ca)) (hl : L[l]? = some (h, tb, cb)) (hne : g ≠ h) (hx : ev F x = some (.pointer (some ⟨g, 0, none⟩))) (hy : ev F y = some (.pointer (some ⟨h, 0, none⟩))) : Yd P n F o w (.bool false) := fun a hF => by
  unfold execOp
  have h1 : (eqGuard .eql t x y (.pointer (some ⟨g, 0, none⟩)) (.pointer (some ⟨h, 0, none⟩))).run P w = .ok () w := rfl
  simp only [ho, hF.ev hx, hF.ev hy, Sem.run_bind, h1, Result.andThen_ok]
  rw [run_eql_ptr_other (ca := ca.toArray) (cb := cb.toArray) w hu hi hsz (fun he => hne (by injection he)) (hA.row hk) (hA.row hl)]
  rfl
end
end Go.Dk
