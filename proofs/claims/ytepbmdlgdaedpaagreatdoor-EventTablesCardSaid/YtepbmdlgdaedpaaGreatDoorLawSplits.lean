/- Texts that belong together, one behind the other. -/
import Derived.Test.YtepbmdlgdaedpaaGreatDoorMore
import Derived.Test.YtepbmdlgdaedpaaGreatDoorLawNames
import Derived.Test.YtepbmdlgdaedpaaGreatDoorRefSum
import Derived.Test.YtepbmdlgdaedpaaGreatDoorSum
namespace Go.Proofs.YtepbmdlgdaedpaaGreatDoor
open Go.RowKit Go.Dk
theorem yl {cs:List Value} {i:Nat} {v:Value} (h:cs[i]? = some v):cs.set i v=cs:=by
 apply List.ext_getElem?
 intro j
 rw [List.getElem?_set]
 split
 ·rename_i e
  subst e
  have:=(List.getElem?_eq_some_iff.1 h).1
  simp only [this,if_true]
  exact h.symm
 ·rfl
theorem mJ (cs:List Value) (off:Nat):splice cs off (dc [])=cs:=by simp [splice,dc]
theorem GV {w:World} {L:List Row} (hpos:2<w.heap.size) (h:∀ r∈L,w.heap.size≤(r:Row).1):2 ∉ L.map (fun r:Row=>r.1):=fun hm=>by
 obtain ⟨r,hr,he⟩:=List.mem_map.1 hm
 have:=h r hr
 omega
theorem CG:(Tryz.prog.info? 244).map (·.size)=some 64:=af
set_option maxRecDepth 100000 in
set_option maxHeartbeats 1000000 in
theorem Ai (w:World) (hb:Nat) (m:List UInt8) (cs:List Value) (hH:HS m cs) (hrow:w.heap[hb]? = some (.cells cs.toArray 246 (0,0))) (A:Option Addr) (c:Nat) (hsz:m.length<1152921504606846976) :
  Calls Tryz.prog 163 #[.pointer (some ⟨hb,0,none⟩),.slice A 0 c] w (Wrote w hb m):=by
 have hA0:=At.start1 hrow
 obtain ⟨hl,hn72,_,_⟩:=BF hH
 obtain ⟨n,hn⟩:∃ n,n=m.length:=⟨_,rfl⟩
 rw [← hn] at hn72
 obtain ⟨h,hh⟩:∃ h,h=n%64:=⟨_,rfl⟩
 have hh64:h<64:=by omega
 refine aQ Tryz.func163 O Tryz.ntmps163 ai (fun a hF=>?_)
 apply wp_seq_k; intro K1 hK1
 refine wS hF fun K2 hK2=>vX O<|vX O<|vV O (yf 72 rfl Qy O pO rfl)<|vV O (aW O hA0 O 0 O hn72 qU)<|vV O (fP O O O ae (show ((n:Int).tmod 64)=(h:Int) by rw [Int.tmod_eq_emod_of_nonneg ag]; omega)) fun a hF=>?_
 refine vR hF<|vV O (bJ O Qh Qb O (PX _ ag))<|vX O<|vE hK2<|wT fun K3 hK3=>vX O<|vV O (aB O O O O O)<|vE hK3 fun a hF=>?_
 by_cases h0:0<h
 ·refine aF hF O (gG ag) ?_
  refine wS hF fun K4 hK4=>vX O<|vX O<|vV O (yf 8 O Qy O CG O)<|vX O<|vV O (jC O Qx lG rfl (.some rfl rfl) (.none 64) ag ag rfl)<|vX O fun a hF=>?_
  refine az O (fun K hK=>wF hF O ae rfl hA0 PZ lG rfl rfl [] (Nat.min_eq_left (PU _)).symm (Bts.nil _ _) 0 0 O (fun h=>absurd h ae) (by simp) (fun w1 a hF hA1=>hK _ _ ?_))
  replace hA1:At w [(hb,246,cs)] w1:=by rw [← mJ cs 0]; exact hA1
  replace hF:Fr 77 ((20,.int .i64 0)::_) a:=hF
  refine vR hF<|vX O<|vE hK4<|wT fun K5 hK5=>vX O<|vX O<|vV O (yf 72 rfl Qy O pO rfl)<|vV O (aW O hA1 O 0 O hn72 qU)<|vX O<|vV O (bJ O Qb Qh O (show IntKind.u64.wrap (0:Int)=0 by decide)) fun a hF=>?_
  refine vR hF<|vV O (bn O O O (show IntKind.u64.wrap ((n:Int)+0)=(n:Int) by rw [IntKind.wrap_u64]; omega)) fun a hF=>?_
  refine vR hF<|vX O<|vV O (yf 72 rfl Qy O pO rfl) fun a hF=>?_
  refine az O (fun K hK=>dI hF O O hA1 O O 0 O ag rfl pO (fun w2 hA2=>hK _ _ ?_))
  replace hA2:At w [(hb,246,cs)] w2:=by rw [yl hn72] at hA2; exact hA2
  refine aG<|hK5 _ _ ?_
  refine wS hF fun K6 hK6=>vX O<|vX O<|vV O (jf O PZ lG rfl (.some rfl (rfl:(0:Int)=((0:Nat):Int))) (.none 0) (P5 _) (PU _) (show Value.slice (sub A 0 c 1) (0-0) (c-0)= .slice A 0 c by rw [sub_zero]; rfl)) fun a hF=>?_
  refine vR hF<|vX O<|vE hK6<|wQ fun K7 hK7=>wT fun K8 hK8=>vX O<|vX O<|vV O (bn O O O (PX _ ag))<|vV O (aB O O O O O)<|vE hK8 fun a hF=>?_
  refine aF hF O (dB ag) ?_
  apply wp_ret
  refine JI hF O ?_
  exact ⟨rfl,cs,hH,hA2⟩
 ·refine au hF O (ik ag) ?_
  apply wp_skip
  refine hK1 _ _ ?_
  apply wp_seq_k; intro K9 hK9
  apply wp_block
  refine bH (G:=Unit) (fun _ a x=>Fr 77 [(0,.pointer (some ⟨hb,0,none⟩)),(1,.slice A 0 c)] a∧At w [(hb,246,cs)] x) (fun _=>0) () ⟨hF.keep [0,1] rfl,hA0⟩ ?_
  clear hF hA0
  rintro _ a wr ⟨hF,hA0⟩
  apply wp_seq_k; intro K10 hK10
  refine wS hF fun K11 hK11=>vX O<|vV O (aU O PZ O O)<|vV O (aB O O O O O)<|vE hK11 fun a hF=>?_
  refine au hF O (vZ ae) ?_
  apply wp_exit
  refine hK9 _ _ ?_
  refine aT 14 [9,14] [0,1,2,3,4,5,6,7,8,9,10,11,12,13,14] (At w [(hb,246,cs)]) af af (hA0.drew) ?_
  refine pR hF<|pX O O<|pX O O<|pW O O (fun _=>yf 72 rfl Qy O pO rfl)<|pV O O (fun x hx=>aW O hx O 0 O hn72 qU)<|pX O O<|pX O O<|pW O O (fun _=>yf 8 O Qy O CG O)<|pW O O (fun _=>jC O Qx lG rfl (.none 0) (.none 64) ag ag kF)<|pX O O fun a hF=>?_
  refine iE O O O (fun K hK=>wF hF O ae rfl hA0.drew PZ lG rfl rfl [] (Nat.min_eq_left (PU _)).symm (Bts.nil _ _) 0 0 O (fun h=>absurd h ae) (by simp) (fun w1 a hF hA1=>hK _ _ (fun _=>by rw [← mJ cs 0]; exact hA1) ?_))
  replace hA1:At w [(hb,246,cs)] w1:=by rw [← mJ cs 0]; exact hA1
  replace hF:Fr 77 ((72,.int .i64 0)::_) a:=hF
  refine pR hF<|pW O O (fun _=>bJ O Qb Qh O (show IntKind.u64.wrap (0:Int)=0 by decide)) fun a hF=>?_
  refine pR hF<|pW O O (fun _=>bn O O O (show IntKind.u64.wrap ((n:Int)+0)=(n:Int) by rw [IntKind.wrap_u64]; omega)) fun a hF=>?_
  refine pR hF<|pX O O<|pW O O (fun _=>yf 72 rfl Qy O pO rfl) fun a hF=>?_
  refine iE O O O (fun K hK=>dI hF O O hA1 O O 0 O ag rfl pO (fun w2 hA2=>hK _ _ (fun h=>absurd h ae) ?_))
  replace hA2:At w [(hb,246,cs)] w2:=by rw [yl hn72] at hA2; exact hA2
  refine bG ?_
  refine jH hF Tryz.results163 ?_
  exact ⟨rfl,cs,hH,hA2⟩
theorem D8 (w:World) (hb:Nat) (m:List UInt8) (cs:List Value) (hH:HS m cs) (hrow:w.heap[hb]? = some (.cells cs.toArray 246 (0,0))) (A:Option Addr) (l:List UInt8) (c:Nat)
  (hr:Bts w A l) (hc:l.length≤c) (hoff:l≠[]→Off A hb) (hsz:m.length+l.length<1152921504606846976) (hT:Tab w) (hb0:hb≠2) :
  Calls Tryz.prog 163 #[.pointer (some ⟨hb,0,none⟩),.slice A l.length c] w (Wrote w hb (m++l)):=by
 by_cases hl:l=[]
 ·subst hl
  rw [List.append_nil]
  exact Ai w hb m cs hH hrow A c (by simpa using hsz)
 ·exact write_any w hb m cs hH hrow A l c hr hc (hoff hl) hsz hT hb0
theorem MF {w:World} {A:Option Addr} {l:List UInt8} {g:Nat} (h:Bts w A l) (hg:w.heap.size≤g):l≠[]→Off A g:=fun hne ad he=>by
 obtain ⟨b,o,rfl,hb,_⟩:=h hne
 cases he
 show b≠g
 omega
end Go.Proofs.YtepbmdlgdaedpaaGreatDoor
namespace Go.Proofs.YtepbmdlgdaedpaaGreatDoor
open Go.RowKit Go.Dk
def Pieces (w:World) (pa:Option Addr) (ps:List Part):Prop :=
  (ps≠[]→∃ b o,pa=some ⟨b,o,none⟩∧b<w.heap.size∧∀ i A c l,ps[i]? = some (A,c,l)→w.cell? ⟨b,o+i,none⟩=some (.slice A l.length c)) ∧
  ∀ A c l,(A,c,l)∈ps→l.length≤c∧Bts w A l
end Go.Proofs.YtepbmdlgdaedpaaGreatDoor
namespace Go.Proofs.YtepbmdlgdaedpaaGreatDoor
open Go.RowKit Go.Dk
theorem xR (w:World) (hb:Nat) (m:List UInt8) (cs:List Value) (hH:HS m cs) (hrow:w.heap[hb]? = some (.cells cs.toArray 246 (0,0))) (A:Option Addr) (l:List UInt8) (c n:Nat) (hn:n=l.length)
    (hr:Bts w A l) (hc:n≤c) (hoff:l≠[]→Off A hb) (hsz:m.length+l.length<1152921504606846976) (hT:Tab w) (hb0:hb≠2) :
    Calls Tryz.prog 163 #[.pointer (some ⟨hb,0,none⟩),.slice A n c] w (Wrote w hb (m++l)):=by
  subst hn
  exact D8 w hb m cs hH hrow A l c hr hc hoff hsz hT hb0
theorem zl (ps:List Part):flat (ps.take ps.length)=flat ps:=by rw [List.take_length]
end Go.Proofs.YtepbmdlgdaedpaaGreatDoor
