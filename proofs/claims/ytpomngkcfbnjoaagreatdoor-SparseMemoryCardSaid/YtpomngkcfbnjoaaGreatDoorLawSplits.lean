/- Texts that belong together, one behind the other. -/
import Derived.Test.YtpomngkcfbnjoaaGreatDoorTwo
import Derived.Test.YtpomngkcfbnjoaaGreatDoorLit
import Derived.Test.YtpomngkcfbnjoaaGreatDoorRefSum
import Derived.Test.YtpomngkcfbnjoaaGreatDoorCut
import Derived.Test.YtpomngkcfbnjoaaGreatDoorSum
namespace Go.Proofs.YtpomngkcfbnjoaaGreatDoor
open Go.RowKit Go.Dk
theorem BK {cs:List Value} {i:Nat} {v:Value} (h:cs[i]? = some v):cs.set i v=cs:=by
 apply List.ext_getElem?
 intro j
 rw [List.getElem?_set]
 split
 ·rename_i e
  subst e
  have:=(List.getElem?_eq_some_iff.1 h).1
  simp only [this,if_true]
  exact h.symm
 ·rfl
theorem oU (cs:List Value) (off:Nat):splice cs off (dc [])=cs:=by simp [splice,dc]
theorem rU {w:World} {L:List Row} (hpos:0<w.heap.size) (h:∀ r∈L,w.heap.size≤(r:Row).1):0 ∉ L.map (fun r:Row=>r.1):=fun hm=>by
 obtain ⟨r,hr,he⟩:=List.mem_map.1 hm
 have:=h r hr
 omega
theorem FX:(Tryz.prog.info? 156).map (·.size)=some 64:=af
theorem Qh:aG Tryz.prog 92:=⟨_,Tryz.func92,af,af⟩
theorem Qg:aG Tryz.prog 93:=⟨_,Tryz.func93,af,af⟩
theorem Qd:aG Tryz.prog 94:=⟨_,Tryz.func94,af,af⟩
set_option maxRecDepth 100000 in
set_option maxHeartbeats 1000000 in
theorem Ef (w:World) (hb:Nat) (m:List UInt8) (cs:List Value) (hH:HS m cs) (hrow:w.heap[hb]? = some (.cells cs.toArray 158 (0,0))) (A:Option Addr) (c:Nat) (hsz:m.length<1152921504606846976) :
  Calls Tryz.prog 93 #[.pointer (some ⟨hb,0,none⟩),.slice A 0 c] w (Wrote w hb m):=by
 have hA0:=At.start1 hrow
 obtain ⟨hl,hn72,_,_⟩:=Fq hH
 obtain ⟨n,hn⟩:∃ n,n=m.length:=⟨_,rfl⟩
 rw [← hn] at hn72
 obtain ⟨h,hh⟩:∃ h,h=n%64:=⟨_,rfl⟩
 have hh64:h<64:=by omega
 refine aJ Tryz.func93 O Tryz.ntmps93 ai (fun a hF=>?_)
 apply wp_seq_k; intro K1 hK1
 refine wS hF fun K2 hK2=>vX O<|vX O<|vV O (yf 72 rfl Ur O tJ rfl)<|vV O (df O hA0 O 0 O hn72 uN)<|vV O (fO O O O ae (show ((n:Int).tmod 64)=(h:Int) by rw [Int.tmod_eq_emod_of_nonneg ag]; omega)) fun a hF=>?_
 refine vR hF<|vV O (fP O Ue TP O (TB _ ag))<|vX O<|vE hK2<|wT fun K3 hK3=>vX O<|vV O (aH O O O O O)<|vE hK3 fun a hF=>?_
 by_cases h0:0<h
 ·refine aZ hF O (mM ag) ?_
  refine wS hF fun K4 hK4=>vX O<|vX O<|vV O (yf 8 O Ur O FX O)<|vX O<|vV O (dG O Uo nV rfl (.some rfl rfl) (.none 64) ag ag rfl)<|vX O fun a hF=>?_
  refine au O (fun K hK=>FQ hF O ae rfl hA0 TC nV rfl rfl [] (Nat.min_eq_left (Tv _)).symm (Bts.nil _ _) 0 0 O (fun h=>absurd h ae) (by simp) (fun w1 a hF hA1=>hK _ _ ?_))
  replace hA1:At w [(hb,158,cs)] w1:=by rw [← oU cs 0]; exact hA1
  replace hF:Fr 77 ((20,.int .i64 0)::_) a:=hF
  refine vR hF<|vX O<|vE hK4<|wT fun K5 hK5=>vX O<|vX O<|vV O (yf 72 rfl Ur O tJ rfl)<|vV O (df O hA1 O 0 O hn72 uN)<|vX O<|vV O (fP O TP Ue O (show IntKind.u64.wrap (0:Int)=0 by decide)) fun a hF=>?_
  refine vR hF<|vV O (bH O O O (show IntKind.u64.wrap ((n:Int)+0)=(n:Int) by rw [IntKind.wrap_u64]; omega)) fun a hF=>?_
  refine vR hF<|vX O<|vV O (yf 72 rfl Ur O tJ rfl) fun a hF=>?_
  refine au O (fun K hK=>fQ hF O O hA1 O O 0 O ag rfl tJ (fun w2 hA2=>hK _ _ ?_))
  replace hA2:At w [(hb,158,cs)] w2:=by rw [BK hn72] at hA2; exact hA2
  refine az<|hK5 _ _ ?_
  refine wS hF fun K6 hK6=>vX O<|vX O<|vV O (ed O TC nV rfl (.some rfl (rfl:(0:Int)=((0:Nat):Int))) (.none 0) (TG _) (Tv _) (show Value.slice (sub A 0 c 1) (0-0) (c-0)= .slice A 0 c by rw [sub_zero]; rfl)) fun a hF=>?_
  refine vR hF<|vX O<|vE hK6<|wQ fun K7 hK7=>wT fun K8 hK8=>vX O<|vX O<|vV O (bH O O O (TB _ ag))<|vV O (aH O O O O O)<|vE hK8 fun a hF=>?_
  refine aZ hF O (dB ag) ?_
  apply wp_ret
  refine FT hF O ?_
  exact ⟨rfl,cs,hH,hA2⟩
 ·refine aS hF O (nT ag) ?_
  apply wp_skip
  refine hK1 _ _ ?_
  apply wp_seq_k; intro K9 hK9
  apply wp_block
  refine bQ (G:=Unit) (fun _ a x=>Fr 77 [(0,.pointer (some ⟨hb,0,none⟩)),(1,.slice A 0 c)] a∧At w [(hb,158,cs)] x) (fun _=>0) () ⟨hF.keep [0,1] rfl,hA0⟩ ?_
  clear hF hA0
  rintro _ a wr ⟨hF,hA0⟩
  apply wp_seq_k; intro K10 hK10
  refine wS hF fun K11 hK11=>vX O<|vV O (aY O TC O O)<|vV O (aH O O O O O)<|vE hK11 fun a hF=>?_
  refine aS hF O (zx ae) ?_
  apply wp_exit
  refine hK9 _ _ ?_
  refine ak 14 [9,14] [0,1,2,3,4,5,6,7,8,9,10,11,12,13,14] (At w [(hb,158,cs)]) af af (hA0.drew) ?_
  refine pR hF<|pX O O<|pX O O<|pW O O (fun _=>yf 72 rfl Ur O tJ rfl)<|pV O O (fun x hx=>df O hx O 0 O hn72 uN)<|pX O O<|pX O O<|pW O O (fun _=>yf 8 O Ur O FX O)<|pW O O (fun _=>dG O Uo nV rfl (.none 0) (.none 64) ag ag dU)<|pX O O fun a hF=>?_
  refine bM O O O (fun K hK=>FQ hF O ae rfl hA0.drew TC nV rfl rfl [] (Nat.min_eq_left (Tv _)).symm (Bts.nil _ _) 0 0 O (fun h=>absurd h ae) (by simp) (fun w1 a hF hA1=>hK _ _ (fun _=>by rw [← oU cs 0]; exact hA1) ?_))
  replace hA1:At w [(hb,158,cs)] w1:=by rw [← oU cs 0]; exact hA1
  replace hF:Fr 77 ((72,.int .i64 0)::_) a:=hF
  refine pR hF<|pW O O (fun _=>fP O TP Ue O (show IntKind.u64.wrap (0:Int)=0 by decide)) fun a hF=>?_
  refine pR hF<|pW O O (fun _=>bH O O O (show IntKind.u64.wrap ((n:Int)+0)=(n:Int) by rw [IntKind.wrap_u64]; omega)) fun a hF=>?_
  refine pR hF<|pX O O<|pW O O (fun _=>yf 72 rfl Ur O tJ rfl) fun a hF=>?_
  refine bM O O O (fun K hK=>fQ hF O O hA1 O O 0 O ag rfl tJ (fun w2 hA2=>hK _ _ (fun h=>absurd h ae) ?_))
  replace hA2:At w [(hb,158,cs)] w2:=by rw [BK hn72] at hA2; exact hA2
  refine aB ?_
  refine jJ hF Tryz.results93 ?_
  exact ⟨rfl,cs,hH,hA2⟩
theorem yK (w:World) (hb:Nat) (m:List UInt8) (cs:List Value) (hH:HS m cs) (hrow:w.heap[hb]? = some (.cells cs.toArray 158 (0,0))) (A:Option Addr) (l:List UInt8) (c:Nat)
  (hr:Bts w A l) (hc:l.length≤c) (hoff:l≠[]→Off A hb) (hsz:m.length+l.length<1152921504606846976) (hT:Tab w) (hb0:hb≠0) :
  Calls Tryz.prog 93 #[.pointer (some ⟨hb,0,none⟩),.slice A l.length c] w (Wrote w hb (m++l)):=by
 by_cases hl:l=[]
 ·subst hl
  rw [List.append_nil]
  exact Ef w hb m cs hH hrow A c (by simpa using hsz)
 ·exact write_any w hb m cs hH hrow A l c hr hc (hoff hl) hsz hT hb0
theorem G8 {w:World} {A:Option Addr} {l:List UInt8} {g:Nat} (h:Bts w A l) (hg:w.heap.size≤g):l≠[]→Off A g:=fun hne ad he=>by
 obtain ⟨b,o,rfl,hb,_⟩:=h hne
 cases he
 show b≠g
 omega
set_option maxRecDepth 100000 in
set_option maxHeartbeats 1000000 in
theorem Fv (w:World) (A:Option Addr) (l:List UInt8) (c n:Nat) (hn:n=l.length) (hc:n≤c) (hB:Bts w A l) (hl:l.length<140737488355328) (hT:Tab w) :
  Calls Tryz.prog 71 #[.slice A n c] w fun e w'=>e= .returned (.agg (dc (sha l)).toArray)∧At w [] w':=by
 subst hn
 have hA0:=At.refl w
 have hpos:0<w.heap.size:=hT.lt
 refine aJ Tryz.func71 O Tryz.ntmps71 ai (fun a hF=>?_)
 refine wp_seq_k fun K1 hK1=>wp_region_lit ?_
 refine au O (fun K hK=>fZ hF O ae rfl hA0 jE (fun b2 w1 a hb2 hF hA1=>hK _ _ ?_))
 refine az<|hK1 _ _ ?_
 refine wp_seq_k fun K2 hK2=>wp_region_lit ?_
 refine au O (fun K hK=>ax hF O ae Qh rfl rfl ?_)
 with_reducible refine (new_any w1).mono ?_
 rintro e' w2 ⟨b3,cs,rfl,hb3,hH,hc2⟩
 refine ⟨_,rfl,fun a hF=>hK _ _ ?_⟩
 have hA2:At w [(b3,158,cs),(b2,25,dc (List.replicate 32 0))] w2:=hA1.thenNew hc2 (eQ hb3)
 clear hc2
 have q3:w.heap.size≤b3:=by have:=hA1.size; omega
 have hn2:∀ cs:List Value,∀ r∈[((b3,158,cs):Row),(b2,25,dc (List.replicate 32 0))],w.heap.size≤r.1:=fun _=>cZ q3 (eQ hb2)
 refine vR hF<|vX O<|vE hK2<|wT fun K3 hK3=>vX O<|vX O fun a hF=>?_
 refine au O (fun K hK=>ax hF O ae Qg rfl rfl ?_)
 with_reducible refine (yK w2 b3 [] cs hH (hA2.row (k:=0) rfl) A l c (hB.fresh hA2 (hn2 _)) hc (G8 hB q3) (by simp only [List.length_nil]; omega) (hT.at_ hA2 (rU hpos (hn2 _))) ag).mono ?_
 rintro e' w3 ⟨rfl,cs2,hH2,hc3⟩
 refine ⟨_,rfl,fun a hF=>hK _ _ ?_⟩
 have hA3:At w [(b3,158,cs2),(b2,25,dc (List.replicate 32 0))] w3:=hA2.then1 (k:=0) rfl hc3
 clear hc3
 rw [List.nil_append] at hH2
 refine az<|hK3 _ _ ?_
 refine wS hF fun K4 hK4=>vX O fun a hF=>?_
 refine au O (fun K hK=>ax hF O ae Qd rfl rfl ?_)
 with_reducible refine (sum_any w3 b3 l cs2 hH2 (hA3.row (k:=0) rfl) ag (hT.at_ hA3 (rU hpos (hn2 _))) ag).mono ?_
 rintro e' w4 ⟨rfl,hc4⟩
 refine ⟨_,rfl,fun a hF=>hK _ _ ?_⟩
 have hA4:At w [(b3,158,cs2),(b2,25,dc (List.replicate 32 0))] w4:=hA3.then0 hc4
 clear hc4
 refine au O (fun K hK=>eu hF O O hA4 O O 1 O (by rw [aj,dH,aj]; rfl) (bz _) (by rw [oV]; rfl) (fun w5 hA5=>hK _ _ ?_))
 refine az<|hK4 _ _ ?_
 apply wp_ret
 refine jq hF Tryz.results71 hA5 O 1 O (by rw [aj,dH]; exact Cb) ?_
 exact ⟨rfl,hA5.clear (cZ q3 (eQ hb2))⟩
end Go.Proofs.YtpomngkcfbnjoaaGreatDoor
namespace Go.Proofs.YtpomngkcfbnjoaaGreatDoor
open Go.RowKit Go.Dk
def Pieces (w:World) (pa:Option Addr) (ps:List Part):Prop :=
  (ps≠[]→∃ b o,pa=some ⟨b,o,none⟩∧b<w.heap.size∧∀ i A c l,ps[i]? = some (A,c,l)→w.cell? ⟨b,o+i,none⟩=some (.slice A l.length c)) ∧
  ∀ A c l,(A,c,l)∈ps→l.length≤c∧Bts w A l
end Go.Proofs.YtpomngkcfbnjoaaGreatDoor
namespace Go.Proofs.YtpomngkcfbnjoaaGreatDoor
open Go.RowKit Go.Dk
theorem Bh (w:World) (hb:Nat) (m:List UInt8) (cs:List Value) (hH:HS m cs) (hrow:w.heap[hb]? = some (.cells cs.toArray 158 (0,0))) (A:Option Addr) (l:List UInt8) (c n:Nat) (hn:n=l.length)
    (hr:Bts w A l) (hc:n≤c) (hoff:l≠[]→Off A hb) (hsz:m.length+l.length<1152921504606846976) (hT:Tab w) (hb0:hb≠0) :
    Calls Tryz.prog 93 #[.pointer (some ⟨hb,0,none⟩),.slice A n c] w (Wrote w hb (m++l)):=by
  subst hn
  exact yK w hb m cs hH hrow A l c hr hc hoff hsz hT hb0
theorem Du (ps:List Part):flat (ps.take ps.length)=flat ps:=by rw [List.take_length]
end Go.Proofs.YtpomngkcfbnjoaaGreatDoor
