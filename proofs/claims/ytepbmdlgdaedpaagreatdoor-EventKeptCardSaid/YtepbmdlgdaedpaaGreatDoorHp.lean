/- Memory in segments: 'Hp w0 S w': w is w0 but for new blocks; those that are listed, segment by segment, lie as listed. Plain lemmas over the model; no program. -/
import Derived.Test.YtepbmdlgdaedpaaGreatDoorMap
/- Memory in segments: 'Hp w0 S w': w is w0 but for new blocks; those that are listed, segment by segment, lie as listed. Plain lemmas over the model; no program. -/
namespace Go.Dk
open Go Go.RowKit
abbrev Item:=Nat × Obj
abbrev Seg:=List Item
@[reducible] def row (g:Nat) (t:TypeId) (cs:List Value):Item:=(g,.cells cs.toArray t (0,0))
def its:List Row→Seg
  | []=>[]
  | r::l=>row r.1 r.2.1 r.2.2::its l
theorem qw (l:List Row):its l=l.map fun r=>row r.1 r.2.1 r.2.2:=by
  induction l with
  | nil=>rfl
  | cons r l ih=>rw [its,ih]; rfl
structure Hl (w0:World) (L:Seg) (w:World):Prop where
  os:w.os=w0.os
  tape:w.tape=w0.tape
  output:w.output=w0.output
  size:w0.heap.size≤w.heap.size
  items:∀ r∈L,w.heap[r.1]? = some r.2
  dist:(L.map (·.1)).Nodup
  new:∀ r∈L,w0.heap.size≤r.1
  frame:∀ k,k<w0.heap.size→w.heap[k]? = w0.heap[k]?
def nth:List Seg→Nat→Option Seg
  | [],_=>none
  | x::_,0=>some x
  | _::r,n+1=>nth r n
def sets:List Seg→Nat→Seg→List Seg
  | [],_,_=>[]
  | _::r,0,y=>y::r
  | x::r,n+1,y=>x::sets r n y
def picks (S:List Seg):List Nat→List Seg
  | []=>[]
  | i::r=>match nth S i with
    | some x=>x::picks S r
    | none=>picks S r
abbrev Hp (w0:World) (S:List Seg) (w:World):Prop:=Hl w0 S.flatten w
section
variable {w0 w w':World} {L L' Z:Seg} {S R:List Seg}
theorem Hl.perm (h:Hl w0 L w) (hp:L.Perm L'):Hl w0 L' w :=
  ⟨h.os,h.tape,h.output,h.size,fun r hr=>h.items r (hp.mem_iff.2 hr),(hp.map (·.1)).nodup_iff.1 h.dist,fun r hr=>h.new r (hp.mem_iff.2 hr),h.frame⟩
theorem Hl.sub (h:Hl w0 L w) (hs:L'.Sublist L):Hl w0 L' w :=
  ⟨h.os,h.tape,h.output,h.size,fun r hr=>h.items r (hs.subset hr),(hs.map (·.1)).nodup h.dist,fun r hr=>h.new r (hs.subset hr),h.frame⟩
theorem Hl.lt (h:Hl w0 L w) {r:Item} (hr:r∈L):r.1<w.heap.size:=(Array.getElem?_eq_some_iff.1 (h.items r hr)).1
theorem Hl.drew (h:Hl w0 L w):Hl w0 L w.drew:=⟨h.os,h.tape,h.output,h.size,h.items,h.dist,h.new,h.frame⟩
theorem Hl.drewN (h:Hl w0 L w) (n:Nat):Hl w0 L (w.drewN n):=⟨h.os,h.tape,h.output,h.size,h.items,h.dist,h.new,h.frame⟩
theorem Hp.start (w:World):Hp w [] w:=⟨rfl,rfl,rfl,Nv _,(fun _ h=>by cases h),List.nodup_nil,(fun _ h=>by cases h),fun _ _=>rfl⟩
theorem Hl.at0 (h:Hl w0 L w):At w0 [] w:=⟨h.os,h.tape,h.output,h.size,(fun _ h=>by cases h),List.nodup_nil,fun k hk _=>h.frame k hk⟩
theorem Hl.repl {X' X:List Row} (h:Hl w0 (its X++Z) w) (hc:At w X' w') (hk:∀ r∈X',r.1∈X.map (·.1)∨w.heap.size≤r.1):Hl w0 (its X'++Z) w':=by
  have hkx:∀ (Y:List Row),(its Y).map (·.1)=Y.map (·.1):=fun Y=>by rw [qw,List.map_map]; rfl
  have hd:=h.dist
  rw [List.map_append,hkx] at hd
  obtain ⟨_,hd2,hd3⟩:=List.nodup_append.1 hd
  have hz:∀ r∈Z,r.1 ∉ X'.map (·.1):=fun r hr hm=>by
    obtain ⟨q,hq,he⟩:=List.mem_map.1 hm
    rcases hk q hq with h1 | h1
    · exact hd3 q.1 h1 r.1 (List.mem_map.2 ⟨r,hr,rfl⟩) he
    · have:=h.lt (Ns _ hr); omega
  have hnew:∀ r∈X',w0.heap.size≤r.1:=fun r hr=>by
    rcases hk r hr with h1 | h1
    · obtain ⟨q,hq,he⟩:=List.mem_map.1 h1
      have h2:=h.new (row q.1 q.2.1 q.2.2) (Nr _ (by rw [qw]; exact List.mem_map.2 ⟨q,hq,rfl⟩))
      simp only at h2
      omega
    · have:=h.size; omega
  refine ⟨hc.os.trans h.os,hc.tape.trans h.tape,hc.output.trans h.output,Nat.le_trans h.size hc.size,fun r hr=>?_,?_,fun r hr=>?_,fun k hk2=>?_⟩
  · rcases List.mem_append.1 hr with hr | hr
    · rw [qw] at hr
      obtain ⟨q,hq,rfl⟩:=List.mem_map.1 hr
      exact hc.rows q hq
    · rw [hc.frame r.1 (h.lt (Ns _ hr)) (hz r hr)]
      exact h.items r (Ns _ hr)
  · rw [List.map_append,hkx,List.nodup_append]
    refine ⟨hc.dist,hd2,fun a ha b hb e=>?_⟩
    obtain ⟨r,hr,rfl⟩:=List.mem_map.1 hb
    exact hz r hr (e ▸ ha)
  · rcases List.mem_append.1 hr with hr | hr
    · rw [qw] at hr
      obtain ⟨q,hq,rfl⟩:=List.mem_map.1 hr
      exact hnew q hq
    · exact h.new r (Ns _ hr)
  · rw [hc.frame k (Nat.lt_of_lt_of_le hk2 h.size) (fun hm=>by
      obtain ⟨q,hq,he⟩:=List.mem_map.1 hm
      have:=hnew q hq
      omega)]
    exact h.frame k hk2
theorem oU {i:Nat} {X:Seg} (h:nth S i=some X):∃ Z:Seg,S.flatten.Perm (X++Z)∧∀ Y:Seg,(Y++Z).Perm (sets S i Y).flatten:=by
  induction S generalizing i with
  | nil=>cases h
  | cons s S ih =>
    cases i with
    | zero =>
      injection h with h
      subst h
      exact ⟨S.flatten,List.Perm.refl _,fun Y=>List.Perm.refl _⟩
    | succ i =>
      obtain ⟨Z,h1,h2⟩:=ih h
      refine ⟨s++Z,?_,fun Y=>?_⟩
      · rw [List.flatten_cons]
        refine (List.Perm.append_left s h1).trans ?_
        rw [← List.append_assoc,← List.append_assoc]
        exact List.perm_append_comm.append_right Z
      · simp only [sets,List.flatten_cons]
        refine List.Perm.trans ?_ (List.Perm.append_left s (h2 Y))
        rw [← List.append_assoc,← List.append_assoc]
        exact List.perm_append_comm.append_right Z
theorem Hp.repl {i:Nat} {X' X:List Row} {T:Seg} (h:Hp w0 S w) (hi:nth S i=some (its X++T)) (hc:At w X' w') (hk:∀ r∈X',r.1∈X.map (·.1)∨w.heap.size≤r.1):Hp w0 (sets S i (its X'++T)) w':=by
  obtain ⟨Z,h1,h2⟩:=oU hi
  have h3:=h.perm h1
  rw [List.append_assoc] at h3
  have h4:=Hl.repl h3 hc hk
  rw [← List.append_assoc] at h4
  exact h4.perm (h2 _)
theorem Hp.then0 (h:Hp w0 S w) (hc:At w [] w'):Hp w0 S w':=by
  have h1:=Hl.repl (X:=[]) (X':=[]) (Z:=S.flatten) h hc (fun _ hr=>by cases hr)
  exact h1
theorem Hp.thenNew {Y:List Row} (h:Hp w0 S w) (hc:At w Y w') (hn:∀ r∈Y,w.heap.size≤r.1):Hp w0 (its Y::S) w' :=
  Hl.repl (X:=[]) (Z:=S.flatten) h hc (fun r hr=> .inr (hn r hr))
theorem Hp.then1 {i g:Nat} {t:TypeId} {cs cs':List Value} {T:Seg} (h:Hp w0 S w) (hi:nth S i=some (row g t cs::T)) (hc:At w [(g,t,cs')] w'):Hp w0 (sets S i (row g t cs'::T)) w' :=
  Hp.repl (X:=[(g,t,cs)]) h hi hc (fun r hr=> .inl (by simp only [List.mem_cons,List.not_mem_nil,or_false] at hr; subst hr; simp))
theorem uT {i:Nat} {X:Seg} (h:nth S i=some X):X∈S:=by
  induction S generalizing i with
  | nil=>cases h
  | cons s S ih =>
    cases i with
    | zero=>injection h with h; subst h; exact Nu ..
    | succ i=>exact Nw _ (ih h)
theorem Hp.rowAt {i g:Nat} {t:TypeId} {cs:List Value} {T:Seg} (h:Hp w0 S w) (hi:nth S i=some (row g t cs::T)):w.heap[g]? = some (.cells cs.toArray t (0,0)) :=
  h.items (row g t cs) (List.mem_flatten.2 ⟨_,uT hi,Nu ..⟩)
theorem Hp.at1 {i g:Nat} {t:TypeId} {cs:List Value} {T:Seg} (h:Hp w0 S w) (hi:nth S i=some (row g t cs::T)):At w [(g,t,cs)] w:=At.start1 (h.rowAt hi)
theorem gK (S:List Seg) (is:List Nat):picks S is=is.filterMap (nth S):=by
  induction is with
  | nil=>rfl
  | cons i is ih =>
    rw [picks,List.filterMap_cons]
    cases nth S i with
    | none=>exact ih
    | some x=>rw [ih]
theorem xy (s:Seg) (S:List Seg) (is:List Nat):picks (s::S) (is.map (· + 1))=picks S is:=by
  induction is with
  | nil=>rfl
  | cons i is ih=>rw [List.map_cons,picks,picks,ih]; rfl
theorem xA (S:List Seg):picks S (List.range S.length)=S:=by
  induction S with
  | nil=>rfl
  | cons s S ih =>
    rw [List.length_cons,List.range_succ_eq_map,picks]
    show s::picks (s::S) ((List.range S.length).map (· + 1))=s::S
    rw [xy,ih]
theorem yX {is:List Nat} (h:is.isPerm (List.range S.length)=true):S.Perm (picks S is):=by
  have h1:=List.isPerm_iff.1 h
  have h2:(picks S (List.range S.length)).Perm (picks S is):=by
    rw [gK,gK]
    exact (List.Perm.filterMap _ h1).symm
  rwa [xA] at h2
theorem Hp.cast (h:Hp w0 S w) {S':List Seg} (e:S.flatten=S'.flatten):Hp w0 S' w:=by
  unfold Hp at *
  rw [← e]
  exact h
theorem Hp.ord (S R:List Seg) (is:List Nat) (h:Hp w0 (S++R) w) (hp:is.isPerm (List.range S.length)=true):Hp w0 (picks S is++R) w:=by
  refine Hl.perm h ?_
  rw [List.flatten_append,List.flatten_append]
  exact (yX hp).flatten.append_right _
theorem Hp.gc (S R:List Seg) (is js:List Nat) (h:Hp w0 (S++R) w) (hp:(is++js).isPerm (List.range S.length)=true):Hp w0 (picks S is++((picks S js).flatten::R)) w:=by
  have h1:=Hp.ord S R (is++js) h hp
  have h2:picks S (is++js)=picks S is++picks S js:=by
    rw [gK,gK,gK,List.filterMap_append]
  rw [h2] at h1
  have h3:((picks S is++picks S js)++R).flatten=(picks S is++((picks S js).flatten::R)).flatten:=by simp
  exact h1.cast h3
theorem Hp.sel (S R:List Seg) (is js:List Nat) (h:Hp w0 (S++R) w) (hp:(is++js).isPerm (List.range S.length)=true):Hp w0 (picks S is++R) w:=by
  refine Hl.sub (Hp.gc S R is js h hp) ?_
  rw [List.flatten_append,List.flatten_append,List.flatten_cons]
  exact List.Sublist.append_left (List.sublist_append_right _ _) _
theorem Hp.join {X Y:Seg} (h:Hp w0 (X::Y::R) w):Hp w0 ((X++Y)::R) w:=by
  have h3:(X::Y::R).flatten=((X++Y)::R).flatten:=by simp
  exact h.cast h3
theorem Hp.part {X Y:Seg} (h:Hp w0 ((X++Y)::R) w):Hp w0 (X::Y::R) w:=by
  have h3:(X::Y::R).flatten=((X++Y)::R).flatten:=by simp
  exact h.cast h3.symm
theorem Hp.nil (h:Hp w0 S w):Hp w0 ([]::S) w:=h
theorem Hp.tail {X:Seg} (h:Hp w0 (X::S) w):Hp w0 S w:=Hl.sub h (by rw [List.flatten_cons]; exact List.sublist_append_right _ _)
def Hq (w0:World) (R:List Seg) (w:World):Prop:=∃ L,Hl w0 L w∧R.flatten⊆L
theorem Hl.q (h:Hp w0 S w):Hq w0 S w:=⟨S.flatten,h,fun _ h=>h⟩
theorem ER (hs:R⊆S):R.flatten⊆S.flatten:=fun r hr=>by
  obtain ⟨X,hX,hr⟩:=List.mem_flatten.1 hr
  exact List.mem_flatten.2 ⟨X,hs hX,hr⟩
theorem Hq.subF (h:Hq w0 S w) (hs:R.flatten⊆S.flatten):Hq w0 R w:=by
  obtain ⟨L,h1,h2⟩:=h
  exact ⟨L,h1,fun _ hx=>h2 (hs hx)⟩
theorem Hq.sub (h:Hq w0 S w) (hs:R⊆S):Hq w0 R w:=h.subF (ER hs)
theorem Ce (S:List Seg) (is:List Nat):picks S is⊆S:=by
  induction is with
  | nil=>intro _ h; cases h
  | cons i is ih =>
    intro x hx
    rw [picks] at hx
    cases hn:nth S i with
    | none=>rw [hn] at hx; exact ih hx
    | some y =>
      rw [hn] at hx
      rcases List.mem_cons.1 hx with rfl | hx
      · exact uT hn
      · exact ih hx
theorem HY (S R:List Seg) (is:List Nat):picks S is++R⊆S++R:=fun x hx=>by
  rcases List.mem_append.1 hx with h | h
  · exact Nr _ (Ce S is h)
  · exact Ns _ h
theorem Hp.qp (S R:List Seg) (is:List Nat) (h:Hp w0 (S++R) w):Hq w0 (picks S is++R) w:=h.q.sub (HY S R is)
theorem qT {w0 w:World} {X:Seg} {S:List Seg} (h:Hp w0 (X::S) w):Hq w0 S w:=h.q.sub (List.subset_cons_of_subset _ (List.Subset.refl _))
theorem hpO {w0 w:World} {L:List Seg} (n:Nat) (is:List Nat) (h:Hp w0 L w) (hp:is.isPerm (List.range (L.take n).length)=true):Hp w0 (picks (L.take n) is++L.drop n) w:=Hp.ord (L.take n) (L.drop n) is (by rw [List.take_append_drop]; exact h) hp
theorem hpS {w0 w:World} {L:List Seg} (n:Nat) (is js:List Nat) (h:Hp w0 L w) (hp:(is++js).isPerm (List.range (L.take n).length)=true):Hp w0 (picks (L.take n) is++L.drop n) w:=Hp.sel (L.take n) (L.drop n) is js (by rw [List.take_append_drop]; exact h) hp
theorem Hq.drew (h:Hq w0 R w):Hq w0 R w.drew:=by
  obtain ⟨S,h1,h2⟩:=h
  exact ⟨S,h1.drew,h2⟩
theorem Hq.mem (h:Hq w0 R w) {X:Seg} (hX:X∈R) {r:Item} (hr:r∈X):w.heap[r.1]? = some r.2:=by
  obtain ⟨L,h1,h2⟩:=h
  exact h1.items r (h2 (List.mem_flatten.2 ⟨X,hX,hr⟩))
theorem Hq.rowAt {i g:Nat} {t:TypeId} {cs:List Value} {T:Seg} (h:Hq w0 R w) (hi:nth R i=some (row g t cs::T)):w.heap[g]? = some (.cells cs.toArray t (0,0)):=h.mem (uT hi) (Nu ..)
theorem Hq.old (h:Hq w0 R w) {k:Nat} (hk:k<w0.heap.size):w.heap[k]? = w0.heap[k]? := by
  obtain ⟨S,h1,_⟩:=h
  exact h1.frame k hk
theorem Hq.size (h:Hq w0 R w):w0.heap.size≤w.heap.size:=by
  obtain ⟨S,h1,_⟩:=h
  exact h1.size
def Rc (w0:World) (R:List Seg) (A:Option Addr) (W:List Value):Prop :=
  W≠[]→∃ b o,A=some ⟨b,o,none⟩∧∀ x,Hq w0 R x→b<x.heap.size∧∀ i,i<W.length→x.cell? ⟨b,o+i,none⟩=W[i]?
abbrev Rd (w0:World) (R:List Seg) (A:Option Addr) (l:List UInt8):Prop:=Rc w0 R A (dc l)
section
variable {A:Option Addr} {W:List Value} {l:List UInt8}
theorem Rc.nil:Rc w0 R A []:=fun h=>absurd rfl h
theorem Rc.mono (h:Rc w0 R A W) (hs:R⊆S):Rc w0 S A W:=fun hne=>by
  obtain ⟨b,o,h1,h2⟩:=h hne
  exact ⟨b,o,h1,fun x hx=>h2 x (hx.sub hs)⟩
theorem Rc.monoF (h:Rc w0 R A W) (hs:R.flatten⊆S.flatten):Rc w0 S A W:=fun hne=>by
  obtain ⟨b,o,h1,h2⟩:=h hne
  exact ⟨b,o,h1,fun x hx=>h2 x (hx.subF hs)⟩
theorem Rc.ofRow {i g off:Nat} {t:TypeId} {cs:List Value} {T:Seg} (hi:nth R i=some (row g t cs::T)) (hW:(cs.drop off).take W.length=W):Rc w0 R (some ⟨g,off,none⟩) W:=fun _ =>
  ⟨g,off,rfl,fun x hx=>⟨kF (hx.rowAt hi),fun j hj=>by
    rw [cell_of_row x g (off+j) _ t (0,0) (hx.rowAt hi),List.getElem?_toArray,← List.getElem?_drop]
    conv=>rhs; rw [← hW,List.getElem?_take,if_pos hj]⟩⟩
theorem Rd.old (h:Bts w0 A l):Rd w0 R A l:=fun hne=>by
  obtain ⟨b,o,h1,h2,h3⟩:=h (fun e=>hne (by rw [e]; rfl))
  refine ⟨b,o,h1,fun x hx=>⟨by have:=hx.size; omega,fun i hi=>?_⟩⟩
  rw [aW] at hi
  rw [rQ hi,← h3 i hi]
  simp only [World.cell?,hx.old h2]
theorem Rc.bts (h:Rd w0 R A l) (hq:Hq w0 R w):Bts w A l:=fun hne=>by
  obtain ⟨b,o,h1,h2⟩:=h (fun e=>hne (by have:=congrArg List.length e; rw [aW] at this; exact List.length_eq_zero_iff.1 this))
  obtain ⟨h3,h4⟩:=h2 w hq
  exact ⟨b,o,h1,h3,fun i hi=>by rw [h4 i (by rw [aW]; exact hi),rQ hi]⟩
theorem Rc.take (h:Rc w0 R A W) (n:Nat):Rc w0 R A (W.take n):=fun hne=>by
  obtain ⟨b,o,h1,h2⟩:=h (fun e=>hne (by rw [e,List.take_nil]))
  refine ⟨b,o,h1,fun x hx=>⟨(h2 x hx).1,fun i hi=>?_⟩⟩
  rw [List.length_take] at hi
  rw [(h2 x hx).2 i ag,List.getElem?_take,if_pos ag]
theorem Rc.drop (h:Rc w0 R A W) (k size:Nat) {cap:Nat} (hc:W.length≤cap*size):Rc w0 R (sub A k cap size) (W.drop (k*size)):=fun hne=>by
  have hk:k*size<W.length:=by
    rcases Nat.lt_or_ge (k*size) W.length with h1 | h1
    · exact h1
    · exact absurd (List.drop_eq_nil_iff.2 h1) hne
  obtain ⟨b,o,rfl,h2⟩:=h (fun e=>by rw [e] at hk; exact absurd hk (Nat.not_lt_zero _))
  have hne2:cap≠k:=fun e=>by subst e; omega
  refine ⟨b,o+k*size,by unfold Dk.sub; rw [if_neg hne2,Option.map_some,Addr.add_mid],fun x hx=>⟨(h2 x hx).1,fun i hi=>?_⟩⟩
  rw [List.length_drop] at hi
  rw [Nat.add_assoc,(h2 x hx).2 (k*size+i) ag,List.getElem?_drop]
theorem Rd.drop (h:Rd w0 R A l) (k:Nat) {cap:Nat} (hc:l.length≤cap):Rd w0 R (sub A k cap 1) (l.drop k):=by
  have h1:=Rc.drop h k 1 (cap:=cap) (by rw [aW]; omega)
  rwa [Nat.mul_one,IP] at h1
theorem Rd.take (h:Rd w0 R A l) (n:Nat):Rd w0 R A (l.take n):=by
  have h1:=Rc.take h n
  rwa [dc_take] at h1
end
end
def Buf (e:TypeId) (size:Nat) (X:Seg) (v:Value) (n:Nat) (W:List Value):Prop :=
  W.length=n*size∧((v= .slice none 0 0∧n=0∧X=[])∨∃ g c B Z,v= .slice (some ⟨g,B.length,none⟩) n c∧(n≤c∧c≤9223372036854775807)∧Z.length=(c-n)*size∧X=[row g e (B++W++Z)])
section
variable {P:Program} {Q:Exit→Act→World→Prop} {w w0 w':World} {n:Nat} {F:List (Nat × Value)} {a:Act} {o:Oper} {d:Nat} {R S:List Seg} {X:Seg} {e:TypeId} {size m:Nat} {v:Value} {W:List Value} {K:Act→World→Prop} {x y z:Operand} {t tx ty te:TypeId}
theorem Buf.nil (e:TypeId) (size:Nat):Buf e size [] (.slice none 0 0) 0 []:=⟨by simp,.inl ⟨rfl,rfl,rfl⟩⟩
theorem Buf.cap (h:Buf e size X v m W):∃ A c,v= .slice A m c∧m≤c∧c≤9223372036854775807:=by
  rcases h.2 with ⟨h1,h2,_⟩ | ⟨g,c,_,_,h1,h2,_⟩
  · subst h2; exact ⟨_,_,h1,Nv _,ae⟩
  · exact ⟨_,_,h1,h2.1,h2.2⟩
theorem Buf.slice (h:Buf e size X v m W):∃ A c,v= .slice A m c∧m≤c:=by
  obtain ⟨A,c,h1,h2,_⟩:=h.cap
  exact ⟨A,c,h1,h2⟩
theorem Buf.one (h:Buf e size X v m W):v.oneCell'=true:=by
  obtain ⟨A,c,rfl,_⟩:=h.slice
  rfl
theorem Buf.mk1 {g c:Nat} {Z:List Value} (hW:W.length=m*size) (hc:m≤c) (hM:c≤9223372036854775807) (hZ:Z.length=(c-m)*size):Buf e size [row g e (W++Z)] (.slice (some ⟨g,0,none⟩) m c) m W :=
  ⟨hW,.inr ⟨g,c,[],Z,rfl,⟨hc,hM⟩,hZ,rfl⟩⟩
theorem Buf.full {g:Nat} (hW:W.length=m*size) (hM:m≤9223372036854775807):Buf e size [row g e W] (.slice (some ⟨g,0,none⟩) m m) m W :=
  ⟨hW,.inr ⟨g,m,[],[],rfl,⟨Nv _,hM⟩,by simp,by simp⟩⟩
theorem Buf.rc (h:Buf e size X v m W) (hX:X∈R):∃ A c,v= .slice A m c∧m≤c∧Rc w0 R A W:=by
  rcases h.2 with ⟨h1,h2,h3⟩ | ⟨g,c,B,Z,h1,h2,h3,h4⟩
  · have hW:W=[]:=List.length_eq_zero_iff.1 (by rw [h.1,h2,Nat.zero_mul])
    subst h2 hW
    exact ⟨none,0,h1,Nv _,Rc.nil⟩
  · refine ⟨_,c,h1,h2.1,fun _=>⟨g,B.length,rfl,fun x hx=>?_⟩⟩
    have hr:=hx.mem hX (r:=row g e (B++W++Z)) (by rw [h4]; exact Nu ..)
    refine ⟨kF hr,fun i hi=>?_⟩
    rw [cell_of_row x g (B.length+i) _ e (0,0) hr,List.getElem?_toArray,List.append_assoc,List.getElem?_append_right (Nat.le_add_right _ _),Nat.add_sub_cancel_left,List.getElem?_append_left hi]
theorem Buf.rd {l:List UInt8} (h:Buf e 1 X v m (dc l)) (hX:X∈R):m=l.length∧∃ A c,v= .slice A l.length c∧l.length≤c∧Rd w0 R A l:=by
  have hm:m=l.length:=by have:=h.1; rw [aW] at this; omega
  obtain ⟨A,c,h1,h2,h3⟩:=h.rc (w0:=w0) hX
  exact ⟨hm,A,c,by rw [h1,hm],ag,h3⟩
theorem Dj {bytes:Nat} (ho:o.op= .call { callee:= .builtin .append,args := #[x,y],argTypes := #[t,tx] })
    (hA:Hp w0 S w) {k:Nat} (hk:nth S k=some X) (hO:Buf e size X v m W) (hu:P.underlying t=some (.slice e)) (hb:gV P e size bytes) (hx:a.eval x=v)
    {yv:Value} (hy:a.eval y=yv) {j:Nat} {news:List Value} (hs:Src P size tx yv j news w) (hmax:(m+j+(m+j)/4+192)*bytes≤281474976710656) (hbp:0<bytes) :
    ∃ v' X' w',(execOp a.eval o).run P w= .ok (.value v') w'∧Buf e size X' v' (m+j) (W++news)∧Hp w0 (sets S k X') w':=by
  obtain ⟨i,z,hi,hz,hsz,hbb,hzs⟩:=hb
  have hmx:m+j+(m+j)/4+192≤281474976710656:=Nat.le_trans (Nat.le_mul_of_pos_right _ hbp) hmax
  have hs':Src P i.size tx yv j news w:=by rw [hsz]; exact hs
  have hgrow:∀ (A:Option Addr) (c:Nat),v= .slice A m c→c<m+j→(Builtin.firstCells i.size m (.slice A m c)).run P w.drew= .ok W.toArray w.drew →
      ∃ v' X' w',(execOp a.eval o).run P w= .ok (.value v') w'∧Buf e size X' v' (m+j) (W++news)∧Hp w0 (sets S k X') w':=by
    intro A c hv hg hold
    subst hv
    have hcap:Builtin.nextslicecap (m+j) c*i.bytes≤281474976710656:=by
      have h1:=nextslicecap_le_wide (need:=m+j) (old:=c) hg
      rw [hbb]
      exact Nat.le_trans (Nat.mul_le_mul_right _ h1) hmax
    have hrun:=run_append_grow_src (P:=P) w t tx o.type e i z hu hi hz A m c W hold yv j news hs' hg ag hcap
    have hqge:=grownCap_ge w (m+j) c e
    have hqle:=grownCap_le_maxLen w (m+j) c e (by show m+j≤9223372036854775807; omega)
    have hmx:maxLen=9223372036854775807:=rfl
    generalize grownCap w (m+j) c e=q at hrun hqge hqle
    have h1:=(At.refl w).drew.alloc ((W++news).toArray++Builtin.zeroCells z.cells (q-(m+j))) e
    rw [Array.toList_append,List.toList_toArray] at h1
    refine ⟨.slice (some ⟨w.heap.size,0,none⟩) (m+j) q,[row w.heap.size e ((W++news)++(Builtin.zeroCells z.cells (q-(m+j))).toList)],w.drew.alloc (.cells ((W++news).toArray++Builtin.zeroCells z.cells (q-(m+j))) e),?_,Buf.mk1 ?_ hqge ag (by rw [BF,hzs]),?_⟩
    · unfold execOp
      simp only [ho,hx,hy,resolve,invoke,builtin,Sem.run_bind,Sem.run_pure,Result.andThen_ok,List.map_toArray,List.map_cons,List.map_nil,hrun]
    · rw [List.length_append,hO.1,hs.newsLen,Nat.add_mul]
    · obtain ⟨Z,p1,p2⟩:=oU hk
      have h2:Hl w0 (its []++Z) w:=(Hl.perm hA p1).sub (List.sublist_append_right _ _)
      exact (Hl.repl h2 h1 (fun r hr=> .inr (by simp only [List.mem_cons,List.not_mem_nil,or_false] at hr; subst hr; exact Nv _))).perm (p2 _)
  rcases hO.2 with ⟨hv,hn,hX⟩ | ⟨g,c,B,Z,hv,hnc,hZ,hX⟩
  · subst hn
    have hW:W=[]:=List.length_eq_zero_iff.1 (by rw [hO.1]; omega)
    subst hW
    by_cases hm:j=0
    · subst hm
      have hnews:news=[]:=List.length_eq_zero_iff.1 (by rw [hs.newsLen]; omega)
      refine ⟨v,X,w,?_,by rw [hnews]; exact hO,?_⟩
      · subst hv
        have hlen:=hs'.len w
        have hcells:=hs'.cells
        rw [hnews] at hcells
        unfold execOp
        rcases hs.kind with ⟨e',hk⟩ | hk <;>
          simp [ho,hx,hy,resolve,invoke,builtin,Builtin.append_,run_underlying hu,run_underlying hk,sizeOf,typeInfo,hi,hlen,hcells]
      · obtain ⟨Z,p1,p2⟩:=oU hk
        exact (Hl.perm hA p1).perm (p2 _)
    · exact hgrow none 0 hv ag (run_firstCells_none w.drew i.size 0 0 0)
  · subst hX
    have hA1:=hA.at1 hk
    have hk1:[((g,e,B++W++Z):Row)][0]? = some (g,e,B++W++Z):=rfl
    by_cases hroom:m+j≤c
    · have hnl:news.length≤Z.length:=by
        rw [hs.newsLen,hZ]; exact Nat.mul_le_mul_right _ ag
      have hWl:m*i.size=W.length:=by rw [hsz,hO.1]
      have hrun:=run_append_room_src (P:=P) w t tx o.type e i hu hi g B.length m c yv j news hs' hroom
        (fun j hj=>by
          rw [hA1.cell hk1,hWl,List.getElem?_eq_getElem (by rw [List.length_append,List.length_append]; omega)]; rfl)
        (fun j hj=>hA1.frozen hk1 _)
      rw [hWl] at hrun
      have h1:=hA1.setCells (off:=B.length+W.length) (new:=news) hk1 (by rw [List.length_append,List.length_append]; omega)
      have e1:splice (B++W++Z) (B.length+W.length) news=B++(W++news)++Z.drop news.length:=by
        unfold splice
        rw [List.take_left' (by rw [List.length_append]),List.drop_append,List.drop_of_length_le (by rw [List.length_append]; omega),List.nil_append,List.length_append,show B.length+W.length+news.length-(B.length+W.length)=news.length by omega]
        simp
      rw [e1] at h1
      refine ⟨.slice (some ⟨g,B.length,none⟩) (m+j) c,[row g e (B++(W++news)++Z.drop news.length)],_,?_,⟨?_,.inr ⟨g,c,B,Z.drop news.length,rfl,⟨hroom,hnc.2⟩,?_,rfl⟩⟩,hA.then1 hk h1⟩
      · unfold execOp
        simp only [ho,hx,hy,hv,resolve,invoke,builtin,Sem.run_bind,Sem.run_pure,Result.andThen_ok,List.map_toArray,List.map_cons,List.map_nil,hrun]
      · rw [List.length_append,hO.1,hs.newsLen,Nat.add_mul]
      · rw [List.length_drop,hZ,hs.newsLen,← Nat.sub_mul,Nat.sub_sub]
    · exact hgrow (some ⟨g,B.length,none⟩) c hv ag (run_firstCells_some (P:=P) w.drew i.size m ⟨g,B.length,none⟩ m c W (by rw [hO.1,hsz]) (fun j u hj=>by
          rw [Addr.add_mid,hA1.drew.cell hk1,List.append_assoc,List.getElem?_append_right (Nat.le_add_right _ _),Nat.add_sub_cancel_left,List.getElem?_append_left (List.getElem?_eq_some_iff.1 hj).1,hj]))
theorem cO {bytes:Nat} (hF:Fr n F a) (hd:o.dst=some d) (hlt:d<n) (ho:o.op= .call { callee:= .builtin .append,args := #[x,y],argTypes := #[t,tx] })
    (hA:Hp w0 S w) (k:Nat) (hk:nth S k=some X) (hO:Buf e size X v m W) (hu:P.underlying t=some (.slice e)) (hb:gV P e size bytes) (hx:ev F x=some v)
    {yv:Value} (hy:ev F y=some yv) {j:Nat} {news:List Value} (hs:Src P size tx yv j news w) (hmax:(m+j+(m+j)/4+192)*bytes≤281474976710656) (hbp:0<bytes)
    (h:∀ v' X' w' a',Buf e size X' v' (m+j) (W++news)→Fr n ((d,v')::F) a'→Hp w0 (sets S k X') w'→K a' w'):o.wp P a w K Q:=by
  obtain ⟨v',X',w',h1,h2,h3⟩:=Dj (a:=a) ho hA hk hO hu hb (hF.ev hx) (hF.ev hy) hs hmax hbp
  unfold Oper.wp
  rw [h1,Oper.upon_value,hd]
  exact h v' X' w' _ h2 (hF.put hlt) h3
theorem aX (hF:Fr n F a) (hd:o.dst=none) (ho:o.op= .store t x y) (hA:Hp w0 S w) {g off:Nat} (hx:ev F x=some (.pointer (some ⟨g,off,none⟩)))
    {u:Value} (hy:ev F y=some u) (k:Nat) {cs:List Value} {T:Seg} (hk:nth S k=some (row g te cs::T)) (hl:off<cs.length) (hv:u.oneCell'=true) (hs:(P.info? t).map (·.size)=some 1)
    (h:∀ w',Hp w0 (sets S k (row g te (cs.set off u)::T)) w'→K a w'):o.wp P a w K Q :=
  jA hF hd ho (hA.at1 hk) hx hy 0 rfl hl hv hs (fun w' hw=>h w' (hA.then1 hk hw))
theorem lN (hF:Fr n F a) (hd:o.dst=none) (ho:o.op= .store t x y) (hA:Hp w0 S w) {g off:Nat} (hx:ev F x=some (.pointer (some ⟨g,off,none⟩)))
    {new:List Value} (hy:ev F y=some (.agg new.toArray)) (k:Nat) {cs:List Value} {T:Seg} (hk:nth S k=some (row g te cs::T)) (hl:off+new.length≤cs.length) (hv:∀ v∈new,v.oneCell'=true) (hs:(P.info? t).map (·.size)=some new.length)
    (h:∀ w',Hp w0 (sets S k (row g te (splice cs off new)::T)) w'→K a w'):o.wp P a w K Q :=
  pz hF hd ho (hA.at1 hk) hx hy 0 rfl hl hv hs (fun w' hw=>h w' (hA.then1 hk hw))
theorem bG (hF:Fr n F a) (hd:o.dst=none) (ho:o.op= .store t x y) (hA:Hp w0 S w) {g:Nat} (hx:ev F x=some (.pointer (some ⟨g,0,none⟩)))
    {new:List Value} (hy:ev F y=some (.agg new.toArray)) (k:Nat) {cs:List Value} {T:Seg} (hk:nth S k=some (row g te cs::T)) (hl:new.length=cs.length) (hv:∀ v∈new,v.oneCell'=true) (hs:(P.info? t).map (·.size)=some cs.length)
    (h:∀ w',Hp w0 (sets S k (row g te new::T)) w'→K a w'):o.wp P a w K Q :=
  wL hF hd ho (hA.at1 hk) hx hy 0 rfl hl hv hs (fun w' hw=>h w' (hA.then1 hk hw))
theorem xG {w:World} {g:Nat} {t:TypeId} {cs:List Value} (h:w.heap.size≤g):∀ r∈[((g,t,cs):Row)],w.heap.size≤r.1:=H7 h
theorem dC (hF:Fr n F a) (hd:o.dst=some d) (hlt:d<n) (ho:o.op= .alloc t) (hA:Hp w0 S w) {cs:List Value} (hz:dB P t (.agg cs.toArray))
    (h:∀ g w' a',w.heap.size≤g→Fr n ((d,.pointer (some ⟨g,0,none⟩))::F) a'→Hp w0 ([row g t cs]::S) w'→K a' w'):o.wp P a w K Q :=
  Dv hF hd hlt ho (At.refl w) hz (fun g w' a' hg hF' hw=>h g w' a' hg hF' (hA.thenNew hw (xG hg)))
theorem Cj (hF:Fr n F a) (hd:o.dst=some d) (hlt:d<n) (ho:o.op= .alloc t) (hA:Hp w0 S w) {z:Value} (hz:dB P t z) (hz1:z.cells = #[z])
    (h:∀ g w' a',w.heap.size≤g→Fr n ((d,.pointer (some ⟨g,0,none⟩))::F) a'→Hp w0 ([row g t [z]]::S) w'→K a' w'):o.wp P a w K Q :=
  BJ hF hd hlt ho (At.refl w) hz hz1 (fun g w' a' hg hF' hw=>h g w' a' hg hF' (hA.thenNew hw (xG hg)))
theorem ed (hF:Fr n F a) (hd:o.dst=some d) (hlt:d<n) (ho:o.op= .box t x) (hA:Hp w0 S w) {cs:List Value} (hx:ev F x=some (.agg cs.toArray))
    (h:∀ g w' a',w.heap.size≤g→Fr n ((d,.pointer (some ⟨g,0,none⟩))::F) a'→Hp w0 ([row g t cs]::S) w'→K a' w'):o.wp P a w K Q :=
  JF hF hd hlt ho (At.refl w) hx (fun g w' a' hg hF' hw=>h g w' a' hg hF' (hA.thenNew hw (xG hg)))
theorem Ar (hF:Fr n F a) (hd:o.dst=some d) (hlt:d<n) (ho:o.op= .box t x) (hA:Hp w0 S w) {z:Value} (hx:ev F x=some z) (hz1:z.cells = #[z])
    (h:∀ g w' a',w.heap.size≤g→Fr n ((d,.pointer (some ⟨g,0,none⟩))::F) a'→Hp w0 ([row g t [z]]::S) w'→K a' w'):o.wp P a w K Q :=
  GM hF hd hlt ho (At.refl w) hx hz1 (fun g w' a' hg hF' hw=>h g w' a' hg hF' (hA.thenNew hw (xG hg)))
theorem Il {tx ty e:TypeId} (hF:Fr n F a) (hd:o.dst=some d) (hlt:d<n) (ho:o.op= .call { callee:= .builtin .copy,args := #[x,y],argTypes := #[tx,ty] }) (hA:Hp w0 S w)
    (hu:P.underlying tx=some (.slice e)) (hs:(P.info? e).map (·.size)=some 1) {D A:Option Addr} {dLen dc' sLen sc:Nat} (hx:ev F x=some (.slice D dLen dc')) (hy:ev F y=some (.slice A sLen sc))
    (l:List UInt8) (hl:l.length=Nat.min sLen dLen) (hr:Bts w A l) {g:Nat} (off:Nat) (k:Nat) {cs:List Value} {T:Seg} (hk:nth S k=some (row g te cs::T)) (hD:0<l.length→D=some ⟨g,off,none⟩) (hfit:off+l.length≤cs.length)
    (h:∀ w' a',Fr n ((d,.int .i64 (l.length:Nat))::F) a'→Hp w0 (sets S k (row g te (splice cs off (dc l))::T)) w'→K a' w'):o.wp P a w K Q :=
  GL hF hd hlt ho (hA.at1 hk) hu hs hx hy l hl hr off 0 rfl hD hfit (fun w' a' hF' hw=>h w' a' hF' (hA.then1 hk hw))
theorem kG {m:Nat} {ps:Array (Nat × Operand)} {qs:Array (Nat × Value)} {cells:Array Value} (hF:Fr n F a) (hd:o.dst=some d) (hlt:d<n) (ho:o.op= .buildSlice t m ps) (hA:Hp w0 S w)
    (hps:ps.toList.map (fun p=>(p.1,ev F p.2))=qs.toList.map (fun q=>(q.1,some q.2)))
    (hr:∀ w:World,(Instr.buildSlice t m qs).run P w= .ok (.slice (some ⟨w.heap.size,0,none⟩) m m) (w.alloc (.cells cells e)))
    (h:∀ g w' a',w.heap.size≤g→Fr n ((d,.slice (some ⟨g,0,none⟩) m m)::F) a'→Hp w0 ([row g e cells.toList]::S) w'→K a' w'):o.wp P a w K Q:=by
  have h1:∀ (xs:List (Nat × Operand)) (vs:List (Nat × Value)),xs.map (fun p=>(p.1,ev F p.2))=vs.map (fun q=>(q.1,some q.2))→xs.map (fun p=>(p.1,a.eval p.2))=vs:=by
    intro xs
    induction xs with
    | nil=>intro vs h; cases vs <;> simp_all
    | cons p xs ih =>
      intro vs h
      cases vs with
      | nil=>simp at h
      | cons q vs =>
        simp only [List.map_cons,List.cons.injEq,Prod.mk.injEq] at h
        simp only [List.map_cons,hF.ev h.1.2,h.1.1,ih vs h.2]
  have h2:(ps.map fun (p:Nat × Operand)=>(p.1,a.eval p.2))=qs:=by
    apply Array.ext'
    rw [Array.toList_map]
    exact h1 _ _ hps
  exact Dw ho (At.refl w) (by rw [← hr w,← h2]) (fun g w' hg hw=>by rw [hd]; exact h g w' _ hg (hF.put hlt) (hA.thenNew hw (xG hg)))
theorem aU {off:Nat} (ho:o.op= .load t x) (hA:Hq w0 R w) {g:Nat} (hx:ev F x=some (.pointer (some ⟨g,off,none⟩))) (i:Nat) {cs:List Value} {T:Seg} (hk:nth R i=some (row g te cs::T)) {u:Value} (hv:cs[off]? = some u) (hn:bi P t=true):Yd P n F o w u :=
  bQ ho (At.start1 (hA.rowAt hk)) hx 0 rfl hv hn
theorem cZ {off m:Nat} (ho:o.op= .load t x) (hA:Hq w0 R w) {g:Nat} (hx:ev F x=some (.pointer (some ⟨g,off,none⟩))) (i:Nat) {cs new:List Value} {T:Seg} (hk:nth R i=some (row g te cs::T)) (hr:isRow P t m=true) (hn:off+m≤cs.length) (he:(cs.drop off).take m=new):Yd P n F o w (.agg new.toArray) :=
  BI ho (At.start1 (hA.rowAt hk)) hx 0 rfl hr hn he
theorem yZ {m:Nat} (ho:o.op= .load t x) (hA:Hq w0 R w) {g:Nat} (hx:ev F x=some (.pointer (some ⟨g,0,none⟩))) (i:Nat) {new:List Value} {T:Seg} (hk:nth R i=some (row g te new::T)) (hr:isRow P t m=true) (hn:new.length=m):Yd P n F o w (.agg new.toArray):=cZ ho hA hx i hk hr (by rw [hn]; omega) (by rw [List.drop_zero]; exact Ny (by rw [hn]; exact Nv _))
theorem Rc.ne {A:Option Addr} {i:Nat} (h:Rc w0 R A W) (hi:i<W.length):∃ b o,A=some ⟨b,o,none⟩∧∀ x,Hq w0 R x→b<x.heap.size∧∀ i,i<W.length→x.cell? ⟨b,o+i,none⟩=W[i]? :=
  h (fun e=>by rw [e] at hi; exact absurd hi (Nat.not_lt_zero _))
theorem bV {b p:Nat} (ho:o.op= .load t x) (hA:Hq w0 R w) (hx:ev F x=some (.pointer (some ⟨b,p,none⟩))) {q:Nat} (hc:∀ x,Hq w0 R x→b<x.heap.size∧∀ i,i<W.length→x.cell? ⟨b,q+i,none⟩=W[i]?) (i:Nat) (hi:i<W.length) (hp:p=q+i) {u:Value} (hu:W[i]? = some u) (hn:bi P t=true):Yd P n F o w u:=by
  subst hp
  exact nC ho hx (((hc w hA).2 i hi).trans hu) hn
theorem qj {fn:Func} {RR:Ending→World→Prop} {t:Tmp} {ty:TypeId} {g:Nat} {cs:List Value} {T:Seg} (hF:Fr n F a) (hr:fn.results = #[.cell t ty]) (hA:Hq w0 R w) (hl:look F t=some (.pointer (some ⟨g,0,none⟩)))
    (k:Nat) (hk:nth R k=some (row g te cs::T)) (hrow:isRow P ty cs.length=true) (h:RR (.returned (.agg cs.toArray)) w):bodyPost P fn RR .ret a w :=
  GX hF hr (At.start1 (hA.rowAt hk)) hl 0 rfl hrow h
end
end Go.Dk
