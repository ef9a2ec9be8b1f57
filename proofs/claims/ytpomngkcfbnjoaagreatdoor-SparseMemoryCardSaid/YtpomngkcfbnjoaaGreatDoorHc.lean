/- Texts that belong together, one behind the other. -/
import Derived.Test.YtpomngkcfbnjoaaGreatDoorBk
import Derived.Test.YtpomngkcfbnjoaaGreatDoorSpL
import Derived.Test.YtpomngkcfbnjoaaGreatDoorLawSplits
import Derived.Test.YtpomngkcfbnjoaaGreatDoorSum
import Derived.Test.YtpomngkcfbnjoaaGreatDoorRefSum
import Derived.Test.YtpomngkcfbnjoaaGreatDoorDigest
namespace Go.Proofs.YtpomngkcfbnjoaaGreatDoor
open Go.RowKit Go.Dk
def jZ (h:Int) (c:Nat):Int:=IntKind.i64.wrap (h+c)
def eF (h:Int) (c:Nat):Int:=IntKind.i64.wrap (h-c)
theorem oI (w0 w:World) (R:List Seg) (pa pb:Option Addr) (xs ys:List (UInt8)) (ca cb:Nat) (hX:Rc w0 R pa (cel cB xs)) (hY:Rc w0 R pb (cel cB ys)) (hx:∀ x∈xs,(cB x).length=1) (hy:∀ x∈ys,(cB x).length=1) (hA:Hp w0 R w) (hn:xs.length≤9223372036854775807):Calls Tryz.prog 35 #[.slice pa xs.length ca,.slice pb ys.length cb] w fun e w'=>e= .returned (.bool (decide (xs=ys)))∧Hp w0 R w' :=
  qF w0 w R pa pb xs ys ca cb (by rw [FC]; exact hX) (by rw [FC]; exact hY) hA hn
theorem A7 {l:List (UInt8)} (_:∀ x∈l,(cB x).length=1):∀ v∈cel cB l,v.oneCell'=true:=fun v hv=>by
  obtain ⟨W,hW,hv⟩:=List.mem_flatten.1 hv
  obtain ⟨x,_,rfl⟩:=List.mem_map.1 hW
  rw [List.mem_singleton.1 hv]; rfl
theorem jc (w0 w:World) (R:List Seg) (pa pb:Option Addr) (xs ys:List (List UInt8)) (ca cb:Nat) (hX:Rc w0 R pa (cel dc xs)) (hY:Rc w0 R pb (cel dc ys)) (hx:∀ x∈xs,(dc x).length=32) (hy:∀ x∈ys,(dc x).length=32) (hA:Hp w0 R w) (hn:xs.length≤9223372036854775807):Calls Tryz.prog 8 #[.slice pa xs.length ca,.slice pb ys.length cb] w fun e w'=>e= .returned (.bool (decide (xs=ys)))∧Hp w0 R w' :=
  uQ w0 w R pa pb xs ys ca cb hX hY (fun d hd=>by rw [← aj]; exact hx d hd) (fun d hd=>by rw [← aj]; exact hy d hd) hA hn
theorem xX {l:List (List UInt8)} (_:∀ x∈l,(dc x).length=32):∀ v∈cel dc l,v.oneCell'=true:=fun v hv=>by
  obtain ⟨W,hW,hv⟩:=List.mem_flatten.1 hv
  obtain ⟨x,_,rfl⟩:=List.mem_map.1 hW
  exact bz x v hv
end Go.Proofs.YtpomngkcfbnjoaaGreatDoor
namespace Go.Dk
open Go Go.RowKit
section
variable {e:TypeId} {sz n c j:Nat} {X:Seg} {A:Option Addr} {W:List Value}
theorem Buf.forget (h:Buf e sz X (.slice A n c) n W):Buf e sz X (.slice A 0 c) 0 []:=by
  refine ⟨by simp,?_⟩
  rcases h.2 with ⟨h1,h2,h3⟩ | ⟨g,c',B,Z,h1,h2,h3,h4⟩
  · injection h1 with h1 _ h1'
    subst h1 h1'
    exact .inl ⟨rfl,rfl,h3⟩
  · injection h1 with h1 _ h1'
    subst h1 h1'
    refine .inr ⟨g,c,B,W++Z,rfl,⟨Tv _,h2.2⟩,?_,by rw [h4]; simp⟩
    rw [List.length_append,h.1,h3,← Nat.add_mul]
    congr 1
    omega
theorem Buf.opens (h:Buf e sz X (.slice A j c) j W) (hlt:j<c):∃ g B Z,A=some ⟨g,B.length,none⟩∧X=[row g e (B++W++Z)]∧W.length=j*sz∧sz≤Z.length∧∀ u:List Value,u.length=sz→Buf e sz [row g e (B++W++(u++Z.drop sz))] (.slice A (j+1) c) (j+1) (W++u):=by
  rcases h.2 with ⟨h1,h2,h3⟩ | ⟨g,c',B,Z,h1,h2,h3,h4⟩
  · injection h1 with h1 _ h1'
    omega
  · injection h1 with h1 _ h1'
    subst h1 h1'
    have hm:(j+1)*sz≤c*sz:=Nat.mul_le_mul_right _ hlt
    have e1:(j+1)*sz=j*sz+sz:=by rw [Nat.add_mul,Nat.one_mul]
    have e2:(c-j)*sz=c*sz-j*sz:=Nat.sub_mul ..
    have e3:(c-(j+1))*sz=c*sz-(j+1)*sz:=Nat.sub_mul ..
    refine ⟨g,B,Z,rfl,h4,h.1,ag,fun u hu=>⟨?_,.inr ⟨g,c,B,Z.drop sz,rfl,⟨hlt,h2.2⟩,?_,by simp⟩⟩⟩
    · rw [List.length_append,h.1,hu]; omega
    · rw [List.length_drop]; omega
theorem set_mid {B Z:List Value} {u:Value} (hW:W.length=j) (hZ:1≤Z.length):(B++W++Z).set (B.length+j) u=B++W++([u]++Z.drop 1):=by
  cases Z with
  | nil=>simp at hZ
  | cons z Z =>
    subst hW
    rw [List.set_append_right _ _ (by rw [List.length_append]; exact TG _),List.length_append,Nat.sub_self]
    rfl
theorem En {B Z u:List Value} {k:Nat} (hW:W.length=k):splice (B++W++Z) (B.length+k) u=B++W++(u++Z.drop u.length):=by
  subst hW
  unfold splice
  rw [← List.length_append,List.take_left,List.drop_append,List.drop_eq_nil_of_le (Nat.le_add_right _ _),List.nil_append,Nat.add_sub_cancel_left,List.append_assoc]
end
section
variable {α:Type}
def mkL (mv:Nat→α) (j:Nat):List α:=(List.range j).map mv
theorem MC (mv:Nat→α) (j:Nat):mkL mv (j+1)=mkL mv j++[mv j]:=by unfold mkL; rw [List.range_succ,List.map_append]; rfl
theorem MF (mv:Nat→α) {i j:Nat} (h:i<j):(mkL mv j)[i]? = some (mv i):=by simp [mkL,h]
theorem Gx {C:α→List Value} {sz:Nat} {mv:Nat→α} (h:∀ j,(C (mv j)).length=sz) (j:Nat):∀ x∈mkL mv j,(C x).length=sz:=fun x hx=>by
  obtain ⟨i,_,rfl⟩:=List.mem_map.1 hx
  exact h i
theorem NM {C:α→List Value} (mv:Nat→α) (j:Nat):cel C (mkL mv (j+1))=cel C (mkL mv j)++C (mv j):=by
  rw [MC,je,xY,Ql,List.append_nil]
def Mk (C:α→List Value) (e:TypeId) (sz:Nat) (mv:Nat→α) (k:KeptX α) (X:Seg):Prop:=∃ A c,k.v= .slice A k.l.length c∧Buf e sz X (.slice A c c) c (cel C (mkL mv c))
def ApS (C:α→List Value) (e:TypeId) (sz:Nat) (mv:Nat→Nat→α) (ks:List (KeptX α)) (i:Nat) (XS:List Seg):Prop :=
  XS.length=ks.length∧∀ m k X,ks[m]? = some k→XS[m]? = some X→(m<i→Mk C e sz (mv m) k X)∧(i≤m→Buf e sz X k.v k.l.length (cel C k.l))
variable {C:α→List Value} {e:TypeId} {sz i:Nat} {mv:Nat→Nat→α} {ks:List (KeptX α)} {XS:List Seg}
theorem ApS.new (hK:∀ k∈ks,KOK C e sz k):ApS C e sz mv ks 0 (ks.map (·.X)):=by
  refine ⟨by simp,fun m k X h1 h2=>⟨fun h=>absurd h (Nat.not_lt_zero _),fun _=>?_⟩⟩
  rw [List.getElem?_map,h1] at h2
  injection h2 with h2
  subst h2
  exact (hK k (List.mem_of_getElem? h1)).2.2.1
theorem ApS.at (h:ApS C e sz mv ks i XS) {m:Nat} (hm:m<ks.length):∃ k X,ks[m]? = some k∧XS[m]? = some X∧(m<i→Mk C e sz (mv m) k X)∧(i≤m→Buf e sz X k.v k.l.length (cel C k.l)):=by
  have h1:ks[m]? = some ks[m]:=List.getElem?_eq_getElem hm
  have h2:XS[m]? = some (XS[m]'(by rw [h.1]; exact hm)):=List.getElem?_eq_getElem _
  exact ⟨_,_,h1,h2,h.2 m _ _ h1 h2⟩
theorem ApS.step (h:ApS C e sz mv ks i XS) {k:KeptX α} {X:Seg} (hk:ks[i]? = some k) (hX:Mk C e sz (mv i) k X):ApS C e sz mv ks (i+1) (XS.set i X):=by
  refine ⟨by rw [List.length_set]; exact h.1,fun m k' X' h1 h2=>?_⟩
  by_cases hm:m=i
  · subst hm
    rw [hk] at h1
    injection h1 with h1
    subst h1
    have hl:=(List.getElem?_eq_some_iff.1 h2).1
    rw [List.length_set] at hl
    rw [List.getElem?_set_self hl] at h2
    injection h2 with h2
    subst h2
    exact ⟨fun _=>hX,fun h=>absurd h ag⟩
  · rw [List.getElem?_set_ne (fun h=>hm h.symm)] at h2
    obtain ⟨h3,h4⟩:=h.2 m k' X' h1 h2
    exact ⟨fun h=>h3 ag,fun h=>h4 ag⟩
theorem wM:∀ {XS:List Seg} {i:Nat} {X:Seg},XS[i]? = some X→XS.flatten.Perm (X++(XS.eraseIdx i).flatten)
  | [],_,_,h=>by cases h
  | Y::XS,0,X,h=>by
    injection h with h
    subst h
    exact .refl _
  | Y::XS,i+1,X,h=>by
    have ih:=wM (XS:=XS) (i:=i) (X:=X) h
    simp only [List.flatten_cons,List.eraseIdx_cons_succ]
    refine (ih.append_left Y).trans ?_
    rw [← List.append_assoc,← List.append_assoc]
    exact List.perm_append_comm.append_right _
theorem OH {XS:List Seg} {i:Nat} {X:Seg} (h:i<XS.length):(X++(XS.eraseIdx i).flatten).Perm (XS.set i X).flatten:=by
  have h1:(XS.set i X)[i]? = some X:=List.getElem?_set_self h
  have h2:=wM h1
  rw [List.eraseIdx_set_eq] at h2
  exact h2.symm
variable {w0 w:World} {R:List Seg} {B XL XW X:Seg}
theorem GG:∀ ks:List (KeptX α),(ks.map (·.X)).flatten.Sublist (bf ks)
  | []=> .slnil
  | k::ks=>by
    have h:bf (k::ks)=k.X++k.Z++bf ks:=rfl
    rw [h,List.map_cons,List.flatten_cons]
    exact List.Sublist.append (List.sublist_append_left _ _) (GG ks)
def BookV (C:α→List Value) (se e:TypeId) (sz:Nat) (ks:List (KeptX α)) (lv wv:Value) (Y:Seg):Prop :=
  ks.length≤4000∧∃ XL XW,Buf se 1 XL lv ks.length (ks.map (·.v))∧Buf se 1 XW wv ks.length (ks.map (·.cv))∧(∀ k∈ks,KOK C e sz k)∧Y=XL++(XW++bf ks)
theorem BookV.new (C:α→List Value) (se e:TypeId) (sz:Nat):BookV C se e sz [] (.slice none 0 0) (.slice none 0 0) [] :=
  ⟨Tv _,[],[],Buf.nil _ _,Buf.nil _ _,(fun _ h=>by cases h),rfl⟩
theorem Hp.bookX (h:Hp w0 (B::(XL++(XW++bf ks))::R) w):Hp w0 (B::XL::(ks.map (·.X)).flatten::R) w:=Hl.sub h (by
  simp only [List.flatten_cons,List.append_assoc]
  refine List.Sublist.append_left (List.Sublist.append_left ?_ _) _
  exact ((GG ks).append (.refl _)).trans (List.sublist_append_right _ _))
theorem Hp.outX (h:Hp w0 (B::XL::XS.flatten::R) w) (hX:XS[i]? = some X):Hp w0 (B::XL::X::(XS.eraseIdx i).flatten::R) w:=Hl.perm h (by
  simp only [List.flatten_cons]
  refine List.Perm.append_left _ (List.Perm.append_left _ ?_)
  rw [← List.append_assoc]
  exact (wM hX).append_right _)
theorem Hp.inX (h:Hp w0 (B::XL::X::(XS.eraseIdx i).flatten::R) w) (hi:i<XS.length):Hp w0 (B::XL::(XS.set i X).flatten::R) w:=Hl.perm h (by
  simp only [List.flatten_cons]
  refine List.Perm.append_left _ (List.Perm.append_left _ ?_)
  rw [← List.append_assoc]
  exact (OH hi).append_right _)
end
section
variable {P:Program} {w:World} {n:Nat} {F:List (Nat × Value)} {o:Oper} {t t':TypeId} {x y:Operand}
theorem zT (i q:Nat) (c:Int) (hc:c.toNat=q) (h:q≤64):((i:Nat):Int).fdiv (2 ^ min c.toNat IntKind.i64.bits)=((i/2 ^ q:Nat):Int):=by
  have h1:min c.toNat IntKind.i64.bits=q:=by rw [hc]; exact Nat.min_eq_left h
  rw [h1,Int.fdiv_eq_ediv_of_nonneg _ (Int.pow_nonneg ae),Int.natCast_ediv,Int.natCast_pow]
  rfl
theorem Ba (m:Nat):IntKind.u8.wrap ((m:Nat):Int)=((UInt8.ofNat m).toNat:Int):=by
  rw [IntKind.wrap_u8,UInt8.toNat_ofNat']
  omega
end
end Go.Dk
namespace Go.Dk
open Go Go.RowKit
section
variable {w0 w:World} {R:List Seg} {e:TypeId} {v:Value} {m i:Nat} {W:List Value} {X:Seg} {XS:List Seg}
theorem dZ {X:Seg} {R:List Seg} (h:X∈R):[X]⊆R:=fun _ hx=>by rw [List.mem_singleton] at hx; rw [hx]; exact h
end
end Go.Dk
namespace Go.Proofs.YtpomngkcfbnjoaaGreatDoor
open Go.RowKit Go.Dk
theorem Tab.hp {w0 w:World} {S:List Seg} (hT:Tab w0) (hA:Hp w0 S w):Tab w:=fun i hi=>by
  have h1:=hT i hi
  have h0:=hA.frame 0 hT.lt
  unfold World.cell? at h1 ⊢
  simp only [h0]
  exact h1
theorem Hp.poke {w0 w:World} {R:List Seg} {g:Nat} {o:Obj} (o':Obj) (h:Hp w0 ([(g,o)]::R) w):∃ w',Hp w0 ([(g,o')]::R) w'∧w'.heap[g]? = some o':=by
  have hg:w.heap[g]? = some o:=h.items (g,o) (TF ..)
  have hlt:g<w.heap.size:=(Array.getElem?_eq_some_iff.1 hg).1
  have hnew:w0.heap.size≤g:=h.new (g,o) (TF ..)
  have hd:=h.dist
  simp only [List.flatten_cons,List.cons_append,List.nil_append,List.map_cons,List.nodup_cons] at hd
  have hset:(w.heap.setIfInBounds g o')[g]? = some o':=by rw [Array.getElem?_setIfInBounds_self_of_lt hlt]
  refine ⟨{ w with heap:=w.heap.setIfInBounds g o' },⟨h.os,h.tape,h.output,by rw [Array.size_setIfInBounds]; exact h.size,?_,?_,?_,?_⟩,hset⟩
  · intro r hr
    rcases List.mem_cons.1 hr with rfl | hr
    · exact hset
    · have hne:g≠r.1:=fun e=>hd.1 (e ▸ List.mem_map_of_mem hr)
      rw [Array.getElem?_setIfInBounds_ne hne]
      exact h.items r (TI _ hr)
  · simp only [List.flatten_cons,List.cons_append,List.nil_append,List.map_cons,List.nodup_cons]
    exact hd
  · intro r hr
    rcases List.mem_cons.1 hr with rfl | hr
    · exact hnew
    · exact h.new r (TI _ hr)
  · intro k hk
    rw [Array.getElem?_setIfInBounds_ne ag]
    exact h.frame k hk
theorem Rd.off {w0 w:World} {R:List Seg} {g:Nat} {t:TypeId} {cs:List Value} {A:Option Addr} {l:List UInt8} (hR:Rd w0 R A l) (hA:Hp w0 ([row g t cs]::R) w):l≠[]→Off A g:=fun hne ad he hb=>by
  obtain ⟨b,o,h1,h2⟩:=hR (fun e=>hne (List.length_eq_zero_iff.1 (by rw [← aj,e]; rfl)))
  rw [h1] at he
  injection he with he
  subst he
  subst hb
  obtain ⟨w',h3,h4⟩:=Hp.poke (.cells (List.toArray []) t (0,0)) hA
  have h5:=(h2 w' (Hp.tail h3).q).2 0 (by rw [aj]; exact List.length_pos_iff.2 hne)
  rw [cell_of_row w' b (o+0) _ t (0,0) h4] at h5
  have h6:(dc l)[0]? = some (.int .u8 ((bAt l 0).toNat:Int)):=iP (List.length_pos_iff.2 hne)
  rw [h6] at h5
  simp at h5
theorem I4 (w0 w:World) (R:List Seg) (A:Option Addr) (l:List UInt8) (c:Nat) (hR:Rd w0 R A l) (hA:Hp w0 R w) (hl:l.length<140737488355328):Calls Tryz.prog 50 #[.slice A l.length c] w fun e w'=>e= .returned (.agg (dc (sha l)).toArray)∧Hp w0 R w':=by
  refine (xh w A l c l.length rfl (hR.bts hA.q) hl).mono ?_
  rintro e w' ⟨rfl,hw⟩
  exact ⟨rfl,hA.then0 hw⟩
theorem Hp.apart {w0 w:World} {X:Seg} {S:List Seg} {r r':Dk.Item} (h:Hp w0 (X::S) w) (hr:r∈X) (hr':r'∈S.flatten):r'.1≠r.1:=fun e=>by
  have hd:=h.dist
  rw [List.flatten_cons,List.map_append,List.nodup_append] at hd
  exact hd.2.2 _ (List.mem_map_of_mem hr) _ (List.mem_map_of_mem hr') e.symm
end Go.Proofs.YtpomngkcfbnjoaaGreatDoor
