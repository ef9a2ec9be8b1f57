/- Texts that belong together, one behind the other. -/
import Derived.Test.YtepbmdlgdaedpaaGreatDoorOpenPz
import Derived.Test.YtepbmdlgdaedpaaGreatDoorBk
import Derived.Test.YtepbmdlgdaedpaaGreatDoorBook0
namespace Go.Proofs.YtepbmdlgdaedpaaGreatDoor
open Go.ChangeShapes Go.WideShapes Go.ChangeAt Go.RowKit Go.Dk Go.Deep
theorem JY:Tryz.prog.cellsOf 31=44:=af
theorem H8:Tryz.prog.bytesOf 31=208:=af
theorem sZ {H:Type} {enc:TypeId × Value→H} {w:World} {held:Bool} {cs:List Value} {x:DataW H × List MemPlace} {fuel:Nat} (hz:Small Tryz.prog 62 x.1) (h:DataW.trod enc Tryz.prog w 0 (fun _=>true) held fuel 62 cs=some x):∃ (A:Option Addr) (es:List EA) (c:Nat),cs=[.slice A es.length c]∧Rc w [] A (cel EA.cells es)∧(∀ a∈es,a.Ok w [])∧∀ a∈es,a.v.v.s.length<8796093022000∧a.args.length<8796093022000∧a.src.length≤140737488351232∧(∀ b∈a.args,b.v.s.length<8796093022000)∧a.cas.length≤9223372036854775807:=by
  obtain ⟨A,Ws,c,h1,h2,h3,h4,h7,h5⟩:=iW NV JY ae H8 hz h
  obtain ⟨es,hes,hok⟩:=jP (f:=EA.cells) (Pr:=fun a=>a.Ok w []∧a.v.v.s.length<8796093022000∧a.args.length<8796093022000∧a.src.length≤140737488351232∧(∀ b∈a.args,b.v.s.length<8796093022000)∧a.cas.length≤9223372036854775807) Ws (fun W hW=>by
    obtain ⟨hl,m,y,hy,hyz⟩:=h4 W hW
    obtain ⟨a,e1,e2,e3,e4,e5,e6,e7,e8⟩:=wu hl hyz hy
    exact ⟨a,e1,e2,e6,e7,e4,e8,e3⟩)
  subst hes
  rw [List.length_map] at h1
  exact ⟨A,es,c,h1,h5.rc,fun a ha=>(hok a ha).1,fun a ha=>(hok a ha).2⟩
set_option maxRecDepth 100000 in
theorem uP {H:Type} {enc:TypeId × Value→H} {w:World} {held:Bool} {v:Value} {d:DataW H} {p:List MemPlace} {r:Reach} {b0:Nat} (hv:Value.okWide Tryz.prog w r b0 62 v) (h:DataW.Trod enc Tryz.prog w 0 (fun _=>true) held 62 v d p) (hz:Small Tryz.prog 62 d):∃ (A:Option Addr) (es:List EA) (c:Nat),v= .slice A es.length c∧Rc w [] A (cel EA.cells es)∧(∀ a∈es,a.Ok w [])∧∀ a∈es,a.v.v.s.length<8796093022000∧a.args.length<8796093022000∧a.src.length≤140737488351232∧(∀ b∈a.args,b.v.s.length<8796093022000)∧a.cas.length≤9223372036854775807:=by
  obtain ⟨fuel,hf⟩:=h
  obtain ⟨A,es,c,h1,h2⟩:=sZ (x:=(d,p)) hz hf
  exact ⟨A,es,c,lF NV hv h1,h2⟩
end Go.Proofs.YtepbmdlgdaedpaaGreatDoor
namespace Go.Proofs.YtepbmdlgdaedpaaGreatDoor
open Go.RowKit Go.Dk
def gu (h:Int) (c:Nat):Int:=IntKind.i64.wrap (h+c)
def dA (h:Int) (c:Nat):Int:=IntKind.i64.wrap (h-c)
theorem kS (w0 w:World) (R:List Seg) (pa pb:Option Addr) (xs ys:List (UInt8)) (ca cb:Nat) (hX:Rc w0 R pa (cel cB xs)) (hY:Rc w0 R pb (cel cB ys)) (hx:∀ x∈xs,(cB x).length=1) (hy:∀ x∈ys,(cB x).length=1) (hA:Hp w0 R w) (hn:xs.length≤9223372036854775807):Calls Tryz.prog 86 #[.slice pa xs.length ca,.slice pb ys.length cb] w fun e w'=>e= .returned (.bool (decide (xs=ys)))∧Hp w0 R w' :=
  mW w0 w R pa pb xs ys ca cb (by rw [lV]; exact hX) (by rw [lV]; exact hY) hA hn
theorem ww {l:List (UInt8)} (_:∀ x∈l,(cB x).length=1):∀ v∈cel cB l,v.oneCell'=true:=fun v hv=>by
  obtain ⟨W,hW,hv⟩:=List.mem_flatten.1 hv
  obtain ⟨x,_,rfl⟩:=List.mem_map.1 hW
  rw [List.mem_singleton.1 hv]; rfl
theorem jJ (w0 w:World) (R:List Seg) (pa pb:Option Addr) (xs ys:List (List UInt8)) (ca cb:Nat) (hX:Rc w0 R pa (cel cS xs)) (hY:Rc w0 R pb (cel cS ys)) (hx:∀ x∈xs,(cS x).length=1) (hy:∀ x∈ys,(cS x).length=1) (hA:Hp w0 R w) (hn:xs.length≤9223372036854775807):Calls Tryz.prog 92 #[.slice pa xs.length ca,.slice pb ys.length cb] w fun e w'=>e= .returned (.bool (decide (xs=ys)))∧Hp w0 R w' :=
  lu w0 w R pa pb xs ys ca cb (by rw [jw]; exact hX) (by rw [jw]; exact hY) hA hn
theorem rX {l:List (List UInt8)} (_:∀ x∈l,(cS x).length=1):∀ v∈cel cS l,v.oneCell'=true:=fun v hv=>by
  obtain ⟨W,hW,hv⟩:=List.mem_flatten.1 hv
  obtain ⟨x,_,rfl⟩:=List.mem_map.1 hW
  rw [List.mem_singleton.1 hv]; rfl
end Go.Proofs.YtepbmdlgdaedpaaGreatDoor
namespace Go.Dk
open Go Go.RowKit
section
variable {e:TypeId} {sz n c j:Nat} {X:Seg} {A:Option Addr} {W:List Value}
theorem Buf.forget (h:Buf e sz X (.slice A n c) n W):Buf e sz X (.slice A 0 c) 0 []:=by
  refine ⟨by simp,?_⟩
  rcases h.2 with ⟨h1,h2,h3⟩ | ⟨g,c',B,Z,h1,h2,h3,h4⟩
  · injection h1 with h1 _ h1'
    subst h1 h1'
    exact .inl ⟨rfl,rfl,h3⟩
  · injection h1 with h1 _ h1'
    subst h1 h1'
    refine .inr ⟨g,c,B,W++Z,rfl,⟨Nl _,h2.2⟩,?_,by rw [h4]; simp⟩
    rw [List.length_append,h.1,h3,← Nat.add_mul]
    congr 1
    omega
theorem Buf.opens (h:Buf e sz X (.slice A j c) j W) (hlt:j<c):∃ g B Z,A=some ⟨g,B.length,none⟩∧X=[row g e (B++W++Z)]∧W.length=j*sz∧sz≤Z.length∧∀ u:List Value,u.length=sz→Buf e sz [row g e (B++W++(u++Z.drop sz))] (.slice A (j+1) c) (j+1) (W++u):=by
  rcases h.2 with ⟨h1,h2,h3⟩ | ⟨g,c',B,Z,h1,h2,h3,h4⟩
  · injection h1 with h1 _ h1'
    omega
  · injection h1 with h1 _ h1'
    subst h1 h1'
    have hm:(j+1)*sz≤c*sz:=Nat.mul_le_mul_right _ hlt
    have e1:(j+1)*sz=j*sz+sz:=by rw [Nat.add_mul,Nat.one_mul]
    have e2:(c-j)*sz=c*sz-j*sz:=Nat.sub_mul ..
    have e3:(c-(j+1))*sz=c*sz-(j+1)*sz:=Nat.sub_mul ..
    refine ⟨g,B,Z,rfl,h4,h.1,ag,fun u hu=>⟨?_,.inr ⟨g,c,B,Z.drop sz,rfl,⟨hlt,h2.2⟩,?_,by simp⟩⟩⟩
    · rw [List.length_append,h.1,hu]; omega
    · rw [List.length_drop]; omega
theorem set_mid {B Z:List Value} {u:Value} (hW:W.length=j) (hZ:1≤Z.length):(B++W++Z).set (B.length+j) u=B++W++([u]++Z.drop 1):=by
  cases Z with
  | nil=>simp at hZ
  | cons z Z =>
    subst hW
    rw [List.set_append_right _ _ (by rw [List.length_append]; exact Nv _),List.length_append,Nat.sub_self]
    rfl
theorem yQ {B Z u:List Value} {k:Nat} (hW:W.length=k):splice (B++W++Z) (B.length+k) u=B++W++(u++Z.drop u.length):=by
  subst hW
  unfold splice
  rw [← List.length_append,List.take_left,List.drop_append,List.drop_eq_nil_of_le (Nat.le_add_right _ _),List.nil_append,Nat.add_sub_cancel_left,List.append_assoc]
end
section
variable {α:Type}
def mkL (mv:Nat→α) (j:Nat):List α:=(List.range j).map mv
theorem Es (mv:Nat→α) (j:Nat):mkL mv (j+1)=mkL mv j++[mv j]:=by unfold mkL; rw [List.range_succ,List.map_append]; rfl
theorem zh (mv:Nat→α) {i j:Nat} (h:i<j):(mkL mv j)[i]? = some (mv i):=by simp [mkL,h]
theorem Ah {C:α→List Value} {sz:Nat} {mv:Nat→α} (h:∀ j,(C (mv j)).length=sz) (j:Nat):∀ x∈mkL mv j,(C x).length=sz:=fun x hx=>by
  obtain ⟨i,_,rfl⟩:=List.mem_map.1 hx
  exact h i
theorem zI {C:α→List Value} (mv:Nat→α) (j:Nat):cel C (mkL mv (j+1))=cel C (mkL mv j)++C (mv j):=by
  rw [Es,nz,rY,wz,List.append_nil]
def Mk (C:α→List Value) (e:TypeId) (sz:Nat) (mv:Nat→α) (k:KeptX α) (X:Seg):Prop:=∃ A c,k.v= .slice A k.l.length c∧Buf e sz X (.slice A c c) c (cel C (mkL mv c))
def ApS (C:α→List Value) (e:TypeId) (sz:Nat) (mv:Nat→Nat→α) (ks:List (KeptX α)) (i:Nat) (XS:List Seg):Prop :=
  XS.length=ks.length∧∀ m k X,ks[m]? = some k→XS[m]? = some X→(m<i→Mk C e sz (mv m) k X)∧(i≤m→Buf e sz X k.v k.l.length (cel C k.l))
variable {C:α→List Value} {e:TypeId} {sz i:Nat} {mv:Nat→Nat→α} {ks:List (KeptX α)} {XS:List Seg}
theorem ApS.new (hK:∀ k∈ks,KOK C e sz k):ApS C e sz mv ks 0 (ks.map (·.X)):=by
  refine ⟨by simp,fun m k X h1 h2=>⟨fun h=>absurd h (Nat.not_lt_zero _),fun _=>?_⟩⟩
  rw [List.getElem?_map,h1] at h2
  injection h2 with h2
  subst h2
  exact (hK k (List.mem_of_getElem? h1)).2.2.1
theorem ApS.at (h:ApS C e sz mv ks i XS) {m:Nat} (hm:m<ks.length):∃ k X,ks[m]? = some k∧XS[m]? = some X∧(m<i→Mk C e sz (mv m) k X)∧(i≤m→Buf e sz X k.v k.l.length (cel C k.l)):=by
  have h1:ks[m]? = some ks[m]:=List.getElem?_eq_getElem hm
  have h2:XS[m]? = some (XS[m]'(by rw [h.1]; exact hm)):=List.getElem?_eq_getElem _
  exact ⟨_,_,h1,h2,h.2 m _ _ h1 h2⟩
theorem ApS.step (h:ApS C e sz mv ks i XS) {k:KeptX α} {X:Seg} (hk:ks[i]? = some k) (hX:Mk C e sz (mv i) k X):ApS C e sz mv ks (i+1) (XS.set i X):=by
  refine ⟨by rw [List.length_set]; exact h.1,fun m k' X' h1 h2=>?_⟩
  by_cases hm:m=i
  · subst hm
    rw [hk] at h1
    injection h1 with h1
    subst h1
    have hl:=(List.getElem?_eq_some_iff.1 h2).1
    rw [List.length_set] at hl
    rw [List.getElem?_set_self hl] at h2
    injection h2 with h2
    subst h2
    exact ⟨fun _=>hX,fun h=>absurd h ag⟩
  · rw [List.getElem?_set_ne (fun h=>hm h.symm)] at h2
    obtain ⟨h3,h4⟩:=h.2 m k' X' h1 h2
    exact ⟨fun h=>h3 ag,fun h=>h4 ag⟩
theorem qK:∀ {XS:List Seg} {i:Nat} {X:Seg},XS[i]? = some X→XS.flatten.Perm (X++(XS.eraseIdx i).flatten)
  | [],_,_,h=>by cases h
  | Y::XS,0,X,h=>by
    injection h with h
    subst h
    exact .refl _
  | Y::XS,i+1,X,h=>by
    have ih:=qK (XS:=XS) (i:=i) (X:=X) h
    simp only [List.flatten_cons,List.eraseIdx_cons_succ]
    refine (ih.append_left Y).trans ?_
    rw [← List.append_assoc,← List.append_assoc]
    exact List.perm_append_comm.append_right _
theorem Hf {XS:List Seg} {i:Nat} {X:Seg} (h:i<XS.length):(X++(XS.eraseIdx i).flatten).Perm (XS.set i X).flatten:=by
  have h1:(XS.set i X)[i]? = some X:=List.getElem?_set_self h
  have h2:=qK h1
  rw [List.eraseIdx_set_eq] at h2
  exact h2.symm
variable {w0 w:World} {R:List Seg} {B XL XW X:Seg}
theorem Ak:∀ ks:List (KeptX α),(ks.map (·.X)).flatten.Sublist (aS ks)
  | []=> .slnil
  | k::ks=>by
    have h:aS (k::ks)=k.X++k.Z++aS ks:=rfl
    rw [h,List.map_cons,List.flatten_cons]
    exact List.Sublist.append (List.sublist_append_left _ _) (Ak ks)
def BookV (C:α→List Value) (se e:TypeId) (sz:Nat) (ks:List (KeptX α)) (lv wv:Value) (Y:Seg):Prop :=
  ks.length≤4000∧∃ XL XW,Buf se 1 XL lv ks.length (ks.map (·.v))∧Buf se 1 XW wv ks.length (ks.map (·.cv))∧(∀ k∈ks,KOK C e sz k)∧Y=XL++(XW++aS ks)
theorem BookV.new (C:α→List Value) (se e:TypeId) (sz:Nat):BookV C se e sz [] (.slice none 0 0) (.slice none 0 0) [] :=
  ⟨Nl _,[],[],Buf.nil _ _,Buf.nil _ _,(fun _ h=>by cases h),rfl⟩
theorem Hp.bookX (h:Hp w0 (B::(XL++(XW++aS ks))::R) w):Hp w0 (B::XL::(ks.map (·.X)).flatten::R) w:=Hl.sub h (by
  simp only [List.flatten_cons,List.append_assoc]
  refine List.Sublist.append_left (List.Sublist.append_left ?_ _) _
  exact ((Ak ks).append (.refl _)).trans (List.sublist_append_right _ _))
theorem Hp.outX (h:Hp w0 (B::XL::XS.flatten::R) w) (hX:XS[i]? = some X):Hp w0 (B::XL::X::(XS.eraseIdx i).flatten::R) w:=Hl.perm h (by
  simp only [List.flatten_cons]
  refine List.Perm.append_left _ (List.Perm.append_left _ ?_)
  rw [← List.append_assoc]
  exact (qK hX).append_right _)
theorem Hp.inX (h:Hp w0 (B::XL::X::(XS.eraseIdx i).flatten::R) w) (hi:i<XS.length):Hp w0 (B::XL::(XS.set i X).flatten::R) w:=Hl.perm h (by
  simp only [List.flatten_cons]
  refine List.Perm.append_left _ (List.Perm.append_left _ ?_)
  rw [← List.append_assoc]
  exact (Hf hi).append_right _)
end
section
variable {P:Program} {w:World} {n:Nat} {F:List (Nat × Value)} {o:Oper} {t t':TypeId} {x y:Operand}
theorem JD {s u:List UInt8} (ho:o.op= .binOp .add t x y t') (hx:ev F x=some (aj s)) (hy:ev F y=some (aj u)) (hn:s.length+u.length≤9223372036854775807):Yd P n F o w (aj (s++u)):=fun a hF=>by
  have h0:(eqGuard .add t x y (aj s) (aj u)).run P w= .ok () w:=by unfold eqGuard; rfl
  have e:(⟨s.toArray⟩:ByteArray)++⟨u.toArray⟩=⟨(s++u).toArray⟩:=by
    apply ByteArray.ext
    rw [ByteArray.data_append,List.append_toArray]
  unfold execOp
  simp only [ho,hF.ev hx,hF.ev hy,Sem.run_bind,h0,Result.andThen_ok]
  simp [binOp,Op.stringOp,aj,e]
  have e1:(⟨s.toArray⟩:ByteArray).size=s.length:=rfl
  have e2:(⟨u.toArray⟩:ByteArray).size=u.length:=rfl
  rw [e1,e2]
  omega
theorem uH (i q:Nat) (c:Int) (hc:c.toNat=q) (h:q≤64):((i:Nat):Int).fdiv (2 ^ min c.toNat IntKind.i64.bits)=((i/2 ^ q:Nat):Int):=by
  have h1:min c.toNat IntKind.i64.bits=q:=by rw [hc]; exact Nat.min_eq_left h
  rw [h1,Int.fdiv_eq_ediv_of_nonneg _ (Int.pow_nonneg ae),Int.natCast_ediv,Int.natCast_pow]
  rfl
theorem wH (m:Nat):IntKind.u8.wrap ((m:Nat):Int)=((UInt8.ofNat m).toNat:Int):=by
  rw [IntKind.wrap_u8,UInt8.toNat_ofNat']
  omega
end
end Go.Dk
