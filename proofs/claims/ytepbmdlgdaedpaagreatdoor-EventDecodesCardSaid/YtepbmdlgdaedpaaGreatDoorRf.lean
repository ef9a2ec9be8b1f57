/- Texts that belong together, one behind the other. -/
import Derived.Test.YtepbmdlgdaedpaaGreatDoorBook0
import Derived.Test.YtepbmdlgdaedpaaGreatDoorKb
import Derived.Test.YtepbmdlgdaedpaaGreatDoorOctetH
namespace Go.Dk
open Go Go.RowKit
section
variable {e:TypeId} {sz n c j:Nat} {X:Seg} {A:Option Addr} {W:List Value}
theorem set_mid {B Z:List Value} {u:Value} (hW:W.length=j) (hZ:1≤Z.length):(B++W++Z).set (B.length+j) u=B++W++([u]++Z.drop 1):=by
  cases Z with
  | nil=>simp at hZ
  | cons z Z =>
    subst hW
    rw [List.set_append_right _ _ (by rw [List.length_append]; exact KZ _),List.length_append,Nat.sub_self]
    rfl
end
section
variable {α:Type}
def mkL (mv:Nat→α) (j:Nat):List α:=(List.range j).map mv
def Mk (C:α→List Value) (e:TypeId) (sz:Nat) (mv:Nat→α) (k:KeptX α) (X:Seg):Prop:=∃ A c,k.v= .slice A k.l.length c∧Buf e sz X (.slice A c c) c (cel C (mkL mv c))
def ApS (C:α→List Value) (e:TypeId) (sz:Nat) (mv:Nat→Nat→α) (ks:List (KeptX α)) (i:Nat) (XS:List Seg):Prop :=
  XS.length=ks.length∧∀ m k X,ks[m]? = some k→XS[m]? = some X→(m<i→Mk C e sz (mv m) k X)∧(i≤m→Buf e sz X k.v k.l.length (cel C k.l))
variable {C:α→List Value} {e:TypeId} {sz i:Nat} {mv:Nat→Nat→α} {ks:List (KeptX α)} {XS:List Seg}
theorem ApS.new (hK:∀ k∈ks,KOK C e sz k):ApS C e sz mv ks 0 (ks.map (·.X)):=by
  refine ⟨by simp,fun m k X h1 h2=>⟨fun h=>absurd h (Nat.not_lt_zero _),fun _=>?_⟩⟩
  rw [List.getElem?_map,h1] at h2
  injection h2 with h2
  subst h2
  exact (hK k (List.mem_of_getElem? h1)).2.2.1
theorem ApS.at (h:ApS C e sz mv ks i XS) {m:Nat} (hm:m<ks.length):∃ k X,ks[m]? = some k∧XS[m]? = some X∧(m<i→Mk C e sz (mv m) k X)∧(i≤m→Buf e sz X k.v k.l.length (cel C k.l)):=by
  have h1:ks[m]? = some ks[m]:=List.getElem?_eq_getElem hm
  have h2:XS[m]? = some (XS[m]'(by rw [h.1]; exact hm)):=List.getElem?_eq_getElem _
  exact ⟨_,_,h1,h2,h.2 m _ _ h1 h2⟩
theorem ApS.step (h:ApS C e sz mv ks i XS) {k:KeptX α} {X:Seg} (hk:ks[i]? = some k) (hX:Mk C e sz (mv i) k X):ApS C e sz mv ks (i+1) (XS.set i X):=by
  refine ⟨by rw [List.length_set]; exact h.1,fun m k' X' h1 h2=>?_⟩
  by_cases hm:m=i
  · subst hm
    rw [hk] at h1
    injection h1 with h1
    subst h1
    have hl:=(List.getElem?_eq_some_iff.1 h2).1
    rw [List.length_set] at hl
    rw [List.getElem?_set_self hl] at h2
    injection h2 with h2
    subst h2
    exact ⟨fun _=>hX,fun h=>absurd h ag⟩
  · rw [List.getElem?_set_ne (fun h=>hm h.symm)] at h2
    obtain ⟨h3,h4⟩:=h.2 m k' X' h1 h2
    exact ⟨fun h=>h3 ag,fun h=>h4 ag⟩
variable {w0 w:World} {R:List Seg} {B XL XW X:Seg}
def BookV (C:α→List Value) (se e:TypeId) (sz:Nat) (ks:List (KeptX α)) (lv wv:Value) (Y:Seg):Prop :=
  ks.length≤4000∧∃ XL XW,Buf se 1 XL lv ks.length (ks.map (·.v))∧Buf se 1 XW wv ks.length (ks.map (·.cv))∧(∀ k∈ks,KOK C e sz k)∧Y=XL++(XW++Iq ks)
theorem BookV.new (C:α→List Value) (se e:TypeId) (sz:Nat):BookV C se e sz [] (.slice none 0 0) (.slice none 0 0) [] :=
  ⟨KW _,[],[],Buf.nil _ _,Buf.nil _ _,(fun _ h=>by cases h),rfl⟩
end
section
variable {P:Program} {w:World} {n:Nat} {F:List (Nat × Value)} {o:Oper} {t t':TypeId} {x y:Operand}
end
theorem sH:∀ a b:List UInt8,(Op.bytesLess a b || a == b) = !(Op.bytesLess b a)
  | [],[]=>by decide
  | [],_::_=>rfl
  | _::_,[]=>rfl
  | x::xs,y::ys=>by
    have ih:=sH xs ys
    rcases Nat.lt_trichotomy x.toNat y.toNat with h | h | h
    · have h1:x<y:=h
      have h2:¬ y<x:=fun h'=>Nat.lt_asymm h h'
      have h3:x≠y:=fun e=>by rw [e] at h; exact Nat.lt_irrefl _ h
      simp [Op.bytesLess,h1,h2,h3,Ne.symm h3]
    · have h3:x=y:=UInt8.toNat.inj h
      subst h3
      have h1:¬ x<x:=Nat.lt_irrefl _
      simpa [Op.bytesLess,h1] using ih
    · have h1:y<x:=h
      have h2:¬ x<y:=fun h'=>Nat.lt_asymm h h'
      have h3:x≠y:=fun e=>by rw [e] at h; exact Nat.lt_irrefl _ h
      simp [Op.bytesLess,h1,h2,h3,Ne.symm h3]
theorem uT (a b:List UInt8):bf .leq a b=bf .geq b a:=sH a b
end Go.Dk
namespace Go.Proofs.YtepbmdlgdaedpaaGreatDoor
open Go.RowKit Go.Dk
theorem xJ (i n:Nat):be (i+1) n=UInt8.ofNat (n/256 ^ i)::be i n:=by
 unfold be
 rw [List.range_succ_eq_map,List.map_cons,List.map_map]
 refine congrArg _ (List.map_congr_left (fun j hj=>?_))
 rw [List.mem_range] at hj
 show UInt8.ofNat (n/256 ^ (i+1-1-(j+1)))=_
 rw [show i+1-1-(j+1)=i-1-j by omega]
theorem IU (K i n:Nat) (hi:i<K):(dc (List.replicate (K-i) 0++be i n)).set (0+(K-1-i)) (.int .u8 ((UInt8.ofNat (n/256 ^ i)).toNat:Int))=dc (List.replicate (K-(i+1)) 0++be (i+1) n):=by
 obtain ⟨m,rfl⟩:∃ m,K=m+1+i:=⟨K-1-i,ag⟩
 rw [show m+1+i-i=m+1 by omega,show 0+(m+1+i-1-i)=m by omega,show m+1+i-(i+1)=m by omega,xJ]
 have h:=set_mid (B:=[]) (W:=dc (List.replicate m 0)) (Z:=dc (0::be i n)) (j:=m) (u:= .int .u8 ((UInt8.ofNat (n/256 ^ i)).toNat:Int)) (by rw [aP,List.length_replicate]) (by rw [aP,List.length_cons]; omega)
 simp only [List.nil_append,List.length_nil,Nat.zero_add] at h
 rw [List.replicate_succ',List.append_assoc,List.singleton_append]
 unfold dc at h ⊢
 rw [List.map_append,h,List.map_append]
 rfl
set_option maxRecDepth 100000 in
set_option maxHeartbeats 4000000 in
theorem Ak (w0 w:World) (R:List Seg) (n kk:Nat) (z0 z:Int) (h0:z0=n) (hz:z=kk) (hK:kk≤8) (hA:Hp w0 R w):Calls Tryz.prog 157 #[.int .u64 z0,.int .i64 z] w fun e w'=>∃ g,e= .returned (.slice (some ⟨g,0,none⟩) kk kk)∧Hp w0 ([row g 5 (dc (be kk n))]::R) w':=by
 subst h0 hz
 refine aO Tryz.func157 O Tryz.ntmps157 ai (fun a hF=>?_)
 refine wS hF fun K1 hK1=>vX O<|vE hK1 fun a hF=>?_
 clear hK1 K1
 refine wS hF fun K2 hK2=>vX O fun a hF=>?_
 refine aH O (fun K hK=>qg (size:=1) (bytes:=1) (u:= .int .u8 0) hF O ae rfl hA KY qc ae kk rfl rfl ag ag ag ag (fun b1 w2 a hb1 hF hA3=>hK _ _ ?_))
 clear hK K
 have hA4:Hp w0 ([row b1 5 (dc (List.replicate (kk-0) 0++be 0 n))]::R) w2:=by
  have e:dc (List.replicate (kk-0) 0++be 0 n)=List.replicate (kk*1) (.int .u8 0):=by simp [dc,be]
  rw [e]; exact hA3
 refine vR hF<|vX O<|vE hK2 fun a hF=>?_
 clear hK2 K2
 apply wp_seq_k; intro K3 hK3
 refine wS hF fun K4 hK4=>vX O<|vE hK4 fun a hF=>?_
 clear hK4 K4
 apply wp_block
 refine bM (G:=Nat) (fun i a x=>i≤kk∧Fr 27 [(6,.int .i64 (i:Int)),(0,.int .u64 ((n:Nat):Int)),(1,.int .i64 ((kk:Nat):Int)),(5,.slice (some ⟨b1,0,none⟩) kk kk)] a∧Hp w0 ([row b1 5 (dc (List.replicate (kk-i) 0++be i n))]::R) x) (fun i=>kk-i) 0 (⟨KW _,hF.keep [6,0,1,5] rfl,hA4⟩) ?_
 clear hF
 rintro i a w6 ⟨hi,hF,hA5⟩
 apply wp_seq_k; intro K5 hK5
 refine wS hF fun K6 hK6=>vX O<|vX O<|vV O (aG O O O O O)<|vE hK6 fun a hF=>?_
 clear hK6 K6
 by_cases hlt:i<kk
 ·refine aF hF O (dM ag) ?_
  apply wp_skip
  refine hK5 _ _ ?_; clear  hK5 K5
  apply wp_seq_k; intro K7 hK7
  apply wp_block
  refine wp_region_lit ?_
  refine vR hF<|vX O<|vX O<|vV O (eU (r:=((kk-1:Nat):Int)) O O O (by rw [KX _ ag]; omega)) fun a hF=>?_
  refine vR hF<|vX O<|vV O (eU (r:=((kk-1-i:Nat):Int)) O O O (by rw [KX _ ag]; omega)) fun a hF=>?_
  refine vR hF<|vX O<|vX O<|vV O (nJ (r:=((8*i:Nat):Int)) O O O (by rw [KX _ ag]; omega)) fun a hF=>?_
  refine vR hF<|vV O (bI O Lh Tryz.underlying38 O (show IntKind.u64.wrap (((8*i:Nat):Int))=((8*i:Nat):Int) by rw [IntKind.wrap_u64]; omega)) fun a hF=>?_
  refine vR hF<|vV O (lT O O O ag rfl)<|vV O (bI (r:=((UInt8.ofNat (n/256 ^ i)).toNat:Int)) O Lu Lt O (pM n i (8*i) rfl ag))<|vV O (bT O KY tq O O (kk-1-i) rfl ag (ad2 _ _ _)) fun a hF=>?_
  refine aH O (fun K hK=>bz hF O O hA5 O O 0 O (by rw [aP,List.length_append,List.length_replicate,bi]; omega) rfl tq (fun w7 hA8=>hK _ _ ?_))
  clear hK K
  replace hA8:Hp w0 ([row b1 5 ((dc (List.replicate (kk-i) 0++be i n)).set (0+(kk-1-i)) (.int .u8 ((UInt8.ofNat (n/256 ^ i)).toNat:Int)))]::R) w7:=hA8
  have hA9:Hp w0 ([row b1 5 (dc (List.replicate (kk-(i+1)) 0++be (i+1) n))]::R) w7:=by
   rw [← IU kk i n hlt]; exact hA8
  refine aK<|hK7 _ _ ?_
  clear hK7 K7
  refine wp_region_lit ?_
  refine vR hF<|vX O<|vV O (bU O O O (KX _ ag))<|vX O fun a hF=>?_
  refine aK ?_
  exact ⟨i+1,ag,ag,hF.keep [6,0,1,5] rfl,hA9⟩
 ·refine ay hF O (dG ag) ?_
  obtain rfl:i=kk:=by omega
  apply wp_exit
  refine hK3 _ _ ?_; clear hK5 K5 hK3 K3
  refine wS hF fun K8 hK8=>vX O<|vX O<|vE hK8 fun a hF=>?_
  clear hK8 K8
  apply wp_ret
  refine aN hF Tryz.results157 O ?_
  rw [Nat.sub_self,List.replicate_zero,List.nil_append] at hA5
  exact ⟨_,rfl,hA5⟩
end Go.Proofs.YtepbmdlgdaedpaaGreatDoor
