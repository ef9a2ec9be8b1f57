/- What a tree of items proves, and what is built of items: plain functions and their laws. No program is walked here. -/
import Derived.Test.YtpomngkcfbnjoaaGreatDoorRt
/- What a tree of items proves, and what is built of items: plain functions and their laws. No program is walked here. -/
namespace Go.Proofs.YtpomngkcfbnjoaaGreatDoor
open Go Go.RowKit Go.Dk
theorem uD (a b:List UInt8):bI a b=bI b a:=by
  refine kG (nP b a) (gV b a).symm fun h=>?_
  exact fun e=>lQ h e.symm
def iC (k:List UInt8) (h:Nat) (l:List Itm):List Itm:=l.filter fun i=>decide (bI i.k k=255-h)
theorem uG (k:List UInt8) (h:Nat) (l r:List Itm):iC k h (l++r)=iC k h l++iC k h r:=List.filter_append ..
theorem CU {k:List UInt8} {h:Nat} {l:List Itm} (hl:∀ i∈l,bI i.k k=255-h):iC k h l=l:=List.filter_eq_self.2 fun i hi=>decide_eq_true (hl i hi)
theorem pM {k:List UInt8} {h:Nat} {l:List Itm} (hl:∀ i∈l,bI i.k k≠255-h):iC k h l=[]:=List.filter_eq_nil_iff.2 fun i hi=>by simpa using hl i hi
def nbr (width:Int) (k:List UInt8) (L:List Itm) (h:Nat):List UInt8:=dQ width h (iC k h L)
def BInv (width:Int) (k:List UInt8) (L:List Itm) (t:Rx) (f:Nat→List UInt8):Prop :=
  ∀ h,h<256→iC k h L=iC k h t.items∧f h=aK width h∨iC k h t.items=[]∧f h=nbr width k L h
def ry (f:Nat→List UInt8) (h0:Nat) (d:List UInt8):Nat→List UInt8:=fun h=>if h=h0 then d else f h
theorem mX (f:Nat→List UInt8) (h0:Nat) (d:List UInt8):ry f h0 d h0=d:=if_pos rfl
theorem ru (f:Nat→List UInt8) {h0 h:Nat} (d:List UInt8) (hh:h≠h0):ry f h0 d h=f h:=if_neg hh
theorem BInv.top (width:Int) (k:List UInt8) (t:Rx):BInv width k t.items t (aK width):=fun _ _=> .inl ⟨rfl,rfl⟩
theorem BInv.done {width:Int} {k:List UInt8} {L:List Itm} {t:Rx} {f:Nat→List UInt8} (hI:BInv width k L t f) (hn:∀ h,h<256→iC k h t.items=[]):∀ h,h<256→f h=nbr width k L h:=fun h hh=>by
  rcases hI h hh with ⟨h1,h2⟩ | ⟨_,h2⟩
  · unfold nbr; rw [h1,hn h hh,iw]; exact h2
  · exact h2
theorem BInv.empty (width:Int) (k:List UInt8):∀ h,h<256→aK width h=nbr width k [] h:=fun h _=>by
  unfold nbr iC
  rw [List.filter_nil,iw]
theorem BInv.leaf {width:Int} {k:List UInt8} {L:List Itm} {i:Itm} {f:Nat→List UInt8} (hI:BInv width k L (.leaf i) f) (hp:¬ bI k i.k<256):∀ h,h<256→f h=nbr width k L h :=
  hI.done fun h hh=>pM fun x hx=>by
    rw [List.mem_singleton.1 hx,uD]; omega
theorem Rx.Good.parts {t:Rx} (hg:t.Good) {k:List UInt8} (hp:bI k t.key<t.bit):∀ i∈t.items,bI i.k k=bI k t.key:=fun i hi=>by
  have hb:=Rx.bit_le hg
  have h1:=hg.agree i hi
  rw [uD]
  refine kG ag (fun j hj=>?_) (fun _=>?_)
  · rw [h1 j ag]; exact gV k t.key j hj
  · rw [h1 _ hp]; exact lQ ag
theorem BInv.out {width:Int} {k:List UInt8} {L:List Itm} {t:Rx} {f:Nat→List UInt8} (hg:t.Good) (hI:BInv width k L t f) (hp:bI k t.key<t.bit):∀ h,h<256→ry f (255-bI k t.key) (t.lift width (255-bI k t.key)) h=nbr width k L h:=fun h hh=>by
  have hb:=Rx.bit_le hg
  have h1:=hg.parts hp
  by_cases he:h=255-bI k t.key
  · subst he
    have h2:iC k (255-bI k t.key) t.items=t.items:=CU fun i hi=>by rw [h1 i hi]; omega
    rw [mX,Rx.lift_sub hg ag ag]
    rcases hI _ hh with ⟨h3,_⟩ | ⟨h3,_⟩
    · unfold nbr; rw [h3,h2]
    · rw [h2] at h3; exact absurd h3 t.items_ne
  · have h2:iC k h t.items=[]:=pM fun i hi=>by rw [h1 i hi]; omega
    rw [ru _ _ he]
    rcases hI h hh with ⟨h3,h4⟩ | ⟨_,h4⟩
    · unfold nbr; rw [h3,h2,iw]; exact h4
    · exact h4
theorem BInv.side {width:Int} {k:List UInt8} {L:List Itm} {b:Nat} {l r m o:Rx} {f:Nat→List UInt8} (hg:(Rx.fork b l r).Good) (hI:BInv width k L (.fork b l r) f) (hp:¬ bI k l.key<b) (hs:bK k b=0∧m=l∧o=r∨bK k b=1∧m=r∧o=l):BInv width k L m (ry f (255-b) (o.lift width (255-b))):=by
  obtain ⟨h1,h2,h3,h4,h5,h6⟩:=hg
  have hlb:=Rx.bit_le h1
  have hrb:=Rx.bit_le h2
  have hk:agree k l.key b:=(gV k l.key).le ag
  have hob:256-o.bit≤255-b∧o.Good:=by
    rcases hs with ⟨_,_,rfl⟩ | ⟨_,_,rfl⟩
    · exact ⟨ ag,h2⟩
    · exact ⟨ ag,h1⟩
  have ho:∀ i∈o.items,bI i.k k=b:=fun i hi=>by
    rcases hs with ⟨hb,_,rfl⟩ | ⟨hb,_,rfl⟩
    · exact kG ag ((h6 i hi).1.trans hk.symm) fun _=>by rw [(h6 i hi).2,hb]; decide
    · exact kG ag ((h5 i hi).1.trans hk.symm) fun _=>by rw [(h5 i hi).2,hb]; decide
  have hm:∀ i∈m.items,b+1≤bI i.k k:=fun i hi=>by
    rcases hs with ⟨hb,rfl,_⟩ | ⟨hb,rfl,_⟩
    · exact pK ag (((h5 i hi).1.trans hk.symm).succ (by rw [(h5 i hi).2,hb]))
    · exact pK ag (((h6 i hi).1.trans hk.symm).succ (by rw [(h6 i hi).2,hb]))
  intro h hh
  by_cases he:h=255-b
  · subst he
    have e1:iC k (255-b) o.items=o.items:=CU fun i hi=>by rw [ho i hi]; omega
    have e2:iC k (255-b) m.items=[]:=pM fun i hi=>by have:=hm i hi; omega
    have e3:iC k (255-b) (Rx.fork b l r).items=o.items:=by
      show iC k (255-b) (l.items++r.items)=_
      rw [uG]
      rcases hs with ⟨_,rfl,rfl⟩ | ⟨_,rfl,rfl⟩
      · rw [e1,e2,List.nil_append]
      · rw [e1,e2,List.append_nil]
    refine .inr ⟨e2,?_⟩
    rw [mX,Rx.lift_sub hob.2 hob.1 ag]
    rcases hI _ hh with ⟨h7,_⟩ | ⟨h7,_⟩
    · unfold nbr; rw [h7,e3]
    · rw [e3] at h7; exact absurd h7 o.items_ne
  · have e1:iC k h o.items=[]:=pM fun i hi=>by rw [ho i hi]; omega
    have e3:iC k h (Rx.fork b l r).items=iC k h m.items:=by
      show iC k h (l.items++r.items)=_
      rw [uG]
      rcases hs with ⟨_,rfl,rfl⟩ | ⟨_,rfl,rfl⟩
      · rw [e1,List.append_nil]
      · rw [e1,List.nil_append]
    rw [ru _ _ he,← e3]
    exact hI h hh
def iE (f e:Nat→List UInt8):Nat→List UInt8
  | 0=>List.replicate 32 0
  | h+1=>if f h=e h then iE f e h else (iE f e h).set (h/8) (UInt8.ofNat ((bAt (iE f e h) (h/8)).toNat+2 ^ (h%8)))
def oN (f e:Nat→List UInt8):Nat→List (List UInt8)
  | 0=>[]
  | h+1=>if f h=e h then oN f e h else oN f e h++[f h]
theorem lK (f e:Nat→List UInt8):∀ h,(iE f e h).length=32
  | 0=>List.length_replicate ..
  | h+1=>by
    unfold iE
    split
    · exact lK f e h
    · rw [List.length_set]; exact lK f e h
theorem rO (f e:Nat→List UInt8):∀ h,(oN f e h).length≤h
  | 0=>TG _
  | h+1=>by
    have:=rO f e h
    unfold oN
    split
    · omega
    · rw [List.length_append]; show _+1≤_; omega
theorem tZ {f e:Nat→List UInt8} {n:Nat} (hf:∀ h,h<n→(f h).length=32):∀ h,h≤n→∀ d∈oN f e h,d.length=32
  | 0,_=>fun d hd=>by cases hd
  | h+1,hh=>fun d hd=>by
    unfold oN at hd
    split at hd
    · exact tZ hf h ag d hd
    · rcases List.mem_append.1 hd with hd | hd
      · exact tZ hf h ag d hd
      · rw [List.mem_singleton.1 hd]; exact hf h ag
theorem uF {f g e e':Nat→List UInt8} {n:Nat} (h1:∀ h,h<n→f h=g h) (h2:∀ h,h<n→e h=e' h):∀ h,h≤n→iE f e h=iE g e' h∧oN f e h=oN g e' h
  | 0,_=>⟨rfl,rfl⟩
  | h+1,hh=>by
    obtain ⟨i1,i2⟩:=uF h1 h2 h ag
    unfold iE oN
    rw [h1 h ag,h2 h ag,i1,i2]
    exact ⟨rfl,rfl⟩
theorem Qq {l:List UInt8} {i j:Nat} {x:UInt8} (hi:i<l.length):bAt (l.set i x) j=if i=j then x else bAt l j:=by
  unfold bAt
  rw [List.getElem?_set]
  by_cases h:i=j
  · subst h; rw [if_pos rfl,if_pos hi,if_pos rfl]; rfl
  · rw [if_neg h,if_neg h]
theorem CQ (f e:Nat→List UInt8):∀ h,h≤256→∀ j,j<32→(h≤8*j→bAt (iE f e h) j=0)∧(8*j≤h→h≤8*j+8→(bAt (iE f e h) j).toNat<2 ^ (h-8*j))
  | 0,_,j,hj=>by
    have e0:bAt (iE f e 0) j=0:=by
      unfold iE bAt
      rw [List.getElem?_replicate,if_pos hj]; rfl
    refine ⟨fun _=>e0,fun h1 _=>?_⟩
    rw [e0]; exact Nat.two_pow_pos _
  | h+1,hh,j,hj=>by
    obtain ⟨i1,i2⟩:=CQ f e h ag j hj
    unfold iE
    split
    · refine ⟨fun h1=>i1 ag,fun h1 h2=>?_⟩
      rcases Nat.lt_or_ge h (8*j) with h3 | h3
      · rw [i1 ag]; exact Nat.two_pow_pos _
      · have:=i2 h3 ag
        rw [show h+1-8*j=(h-8*j)+1 by omega,Nat.pow_succ]; omega
    · rw [Qq (by rw [lK]; omega)]
      refine ⟨fun h1=>by rw [if_neg ag]; exact i1 ag,fun h1 h2=>?_⟩
      split
      · rename_i h3
        have h4:=i2 ag ag
        have h5:h%8=h-8*j:=by omega
        rw [h3,h5,show h+1-8*j=(h-8*j)+1 by omega,Nat.pow_succ]
        have h6:(UInt8.ofNat ((bAt (iE f e h) j).toNat+2 ^ (h-8*j))).toNat≤(bAt (iE f e h) j).toNat+2 ^ (h-8*j):=by
          rw [UInt8.toNat_ofNat']; exact Nat.mod_le _ _
        omega
      · rename_i h3
        rcases Nat.lt_or_ge h (8*j) with h4 | h4
        · rw [i1 ag]; exact Nat.two_pow_pos _
        · have:=i2 h4 ag
          rw [show h+1-8*j=(h-8*j)+1 by omega,Nat.pow_succ]; omega
theorem or_add:∀ j:Fin 8,∀ x:Fin 256,x.val<2 ^ j.val→bits .or .u8 (x.val:Int) ((2 ^ j.val:Nat):Int)=((x.val+2 ^ j.val:Nat):Int)∧x.val+2 ^ j.val<256:=by decide +kernel
theorem qJ (f e:Nat→List UInt8) {h:Nat} (hh:h<256):bits .or .u8 (((bAt (iE f e h) (h/8)).toNat:Nat):Int) ((2 ^ (h%8):Nat):Int)=((UInt8.ofNat ((bAt (iE f e h) (h/8)).toNat+2 ^ (h%8))).toNat:Int)∧IntKind.u8.wrap (((bAt (iE f e h) (h/8)).toNat:Int)+((2 ^ (h%8):Nat):Int))=((UInt8.ofNat ((bAt (iE f e h) (h/8)).toNat+2 ^ (h%8))).toNat:Int):=by
  have h1:=(CQ f e h ag (h/8) ag).2 ag ag
  rw [show h-8*(h/8)=h%8 by omega] at h1
  obtain ⟨h2,h3⟩:=or_add ⟨h%8,ag⟩ ⟨_,(bAt (iE f e h) (h/8)).toNat_lt⟩ h1
  have h4:(UInt8.ofNat ((bAt (iE f e h) (h/8)).toNat+2 ^ (h%8))).toNat=(bAt (iE f e h) (h/8)).toNat+2 ^ (h%8):=by
    rw [UInt8.toNat_ofNat']; exact Nat.mod_eq_of_lt h3
  rw [h4]
  refine ⟨h2,?_⟩
  rw [IntKind.wrap_u8]
  have h5:(bAt (iE f e h) (h/8)).toNat+2 ^ (h%8)<256:=h3
  omega
def SB:List UInt8:=List.replicate 32 0
def gX (L:List Itm) (k:List UInt8):Option Itm:=L.find? fun i=>decide (i.k=k)
def dF (L:List Itm) (k:List UInt8):Int:=match gX L k with | some i=>i.ct | none=>0
def dC (L:List Itm) (k:List UInt8):List UInt8:=match gX L k with | some i=>i.ch | none=>SB
def aV (width:Int) (L:List Itm) (k:List UInt8) (h:Nat):Prf:=⟨(gX L k).isSome,dF L k,dC L k,iE (nbr width k L) (aK width) h,oN (nbr width k L) (aK width) h⟩
theorem jR {L:List Itm} (hL:∀ i∈L,i.OK) (k:List UInt8):(dC L k).length=32:=by
  unfold dC
  split
  · rename_i i h; exact (hL i (List.mem_of_find?_eq_some h)).ch
  · exact List.length_replicate ..
theorem oG (width:Int) (k:List UInt8) (L:List Itm) (h:Nat):(nbr width k L h).length=32:=by
  unfold nbr
  generalize iC k h L=l
  cases l with
  | nil=>rw [iw]; exact bZ _ _
  | cons i l =>
    cases h with
    | zero=>rw [lM]; exact jl _ _
    | succ h=>rw [lN]; exact jW ..
theorem vF {width:Int} {L:List Itm} (hL:∀ i∈L,i.OK) (k:List UInt8) {h:Nat} (hh:h≤256):(aV width L k h).OK :=
  ⟨jR hL k,lK _ _ _,tZ (n:=256) (fun h _=>oG _ _ _ _) h hh,Nat.le_trans (rO _ _ _) ag⟩
def okC (i:Itm):Bool:=decide (1≤i.ct∧i.ct≤1099511627776)
def hasK (L:List Itm) (k:List UInt8):Bool:=L.any fun i=>decide (i.k=k)
def jm (acc:List Itm):List Itm→Nat × List Itm
  | []=>(0,acc)
  | i::l=>if okC i=true then (if hasK acc i.k=true then (92,[]) else jm (insL i acc) l) else (8,[])
theorem sJ (L:List Itm) (k:List UInt8):(gX L k).isSome=hasK L k:=by
  unfold gX hasK
  induction L with
  | nil=>rfl
  | cons i L ih =>
    by_cases h:i.k=k
    · rw [List.find?_cons_of_pos (by exact decide_eq_true h),List.any_cons,decide_eq_true h]; rfl
    · rw [List.find?_cons_of_neg (by simpa using h),List.any_cons,decide_eq_false h,ih]; rfl
theorem sF {i:Itm}:∀ (l:List Itm),(insL i l).length≤l.length+1
  | []=>TG _
  | j::l=>by
    have:=sF (i:=i) l
    unfold insL
    split
    · show _+1≤_; show (insL i l).length+1≤l.length+1+1; omega
    · split
      · show l.length+1≤l.length+1+1; omega
      · exact TG _
theorem Po {i:Itm} (hi:i.OK) {l:List Itm} (hl:∀ x∈l,x.OK):∀ x∈insL i l,x.OK:=fun x hx=>by
  rcases Dj hx with rfl | h
  · exact hi
  · exact hl x h
theorem DZ:∀ (acc l:List Itm),(jm acc l).2.length≤acc.length+l.length
  | acc,[]=>TG _
  | acc,i::l=>by
    have h1:=DZ (insL i acc) l
    have h2:=sF (i:=i) acc
    unfold jm
    split
    · split
      · exact Tv _
      · rw [List.length_cons]; omega
    · exact Tv _
end Go.Proofs.YtpomngkcfbnjoaaGreatDoor
