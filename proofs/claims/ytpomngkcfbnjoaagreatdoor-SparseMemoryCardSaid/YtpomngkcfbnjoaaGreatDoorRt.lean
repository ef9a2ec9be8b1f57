/- Texts that belong together, one behind the other. -/
import Derived.Test.YtpomngkcfbnjoaaGreatDoorSp9
namespace Go.Proofs.YtpomngkcfbnjoaaGreatDoor
open Go Go.RowKit Go.Dk
def agree (a b:List UInt8) (n:Nat):Prop:=∀ i,i<n→bK a i=bK b i
theorem yh (a:List UInt8) (n:Nat):agree a a n:=fun _ _=>rfl
theorem agree.symm {a b:List UInt8} {n:Nat} (h:agree a b n):agree b a n:=fun i hi=>(h i hi).symm
theorem agree.trans {a b c:List UInt8} {n:Nat} (h:agree a b n) (h2:agree b c n):agree a c n:=fun i hi=>(h i hi).trans (h2 i hi)
theorem agree.le {a b:List UInt8} {n m:Nat} (h:agree a b n) (hm:m≤n):agree a b m:=fun i hi=>h i ag
theorem agree.succ {a b:List UInt8} {n:Nat} (h:agree a b n) (hn:bK a n=bK b n):agree a b (n+1):=fun i hi=>by
  rcases Nat.lt_or_ge i n with h2 | h2
  · exact h i h2
  · obtain rfl:i=n:=by omega
    exact hn
theorem iT (k:List UInt8) (i:Nat):bK k i<2:=Nat.mod_lt _ ae
def nb:List UInt8→Nat
  | []=>0
  | b::l=>b.toNat*2 ^ (8*l.length)+nb l
theorem uH:∀ l:List UInt8,nb l<2 ^ (8*l.length)
  | []=>by decide
  | b::l=>by
    have h1:=uH l
    have h2:=b.toNat_lt
    have h3:2 ^ (8*(b::l).length)=2 ^ (8*l.length)*256:=by
      rw [List.length_cons,Nat.mul_add,Nat.pow_add]
    show b.toNat*2 ^ (8*l.length)+nb l<_
    rw [h3]
    have h4:b.toNat*2 ^ (8*l.length)≤255*2 ^ (8*l.length):=Nat.mul_le_mul_right _ ag
    omega
theorem zt:∀ (k:List UInt8) (i:Nat),i<8*k.length→bK k i=nb k/2 ^ (8*k.length-1-i)%2
  | [],i,h=>absurd h (by simp)
  | b::l,i,h=>by
    rw [List.length_cons] at h
    have hn:=uH l
    rcases Nat.lt_or_ge i 8 with h8 | h8
    · have e1:i/8=0:=by omega
      have e2:i%8=i:=by omega
      have e3:8*(l.length+1)-1-i=8*l.length+(7-i):=by omega
      unfold bK
      rw [e1,e2,List.length_cons,e3,Nat.pow_add,← Nat.div_div_eq_div_mul]
      show b.toNat/_%2=(b.toNat*2 ^ (8*l.length)+nb l)/2 ^ (8*l.length)/_%2
      rw [Nat.add_comm,Nat.add_mul_div_right _ _ (Nat.two_pow_pos _),Nat.div_eq_of_lt hn,Nat.zero_add]
    · have e1:i/8=(i-8)/8+1:=by omega
      have e2:i%8=(i-8)%8:=by omega
      have e3:8*(l.length+1)-1-i=8*l.length-1-(i-8):=by omega
      have e4:bK (b::l) i=bK l (i-8):=by
        unfold bK
        rw [e1,e2]
        rfl
      rw [e4,zt l (i-8) ag,List.length_cons,e3]
      show _=(b.toNat*2 ^ (8*l.length)+nb l)/_%2
      obtain ⟨c,hc⟩:∃ c,8*l.length=(8*l.length-1-(i-8))+1+c:=⟨i-8,ag⟩
      have e5:b.toNat*2 ^ (8*l.length)=(b.toNat*2 ^ c*2)*2 ^ (8*l.length-1-(i-8)):=by
        conv=>lhs; rw [hc]
        rw [Nat.pow_add,Nat.pow_add]
        generalize 2 ^ (8*l.length-1-(i-8))=X
        generalize 2 ^ c=Y
        rw [Nat.pow_one,Nat.mul_comm X 2,Nat.mul_assoc 2 X Y,Nat.mul_comm X Y,← Nat.mul_assoc 2 Y X,Nat.mul_comm 2 Y,← Nat.mul_assoc b.toNat (Y*2) X,Nat.mul_assoc b.toNat Y 2]
      rw [e5,Nat.add_comm,Nat.add_mul_div_right _ _ (Nat.two_pow_pos _),Nat.add_mul_mod_self_right]
theorem vI {k:List UInt8} (hk:k.length=32) {i:Nat} (hi:i<256):nb k/2 ^ (255-i)=2*(nb k/2 ^ (256-i))+bK k i:=by
  have h1:=zt k i (by rw [hk]; exact hi)
  rw [hk] at h1
  have h2:256-i=(255-i)+1:=by omega
  rw [h2,Nat.pow_succ,← Nat.div_div_eq_div_mul]
  have h3:8*32-1-i=255-i:=rfl
  rw [h3] at h1
  omega
theorem yj {a b:List UInt8} (ha:a.length=32) (hb:b.length=32):∀ n,n≤256→agree a b n→nb a/2 ^ (256-n)=nb b/2 ^ (256-n)
  | 0,_,_=>by
    have h1:=uH a
    have h2:=uH b
    rw [ha] at h1; rw [hb] at h2
    rw [Nat.div_eq_of_lt h1,Nat.div_eq_of_lt h2]
  | n+1,hn,h=>by
    have h1:=yj ha hb n ag (h.le ag)
    have h2:256-(n+1)=255-n:=by omega
    rw [h2,vI ha ag,vI hb ag,h1,h n ag]
theorem rX {a b:List UInt8} (ha:a.length=32) (hb:b.length=32) {n:Nat} (hn:n<256) (h:agree a b n) (h0:bK a n=0) (h1:bK b n=1):nb a<nb b:=by
  have e:=yj ha hb n ag h
  have ea:=vI ha hn
  have eb:=vI hb hn
  rw [h0,e] at ea
  rw [h1] at eb
  have h2:nb a/2 ^ (255-n)<nb b/2 ^ (255-n):=by omega
  rcases Nat.lt_or_ge (nb a) (nb b) with h3 | h3
  · exact h3
  · exact absurd (Nat.div_le_div_right (c:=2 ^ (255-n)) h3) ag
theorem Fe:∀ {a b:List UInt8},a.length=b.length→nb a=nb b→a=b
  | [],[],_,_=>rfl
  | [],_::_,h,_=>by cases h
  | _::_,[],h,_=>by cases h
  | x::a,y::b,h,e=>by
    have hl:a.length=b.length:=by simpa using h
    have h1:=uH a
    have h2:=uH b
    have e':x.toNat*2 ^ (8*a.length)+nb a=y.toNat*2 ^ (8*b.length)+nb b:=e
    rw [← hl] at e' h2
    have e3:x.toNat=y.toNat:=by
      have d1:(x.toNat*2 ^ (8*a.length)+nb a)/2 ^ (8*a.length)=x.toNat:=by rw [Nat.add_comm,Nat.add_mul_div_right _ _ (Nat.two_pow_pos _),Nat.div_eq_of_lt h1,Nat.zero_add]
      have d2:(y.toNat*2 ^ (8*a.length)+nb b)/2 ^ (8*a.length)=y.toNat:=by rw [Nat.add_comm,Nat.add_mul_div_right _ _ (Nat.two_pow_pos _),Nat.div_eq_of_lt h2,Nat.zero_add]
      rw [← d1,e',d2]
    rw [e3] at e'
    rw [UInt8.toNat_inj.1 e3,Fe hl ag]
theorem Jl {a b:List UInt8} (ha:a.length=32) (hb:b.length=32) (h:agree a b 256):a=b:=by
  have h1:=yj ha hb 256 (TG _) h
  rw [Nat.sub_self,Nat.pow_zero,Nat.div_one,Nat.div_one] at h1
  exact Fe (ha.trans hb.symm) h1
def bI (a b:List UInt8):Nat:=(List.range 256).findIdx fun i=>decide (bK a i≠bK b i)
theorem nP (a b:List UInt8):bI a b≤256:=by
  have h:=List.findIdx_le_length (xs:=List.range 256) (p:=fun i=>decide (bK a i≠bK b i))
  rw [List.length_range] at h
  exact h
theorem gV (a b:List UInt8):agree a b (bI a b):=fun i hi=>by
  have h:=List.not_of_lt_findIdx (xs:=List.range 256) (p:=fun i=>decide (bK a i≠bK b i)) hi
  simp only [List.getElem_range] at h
  simpa using h
theorem lQ {a b:List UInt8} (h:bI a b<256):bK a (bI a b)≠bK b (bI a b):=by
  have h1:=List.findIdx_getElem (xs:=List.range 256) (p:=fun i=>decide (bK a i≠bK b i)) (w:=by rw [List.length_range]; exact h)
  simp only [List.getElem_range] at h1
  exact of_decide_eq_true h1
theorem kG {a b:List UInt8} {p:Nat} (hp:p≤256) (h:agree a b p) (hn:p<256→bK a p≠bK b p):bI a b=p:=by
  have h1:=nP a b
  rcases Nat.lt_trichotomy (bI a b) p with h2 | h2 | h2
  · exact absurd (h _ h2) (lQ ag)
  · exact h2
  · exact absurd (gV a b p h2) (hn ag)
theorem pK {a b:List UInt8} {p:Nat} (hp:p≤256) (h:agree a b p):p≤bI a b:=by
  rcases Nat.lt_or_ge (bI a b) p with h2 | h2
  · exact absurd (h _ h2) (lQ ag)
  · exact h2
theorem CJ {a b:List UInt8} (ha:a.length=32) (hb:b.length=32) (h:¬ bI a b<256):a=b:=by
  have h1:=nP a b
  have h2:=gV a b
  rw [show bI a b=256 by omega] at h2
  exact Jl ha hb h2
inductive Rx where
  | leaf (i:Itm)
  | fork (b:Nat) (l r:Rx)
def Rx.items:Rx→List Itm
  | .leaf i=>[i]
  | .fork _ l r=>l.items++r.items
def Rx.key:Rx→List UInt8
  | .leaf i=>i.k
  | .fork _ l _=>l.key
def Rx.bit:Rx→Nat
  | .leaf _=>256
  | .fork b _ _=>b
def Rx.size:Rx→Nat
  | .leaf _=>1
  | .fork _ l r=>l.size+r.size
theorem Rx.size_eq:∀ t:Rx,t.size=t.items.length
  | .leaf _=>rfl
  | .fork _ l r=>by show l.size+r.size=(l.items++r.items).length; rw [List.length_append,Rx.size_eq l,Rx.size_eq r]
theorem Rx.size_pos:∀ t:Rx,0<t.size
  | .leaf _=>Nat.one_pos
  | .fork _ l r=>Nat.lt_of_lt_of_le (Rx.size_pos l) (Nat.le_add_right _ _)
theorem Rx.key_mem:∀ t:Rx,∃ i∈t.items,i.k=t.key
  | .leaf i=>⟨i,List.mem_singleton.2 rfl,rfl⟩
  | .fork _ l r=>by obtain ⟨i,h1,h2⟩:=Rx.key_mem l; exact ⟨i,TD _ h1,h2⟩
def Rx.Good:Rx→Prop
  | .leaf i=>i.OK
  | .fork b l r=>l.Good∧r.Good∧b<l.bit∧b<r.bit∧(∀ i∈l.items,agree i.k l.key b∧bK i.k b=0)∧(∀ i∈r.items,agree i.k l.key b∧bK i.k b=1)
theorem Rx.Good.ok:∀ {t:Rx},t.Good→∀ i∈t.items,i.OK
  | .leaf i,h,j,hj=>by rw [List.mem_singleton.1 hj]; exact h
  | .fork b l r,⟨h1,h2,_⟩,j,hj=>by
    rcases List.mem_append.1 hj with h | h
    · exact Rx.Good.ok h1 j h
    · exact Rx.Good.ok h2 j h
theorem Rx.Good.key {t:Rx} (h:t.Good):t.key.length=32:=by
  obtain ⟨i,h1,h2⟩:=t.key_mem
  rw [← h2]; exact (h.ok i h1).k
theorem Rx.bit_le {t:Rx} (h:t.Good):t.bit≤256:=by
  cases t with
  | leaf i=>exact TG _
  | fork b l r =>
    obtain ⟨h1,_,h3,_⟩:=h
    have:=Rx.bit_le h1
    show b≤256
    omega
theorem Rx.Good.agree:∀ {t:Rx},t.Good→∀ i∈t.items,agree i.k t.key t.bit
  | .leaf i,h,j,hj=>by rw [List.mem_singleton.1 hj]; exact yh _ _
  | .fork b l r,⟨h1,h2,h3,h4,h5,h6⟩,j,hj=>by
    rcases List.mem_append.1 hj with h | h
    · exact (h5 j h).1
    · exact (h6 j h).1
def insL (i:Itm):List Itm→List Itm
  | []=>[i]
  | j::l=>if nb j.k<nb i.k then j::insL i l else if nb j.k=nb i.k then i::l else i::j::l
theorem ul {i:Itm}:∀ {l r:List Itm},(∀ j∈l,nb j.k<nb i.k)→insL i (l++r)=l++insL i r
  | [],r,_=>rfl
  | j::l,r,h=>by
    show (if nb j.k<nb i.k then j::insL i (l++r) else _)=_
    rw [if_pos (h j (TF ..)),ul fun x hx=>h x (TI _ hx)]; rfl
theorem qM {i:Itm}:∀ {l r:List Itm},(∀ j∈r,nb i.k<nb j.k)→insL i (l++r)=insL i l++r
  | [],[],_=>rfl
  | [],j::r,h=>by
    have h1:=h j (TF ..)
    show (if nb j.k<nb i.k then _ else if nb j.k=nb i.k then _ else i::j::r)=_
    rw [if_neg ag,if_neg ag]; rfl
  | j::l,r,h=>by
    show (if nb j.k<nb i.k then j::insL i (l++r) else if nb j.k=nb i.k then i::(l++r) else i::j::(l++r))=(if nb j.k<nb i.k then j::insL i l else if nb j.k=nb i.k then i::l else i::j::l)++r
    rw [qM h]
    split
    · rfl
    · split <;> rfl
theorem Dj {i x:Itm}:∀ {l:List Itm},x∈insL i l→x=i∨x∈l
  | [],h=> .inl (List.mem_singleton.1 h)
  | j::l,h=>by
    unfold insL at h
    split at h
    · rcases List.mem_cons.1 h with rfl | h
      · exact .inr (TF ..)
      · rcases Dj h with h | h
        · exact .inl h
        · exact .inr (TI _ h)
    · split at h
      · rcases List.mem_cons.1 h with h | h
        · exact .inl h
        · exact .inr (TI _ h)
      · rcases List.mem_cons.1 h with h | h
        · exact .inl h
        · exact .inr h
def Rx.join (a c:Rx) (p:Nat):Rx:=if bK a.key p=1 then .fork p c a else .fork p a c
def Rx.ins (i:Itm):Rx→Rx
  | .leaf j=>if bI i.k j.k<256 then (Rx.leaf j).join (.leaf i) (bI i.k j.k) else .leaf i
  | .fork b l r=>if bI i.k l.key<b then (Rx.fork b l r).join (.leaf i) (bI i.k l.key) else if bK i.k b=0 then .fork b (l.ins i) r else .fork b l (r.ins i)
theorem Rx.ins_mem {i x:Itm}:∀ {t:Rx},x∈(t.ins i).items→x=i∨x∈t.items
  | .leaf j,h=>by
    unfold Rx.ins at h
    split at h
    · unfold Rx.join at h
      split at h
      · rcases List.mem_append.1 h with h | h
        · exact .inl (List.mem_singleton.1 h)
        · exact .inr h
      · rcases List.mem_append.1 h with h | h
        · exact .inr h
        · exact .inl (List.mem_singleton.1 h)
    · exact .inl (List.mem_singleton.1 h)
  | .fork b l r,h=>by
    unfold Rx.ins at h
    split at h
    · unfold Rx.join at h
      split at h
      · rcases List.mem_append.1 h with h | h
        · exact .inl (List.mem_singleton.1 h)
        · exact .inr h
      · rcases List.mem_append.1 h with h | h
        · exact .inr h
        · exact .inl (List.mem_singleton.1 h)
    · split at h
      · rcases List.mem_append.1 h with h | h
        · rcases Rx.ins_mem h with h | h
          · exact .inl h
          · exact .inr (TD _ h)
        · exact .inr (TE _ h)
      · rcases List.mem_append.1 h with h | h
        · exact .inr (TD _ h)
        · rcases Rx.ins_mem h with h | h
          · exact .inl h
          · exact .inr (TE _ h)
theorem Rx.join_good {a:Rx} {i:Itm} (ha:a.Good) (hi:i.OK) {p:Nat} (hp:bI i.k a.key=p) (hb:p<a.bit):(a.join (.leaf i) p).Good∧(a.join (.leaf i) p).items=insL i a.items∧(a.join (.leaf i) p).bit=p:=by
  have hab:=Rx.bit_le ha
  have h1:agree i.k a.key p:=by rw [← hp]; exact gV _ _
  have h2:bK i.k p≠bK a.key p:=by rw [← hp]; exact lQ ag
  have h3:=iT i.k p
  have h4:=iT a.key p
  have h5:∀ x∈a.items,agree x.k a.key p:=fun x hx=>(ha.agree x hx).le ag
  have h6:∀ x∈a.items,bK x.k p=bK a.key p:=fun x hx=>ha.agree x hx p hb
  unfold Rx.join
  split
  · rename_i h
    have h0:bK i.k p=0:=by omega
    refine ⟨⟨hi,ha,by show p<256; omega,hb,fun x hx=>?_,fun x hx=>?_⟩,?_,rfl⟩
    · rw [List.mem_singleton.1 hx]; exact ⟨yh _ _,h0⟩
    · exact ⟨(h5 x hx).trans h1.symm,by rw [h6 x hx,h]⟩
    · show [i]++a.items=insL i ([]++a.items)
      rw [qM fun x hx=>rX hi.k (ha.ok x hx).k ag (h1.trans (h5 x hx).symm) h0 (by rw [h6 x hx,h])]
      rfl
  · rename_i h
    have h0:bK i.k p=1:=by omega
    refine ⟨⟨ha,hi,hb,by show p<256; omega,fun x hx=>?_,fun x hx=>?_⟩,?_,rfl⟩
    · exact ⟨h5 x hx,by rw [h6 x hx]; omega⟩
    · rw [List.mem_singleton.1 hx]; exact ⟨h1,h0⟩
    · show a.items++[i]=insL i a.items
      have e:=ul (i:=i) (l:=a.items) (r:=[]) fun x hx=>rX (ha.ok x hx).k hi.k ag ((h5 x hx).trans h1.symm) (by rw [h6 x hx]; omega) h0
      rw [List.append_nil] at e
      rw [e]; rfl
theorem Rx.ins_good {i:Itm} (hi:i.OK):∀ {t:Rx},t.Good→(t.ins i).Good∧(t.ins i).items=insL i t.items∧(t.ins i).bit=min t.bit (bI i.k t.key)
  | .leaf j,h=>by
    have hle:=nP i.k j.k
    unfold Rx.ins
    split
    · rename_i hp
      obtain ⟨h1,h2,h3⟩:=Rx.join_good (a:= .leaf j) h hi rfl hp
      refine ⟨h1,h2,h3.trans ?_⟩
      show _=min 256 (bI i.k j.k)
      rw [Nat.min_eq_right ag]; rfl
    · rename_i hp
      have e:i.k=j.k:=CJ hi.k h.k hp
      refine ⟨hi,?_,?_⟩
      · show [i]=(if nb j.k<nb i.k then _ else if nb j.k=nb i.k then [i] else _)
        rw [e,if_neg (Nat.lt_irrefl _),if_pos rfl]
      · show 256=min 256 (bI i.k j.k)
        omega
  | .fork b l r,hg=>by
    have hg0:(Rx.fork b l r).Good:=hg
    obtain ⟨h1,h2,h3,h4,h5,h6⟩:=hg
    have hlb:=Rx.bit_le h1
    have hrb:=Rx.bit_le h2
    unfold Rx.ins
    split
    · rename_i hp
      obtain ⟨g1,g2,g3⟩:=Rx.join_good (a:= .fork b l r) hg0 hi rfl hp
      refine ⟨g1,g2,g3.trans ?_⟩
      show bI i.k l.key=min b (bI i.k l.key)
      omega
    · rename_i hp
      have ha:agree i.k l.key b:=(gV i.k l.key).le ag
      have hm:min b (bI i.k l.key)=b:=by omega
      split
      · rename_i h0
        obtain ⟨g1,g2,g3⟩:=Rx.ins_good hi h1
        have gk:∀ x∈(l.ins i).items,agree x.k l.key b∧bK x.k b=0:=fun x hx=>by
          rcases Rx.ins_mem hx with rfl | hx
          · exact ⟨ha,h0⟩
          · exact h5 x hx
        obtain ⟨kx,hkx,hke⟩:=(l.ins i).key_mem
        have hkk:agree (l.ins i).key l.key b:=by rw [← hke]; exact (gk kx hkx).1
        obtain ⟨lx,hlx,hle⟩:=l.key_mem
        have hl0:bK l.key b=0:=by rw [← hle]; exact (h5 lx hlx).2
        refine ⟨⟨g1,h2,?_,h4,fun x hx=>⟨(gk x hx).1.trans hkk.symm,(gk x hx).2⟩,fun x hx=>⟨(h6 x hx).1.trans hkk.symm,(h6 x hx).2⟩⟩,?_,hm.symm⟩
        · rw [g3]
          have:=pK (a:=i.k) (b:=l.key) (p:=b+1) ag (ha.succ (by rw [h0,hl0]))
          omega
        · show (l.ins i).items++r.items=insL i (l.items++r.items)
          rw [g2,qM fun x hx=>rX hi.k (h2.ok x hx).k ag (ha.trans (h6 x hx).1.symm) h0 (h6 x hx).2]
      · rename_i h0
        have h0':bK i.k b=1:=by have:=iT i.k b; omega
        obtain ⟨g1,g2,g3⟩:=Rx.ins_good hi h2
        obtain ⟨rx,hrx,hre⟩:=r.key_mem
        have hrk:agree r.key l.key b:=by rw [← hre]; exact (h6 rx hrx).1
        have hr1:bK r.key b=1:=by rw [← hre]; exact (h6 rx hrx).2
        refine ⟨⟨h1,g1,h3,?_,h5,fun x hx=>?_⟩,?_,hm.symm⟩
        · rw [g3]
          have:=pK (a:=i.k) (b:=r.key) (p:=b+1) ag ((ha.trans hrk.symm).succ (by rw [h0',hr1]))
          omega
        · rcases Rx.ins_mem hx with rfl | hx
          · exact ⟨ha,h0'⟩
          · exact h6 x hx
        · show l.items++(r.ins i).items=insL i (l.items++r.items)
          rw [g2,ul fun x hx=>rX (h1.ok x hx).k hi.k ag ((h5 x hx).1.trans ha.symm) (h5 x hx).2 h0']
def Rx.find (k:List UInt8):Rx→Option Itm
  | .leaf i=>if i.k=k then some i else none
  | .fork b l r=>if bK k b=0 then l.find k else r.find k
theorem Rx.find_eq {k:List UInt8}:∀ {t:Rx},t.Good→t.find k=t.items.find? fun i=>decide (i.k=k)
  | .leaf i,_=>by
    unfold Rx.find
    show _=List.find? _ [i]
    by_cases h:i.k=k
    · rw [if_pos h,List.find?_cons_of_pos (by exact decide_eq_true h)]
    · rw [if_neg h,List.find?_cons_of_neg (by simpa using h)]; rfl
  | .fork b l r,⟨h1,h2,h3,h4,h5,h6⟩=>by
    unfold Rx.find
    show _=List.find? _ (l.items++r.items)
    rw [List.find?_append]
    split
    · rename_i h0
      rw [Rx.find_eq h1,show r.items.find? (fun i=>decide (i.k=k))=none from List.find?_eq_none.2 (fun x hx he=>by
        have h7:=(h6 x hx).2
        rw [of_decide_eq_true he] at h7; omega),Option.or_none]
    · rename_i h0
      rw [Rx.find_eq h2,show l.items.find? (fun i=>decide (i.k=k))=none from List.find?_eq_none.2 (fun x hx he=>by
        have h7:=(h5 x hx).2
        rw [of_decide_eq_true he] at h7; omega),Option.none_or]
def Rx.own (width:Int):Rx→List UInt8
  | .leaf i=>entryD width i
  | .fork b l r=>ik width (xG width l.key (l.own width) (256-l.bit) (l.bit-b-1)) (xG width r.key (r.own width) (256-r.bit) (r.bit-b-1))
def Rx.lift (width:Int) (t:Rx) (H:Nat):List UInt8:=xG width t.key (t.own width) (256-t.bit) (H-(256-t.bit))
theorem Rx.own_length (width:Int):∀ t:Rx,(t.own width).length=32
  | .leaf i=>jl _ _
  | .fork b l r=>jW ..
theorem Rx.lift_length (width:Int) (t:Rx) (H:Nat):(t.lift width H).length=32:=Au (t.own_length width) _ _
theorem Rx.own_fork {width:Int} {b:Nat} {l r:Rx} (hg:(Rx.fork b l r).Good):(Rx.fork b l r).own width=ik width (l.lift width (255-b)) (r.lift width (255-b)):=by
  obtain ⟨h1,h2,h3,h4,_⟩:=hg
  have:=Rx.bit_le h1
  have:=Rx.bit_le h2
  unfold Rx.lift
  rw [show 255-b-(256-l.bit)=l.bit-b-1 by omega,show 255-b-(256-r.bit)=r.bit-b-1 by omega]
  rfl
theorem QV {p:Itm→Bool} {l:List Itm} (h:∀ i∈l,p i=true):l.takeWhile p=l∧l.dropWhile p=[]:=by
  induction l with
  | nil=>exact ⟨rfl,rfl⟩
  | cons i l ih =>
    have h1:=h i (TF ..)
    obtain ⟨e1,e2⟩:=ih fun x hx=>h x (TI _ hx)
    rw [List.takeWhile_cons_of_pos h1,List.dropWhile_cons_of_pos h1,e1,e2]; exact ⟨rfl,rfl⟩
theorem FU {p:Itm→Bool} {l:List Itm} (h:∀ i∈l,p i=false):l.takeWhile p=[]∧l.dropWhile p=l:=by
  cases l with
  | nil=>exact ⟨rfl,rfl⟩
  | cons i l =>
    have h1:¬ p i=true:=by rw [h i (TF ..)]; exact Bool.false_ne_true
    rw [List.takeWhile_cons_of_neg h1,List.dropWhile_cons_of_neg h1]; exact ⟨rfl,rfl⟩
theorem QU {p:Itm→Bool} {l r:List Itm} (h:∀ i∈l,p i=true) (h2:∀ i∈r,p i=false):(l++r).takeWhile p=l∧(l++r).dropWhile p=r:=by
  induction l with
  | nil=>exact FU h2
  | cons i l ih =>
    have h1:=h i (TF ..)
    obtain ⟨e1,e2⟩:=ih fun x hx=>h x (TI _ hx)
    rw [List.cons_append,List.takeWhile_cons_of_pos h1,List.dropWhile_cons_of_pos h1,e1,e2]; exact ⟨rfl,rfl⟩
theorem yP {width:Int} {h:Nat} {l:List Itm} (hl:l≠[]):dQ width (h+1) l=ik width (dQ width h (l.takeWhile (iW (255-h)))) (dQ width h (l.dropWhile (iW (255-h)))):=by
  cases l with
  | nil=>exact absurd rfl hl
  | cons i l=>exact lN width h i l
theorem zo {width:Int} {k:List UInt8} {l:List Itm} (hl:l≠[]) (h0:Nat):∀ m,(∀ i∈l,∀ h,h0≤h→h<h0+m→bK i.k (255-h)=bK k (255-h))→xG width k (dQ width h0 l) h0 m=dQ width (h0+m) l
  | 0,_=>rfl
  | m+1,ha=>by
    show kW width k (xG width k (dQ width h0 l) h0 m) (aK width (h0+m)) (h0+m)=dQ width (h0+m+1) l
    rw [zo hl h0 m (fun i hi h h1 h2=>ha i hi h h1 ag),yP hl]
    unfold kW
    have hb:=iT k (255-(h0+m))
    split
    · rename_i hz
      obtain ⟨e1,e2⟩:=QV (p:=iW (255-(h0+m))) (l:=l) fun i hi=>decide_eq_true (by rw [ha i hi (h0+m) ag ag]; exact hz)
      rw [e1,e2,iw]
    · rename_i hz
      obtain ⟨e1,e2⟩:=FU (p:=iW (255-(h0+m))) (l:=l) fun i hi=>decide_eq_false (by rw [ha i hi (h0+m) ag ag]; exact hz)
      rw [e1,e2,iw]
theorem Rx.items_ne (t:Rx):t.items≠[]:=fun h=>by
  have:=t.size_pos
  rw [t.size_eq,h] at this
  exact absurd this (Nat.lt_irrefl _)
theorem Rx.lift_of {width:Int} {t:Rx} (hg:t.Good) (ho:t.own width=dQ width (256-t.bit) t.items) {H:Nat} (h1:256-t.bit≤H) (h2:H≤256):t.lift width H=dQ width H t.items:=by
  have hb:=Rx.bit_le hg
  unfold Rx.lift
  rw [ho,zo t.items_ne,show 256-t.bit+(H-(256-t.bit))=H by omega]
  intro i hi h h3 h4
  exact hg.agree i hi _ ag
theorem Rx.own_sub {width:Int}:∀ {t:Rx},t.Good→t.own width=dQ width (256-t.bit) t.items
  | .leaf i,_=>by
    show entryD width i=dQ width 0 [i]
    rw [lM]
  | .fork b l r,hg=>by
    rw [Rx.own_fork hg]
    obtain ⟨h1,h2,h3,h4,h5,h6⟩:=hg
    have hlb:=Rx.bit_le h1
    have hrb:=Rx.bit_le h2
    rw [Rx.lift_of h1 (Rx.own_sub h1) ag ag,Rx.lift_of h2 (Rx.own_sub h2) ag ag]
    show _=dQ width (256-b) (l.items++r.items)
    rw [show 256-b=255-b+1 by omega,yP (fun h=>l.items_ne (List.append_eq_nil_iff.1 h).1),show 255-(255-b)=b by omega]
    obtain ⟨e1,e2⟩:=QU (p:=iW b) (l:=l.items) (r:=r.items) (fun i hi=>decide_eq_true (h5 i hi).2) (fun i hi=>decide_eq_false (by rw [(h6 i hi).2]; decide))
    rw [e1,e2]
theorem Rx.lift_sub {width:Int} {t:Rx} (hg:t.Good) {H:Nat} (h1:256-t.bit≤H) (h2:H≤256):t.lift width H=dQ width H t.items:=Rx.lift_of hg (Rx.own_sub hg) h1 h2
end Go.Proofs.YtpomngkcfbnjoaaGreatDoor
namespace Go.Dk
open Go Go.RowKit
section
variable {P:Program} {w w0:World} {n:Nat} {F:List (Nat × Value)} {o:Oper} {t t' e:TypeId} {x y:Operand} {v:Value} {R S:List Seg}
theorem lF {t':TypeId} {ad:Addr} (ho:o.op= .binOp .neq t x y t') (hu:P.underlying t=some (.pointer (P.pointee t))) (hx:ev F x=some (.pointer (some ad))) (hy:ev F y=some (.pointer none)):Yd P n F o w (.bool true):=fun a hF=>by
  unfold execOp
  simp only [ho,hF.ev hx,hF.ev hy,Sem.run_bind]
  have h1:(eqGuard .neq t x y (.pointer (some ad)) (.pointer none)).run P w= .ok () w:=rfl
  rw [h1]
  simp only [Result.andThen_ok]
  rw [run_neq_pointer_nil w t (some ad) hu]
  rfl
theorem jF {t':TypeId} (ho:o.op= .binOp .neq t x y t') (hu:P.underlying t=some (.pointer (P.pointee t))) (hx:ev F x=some (.pointer none)) (hy:ev F y=some (.pointer none)):Yd P n F o w (.bool false):=fun a hF=>by
  unfold execOp
  simp only [ho,hF.ev hx,hF.ev hy,Sem.run_bind]
  have h1:(eqGuard .neq t x y (.pointer none) (.pointer none)).run P w= .ok () w:=rfl
  rw [h1]
  simp only [Result.andThen_ok]
  rw [run_neq_pointer_nil w t none hu]
  rfl
theorem Bf {m:Nat} {kd:IntKind} {p:Int} {cs:List Value} {te:TypeId} (ho:o.op= .index t x y) (hu:P.underlying t=some (.array m e)) (he:P.underlying e=some (.pointer te)) (hs:(P.info? e).map (·.size)=some 1) (hx:ev F x=some (.agg cs.toArray)) (hy:ev F y=some (.int kd p)) (j:Nat) (hp:p=j) (hj:j<m) (hv:cs[j]? = some v):Yd P n F o w v:=fun a hF=>by
  subst hp
  have h1:(0:Int)≤(j:Int)∧(j:Int)<(m:Int):=by omega
  have hpart:(part e cs.toArray (j*1)).run P w= .ok v w:=by simp [part,isAgg,run_underlying he,hv]
  unfold execOp
  simp only [ho,hF.ev hx,hF.ev hy,Instr.index,asIntOf,Sem.run_bind,Sem.run_pure,Result.andThen_ok,run_underlying hu w,h1,and_self,if_true,run_sizeOf hs,Int.toNat_natCast,hpart]
theorem Rw.ofMem {g:Nat} {t:TypeId} {cs:List Value} {Y:Seg} (hY:Y∈R) (hr:row g t cs∈Y):Rw w0 R g cs:=fun x hx =>
  have h:=hx.mem hY hr
  ⟨jB h,fun j hj=>by rw [cell_of_row x g (0+j) _ t (0,0) h,List.getElem?_toArray,Nat.zero_add]⟩
end
end Go.Dk
