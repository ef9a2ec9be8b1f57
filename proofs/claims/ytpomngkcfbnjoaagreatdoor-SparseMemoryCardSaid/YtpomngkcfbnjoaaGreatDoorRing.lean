/- The reference's SHA-256: a ring of eight numbers, a ring of sixteen words; that they hold what the plain text has. No program. -/
import Derived.Test.YtpomngkcfbnjoaaGreatDoorHash
/- The reference's SHA-256: a ring of eight numbers, a ring of sixteen words; that they hold what the plain text has. No program. -/
namespace Go.Dk
theorem Tc (e f g:Nat) (hg:g<4294967296):g ^^^ (e &&& (f ^^^ g))=chN e f g:=by
  unfold chN
  apply Nat.eq_of_testBit_eq
  intro i
  simp only [Nat.testBit_xor,Nat.testBit_and]
  by_cases hi:i<32
  · have h1:Nat.testBit 4294967295 i=true:=by
      have:(4294967295:Nat)=2 ^ 32-1:=ae
      rw [this,Nat.testBit_two_pow_sub_one]; simpa using hi
    rw [h1]
    cases e.testBit i <;> cases f.testBit i <;> cases g.testBit i <;> rfl
  · have h2:g.testBit i=false:=Nat.testBit_lt_two_pow (Nat.lt_of_lt_of_le hg (by
      have:(2:Nat) ^ 32≤2 ^ i:=Nat.pow_le_pow_right ae ag
      exact this))
    rw [h2]
    cases e.testBit i <;> cases f.testBit i <;> simp
theorem RQ (a b c:Nat):(a &&& b) ||| (c &&& (a ||| b))=Ff a b c:=by
  unfold Ff
  apply Nat.eq_of_testBit_eq
  intro i
  simp only [Nat.testBit_xor,Nat.testBit_and,Nat.testBit_or]
  cases a.testBit i <;> cases b.testBit i <;> cases c.testBit i <;> rfl
theorem nG {a b:List Nat} (hl:a.length=b.length) (h:∀ i,i<b.length→wAt a i=wAt b i):a=b:=by
  apply List.ext_getElem?
  intro i
  by_cases hi:i<b.length
  · have h1:=h i hi
    unfold wAt at h1
    rw [List.getElem?_eq_getElem hi,List.getElem?_eq_getElem ag] at h1 ⊢
    simpa using h1
  · rw [List.getElem?_eq_none ag,List.getElem?_eq_none ag]
theorem uU (l:List Nat) (k i v:Nat) (hk:k<l.length):wAt (l.set k v) i=if k=i then v else wAt l i:=by
  unfold wAt
  rw [List.getElem?_set]
  split
  · simp
  · rfl
theorem Oe (f:Nat→Nat) (n i:Nat) (h:i<n):wAt ((List.range n).map f) i=f i:=by simp [wAt,h]
def fA (t:Nat) (s:St):List Nat:=(List.range 8).map fun i=>wAt s.list ((i+t)%8)
theorem iI (t:Nat) (s:St):(fA t s).length=8:=by simp [fA]
theorem o6 (t:Nat) (s:St) (i:Nat) (h:i<8):wAt (fA t s) i=wAt s.list ((i+t)%8):=by simp [fA,wAt,h]
theorem EL (t:Nat) (s:St) (j:Nat) (ht:t≤64) (hj:j<8):wAt (fA t s) ((64+j-t)%8)=wAt s.list j:=by
  rw [o6 t s _ (Nat.mod_lt _ ae)]
  congr 1
  omega
theorem vU (l:List Nat) (i v:Nat):(wc l).set i (.int .u32 (v:Int))=wc (l.set i v):=by simp [wc,List.map_set]
theorem Iu (t:Nat) (s:St) (e a k w:Nat) (ht:t<64) (he:e=(s.step k w).e) (ha:a=(s.step k w).a) :
    ((fA t s).set ((67-t)%8) e).set ((71-t)%8) a=fA (t+1) (s.step k w):=by
  subst he ha
  apply nG
  · simp [fA]
  · intro i h2
    have hi:i<8:=by simpa [fA] using h2
    rw [o6 _ _ i hi,uU _ _ _ _ (by simp [fA]; omega),uU _ _ _ _ (by simp [fA]; omega)]
    by_cases c1:(71-t)%8=i
    · rw [if_pos c1,show (i+(t+1))%8=0 by omega]
      rfl
    · rw [if_neg c1]
      by_cases c2:(67-t)%8=i
      · rw [if_pos c2,show (i+(t+1))%8=4 by omega]
        rfl
      · rw [if_neg c2,o6 _ _ i hi]
        obtain ⟨j,hj⟩:∃ j,(i+t)%8=j:=⟨_,rfl⟩
        have hj8:j<8:=by omega
        have hj1:(i+(t+1))%8=(j+1)%8:=by omega
        have n7:j≠7:=by omega
        have n3:j≠3:=by omega
        rw [hj1,hj]
        have:j=0∨j=1∨j=2∨j=4∨j=5∨j=6:=by omega
        rcases this with rfl | rfl | rfl | rfl | rfl | rfl <;> rfl
def gz (m:Nat) (V:List Nat):List Nat:=(List.range 16).map fun i=>wAt V (m-16+(i+128-m)%16)
theorem lJ (m:Nat) (V:List Nat):(gz m V).length=16:=by simp [gz]
theorem nO (m:Nat) (V:List Nat) (i:Nat) (h:i<16):wAt (gz m V) i=wAt V (m-16+(i+128-m)%16):=by simp [gz,wAt,h]
theorem EJ (t:Nat) (V:List Nat) (j:Nat) (h16:16≤t) (ht:t≤64) (hj:j<16):wAt (gz t V) ((t+j)%16)=wAt V (t-16+j):=by
  rw [nO t V _ (Nat.mod_lt _ ae)]
  congr 1
  omega
theorem Iq (t:Nat) (V:List Nat) (h16:16≤t) (ht:t<64) (v:Nat) (hv:v=wAt V t):(gz t V).set (t%16) v=gz (t+1) V:=by
  subst hv
  apply nG
  · simp [gz]
  · intro i h2
    have hi:i<16:=by simpa [gz] using h2
    rw [uU _ _ _ _ (by simp [gz]; omega),nO _ _ i hi,nO _ _ i hi]
    by_cases c1:t%16=i
    · rw [if_pos c1]; congr 1; omega
    · rw [if_neg c1]; congr 1; omega
theorem Ir (t:Nat) (V:List Nat) (h16:16≤t) (ht:t<64):wAt (gz (t+1) V) (t%16)=wAt V t:=by
  rw [nO _ V _ (Nat.mod_lt _ ae)]
  congr 1
  omega
theorem Cf (t:Nat) (V:List Nat) (h16:t<16):wAt (gz 16 V) (t%16)=wAt V t:=by
  rw [nO _ V _ (Nat.mod_lt _ ae)]
  congr 1
  omega
theorem pJ (n:Nat) (l:List Nat):(sched n l).length=l.length+n:=by
  induction n with
  | zero=>rfl
  | succ n ih=>simp only [sched,List.length_append,List.length_singleton,ih]; omega
theorem kz (k:Nat) (bs:List UInt8):(words k bs).length=k:=by induction k <;> simp [words, *]
theorem qI (n k:Nat) (l:List Nat) (i:Nat) (h:i<l.length+n):wAt (sched (n+k) l) i=wAt (sched n l) i:=by
  induction k with
  | zero=>rfl
  | succ k ih =>
    rw [← ih]
    show wAt (sched (n+k) l++[qm (sched (n+k) l)]) i=_
    unfold wAt
    rw [List.getElem?_append_left (by rw [pJ]; omega)]
theorem BL (W:List Nat) (hl:W.length=16) (t:Nat) (h16:16≤t) (ht:t<64):wAt (sched 48 W) t =
    add32 (add32 (add32 (wAt (sched 48 W) (t-16)) (Et (wAt (sched 48 W) (t-15)))) (wAt (sched 48 W) (t-7))) (Es (wAt (sched 48 W) (t-2))):=by
  have e1:48=(t-16+1)+(63-t):=by omega
  have e2:48=(t-16)+(64-t):=by omega
  have hb:∀ i,i<t→wAt (sched 48 W) i=wAt (sched (t-16) W) i:=fun i hi=>by
    have h:=qI (t-16) (64-t) W i ag
    rw [← e2] at h; exact h
  have h0:wAt (sched 48 W) t=qm (sched (t-16) W):=by
    have h:=qI (t-16+1) (63-t) W t ag
    rw [← e1] at h
    rw [h]
    have h2:sched (t-16+1) W=sched (t-16) W++[qm (sched (t-16) W)]:=rfl
    rw [h2]
    unfold wAt
    rw [List.getElem?_append_right (by rw [pJ]; omega),pJ,show t-(W.length+(t-16))=0 by omega]
    simp
  rw [h0,hb _ ag,hb _ ag,hb _ ag,hb _ ag]
  unfold qm
  rw [pJ,show W.length+(t-16)=t by omega]
theorem Ew (bs:List UInt8) (t:Nat) (h16:16≤t) (ht:t<64):wAt (sched 48 (words 16 bs)) t =
    add32 (add32 (add32 (wAt (sched 48 (words 16 bs)) (t-16)) (Et (wAt (sched 48 (words 16 bs)) (t-15)))) (wAt (sched 48 (words 16 bs)) (t-7))) (Es (wAt (sched 48 (words 16 bs)) (t-2))) :=
  BL _ (kz 16 bs) t h16 ht
theorem yu (W:List Nat) (hl:W.length=16):gz 16 (sched 48 W)=W:=by
  apply nG
  · rw [lJ,hl]
  · intro i h2
    have hi:i<16:=by omega
    rw [nO _ _ i hi,show 16-16+(i+128-16)%16=i by omega]
    have h:=qI 0 48 W i ag
    rw [Nat.zero_add] at h
    exact h
theorem zJ (bs:List UInt8):gz 16 (sched 48 (words 16 bs))=words 16 bs:=yu _ (kz 16 bs)
def pw (bs:List UInt8) (j:Nat):Nat→Nat
  | 0=>0
  | n+1=>pw bs j n*256%4294967296 ||| (bAt bs (4*j+n)).toNat
def jh (bs:List UInt8) (i:Nat):List Nat:=(List.range 16).map fun j=>pw bs j (min 4 (i-4*j))
theorem jG (bs:List UInt8) (i:Nat):(jh bs i).length=16:=by simp [jh]
theorem Eg (bs:List UInt8):jh bs 0=List.replicate 16 0:=by
  apply nG
  · rw [jG,List.length_replicate]
  · intro i h2
    have hi:i<16:=by simpa using h2
    have h3:wAt (List.replicate 16 0) i=0:=by unfold wAt; rw [List.getElem?_replicate]; split <;> rfl
    rw [h3]
    unfold jh
    rw [Oe _ _ _ hi,show min 4 (0-4*i)=0 by omega]
    rfl
theorem qY (bs:List UInt8) (i j:Nat) (hj:j<16):wAt (jh bs i) j=pw bs j (min 4 (i-4*j)):=by simp [jh,wAt,hj]
theorem He (bs:List UInt8) (i v:Nat) (hi:i<64) (hv:v=wAt (jh bs i) (i/4)*256%4294967296 ||| (bAt bs i).toNat):(jh bs i).set (i/4) v=jh bs (i+1):=by
  rw [qY bs i _ ag] at hv
  apply nG
  · simp [jh]
  · intro j h2
    have hj:j<16:=by simpa [jh] using h2
    rw [uU _ _ _ _ (by rw [jG]; omega),qY _ _ j hj,qY _ _ j hj]
    by_cases c:i/4=j
    · rw [if_pos c,hv,c,show min 4 (i+1-4*j)=min 4 (i-4*j)+1 by omega]
      show _=pw bs j (min 4 (i-4*j))*256%4294967296 ||| (bAt bs (4*j+min 4 (i-4*j))).toNat
      rw [show 4*j+min 4 (i-4*j)=i by omega]
    · rw [if_neg c]
      congr 1
      omega
theorem or_add (x b:Nat) (hb:b<256):x*256 ||| b=x*256+b:=by
  have h:=Nat.two_pow_add_eq_or_of_lt (i:=8) (b:=b) (by simpa using hb) x
  rw [show x*256=2 ^ 8*x by omega]
  exact h.symm
theorem O0 (bs:List UInt8) (j:Nat):pw bs j 4=word (bAt bs (4*j)) (bAt bs (4*j+1)) (bAt bs (4*j+2)) (bAt bs (4*j+3)):=by
  simp only [pw,Nat.add_zero]
  have ha:=(bAt bs (4*j)).toNat_lt
  have hb:=(bAt bs (4*j+1)).toNat_lt
  have hc:=(bAt bs (4*j+2)).toNat_lt
  have hd:=(bAt bs (4*j+3)).toNat_lt
  unfold word
  generalize (bAt bs (4*j)).toNat=a at *
  generalize (bAt bs (4*j+1)).toNat=b at *
  generalize (bAt bs (4*j+2)).toNat=c at *
  generalize (bAt bs (4*j+3)).toNat=d at *
  have e0:(0*256%4294967296 ||| a)=a:=by simp
  rw [e0,Nat.mod_eq_of_lt (by omega:a*256<4294967296),or_add a b hb,Nat.mod_eq_of_lt (by omega:(a*256+b)*256<4294967296),or_add _ c hc,Nat.mod_eq_of_lt (by omega:((a*256+b)*256+c)*256<4294967296),or_add _ d hd]
  have f1:(a*2 ^ 24 ||| b*2 ^ 16)=(a*256+b)*2 ^ 16:=by
    have h:=Nat.two_pow_add_eq_or_of_lt (i:=24) (b:=b*2 ^ 16) ag a
    rw [show a*2 ^ 24=2 ^ 24*a by omega,← h]; omega
  have f2:((a*256+b)*2 ^ 16 ||| c*2 ^ 8)=((a*256+b)*256+c)*2 ^ 8:=by
    have h:=Nat.two_pow_add_eq_or_of_lt (i:=16) (b:=c*2 ^ 8) ag (a*256+b)
    rw [show (a*256+b)*2 ^ 16=2 ^ 16*(a*256+b) by omega,← h]; omega
  have f3:(((a*256+b)*256+c)*2 ^ 8 ||| d)=((a*256+b)*256+c)*256+d:=or_add _ d hd
  rw [f1,f2,f3]
theorem Jz (bs:List UInt8) (k j:Nat) (h:j<k):wAt (words k bs) j=word (bAt bs (4*j)) (bAt bs (4*j+1)) (bAt bs (4*j+2)) (bAt bs (4*j+3)):=by
  induction k with
  | zero=>omega
  | succ k ih =>
    have e:words (k+1) bs=words k bs++[word (bAt bs (4*k)) (bAt bs (4*k+1)) (bAt bs (4*k+2)) (bAt bs (4*k+3))]:=by rw [words]
    rw [e]
    unfold wAt at *
    by_cases c:j<k
    · rw [List.getElem?_append_left (by rw [kz]; exact c)]; exact ih c
    · obtain rfl:j=k:=by omega
      rw [List.getElem?_append_right (by rw [kz]; omega),kz,Nat.sub_self,List.getElem?_cons_zero,Option.getD_some]
theorem Hf (bs:List UInt8):jh bs 64=words 16 bs:=by
  apply nG
  · rw [jG,kz]
  · intro j h2
    have hj:j<16:=by rw [kz] at h2; exact h2
    rw [qY _ _ j hj,Jz bs 16 j hj,show min 4 (64-4*j)=4 by omega,O0]
def padded (m:List UInt8):List UInt8:=m++padding m.length
def jI (n:Nat):Nat:=(n+72)/64*64
theorem O5 (n:Nat):(padding n).length=9+(119-n%64)%64:=by simp [padding,be]; omega
theorem yC (m:List UInt8):(padded m).length=jI m.length:=by
  unfold padded jI
  rw [List.length_append,O5]
  omega
theorem IJ (m:List UInt8) (i:Nat) (h:i<m.length):bAt (padded m) i=bAt m i:=by
  unfold padded bAt
  rw [List.getElem?_append_left h]
theorem ET (m:List UInt8):bAt (padded m) m.length=128:=by
  unfold padded bAt
  rw [List.getElem?_append_right (TG _),Nat.sub_self]
  rfl
theorem CP (m:List UInt8) (i:Nat) (h1:m.length<i) (h2:i+8<jI m.length):bAt (padded m) i=0:=by
  unfold jI at h2
  unfold padded bAt
  rw [List.getElem?_append_right ag]
  unfold padding
  rw [List.getElem?_append_left (by simp; omega)]
  obtain ⟨k,hk⟩:∃ k,i-m.length=k+1:=⟨i-m.length-1,ag⟩
  rw [hk,List.getElem?_cons_succ,List.getElem?_replicate]
  split <;> rfl
theorem EU (m:List UInt8) (i:Nat) (h1:m.length<i) (h2:jI m.length≤i+8) (h3:i<jI m.length):bAt (padded m) i=UInt8.ofNat (8*m.length%18446744073709551616/256 ^ (jI m.length-1-i)):=by
  unfold jI at *
  unfold padded bAt
  rw [List.getElem?_append_right ag]
  unfold padding
  rw [List.getElem?_append_right (by simp; omega)]
  simp only [List.length_cons,List.length_replicate]
  unfold be
  rw [List.getElem?_map,List.getElem?_range ag]
  simp only [Option.map_some,Option.getD_some]
  congr 3
  omega
theorem Eu (m:List UInt8):sha m=(blocks (jI m.length/64) init8 (padded m)).flatMap (be 4):=by
  rw [← yC]; rfl
end Go.Dk
