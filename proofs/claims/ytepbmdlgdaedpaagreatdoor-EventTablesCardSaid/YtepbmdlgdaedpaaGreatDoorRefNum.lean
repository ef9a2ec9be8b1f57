/- Texts that belong together, one behind the other. -/
import Derived.Test.YtepbmdlgdaedpaaGreatDoorHash
import Derived.Test.YtepbmdlgdaedpaaGreatDoorDigest
namespace Go.Dk
theorem Pi (e f g:Nat) (hg:g<4294967296):g ^^^ (e &&& (f ^^^ g))=chN e f g:=by
  unfold chN
  apply Nat.eq_of_testBit_eq
  intro i
  simp only [Nat.testBit_xor,Nat.testBit_and]
  by_cases hi:i<32
  · have h1:Nat.testBit 4294967295 i=true:=by
      have:(4294967295:Nat)=2 ^ 32-1:=ae
      rw [this,Nat.testBit_two_pow_sub_one]; simpa using hi
    rw [h1]
    cases e.testBit i <;> cases f.testBit i <;> cases g.testBit i <;> rfl
  · have h2:g.testBit i=false:=Nat.testBit_lt_two_pow (Nat.lt_of_lt_of_le hg (by
      have:(2:Nat) ^ 32≤2 ^ i:=Nat.pow_le_pow_right ae ag
      exact this))
    rw [h2]
    cases e.testBit i <;> cases f.testBit i <;> simp
theorem NU (a b c:Nat):(a &&& b) ||| (c &&& (a ||| b))=Bv a b c:=by
  unfold Bv
  apply Nat.eq_of_testBit_eq
  intro i
  simp only [Nat.testBit_xor,Nat.testBit_and,Nat.testBit_or]
  cases a.testBit i <;> cases b.testBit i <;> cases c.testBit i <;> rfl
theorem kU {a b:List Nat} (hl:a.length=b.length) (h:∀ i,i<b.length→wAt a i=wAt b i):a=b:=by
  apply List.ext_getElem?
  intro i
  by_cases hi:i<b.length
  · have h1:=h i hi
    unfold wAt at h1
    rw [List.getElem?_eq_getElem hi,List.getElem?_eq_getElem ag] at h1 ⊢
    simpa using h1
  · rw [List.getElem?_eq_none ag,List.getElem?_eq_none ag]
theorem ru (l:List Nat) (k i v:Nat) (hk:k<l.length):wAt (l.set k v) i=if k=i then v else wAt l i:=by
  unfold wAt
  rw [List.getElem?_set]
  split
  · simp
  · rfl
theorem JG (f:Nat→Nat) (n i:Nat) (h:i<n):wAt ((List.range n).map f) i=f i:=by simp [wAt,h]
def dJ (t:Nat) (s:St):List Nat:=(List.range 8).map fun i=>wAt s.list ((i+t)%8)
theorem gm (t:Nat) (s:St):(dJ t s).length=8:=by simp [dJ]
theorem mP (t:Nat) (s:St) (i:Nat) (h:i<8):wAt (dJ t s) i=wAt s.list ((i+t)%8):=by simp [dJ,wAt,h]
theorem AV (t:Nat) (s:St) (j:Nat) (ht:t≤64) (hj:j<8):wAt (dJ t s) ((64+j-t)%8)=wAt s.list j:=by
  rw [mP t s _ (Nat.mod_lt _ ae)]
  congr 1
  omega
theorem sD (l:List Nat) (i v:Nat):(wc l).set i (.int .u32 (v:Int))=wc (l.set i v):=by simp [wc,List.map_set]
theorem Et (t:Nat) (s:St) (e a k w:Nat) (ht:t<64) (he:e=(s.step k w).e) (ha:a=(s.step k w).a) :
    ((dJ t s).set ((67-t)%8) e).set ((71-t)%8) a=dJ (t+1) (s.step k w):=by
  subst he ha
  apply kU
  · simp [dJ]
  · intro i h2
    have hi:i<8:=by simpa [dJ] using h2
    rw [mP _ _ i hi,ru _ _ _ _ (by simp [dJ]; omega),ru _ _ _ _ (by simp [dJ]; omega)]
    by_cases c1:(71-t)%8=i
    · rw [if_pos c1,show (i+(t+1))%8=0 by omega]
      rfl
    · rw [if_neg c1]
      by_cases c2:(67-t)%8=i
      · rw [if_pos c2,show (i+(t+1))%8=4 by omega]
        rfl
      · rw [if_neg c2,mP _ _ i hi]
        obtain ⟨j,hj⟩:∃ j,(i+t)%8=j:=⟨_,rfl⟩
        have hj8:j<8:=by omega
        have hj1:(i+(t+1))%8=(j+1)%8:=by omega
        have n7:j≠7:=by omega
        have n3:j≠3:=by omega
        rw [hj1,hj]
        have:j=0∨j=1∨j=2∨j=4∨j=5∨j=6:=by omega
        rcases this with rfl | rfl | rfl | rfl | rfl | rfl <;> rfl
def fA (m:Nat) (V:List Nat):List Nat:=(List.range 16).map fun i=>wAt V (m-16+(i+128-m)%16)
theorem ku (m:Nat) (V:List Nat):(fA m V).length=16:=by simp [fA]
theorem lm (m:Nat) (V:List Nat) (i:Nat) (h:i<16):wAt (fA m V) i=wAt V (m-16+(i+128-m)%16):=by simp [fA,wAt,h]
theorem AQ (t:Nat) (V:List Nat) (j:Nat) (h16:16≤t) (ht:t≤64) (hj:j<16):wAt (fA t V) ((t+j)%16)=wAt V (t-16+j):=by
  rw [lm t V _ (Nat.mod_lt _ ae)]
  congr 1
  omega
theorem Ep (t:Nat) (V:List Nat) (h16:16≤t) (ht:t<64) (v:Nat) (hv:v=wAt V t):(fA t V).set (t%16) v=fA (t+1) V:=by
  subst hv
  apply kU
  · simp [fA]
  · intro i h2
    have hi:i<16:=by simpa [fA] using h2
    rw [ru _ _ _ _ (by simp [fA]; omega),lm _ _ i hi,lm _ _ i hi]
    by_cases c1:t%16=i
    · rw [if_pos c1]; congr 1; omega
    · rw [if_neg c1]; congr 1; omega
theorem Es (t:Nat) (V:List Nat) (h16:16≤t) (ht:t<64):wAt (fA (t+1) V) (t%16)=wAt V t:=by
  rw [lm _ V _ (Nat.mod_lt _ ae)]
  congr 1
  omega
theorem yD (t:Nat) (V:List Nat) (h16:t<16):wAt (fA 16 V) (t%16)=wAt V t:=by
  rw [lm _ V _ (Nat.mod_lt _ ae)]
  congr 1
  omega
theorem nC (n:Nat) (l:List Nat):(sched n l).length=l.length+n:=by
  induction n with
  | zero=>rfl
  | succ n ih=>simp only [sched,List.length_append,List.length_singleton,ih]; omega
theorem jD (k:Nat) (bs:List UInt8):(words k bs).length=k:=by induction k <;> simp [words, *]
theorem nX (n k:Nat) (l:List Nat) (i:Nat) (h:i<l.length+n):wAt (sched (n+k) l) i=wAt (sched n l) i:=by
  induction k with
  | zero=>rfl
  | succ k ih =>
    rw [← ih]
    show wAt (sched (n+k) l++[nN (sched (n+k) l)]) i=_
    unfold wAt
    rw [List.getElem?_append_left (by rw [nC]; omega)]
theorem yu (W:List Nat) (hl:W.length=16) (t:Nat) (h16:16≤t) (ht:t<64):wAt (sched 48 W) t =
    add32 (add32 (add32 (wAt (sched 48 W) (t-16)) (AC (wAt (sched 48 W) (t-15)))) (wAt (sched 48 W) (t-7))) (AB (wAt (sched 48 W) (t-2))):=by
  have e1:48=(t-16+1)+(63-t):=by omega
  have e2:48=(t-16)+(64-t):=by omega
  have hb:∀ i,i<t→wAt (sched 48 W) i=wAt (sched (t-16) W) i:=fun i hi=>by
    have h:=nX (t-16) (64-t) W i ag
    rw [← e2] at h; exact h
  have h0:wAt (sched 48 W) t=nN (sched (t-16) W):=by
    have h:=nX (t-16+1) (63-t) W t ag
    rw [← e1] at h
    rw [h]
    have h2:sched (t-16+1) W=sched (t-16) W++[nN (sched (t-16) W)]:=rfl
    rw [h2]
    unfold wAt
    rw [List.getElem?_append_right (by rw [nC]; omega),nC,show t-(W.length+(t-16))=0 by omega]
    simp
  rw [h0,hb _ ag,hb _ ag,hb _ ag,hb _ ag]
  unfold nN
  rw [nC,show W.length+(t-16)=t by omega]
theorem AO (bs:List UInt8) (t:Nat) (h16:16≤t) (ht:t<64):wAt (sched 48 (words 16 bs)) t =
    add32 (add32 (add32 (wAt (sched 48 (words 16 bs)) (t-16)) (AC (wAt (sched 48 (words 16 bs)) (t-15)))) (wAt (sched 48 (words 16 bs)) (t-7))) (AB (wAt (sched 48 (words 16 bs)) (t-2))) :=
  yu _ (jD 16 bs) t h16 ht
theorem uC (W:List Nat) (hl:W.length=16):fA 16 (sched 48 W)=W:=by
  apply kU
  · rw [ku,hl]
  · intro i h2
    have hi:i<16:=by omega
    rw [lm _ _ i hi,show 16-16+(i+128-16)%16=i by omega]
    have h:=nX 0 48 W i ag
    rw [Nat.zero_add] at h
    exact h
theorem wH (bs:List UInt8):fA 16 (sched 48 (words 16 bs))=words 16 bs:=uC _ (jD 16 bs)
def pw (bs:List UInt8) (j:Nat):Nat→Nat
  | 0=>0
  | n+1=>pw bs j n*256%4294967296 ||| (bAt bs (4*j+n)).toNat
def iJ (bs:List UInt8) (i:Nat):List Nat:=(List.range 16).map fun j=>pw bs j (min 4 (i-4*j))
theorem jg (bs:List UInt8) (i:Nat):(iJ bs i).length=16:=by simp [iJ]
theorem Aj (bs:List UInt8):iJ bs 0=List.replicate 16 0:=by
  apply kU
  · rw [jg,List.length_replicate]
  · intro i h2
    have hi:i<16:=by simpa using h2
    have h3:wAt (List.replicate 16 0) i=0:=by unfold wAt; rw [List.getElem?_replicate]; split <;> rfl
    rw [h3]
    unfold iJ
    rw [JG _ _ _ hi,show min 4 (0-4*i)=0 by omega]
    rfl
theorem oz (bs:List UInt8) (i j:Nat) (hj:j<16):wAt (iJ bs i) j=pw bs j (min 4 (i-4*j)):=by simp [iJ,wAt,hj]
theorem D9 (bs:List UInt8) (i v:Nat) (hi:i<64) (hv:v=wAt (iJ bs i) (i/4)*256%4294967296 ||| (bAt bs i).toNat):(iJ bs i).set (i/4) v=iJ bs (i+1):=by
  rw [oz bs i _ ag] at hv
  apply kU
  · simp [iJ]
  · intro j h2
    have hj:j<16:=by simpa [iJ] using h2
    rw [ru _ _ _ _ (by rw [jg]; omega),oz _ _ j hj,oz _ _ j hj]
    by_cases c:i/4=j
    · rw [if_pos c,hv,c,show min 4 (i+1-4*j)=min 4 (i-4*j)+1 by omega]
      show _=pw bs j (min 4 (i-4*j))*256%4294967296 ||| (bAt bs (4*j+min 4 (i-4*j))).toNat
      rw [show 4*j+min 4 (i-4*j)=i by omega]
    · rw [if_neg c]
      congr 1
      omega
theorem wX (x b:Nat) (hb:b<256):x*256 ||| b=x*256+b:=by
  have h:=Nat.two_pow_add_eq_or_of_lt (i:=8) (b:=b) (by simpa using hb) x
  rw [show x*256=2 ^ 8*x by omega]
  exact h.symm
theorem Kq (bs:List UInt8) (j:Nat):pw bs j 4=word (bAt bs (4*j)) (bAt bs (4*j+1)) (bAt bs (4*j+2)) (bAt bs (4*j+3)):=by
  simp only [pw,Nat.add_zero]
  have ha:=(bAt bs (4*j)).toNat_lt
  have hb:=(bAt bs (4*j+1)).toNat_lt
  have hc:=(bAt bs (4*j+2)).toNat_lt
  have hd:=(bAt bs (4*j+3)).toNat_lt
  unfold word
  generalize (bAt bs (4*j)).toNat=a at *
  generalize (bAt bs (4*j+1)).toNat=b at *
  generalize (bAt bs (4*j+2)).toNat=c at *
  generalize (bAt bs (4*j+3)).toNat=d at *
  have e0:(0*256%4294967296 ||| a)=a:=by simp
  rw [e0,Nat.mod_eq_of_lt (by omega:a*256<4294967296),wX a b hb,Nat.mod_eq_of_lt (by omega:(a*256+b)*256<4294967296),wX _ c hc,Nat.mod_eq_of_lt (by omega:((a*256+b)*256+c)*256<4294967296),wX _ d hd]
  have f1:(a*2 ^ 24 ||| b*2 ^ 16)=(a*256+b)*2 ^ 16:=by
    have h:=Nat.two_pow_add_eq_or_of_lt (i:=24) (b:=b*2 ^ 16) ag a
    rw [show a*2 ^ 24=2 ^ 24*a by omega,← h]; omega
  have f2:((a*256+b)*2 ^ 16 ||| c*2 ^ 8)=((a*256+b)*256+c)*2 ^ 8:=by
    have h:=Nat.two_pow_add_eq_or_of_lt (i:=16) (b:=c*2 ^ 8) ag (a*256+b)
    rw [show (a*256+b)*2 ^ 16=2 ^ 16*(a*256+b) by omega,← h]; omega
  have f3:(((a*256+b)*256+c)*2 ^ 8 ||| d)=((a*256+b)*256+c)*256+d:=wX _ d hd
  rw [f1,f2,f3]
theorem F5 (bs:List UInt8) (k j:Nat) (h:j<k):wAt (words k bs) j=word (bAt bs (4*j)) (bAt bs (4*j+1)) (bAt bs (4*j+2)) (bAt bs (4*j+3)):=by
  induction k with
  | zero=>omega
  | succ k ih =>
    have e:words (k+1) bs=words k bs++[word (bAt bs (4*k)) (bAt bs (4*k+1)) (bAt bs (4*k+2)) (bAt bs (4*k+3))]:=by rw [words]
    rw [e]
    unfold wAt at *
    by_cases c:j<k
    · rw [List.getElem?_append_left (by rw [jD]; exact c)]; exact ih c
    · obtain rfl:j=k:=by omega
      rw [List.getElem?_append_right (by rw [jD]; omega),jD,Nat.sub_self,List.getElem?_cons_zero,Option.getD_some]
theorem Ea (bs:List UInt8):iJ bs 64=words 16 bs:=by
  apply kU
  · rw [jg,jD]
  · intro j h2
    have hj:j<16:=by rw [jD] at h2; exact h2
    rw [oz _ _ j hj,F5 bs 16 j hj,show min 4 (64-4*j)=4 by omega,Kq]
def padded (m:List UInt8):List UInt8:=m++padding m.length
def ji (n:Nat):Nat:=(n+72)/64*64
theorem Kv (n:Nat):(padding n).length=9+(119-n%64)%64:=by simp [padding,be]; omega
theorem uG (m:List UInt8):(padded m).length=ji m.length:=by
  unfold padded ji
  rw [List.length_append,Kv]
  omega
theorem EH (m:List UInt8) (i:Nat) (h:i<m.length):bAt (padded m) i=bAt m i:=by
  unfold padded bAt
  rw [List.getElem?_append_left h]
theorem Bc (m:List UInt8):bAt (padded m) m.length=128:=by
  unfold padded bAt
  rw [List.getElem?_append_right (P5 _),Nat.sub_self]
  rfl
theorem yK (m:List UInt8) (i:Nat) (h1:m.length<i) (h2:i+8<ji m.length):bAt (padded m) i=0:=by
  unfold ji at h2
  unfold padded bAt
  rw [List.getElem?_append_right ag]
  unfold padding
  rw [List.getElem?_append_left (by simp; omega)]
  obtain ⟨k,hk⟩:∃ k,i-m.length=k+1:=⟨i-m.length-1,ag⟩
  rw [hk,List.getElem?_cons_succ,List.getElem?_replicate]
  split <;> rfl
theorem Bd (m:List UInt8) (i:Nat) (h1:m.length<i) (h2:ji m.length≤i+8) (h3:i<ji m.length):bAt (padded m) i=UInt8.ofNat (8*m.length%18446744073709551616/256 ^ (ji m.length-1-i)):=by
  unfold ji at *
  unfold padded bAt
  rw [List.getElem?_append_right ag]
  unfold padding
  rw [List.getElem?_append_right (by simp; omega)]
  simp only [List.length_cons,List.length_replicate]
  unfold be
  rw [List.getElem?_map,List.getElem?_range ag]
  simp only [Option.map_some,Option.getD_some]
  congr 3
  omega
theorem AL (m:List UInt8):sha m=(blocks (ji m.length/64) init8 (padded m)).flatMap (be 4):=by
  rw [← uG]; rfl
end Go.Dk
namespace Go.Proofs.YtepbmdlgdaedpaaGreatDoor
open Go.RowKit Go.Dk
theorem vJ:bQ Tryz.prog 248 (.agg (wc (List.replicate 72 0)).toArray):=by unfold bQ; kernel_rfl
theorem GR:isRow Tryz.prog 248 72=true:=af
theorem vK:(Tryz.prog.info? 248).map (·.size)=some 72:=af
def nums:List Nat:=ks++init8
theorem nums_length:nums.length=72:=by rfl
theorem BX (w:World):(Instr.build 248 ((nums.zipIdx.map fun p=>(p.2,Value.int .u32 (p.1:Int))).toArray)).run Tryz.prog w= .ok (.agg (wc nums).toArray) w:=af
set_option maxRecDepth 100000 in
set_option maxHeartbeats 1000000 in
theorem yM (w:World):Calls Tryz.prog 198 #[] w fun e w'=>e= .returned (.agg (wc nums).toArray)∧At w [] w':=by
  have hA0:=At.refl w
  have Hz1:Hid (0+(wc nums).toArray.size≤(wc (List.replicate 72 0)).length):=Lib.hid (by rw [List.size_toArray,bf,nums_length]; decide)
  have Hz2:Hid ((Tryz.prog.info? 248).map (·.size)=some (wc nums).toArray.size):=Lib.hid (by rw [vK,List.size_toArray,bf,nums_length])
  have Hz3:Hid (∀ v∈(wc nums).toArray,v.oneCell'=true):=Lib.hid (fun v hv=>by
    simp only [wc,List.mem_toArray,List.mem_map] at hv
    obtain ⟨_,_,rfl⟩:=hv
    rfl)
  have Hz4:Hid (splice (wc (List.replicate 72 0)) 0 (wc nums)=wc nums):=Lib.hid (gZ _ _ (by rw [bf,bf,nums_length]; rfl))
  have Hz5:Hid ((wc nums).length=72):=Lib.hid (by rw [bf,nums_length])
  go_enter Tryz.func198,Tryz.ntmps198
  go_wp2_with (first
    | (with_reducible refine jP rfl ?_
       refine wpList_plain rfl (fun _ hK=>iK rfl hA0 vJ (fun b1 w1 hb1 hA1=>hK _ _ ?_)); clear hK
       replace hA1:At w [(b1,248,wc (List.replicate 72 0))] w1:=hA1)
    | (with_reducible refine uw rfl ?_
       refine wpList_plain rfl (fun _ hK=>wp_build rfl (v:= .agg (wc nums).toArray) (by exact BX _) (hK _ _ ?_)); clear hK)
    | (with_reducible refine gJ rfl ?_
       refine wpList_plain rfl (fun _ hK=>ja (off:=0) (new:=(wc nums).toArray) rfl hA1 O O 0 O Hz1.out Hz3.out Hz2.out (fun w2 hA2=>hK _ _ ?_)); clear hK
       replace hA2:At w [(b1,248,splice (wc (List.replicate 72 0)) 0 (wc nums))] w2:=hA2
       rw [Hz4.out] at hA2))
  refine bodyPost_ret (jo Tryz.results198 hA2 O 0 O (by rw [Hz5.out]; exact GR)) O ⟨rfl,hA2.clear (fun r hr=>?_)⟩
  simp only [List.mem_cons,List.not_mem_nil,or_false] at hr
  subst hr
  exact hb1
theorem OA (n:Nat):((n:Int)%256)=((UInt8.ofNat n).toNat:Int):=(sG n).symm
set_option maxRecDepth 100000 in
set_option maxHeartbeats 1000000 in
theorem BV (w:World) (A:Option Addr) (l:List UInt8) (c n i whole:Nat) (hn:n=l.length) (hB:Bts w A l) (hl:n<281474976710656) (hw:whole=ji n) (hi:i<whole) :
    Calls Tryz.prog 199 #[.slice A n c,.int .i64 i,.int .i64 whole] w fun e w'=>e= .returned (.int .u8 ((bAt (padded l) i).toNat:Int))∧w=w':=by
  have Hn:=Lib.hid hn
  have Hw:=Lib.hid hw
  have hwb:whole≤n+72∧n+9≤whole:=by rw [hw]; unfold ji; omega
  clear hn hw
  by_cases c1:i<n
  · have hne:l≠[]:=fun e=>by have h:=Hn.out; rw [e] at h; simp at h; omega
    obtain ⟨b,o,rfl,hb,hcell⟩:=hB hne
    have Hc:=Lib.hid (hcell i (by have:=Hn.out; omega))
    have Hv:Hid (bAt (padded l) i=bAt l i):=Lib.hid (EH l i (by have:=Hn.out; omega))
    clear hcell
    have l1:(i:Int)<n:=by omega
    rw [Hv.out]
    go_enter Tryz.func199,Tryz.ntmps199
    go_wp2_with (first
      | (with_reducible refine gq rfl ?_
         refine wpList_plain rfl (fun _ hK=>nV (v:= .int .u8 ((bAt l i).toNat:Int)) O O Hc.out af (hK _ _ ?_)); clear hK))
    go_ret
    exact ⟨rfl,rfl⟩
  · by_cases c2:i=n
    · have Hv:Hid (bAt (padded l) i=128):=Lib.hid (by rw [c2,Hn.out]; exact Bc l)
      rw [Hv.out]
      subst c2
      go_enter Tryz.func199,Tryz.ntmps199
      go_wp2
      go_ret
      exact ⟨rfl,rfl⟩
    · by_cases c3:whole≤i+8
      · have Hv:Hid (bAt (padded l) i=UInt8.ofNat (8*n/256 ^ (whole-1-i))):=Lib.hid (by
          have h1:=Hn.out
          have h2:=Hw.out
          rw [Bd l i ag (by rw [← h1,← h2]; omega) (by rw [← h1,← h2]; omega),← h1,← h2,Nat.mod_eq_of_lt ag])
        rw [Hv.out]
        have l1:(n:Int)<i:=by omega
        have l1':(n:Int)≤i:=by omega
        have l1'':¬ ((i:Int)=n):=by omega
        have l2:(whole:Int)-8≤i:=by omega
        have e1:IntKind.i64.wrap ((whole:Int)-8)=(whole:Int)-8:=PX _ ag
        have e2:IntKind.i64.wrap (8*(n:Int))=8*(n:Int):=PX _ ag
        have e3:IntKind.i64.wrap ((whole:Int)-1)=(whole:Int)-1:=PX _ ag
        have e4:IntKind.i64.wrap ((whole:Int)-1-i)=(whole:Int)-1-i:=PX _ ag
        have e5:IntKind.i64.wrap (8*((whole:Int)-1-i))=8*((whole:Int)-1-i):=PX _ ag
        have e6:IntKind.u64.wrap (8*((whole:Int)-1-i))=8*((whole:Int)-1-i):=by rw [IntKind.wrap_u64]; omega
        have e7:IntKind.u64.wrap (8*(n:Int))=8*(n:Int):=by rw [IntKind.wrap_u64]; omega
        have t2:(8*((whole:Int)-1-i)).toNat=8*(whole-1-i):=by omega
        have l3:0≤8*((whole:Int)-1-i)∧8*((whole:Int)-1-i)<64:=by omega
        go_enter Tryz.func199,Tryz.ntmps199
        go_wp2
        go_ret
        refine ⟨wV ?_,rfl⟩
        rw [← OA]
        have h:=wP (8*n) (whole-1-i) (8*(whole-1-i)) rfl
        rw [← h]
        congr 1
      · have Hv:Hid (bAt (padded l) i=0):=Lib.hid (by
          have h1:=Hn.out
          have h2:=Hw.out
          exact yK l i ag (by rw [← h1,← h2]; omega))
        rw [Hv.out]
        have l1:(n:Int)<i:=by omega
        have l1':(n:Int)≤i:=by omega
        have l1'':¬ ((i:Int)=n):=by omega
        have l2:(i:Int)<(whole:Int)-8:=by omega
        have e1:IntKind.i64.wrap ((whole:Int)-8)=(whole:Int)-8:=PX _ ag
        go_enter Tryz.func199,Tryz.ntmps199
        go_wp2
        go_ret
        exact ⟨rfl,rfl⟩
end Go.Proofs.YtepbmdlgdaedpaaGreatDoor
