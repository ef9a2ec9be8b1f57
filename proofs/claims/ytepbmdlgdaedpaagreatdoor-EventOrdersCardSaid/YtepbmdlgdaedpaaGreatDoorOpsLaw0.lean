/- What is laid is taken back: plain facts of bytes. -/
import Derived.Test.YtepbmdlgdaedpaaGreatDoorOctetS
/- What is laid is taken back: plain facts of bytes. -/
namespace Go.Proofs.YtepbmdlgdaedpaaGreatDoor
open Go.RowKit Go.Dk
theorem Ew (K n:Nat):be (K+1) n=be K (n/256)++[UInt8.ofNat n]:=by
  unfold be
  rw [List.range_succ,List.map_append]
  congr 1
  · apply List.map_congr_left
    intro i hi
    have hi:=List.mem_range.1 hi
    rw [show K+1-1-i=(K-1-i)+1 by omega,Nat.pow_succ,Nat.mul_comm,Nat.div_div_eq_div_mul]
  · simp
theorem Fa (K n:Nat):num (be K n)=n%256 ^ K:=by
  induction K generalizing n with
  | zero=>simp [be,num,Nat.mod_one]
  | succ K ih =>
    rw [Ew,nN,ih,UInt8.toNat_ofNat',show 256 ^ (K+1)=256*256 ^ K from by rw [Nat.pow_succ,Nat.mul_comm],Nat.mod_mul]
    show n/256%256 ^ K*256+n%256=_
    omega
theorem lD {K n:Nat} (h:n<256 ^ K):num (be K n)=n:=by rw [Fa,Nat.mod_eq_of_lt h]
theorem qh (K n:Nat) (r:List UInt8):(be K n++r).take K=be K n:=List.take_left' (aT K n)
theorem wK (K n:Nat) (r:List UInt8):(be K n++r).drop K=r:=List.drop_left' (aT K n)
theorem qB {K n:Nat} (h:n<256 ^ K) (r:List UInt8):dX K (be K n++r)= .ok n K:=by
  rw [dX,if_neg (by rw [List.length_append,aT]; omega),qh,lD h]
theorem o6 {K e:Nat} {s r:List UInt8} {b:Int} (h:s.length<256 ^ K) (hb:(s.length:Int)≤b):fD K e (be K s.length++s++r) b= .ok s (K+s.length):=by
  rw [List.append_assoc]
  unfold fD
  rw [qh,lD h,wK,List.length_append,aT,if_neg ag,if_neg ag,if_neg (by rw [List.length_append]; omega),List.take_left]
theorem yw (b:Bool) (r:List UInt8):ik ((if b then 1 else 0)::r)= .ok b 1:=by
  cases b <;> simp [ik,num]
theorem zC (p r:List UInt8):dE (p++r) (p.length:Int)= .ok p p.length:=by
  unfold dE
  rw [if_neg (by rw [List.length_append]; omega),Int.toNat_natCast,List.take_left]
theorem o5 {s:List UInt8} {most:Int} (h:(s.length:Int)≤bnd most 65535) (r:List UInt8):dA (be 2 s.length++s++r) most= .ok s (2+s.length) :=
  o6 (by have:=iU most 65535; show s.length<65536; omega) h
theorem vF {s:List UInt8} {most:Int} (h:(s.length:Int)≤bnd most 2147483647) (r:List UInt8):fQ (be 4 s.length++s++r) most= .ok s (4+s.length) :=
  o6 (by have:=iU most 2147483647; show s.length<4294967296; omega) h
theorem rE (each:Int) (ss acc:List (List UInt8)) (at_:Nat) (r:List UInt8) (h:∀ j,acc.length≤j→j<(acc++ss).length→iC (acc++ss) each j=0):fK each ss.length acc at_ (dI ss++r)= .ok (acc++ss) (at_+(dI ss).length):=by
  induction ss generalizing acc at_ with
  | nil=>rw [List.length_nil,fK,List.append_nil]; rfl
  | cons s ss ih =>
    have h0:=h acc.length (Ib _) (by rw [List.length_append,List.length_cons]; omega)
    have hs:(acc++s::ss).getD acc.length []=s:=by rw [List.getD_eq_getElem?_getD,List.getElem?_append_right (Ib _),Nat.sub_self]; rfl
    unfold iC at h0
    rw [hs] at h0
    have hlen:¬ bnd each 65535<(s.length:Int):=fun hh=>by rw [if_pos hh] at h0; exact absurd h0 ae
    rw [if_neg hlen] at h0
    have hge:¬ (0<acc.length∧bn .geq ((acc++s::ss).getD (acc.length-1) []) s=true):=fun hh=>by rw [if_pos hh] at h0; exact absurd h0 ae
    have e:dI (s::ss)++r=be 2 s.length++s++(dI ss++r):=by simp [dI]
    rw [List.length_cons,fK,e,o5 ag]
    simp only
    have hn:¬ (acc≠[]∧bn .geq (acc.getLastD []) s=true):=fun hh=>hge (by
      have hp:0<acc.length:=List.length_pos_iff.2 hh.1
      refine ⟨hp,?_⟩
      have h3:(acc++s::ss).getD (acc.length-1) []=acc.getLastD []:=by
        rw [List.getD_eq_getElem?_getD,List.getElem?_append_left ag,List.getLastD_eq_getLast?,List.getLast?_eq_getElem?]
      rw [h3]; exact hh.2)
    have e2:(be 2 s.length++s++(dI ss++r)).drop (2+s.length)=dI ss++r:=List.drop_left' (by rw [List.length_append,aT])
    have e3:(dI (s::ss)).length=2+s.length+(dI ss).length:=by simp [dI,aT]; omega
    rw [if_neg hn,e2,ih (acc++[s]) _ (fun j h1 h2=>by
      have h4:=h j (by rw [List.length_append] at h1; omega) (by simpa using h2)
      rwa [show acc++s::ss=acc++[s]++ss by simp] at h4),e3]
    rw [show acc++[s]++ss=acc++s::ss by simp,Nat.add_assoc]
theorem uz {ss:List (List UInt8)} {most each:Int} (h:gY ss most each=0) (r:List UInt8):dR (gZ ss most each++r) most each= .ok ss (gZ ss most each).length∧gZ ss most each=be 2 ss.length++dI ss:=by
  have hB:gZ ss most each=be 2 ss.length++dI ss:=by rw [gZ,if_pos h]
  unfold gY at h
  split at h
  · exact absurd h ae
  · rename_i h1
    have hb:=iU most 65535
    have h2:ss.length<256 ^ 2:=by show ss.length<65536; omega
    have hz:=lY _ _ _ h
    refine ⟨?_,hB⟩
    rw [hB,List.append_assoc]
    unfold dR
    rw [qh,lD h2,wK,List.length_append,aT,if_neg ag,if_neg h1]
    have h3:=rE each ss [] 2 r (fun j _ h5=>by simpa using hz j (Hy _) (by simpa using h5))
    rw [List.nil_append] at h3
    rw [h3,List.length_append,aT]
end Go.Proofs.YtepbmdlgdaedpaaGreatDoor
