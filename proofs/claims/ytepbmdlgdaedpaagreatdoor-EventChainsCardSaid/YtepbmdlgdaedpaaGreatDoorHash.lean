/- What a hasher holds when it has taken a text; blocks; plain laws. -/
import Derived.Test.YtepbmdlgdaedpaaGreatDoorStep
import Derived.Test.YtepbmdlgdaedpaaGreatDoorSha
/- What a hasher holds when it has taken a text; blocks; plain laws. -/
namespace Go.Dk
open Go
theorem oV (a b:Nat):add32 a b<4294967296:=Nat.mod_lt _ ae
theorem lT (st:List Nat) (bs:List UInt8):(compress st bs).length=8:=by simp [compress]
theorem yL (st:List Nat) (bs:List UInt8):∀ x∈compress st bs,x<4294967296:=by
  intro x hx
  simp only [compress,List.mem_map] at hx
  obtain ⟨i,_,rfl⟩:=hx
  exact oV _ _
theorem aV (n:Nat) (st:List Nat) (bs:List UInt8) (h:st.length=8):(blocks n st bs).length=8:=by
  induction n generalizing st bs with
  | zero=>exact h
  | succ n ih=>exact ih _ _ (lT _ _)
theorem mY (n:Nat) (st:List Nat) (bs:List UInt8) (h:∀ x∈st,x<4294967296):∀ x∈blocks n st bs,x<4294967296:=by
  induction n generalizing st bs with
  | zero=>exact h
  | succ n ih=>exact ih _ _ (yL _ _)
theorem nM (n:Nat) (st:List Nat) (bs:List UInt8):blocks (n+1) st bs=compress (blocks n st bs) ((bs.drop (64*n)).take 64):=by
  induction n generalizing st bs with
  | zero=>simp [blocks]
  | succ n ih =>
    have h1:blocks (n+1+1) st bs=blocks (n+1) (compress st (bs.take 64)) (bs.drop 64):=rfl
    have h2:blocks (n+1) st bs=blocks n (compress st (bs.take 64)) (bs.drop 64):=rfl
    rw [h1,ih,h2,List.drop_drop,show 64+64*n=64*(n+1) by omega]
theorem fF (n:Nat) (st:List Nat) (a b:List UInt8) (h:64*n≤a.length):blocks n st (a++b)=blocks n st a:=by
  induction n generalizing st a with
  | zero=>rfl
  | succ n ih =>
    show blocks n (compress st ((a++b).take 64)) ((a++b).drop 64)=blocks n (compress st (a.take 64)) (a.drop 64)
    rw [List.take_append_of_le_length ag,List.drop_append_of_le_length ag]
    exact ih _ _ (by simp; omega)
theorem ou:init8.length=8:=rfl
theorem oq:∀ x∈init8,x<4294967296:=ae
def wc (l:List Nat):List Value:=l.map fun x:Nat=>Value.int .u32 (x:Int)
theorem aY (l:List Nat):(wc l).length=l.length:=by simp [wc]
theorem lW {l:List Nat} {i:Nat} (h:i<l.length):(wc l)[i]? = some (.int .u32 (wAt l i:Nat)):=by simp [wc,wAt,h]
def hcells (st:List Nat) (rest:List UInt8) (n:Nat):List Value:=wc st++(dc rest++[.int .u64 (n:Int)])
section
variable {st st':List Nat} {rest rest':List UInt8} {n n':Nat}
theorem dI (h:st.length=8) (h':rest.length=64):(hcells st rest n).length=73:=by simp [hcells,aY,aK,h,h']
theorem iG (h:st.length=8) (h':rest.length=64):(hcells st rest n)[72]? = some (.int .u64 (n:Int)):=by
  unfold hcells
  rw [List.getElem?_append_right (by rw [aY,h]; decide),aY,h,List.getElem?_append_right (by rw [aK,h']; decide),aK,h']
  rfl
theorem jl (h:st.length=8) (h':rest.length=64):(hcells st rest n).set 72 (.int .u64 (n':Int))=hcells st rest n':=by
  unfold hcells
  rw [List.set_append,if_neg (by rw [aY,h]; decide),aY,h,List.set_append,if_neg (by rw [aK,h']; decide),aK,h']
  rfl
theorem uA (h:st.length=8):((hcells st rest n).drop 0).take 8=wc st:=by
  unfold hcells
  rw [List.drop_zero,List.take_append_of_le_length (by rw [aY,h]; decide),NZ (by rw [aY,h]; decide)]
theorem tK (h:st.length=8) (h2:st'.length=8):splice (hcells st rest n) 0 (wc st')=hcells st' rest n:=by
  unfold splice hcells
  rw [aY,h2,List.take_zero,List.nil_append,Nat.zero_add,List.drop_append_of_le_length (by rw [aY,h]; decide),List.drop_of_length_le (by rw [aY,h]; decide),List.nil_append]
theorem vY (h:st.length=8) {i:Nat} (hi:i<8):(hcells st rest n)[0+i]? = some (.int .u32 (wAt st i:Nat)):=by
  unfold hcells
  rw [Nat.zero_add,List.getElem?_append_left (by rw [aY,h]; exact hi),lW (by rw [h]; exact hi)]
theorem yg (h:st.length=8) (h':rest.length=64):((hcells st rest n).drop 8).take rest.length=dc rest:=by
  unfold hcells
  rw [List.drop_append_of_le_length (by rw [aY,h]; decide),List.drop_of_length_le (by rw [aY,h]; decide),List.nil_append,List.take_append_of_le_length (by rw [aK,h']; decide),NZ (by rw [aK]; exact NV _)]
def put (rest:List UInt8) (o:Nat) (l:List UInt8):List UInt8:=rest.take o++l++rest.drop (o+l.length)
theorem kD {o:Nat} {l:List UInt8} (h:o+l.length≤rest.length):(put rest o l).length=rest.length:=by simp [put]; omega
theorem nI {o:Nat} {l:List UInt8} (h:st.length=8) (h':rest.length=64) (hl:o+l.length≤64):splice (hcells st rest n) (8+o) (dc l)=hcells st (put rest o l) n:=by
  unfold splice hcells put
  rw [dh,dh,aK]
  rw [List.take_append,aY,h,show 8+o-8=o by omega,NZ (by rw [aY,h]; omega),List.take_append_of_le_length (by rw [aK,h']; omega),dc_take]
  rw [List.drop_append,aY,h,List.drop_of_length_le (by rw [aY,h]; omega),List.nil_append,show 8+o+l.length-8=o+l.length by omega,List.drop_append_of_le_length (by rw [aK,h']; omega),BD]
  simp only [List.append_assoc]
end
def HS (m:List UInt8) (cs:List Value):Prop :=
  ∃ rest:List UInt8,rest.length=64∧rest.take (m.length%64)=m.drop (m.length/64*64)∧cs=hcells (blocks (m.length/64) init8 m) rest m.length
theorem HS.new:HS [] (hcells init8 (List.replicate 64 0) 0):=⟨List.replicate 64 0,by simp,by simp,rfl⟩
theorem HS.tail (m l:List UInt8) (rest:List UInt8) (hr:rest.length=64) (hm:m.length%64=0) (hl:l.length<64) :
    HS (m++l) (hcells (blocks (m.length/64) init8 m) (put rest 0 l) (m.length+l.length)):=by
  have e1:(m++l).length/64=m.length/64:=by rw [List.length_append]; omega
  have e2:(m++l).length%64=l.length:=by rw [List.length_append]; omega
  have e3:m.length/64*64=m.length:=by omega
  refine ⟨put rest 0 l,by rw [kD ag,hr],?_,?_⟩
  · rw [e2,e1,e3]
    simp [put]
  · rw [e1,fF _ _ _ _ ag,List.length_append]
theorem HS.part (m l:List UInt8) (rest:List UInt8) (hr:rest.length=64) (ht:rest.take (m.length%64)=m.drop (m.length/64*64)) (hl:m.length%64+l.length<64) :
    HS (m++l) (hcells (blocks (m.length/64) init8 m) (put rest (m.length%64) l) (m.length+l.length)):=by
  have e1:(m++l).length/64=m.length/64:=by rw [List.length_append]; omega
  have e2:(m++l).length%64=m.length%64+l.length:=by rw [List.length_append]; omega
  refine ⟨put rest (m.length%64) l,by rw [kD ag,hr],?_,?_⟩
  · rw [e2,e1,List.drop_append_of_le_length ag,← ht]
    unfold put
    rw [List.take_append_of_le_length (by simp; omega),NZ (by simp; omega)]
  · rw [e1,fF _ _ _ _ ag,List.length_append]
theorem fills (m l:List UInt8) (rest:List UInt8) (hr:rest.length=64) (ht:rest.take (m.length%64)=m.drop (m.length/64*64)) (hl:m.length%64+l.length=64) :
    compress (blocks (m.length/64) init8 m) (put rest (m.length%64) l)=blocks ((m++l).length/64) init8 (m++l)∧(m++l).length%64=0:=by
  have e1:(m++l).length/64=m.length/64+1:=by rw [List.length_append]; omega
  refine ⟨?_,by rw [List.length_append]; omega⟩
  rw [e1,nM,fF _ _ _ _ ag]
  congr 1
  have h1:put rest (m.length%64) l=m.drop (m.length/64*64)++l:=by
    unfold put
    have h2:rest.drop 64=[]:=List.drop_of_length_le ag
    rw [ht,hl,h2,List.append_nil]
  rw [h1,List.drop_append_of_le_length ag,NZ (by simp; omega),Nat.mul_comm]
theorem sJ (m l:List UInt8) (j:Nat) (hm:m.length%64=0) :
    compress (blocks (m.length/64+j) init8 (m++l)) ((l.drop (64*j)).take 64)=blocks (m.length/64+(j+1)) init8 (m++l):=by
  rw [← Nat.add_assoc,nM]
  congr 2
  have h2:m.drop (64*(m.length/64+j))=[]:=List.drop_of_length_le ag
  rw [List.drop_append,h2,List.nil_append]
  congr 1
  omega
end Go.Dk
