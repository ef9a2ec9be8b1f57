/- Texts that belong together, one behind the other. -/
import Derived.Test.YtepbmdlgdaedpaaGreatDoorOwn
import Derived.Test.YtepbmdlgdaedpaaGreatDoorSha
import Derived.Test.YtepbmdlgdaedpaaGreatDoorRows
import Derived.Test.YtepbmdlgdaedpaaGreatDoorMem
import Derived.Test.YtepbmdlgdaedpaaGreatDoorRegion
import Derived.Laws.BitsAllLaws
namespace Go.Dk
open Go
theorem zL (n:Nat) (st:List Nat) (bs:List UInt8):blocks (n+1) st bs=compress (blocks n st bs) ((bs.drop (64*n)).take 64):=by
  induction n generalizing st bs with
  | zero=>simp [blocks]
  | succ n ih =>
    have h1:blocks (n+1+1) st bs=blocks (n+1) (compress st (bs.take 64)) (bs.drop 64):=rfl
    have h2:blocks (n+1) st bs=blocks n (compress st (bs.take 64)) (bs.drop 64):=rfl
    rw [h1,ih,h2,List.drop_drop,show 64+64*n=64*(n+1) by omega]
theorem kC (n:Nat) (st:List Nat) (a b:List UInt8) (h:64*n≤a.length):blocks n st (a++b)=blocks n st a:=by
  induction n generalizing st a with
  | zero=>rfl
  | succ n ih =>
    show blocks n (compress st ((a++b).take 64)) ((a++b).drop 64)=blocks n (compress st (a.take 64)) (a.drop 64)
    rw [List.take_append_of_le_length ag,List.drop_append_of_le_length ag]
    exact ih _ _ (by simp; omega)
def wc (l:List Nat):List Value:=l.map fun x:Nat=>Value.int .u32 (x:Int)
def hcells (st:List Nat) (rest:List UInt8) (n:Nat):List Value:=wc st++(dc rest++[.int .u64 (n:Int)])
section
variable {st st':List Nat} {rest rest':List UInt8} {n n':Nat}
def put (rest:List UInt8) (o:Nat) (l:List UInt8):List UInt8:=rest.take o++l++rest.drop (o+l.length)
theorem qO {o:Nat} {l:List UInt8} (h:o+l.length≤rest.length):(put rest o l).length=rest.length:=by simp [put]; omega
end
def HS (m:List UInt8) (cs:List Value):Prop :=
  ∃ rest:List UInt8,rest.length=64∧rest.take (m.length%64)=m.drop (m.length/64*64)∧cs=hcells (blocks (m.length/64) rq m) rest m.length
theorem HS.new:HS [] (hcells rq (List.replicate 64 0) 0):=⟨List.replicate 64 0,by simp,by simp,rfl⟩
theorem HS.tail (m l:List UInt8) (rest:List UInt8) (hr:rest.length=64) (hm:m.length%64=0) (hl:l.length<64) :
    HS (m++l) (hcells (blocks (m.length/64) rq m) (put rest 0 l) (m.length+l.length)):=by
  have e1:(m++l).length/64=m.length/64:=by rw [List.length_append]; omega
  have e2:(m++l).length%64=l.length:=by rw [List.length_append]; omega
  have e3:m.length/64*64=m.length:=by omega
  refine ⟨put rest 0 l,by rw [qO ag,hr],?_,?_⟩
  · rw [e2,e1,e3]
    simp [put]
  · rw [e1,kC _ _ _ _ ag,List.length_append]
theorem HS.part (m l:List UInt8) (rest:List UInt8) (hr:rest.length=64) (ht:rest.take (m.length%64)=m.drop (m.length/64*64)) (hl:m.length%64+l.length<64) :
    HS (m++l) (hcells (blocks (m.length/64) rq m) (put rest (m.length%64) l) (m.length+l.length)):=by
  have e1:(m++l).length/64=m.length/64:=by rw [List.length_append]; omega
  have e2:(m++l).length%64=m.length%64+l.length:=by rw [List.length_append]; omega
  refine ⟨put rest (m.length%64) l,by rw [qO ag,hr],?_,?_⟩
  · rw [e2,e1,List.drop_append_of_le_length ag,← ht]
    unfold put
    rw [List.take_append_of_le_length (by simp; omega),Ny (by simp; omega)]
  · rw [e1,kC _ _ _ _ ag,List.length_append]
theorem fills (m l:List UInt8) (rest:List UInt8) (hr:rest.length=64) (ht:rest.take (m.length%64)=m.drop (m.length/64*64)) (hl:m.length%64+l.length=64) :
    compress (blocks (m.length/64) rq m) (put rest (m.length%64) l)=blocks ((m++l).length/64) rq (m++l)∧(m++l).length%64=0:=by
  have e1:(m++l).length/64=m.length/64+1:=by rw [List.length_append]; omega
  refine ⟨?_,by rw [List.length_append]; omega⟩
  rw [e1,zL,kC _ _ _ _ ag]
  congr 1
  have h1:put rest (m.length%64) l=m.drop (m.length/64*64)++l:=by
    unfold put
    have h2:rest.drop 64=[]:=List.drop_of_length_le ag
    rw [ht,hl,h2,List.append_nil]
  rw [h1,List.drop_append_of_le_length ag,Ny (by simp; omega),Nat.mul_comm]
end Go.Dk
namespace Go.Proofs.YtepbmdlgdaedpaaGreatDoor
open Go.RowKit Go.Dk
def Tab (w:World):Prop:=∀ i,i<64→w.cell? ⟨2,i,none⟩=some (.int .u32 (wAt ks i:Nat))
theorem Tab.lt {w:World} (h:Tab w):2<w.heap.size:=by
  have h0:=h 0 ae
  unfold World.cell? at h0
  rcases Nat.lt_or_ge 2 w.heap.size with h1 | h1
  · exact h1
  · have h2:w.heap[2]? = none:=Array.getElem?_eq_none h1
    simp [h2] at h0
def filled (l:List Nat):List Value:=wc (l++List.replicate (64-l.length) 0)
def St.ok (s:St):Prop:=s.a<4294967296∧s.b<4294967296∧s.c<4294967296∧s.d<4294967296∧s.e<4294967296∧s.f<4294967296∧s.g<4294967296∧s.h<4294967296
end Go.Proofs.YtepbmdlgdaedpaaGreatDoor
namespace Go.Proofs.YtepbmdlgdaedpaaGreatDoor
open Go.RowKit Go.Dk
theorem Tab.at_ {w0 w:World} {L:List Row} (h:Tab w0) (hA:At w0 L w) (hn:2 ∉ L.map (·.1)):Tab w:=fun i hi=>by
  rw [hA.old h.lt hn]; exact h i hi
end Go.Proofs.YtepbmdlgdaedpaaGreatDoor
namespace Go.Proofs.YtepbmdlgdaedpaaGreatDoor
open Go.RowKit Go.Dk
theorem mY (k n:Nat):(be k n).length=k:=by simp [be]
theorem MC {k n i:Nat} (h:i<k):(be k n)[i]? = some (UInt8.ofNat (n/256 ^ (k-1-i))):=by simp [be,h]
def ob (st:List Nat) (n:Nat):List UInt8:=(st.flatMap (be 4)).take n++List.replicate (32-n) 0
theorem flat_at (st:List Nat) (i j:Nat) (hi:i<st.length) (hj:j<4):(st.flatMap (be 4))[4*i+j]? = some (UInt8.ofNat (wAt st i/256 ^ (3-j))):=by
  induction st generalizing i with
  | nil=>cases hi
  | cons a t ih =>
    rw [List.flatMap_cons]
    cases i with
    | zero=>rw [List.getElem?_append_left (by rw [mY]; omega),MC ag]; simp [wAt]
    | succ i =>
      rw [List.getElem?_append_right (by rw [mY]; omega),mY,show 4*(i+1)+j-4=4*i+j by omega,ih i (by simpa using hi)]
      simp [wAt]
end Go.Proofs.YtepbmdlgdaedpaaGreatDoor
