/- Texts that belong together, one behind the other. -/
import Derived.Test.YtpomngkcfbnjoaaGreatDoorMem
import Derived.OpenShut
import Derived.ShutString
import Derived.ChangeOld
import Derived.Lib.Hide
import Derived.ChangeSlices
import Derived.SizedLaws
import Derived.Deep.Slices
namespace Go.Dk
open Go Go.ChangeShapes Go.WideShapes Go.ChangeAt Go.RowKit
section
variable {H:Type} {enc:TypeId × Value→H} {P:Program} {w:World} {base:Nat} {spare:Nat→Bool} {held:Bool} {t e:TypeId} {v:Value} {d:DataW H} {p:List MemPlace} {r:Reach} {b0:Nat}
def byteOf:Value→UInt8
  | .int _ n=>UInt8.ofNat n.toNat
  | _=>0
theorem Jg {n:Int} (h:(Lit.int .u8 n).wf=true):Value.int .u8 ((byteOf (.int .u8 n)).toNat:Int)= .int .u8 n:=by
  have hb:0≤n∧n≤255:=by simpa [Lit.wf,IntKind.min,IntKind.max,IntKind.signed,IntKind.bits] using h
  simp only [byteOf,UInt8.toNat_ofNat']
  congr 1
  omega
end
end Go.Dk
namespace Go.Dk
def gp (x n:Nat):Nat:=(x/2 ^ n) ||| (x*2 ^ (32-n)%4294967296)
def Et (x:Nat):Nat:=(gp x 7 ^^^ gp x 18) ^^^ (x/2 ^ 3)
def Es (x:Nat):Nat:=(gp x 17 ^^^ gp x 19) ^^^ (x/2 ^ 10)
def NU (x:Nat):Nat:=(gp x 2 ^^^ gp x 13) ^^^ gp x 22
def Qu (x:Nat):Nat:=(gp x 6 ^^^ gp x 11) ^^^ gp x 25
def chN (e f g:Nat):Nat:=(e &&& f) ^^^ ((4294967295 ^^^ e) &&& g)
def Ff (a b c:Nat):Nat:=((a &&& b) ^^^ (a &&& c)) ^^^ (b &&& c)
def add32 (a b:Nat):Nat:=(a+b)%4294967296
def wAt (w:List Nat) (i:Nat):Nat:=w[i]?.getD 0
def qm (w:List Nat):Nat:=add32 (add32 (add32 (wAt w (w.length-16)) (Et (wAt w (w.length-15)))) (wAt w (w.length-7))) (Es (wAt w (w.length-2)))
def sched:Nat→List Nat→List Nat
  | 0,w=>w
  | n+1,w=>let v:=sched n w; v++[qm v]
def word (a b c d:UInt8):Nat:=((a.toNat*2 ^ 24 ||| b.toNat*2 ^ 16) ||| c.toNat*2 ^ 8) ||| d.toNat
def bAt (bs:List UInt8) (i:Nat):UInt8:=bs[i]?.getD 0
def words:Nat→List UInt8→List Nat
  | 0,_=>[]
  | n+1,bs=>words n bs++[word (bAt bs (4*n)) (bAt bs (4*n+1)) (bAt bs (4*n+2)) (bAt bs (4*n+3))]
structure St where
  a:Nat
  b:Nat
  c:Nat
  d:Nat
  e:Nat
  f:Nat
  g:Nat
  h:Nat
def St.x (s:St) (k w:Nat):Nat:=add32 (add32 (add32 (add32 s.h (Qu s.e)) (chN s.e s.f s.g)) k) w
def St.y (s:St):Nat:=add32 (NU s.a) (Ff s.a s.b s.c)
def St.step (s:St) (k w:Nat):St:=⟨add32 (s.x k w) s.y,s.a,s.b,s.c,add32 s.d (s.x k w),s.e,s.f,s.g⟩
def St.list (s:St):List Nat:=[s.a,s.b,s.c,s.d,s.e,s.f,s.g,s.h]
def St.of (l:List Nat):St:=⟨wAt l 0,wAt l 1,wAt l 2,wAt l 3,wAt l 4,wAt l 5,wAt l 6,wAt l 7⟩
def ks:List Nat:=[
  0x428a2f98,0x71374491,0xb5c0fbcf,0xe9b5dba5,0x3956c25b,0x59f111f1,0x923f82a4,0xab1c5ed5,
  0xd807aa98,0x12835b01,0x243185be,0x550c7dc3,0x72be5d74,0x80deb1fe,0x9bdc06a7,0xc19bf174,
  0xe49b69c1,0xefbe4786,0x0fc19dc6,0x240ca1cc,0x2de92c6f,0x4a7484aa,0x5cb0a9dc,0x76f988da,
  0x983e5152,0xa831c66d,0xb00327c8,0xbf597fc7,0xc6e00bf3,0xd5a79147,0x06ca6351,0x14292967,
  0x27b70a85,0x2e1b2138,0x4d2c6dfc,0x53380d13,0x650a7354,0x766a0abb,0x81c2c92e,0x92722c85,
  0xa2bfe8a1,0xa81a664b,0xc24b8b70,0xc76c51a3,0xd192e819,0xd6990624,0xf40e3585,0x106aa070,
  0x19a4c116,0x1e376c08,0x2748774c,0x34b0bcb5,0x391c0cb3,0x4ed8aa4a,0x5b9cca4f,0x682e6ff3,
  0x748f82ee,0x78a5636f,0x84c87814,0x8cc70208,0x90befffa,0xa4506ceb,0xbef9a3f7,0xc67178f2]
def init8:List Nat:=[0x6a09e667,0xbb67ae85,0x3c6ef372,0xa54ff53a,0x510e527f,0x9b05688c,0x1f83d9ab,0x5be0cd19]
def rounds (w:List Nat) (s:St):Nat→St
  | 0=>s
  | t+1=>(rounds w s t).step (wAt ks t) (wAt w t)
def compress (st:List Nat) (bs:List UInt8):List Nat :=
  (List.range 8).map fun i=>add32 (wAt st i) (wAt (rounds (sched 48 (words 16 bs)) (St.of st) 64).list i)
def blocks:Nat→List Nat→List UInt8→List Nat
  | 0,st,_=>st
  | n+1,st,bs=>blocks n (compress st (bs.take 64)) (bs.drop 64)
def be (k n:Nat):List UInt8:=(List.range k).map fun i=>UInt8.ofNat (n/256 ^ (k-1-i))
def padding (n:Nat):List UInt8:=128::List.replicate ((119-n%64)%64) 0++be 8 (8*n%18446744073709551616)
def sha (bs:List UInt8):List UInt8 :=
  let m:=bs++padding bs.length
  (blocks (m.length/64) init8 m).flatMap (be 4)
end Go.Dk
namespace Go.Dk
open Go Go.RowKit
theorem D7 {l:List UInt8} {i k:Nat} (h:i<k):bAt (l.take k) i=bAt l i:=by simp [bAt,h]
theorem D8 {l:List UInt8} {i k:Nat}:bAt (l.drop k) i=bAt l (k+i):=by simp [bAt,List.getElem?_drop]
theorem iP {l:List UInt8} {i:Nat} (h:i<l.length):(dc l)[i]? = some (.int .u8 (bAt l i).toNat):=by simp [dc,bAt,h]
theorem eG (a b:List UInt8):dc (a++b)=dc a++dc b:=by simp [dc]
theorem aj (a:List UInt8):(dc a).length=a.length:=by simp [dc]
theorem dc_take (a:List UInt8) (k:Nat):(dc a).take k=dc (a.take k):=by simp [dc]
theorem GM (a:List UInt8) (k:Nat):(dc a).drop k=dc (a.drop k):=by simp [dc]
theorem bz (D:List UInt8):∀ v∈dc D,v.oneCell'=true:=by
  intro v hv
  simp only [dc,List.mem_map] at hv
  obtain ⟨b,_,rfl⟩:=hv
  rfl
def Bts (w:World) (A:Option Addr) (l:List UInt8):Prop :=
  l≠[]→∃ b o,A=some ⟨b,o,none⟩∧b<w.heap.size∧∀ i,i<l.length→w.cell? ⟨b,o+i,none⟩=some (.int .u8 (bAt l i).toNat)
def Off (A:Option Addr) (g:Nat):Prop:=∀ ad,A=some ad→ad.block≠g
section
variable {w0 w w':World} {L:List Row} {A:Option Addr} {l:List UInt8} {g:Nat}
theorem Bts.nil (w:World) (A:Option Addr):Bts w A []:=fun h=>absurd rfl h
theorem Bts.drew (h:Bts w A l) (n:Nat):Bts (w.drewN n) A l:=h
theorem Bts.at_ (h:Bts w0 A l) (hA:At w0 L w) (hn:∀ r∈L,Off A r.1):Bts w A l:=fun hne=>by
  obtain ⟨b,o,rfl,hb,hc⟩:=h hne
  refine ⟨b,o,rfl,Nat.lt_of_lt_of_le hb hA.size,fun i hi=>?_⟩
  rw [hA.old hb (fun hm=>by
    obtain ⟨r,hr,he⟩:=List.mem_map.1 hm
    exact hn r hr _ O he.symm)]
  exact hc i hi
theorem Bts.then0 (h:Bts w A l) (hA:At w [] w'):Bts w' A l:=h.at_ hA (fun _ hr=>by cases hr)
theorem Off.sub {k cap size:Nat} (h:Off A g):Off (sub A k cap size) g:=by
  intro ad he
  unfold Dk.sub at he
  split at he
  · exact h ad he
  · cases A with
    | none=>cases he
    | some a =>
      simp only [Option.map_some,Option.some.injEq] at he
      subst he
      have:=h a rfl
      unfold Addr.add
      split <;> exact this
theorem Bts.drop (h:Bts w A l) (k:Nat) {cap:Nat} (hc:l.length≤cap):Bts w (sub A k cap 1) (l.drop k):=fun hne=>by
  have hk:k<l.length:=by
    rcases Nat.lt_or_ge k l.length with h1 | h1
    · exact h1
    · exact absurd (List.drop_eq_nil_iff.2 h1) hne
  obtain ⟨b,o,rfl,hb,hcell⟩:=h (fun e=>by rw [e] at hk; exact absurd hk (Nat.not_lt_zero _))
  refine ⟨b,o+k,sub_lt ag,hb,fun i hi=>?_⟩
  rw [List.length_drop] at hi
  have:=hcell (k+i) ag
  rw [D8,← this,Nat.add_assoc]
theorem Bts.take (h:Bts w A l) (k:Nat):Bts w A (l.take k):=fun hne=>by
  obtain ⟨b,o,rfl,hb,hcell⟩:=h (fun e=>hne (by rw [e]; simp))
  refine ⟨b,o,rfl,hb,fun i hi=>?_⟩
  rw [List.length_take] at hi
  rw [D7 ag]
  exact hcell i ag
theorem Bts.row (hA:At w0 L w) {k:Nat} {t:TypeId} {cs:List Value} (hk:L[k]? = some (g,t,cs)) {o:Nat} (hc:(cs.drop o).take l.length=dc l):Bts w (some ⟨g,o,none⟩) l:=fun _=>by
  refine ⟨g,o,rfl,hA.lt hk,fun i hi=>?_⟩
  rw [hA.cell hk]
  have h1:((cs.drop o).take l.length)[i]? = cs[o+i]? := by rw [List.getElem?_take,if_pos hi,List.getElem?_drop]
  rw [← h1,hc,iP hi]
end
section
variable {P:Program} {ops:Array Oper} {Q:Exit→Act→World→Prop} {a:Act} {w0 w:World} {L:List Row} {rest:List Oper} {o:Oper}
theorem wU {x y:Operand} {tx ty e:TypeId} (ho:o.op= .call { callee:= .builtin .copy,args := #[x,y],argTypes := #[tx,ty] }) (hA:At w0 L w)
    (hu:P.underlying tx=some (.slice e)) (hs:(P.info? e).map (·.size)=some 1) {D A:Option Addr} {dLen dc' sLen sc:Nat} (hx:a.eval x= .slice D dLen dc') (hy:a.eval y= .slice A sLen sc)
    {l:List UInt8} (hl:l.length=Nat.min sLen dLen) (hr:Bts w A l) {g off k:Nat} {te:TypeId} {cs:List Value} (hk:L[k]? = some (g,te,cs)) (hD:0<l.length→D=some ⟨g,off,none⟩) (hfit:off+l.length≤cs.length) :
    ∃ w',(execOp a.eval o).run P w= .ok (.value (.int .i64 (l.length:Nat))) w'∧At w0 (L.set k (g,te,splice cs off (dc l))) w':=by
  have hrow:=hA.row hk
  have hsz:=run_sizeOf (w:=w) hs
  by_cases hne:l=[]
  · subst hne
    have hsame:splice cs off (dc [])=cs:=by simp [splice,dc]
    have hput:=hA.put hk (splice cs off (dc []))
    rw [hsame] at hput
    have hself:=setRow_self w g _ te (0,0) hrow
    rw [hself] at hput
    refine ⟨w,?_,by rw [hsame]; exact hput⟩
    have h0:Nat.min sLen dLen=0:=hl.symm
    unfold execOp
    cases A <;> cases D <;>
    simp [ho,hx,hy,resolve,invoke,builtin,Builtin.copy_,run_underlying hu w,Builtin.lenOf,Builtin.firstCells,hsz,h0,storeCells,loadCells,loadCellsFrom,goInt]
  · obtain ⟨b,o',rfl,hb,hcell⟩:=hr hne
    have hpos:0<l.length:=List.length_pos_iff.2 hne
    obtain rfl:=hD hpos
    refine ⟨_,?_,hA.put hk (splice cs off (dc l))⟩
    have hl':=run_loadCells_list (P:=P) w ⟨b,o',none⟩ (dc l) (fun j v hj=>by
      rw [Addr.add_mid]
      have hjl:j<l.length:=by
        have:=(List.getElem?_eq_some_iff.1 hj).1
        rwa [aj] at this
      rw [iP hjl] at hj
      rw [hcell j hjl,← hj])
    have hst:=run_storeCells_at P g off te (dc l) 0 _ w hrow (by rw [aj]; simpa using hfit) (bz l)
    rw [aj] at hl'
    unfold execOp
    simp only [ho,hx,hy,resolve,invoke,builtin,Builtin.copy_,Builtin.lenOf,Builtin.firstCells,List.map_toArray,List.map_cons,List.map_nil,Sem.run_bind,Sem.run_pure,Result.andThen_ok,run_underlying hu w,List.getElem?_toArray,List.getElem?_cons_zero,
      List.getElem?_cons_succ,hsz,← hl,Nat.mul_one,hl',hst,goInt]
    simp [splice]
theorem qZ {K:Act→World→Prop} {x y:Operand} {tx ty e:TypeId} (ho:o.op= .call { callee:= .builtin .copy,args := #[x,y],argTypes := #[tx,ty] }) (hA:At w0 L w)
    (hu:P.underlying tx=some (.slice e)) (hs:(P.info? e).map (·.size)=some 1) {D A:Option Addr} {dLen dc' sLen sc:Nat} (hx:a.eval x= .slice D dLen dc') (hy:a.eval y= .slice A sLen sc)
    {l:List UInt8} (hl:l.length=Nat.min sLen dLen) (hr:Bts w A l) {g off:Nat} (k:Nat) {te:TypeId} {cs:List Value} (hk:L[k]? = some (g,te,cs)) (hD:0<l.length→D=some ⟨g,off,none⟩) (hfit:off+l.length≤cs.length)
    (h:∀ w',At w0 (L.set k (g,te,splice cs off (dc l))) w'→K (a.put o.dst (.int .i64 (l.length:Nat))) w'):o.wp P a w K Q:=by
  obtain ⟨w',h1,h2⟩:=wU ho hA hu hs hx hy hl hr hk hD hfit
  unfold Oper.wp
  rw [h1]
  exact h w' h2
theorem yg {t:TypeId} {ps:Array (Nat × Operand)} (_:o.op= .build t ps) (h:wpList P ops Q (o::rest) a w):wpList P ops Q (o::rest) a w:=h
theorem wp_build {K:Act→World→Prop} {t:TypeId} {ps:Array (Nat × Operand)} (ho:o.op= .build t ps) {v:Value} (hr:(Instr.build t (ps.map fun (i,x)=>(i,a.eval x))).run P w= .ok v w) (h:K (a.put o.dst v) w):o.wp P a w K Q:=by
  unfold Oper.wp execOp
  simp only [ho,Sem.run_bind,hr,Result.andThen_ok,Sem.run_pure]
  exact h
theorem lI {t e:TypeId} {x:Operand} {lo hi:Option Operand} (ho:o.op= .slice t x lo hi none) {n size:Nat} (hu:P.underlying t=some (.array n e))
    (hs:(P.info? e).map (·.size)=some size) {ad:Addr} (hx:a.eval x= .pointer (some ad)) (l h:Nat) (hlo:iZ (lo.map a.eval) 0 l) (hhi:iZ (hi.map a.eval) n h) (h1:l≤h) (h2:h≤n)
    {v:Value} (hv:Value.slice (sub (some ad) l n size) (h-l) (n-l)=v):(execOp a.eval o).run P w= .ok (.value v) w:=by
  subst hv
  unfold execOp
  simp only [ho,hx,Instr.sliceAt,Instr.sureAddr,Sem.run_bind,Sem.run_pure,Result.andThen_ok,run_underlying hu w,jv false n n hlo hhi h1 h2,run_sizeOf hs,Option.map_none]
  have he:some (if n=l then ad else ad.add (l*size))=sub (some ad) l n size:=by unfold sub; split <;> rfl
  rw [he]
theorem oZ {t e:TypeId} {x:Operand} {lo hi:Option Operand} (ho:o.op= .slice t x lo hi none) {size:Nat} (hu:P.underlying t=some (.slice e))
    (hs:(P.info? e).map (·.size)=some size) {A:Option Addr} {len cap:Nat} (hx:a.eval x= .slice A len cap) (l h:Nat) (hlo:iZ (lo.map a.eval) 0 l) (hhi:iZ (hi.map a.eval) len h) (h1:l≤h) (h2:h≤cap)
    {v:Value} (hv:Value.slice (sub A l cap size) (h-l) (cap-l)=v):(execOp a.eval o).run P w= .ok (.value v) w:=by
  subst hv
  unfold execOp
  simp only [ho,hx,Instr.sliceAt,Instr.slice,Sem.run_bind,Sem.run_pure,Result.andThen_ok,run_underlying hu w,jv true len cap hlo hhi h1 h2,run_sizeOf hs,Option.map_none]
  rfl
def lenV:Value→Nat
  | .slice _ n _=>n
  | _=>0
end
end Go.Dk
namespace Go.Dk
open Go Go.ChangeShapes Go.WideShapes Go.ChangeAt Go.RowKit Go.Deep
section
variable {H:Type} {enc:TypeId × Value→H} {P:Program} {w:World} {held:Bool} {t e:TypeId} {v:Value} {d:DataW H} {p:List MemPlace}
theorem FM {a:Addr} {i:Nat} {u:Value} (h:w.cell? (a.add i)=some u) (hi:i=0):a=⟨a.block,a.off,none⟩:=by
  subst hi
  obtain ⟨b,o,s⟩:=a
  have hs:s=none:=by simpa [Addr.add] using World.cell?_spot h
  subst hs
  rfl
theorem block_lt_of_cell {ad:Addr} {u:Value} (h:w.cell? ad=some u):ad.block<w.heap.size:=by
  unfold World.cell? at h
  rcases Nat.lt_or_ge ad.block w.heap.size with h1 | h1
  · exact h1
  · rw [Array.getElem?_eq_none h1] at h; simp at h
end
end Go.Dk
