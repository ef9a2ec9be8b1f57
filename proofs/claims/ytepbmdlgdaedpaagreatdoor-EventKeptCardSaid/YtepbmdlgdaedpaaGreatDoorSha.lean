/- SHA-256 in plain Lean, over natural numbers: what both texts compute. No Go, no program. -/
import Derived.Test.YtepbmdlgdaedpaaGreatDoorRegion
import Derived.Lib.Hide
/- SHA-256 in plain Lean, over natural numbers: what both texts compute. No Go, no program. -/
namespace Go.Dk
def sG (x n:Nat):Nat:=(x/2 ^ n) ||| (x*2 ^ (32-n)%4294967296)
def MH (x:Nat):Nat:=(sG x 7 ^^^ sG x 18) ^^^ (x/2 ^ 3)
def MG (x:Nat):Nat:=(sG x 17 ^^^ sG x 19) ^^^ (x/2 ^ 10)
def Na (x:Nat):Nat:=(sG x 2 ^^^ sG x 13) ^^^ sG x 22
def MZ (x:Nat):Nat:=(sG x 6 ^^^ sG x 11) ^^^ sG x 25
def chN (e f g:Nat):Nat:=(e &&& f) ^^^ ((4294967295 ^^^ e) &&& g)
def MI (a b c:Nat):Nat:=((a &&& b) ^^^ (a &&& c)) ^^^ (b &&& c)
def add32 (a b:Nat):Nat:=(a+b)%4294967296
def wAt (w:List Nat) (i:Nat):Nat:=w[i]?.getD 0
def KW (w:List Nat):Nat:=add32 (add32 (add32 (wAt w (w.length-16)) (MH (wAt w (w.length-15)))) (wAt w (w.length-7))) (MG (wAt w (w.length-2)))
def sched:Nat→List Nat→List Nat
  | 0,w=>w
  | n+1,w=>let v:=sched n w; v++[KW v]
def word (a b c d:UInt8):Nat:=((a.toNat*2 ^ 24 ||| b.toNat*2 ^ 16) ||| c.toNat*2 ^ 8) ||| d.toNat
def bAt (bs:List UInt8) (i:Nat):UInt8:=bs[i]?.getD 0
def words:Nat→List UInt8→List Nat
  | 0,_=>[]
  | n+1,bs=>words n bs++[word (bAt bs (4*n)) (bAt bs (4*n+1)) (bAt bs (4*n+2)) (bAt bs (4*n+3))]
structure St where
  a:Nat
  b:Nat
  c:Nat
  d:Nat
  e:Nat
  f:Nat
  g:Nat
  h:Nat
def St.x (s:St) (k w:Nat):Nat:=add32 (add32 (add32 (add32 s.h (MZ s.e)) (chN s.e s.f s.g)) k) w
def St.y (s:St):Nat:=add32 (Na s.a) (MI s.a s.b s.c)
def St.step (s:St) (k w:Nat):St:=⟨add32 (s.x k w) s.y,s.a,s.b,s.c,add32 s.d (s.x k w),s.e,s.f,s.g⟩
def St.list (s:St):List Nat:=[s.a,s.b,s.c,s.d,s.e,s.f,s.g,s.h]
def St.of (l:List Nat):St:=⟨wAt l 0,wAt l 1,wAt l 2,wAt l 3,wAt l 4,wAt l 5,wAt l 6,wAt l 7⟩
def ks:List Nat:=[
  0x428a2f98,0x71374491,0xb5c0fbcf,0xe9b5dba5,0x3956c25b,0x59f111f1,0x923f82a4,0xab1c5ed5,
  0xd807aa98,0x12835b01,0x243185be,0x550c7dc3,0x72be5d74,0x80deb1fe,0x9bdc06a7,0xc19bf174,
  0xe49b69c1,0xefbe4786,0x0fc19dc6,0x240ca1cc,0x2de92c6f,0x4a7484aa,0x5cb0a9dc,0x76f988da,
  0x983e5152,0xa831c66d,0xb00327c8,0xbf597fc7,0xc6e00bf3,0xd5a79147,0x06ca6351,0x14292967,
  0x27b70a85,0x2e1b2138,0x4d2c6dfc,0x53380d13,0x650a7354,0x766a0abb,0x81c2c92e,0x92722c85,
  0xa2bfe8a1,0xa81a664b,0xc24b8b70,0xc76c51a3,0xd192e819,0xd6990624,0xf40e3585,0x106aa070,
  0x19a4c116,0x1e376c08,0x2748774c,0x34b0bcb5,0x391c0cb3,0x4ed8aa4a,0x5b9cca4f,0x682e6ff3,
  0x748f82ee,0x78a5636f,0x84c87814,0x8cc70208,0x90befffa,0xa4506ceb,0xbef9a3f7,0xc67178f2]
def rq:List Nat:=[0x6a09e667,0xbb67ae85,0x3c6ef372,0xa54ff53a,0x510e527f,0x9b05688c,0x1f83d9ab,0x5be0cd19]
def rounds (w:List Nat) (s:St):Nat→St
  | 0=>s
  | t+1=>(rounds w s t).step (wAt ks t) (wAt w t)
def compress (st:List Nat) (bs:List UInt8):List Nat :=
  (List.range 8).map fun i=>add32 (wAt st i) (wAt (rounds (sched 48 (words 16 bs)) (St.of st) 64).list i)
def blocks:Nat→List Nat→List UInt8→List Nat
  | 0,st,_=>st
  | n+1,st,bs=>blocks n (compress st (bs.take 64)) (bs.drop 64)
def be (k n:Nat):List UInt8:=(List.range k).map fun i=>UInt8.ofNat (n/256 ^ (k-1-i))
def padding (n:Nat):List UInt8:=128::List.replicate ((119-n%64)%64) 0++be 8 (8*n%18446744073709551616)
def sha (bs:List UInt8):List UInt8 :=
  let m:=bs++padding bs.length
  (blocks (m.length/64) rq m).flatMap (be 4)
end Go.Dk
