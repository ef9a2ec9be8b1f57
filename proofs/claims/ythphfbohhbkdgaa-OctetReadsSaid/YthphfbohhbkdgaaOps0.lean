/- The statements' steps: what one lays, what one takes. -/
import Derived.Test.YthphfbohhbkdgaaOctetH
import Derived.Test.YthphfbohhbkdgaaBk
import Derived.Test.YthphfbohhbkdgaaHs
namespace Go.Proofs.Ythphfbohhbkdgaa
open Go.RowKit Go.Dk

/-- what a step bears -/
structure Vals where
  n : Nat
  b : Bool
  ds : List (List UInt8)
  p : List UInt8
  s : List UInt8
  ss : List (List UInt8)
structure OpX where
  kind : Int
  at_ : Int
  many : Int
  most : Int
  each : Int
  v : Vals
  ps : List Piece
  dA : Option Addr
  dC : Nat
  qA : Option Addr
  qC : Nat
  pA : Option Addr
  pC : Nat
  sA : Option Addr
  sC : Nat
def opC (o : OpX) : List Value := [.int .i64 o.kind, .int .i64 o.at_, .int .u64 (o.v.n : Int), .int .i64 o.many, .bool o.v.b, .slice o.dA o.v.ds.length o.dC, .slice o.qA o.ps.length o.qC, .slice o.pA o.v.p.length o.pC, strV o.v.s, .slice o.sA o.v.ss.length o.sC, .int .i64 o.most, .int .i64 o.each]
structure OpOK (w0 : World) (R : List Seg) (o : OpX) : Prop where
  n : o.v.n < 18446744073709551616
  many : -9223372036854775808 ≤ o.many ∧ o.many ≤ 9223372036854775807
  d32 : ∀ d ∈ o.v.ds, d.length = 32
  ds : Rc w0 R o.dA (digV o.v.ds)
  p : Rd w0 R o.pA o.v.p
  pc : o.v.p.length ≤ o.pC
  ss : Rc w0 R o.sA (o.v.ss.map strV)
  dsl : o.v.ds.length ≤ 9223372036854775807
  ssl : o.v.ss.length ≤ 9223372036854775807
  pl : o.v.p.length ≤ 9223372036854775807
  sl : o.v.s.length ≤ 9223372036854775807
theorem OpOK.mono {w0 : World} {R R' : List Seg} {o : OpX} (h : OpOK w0 R o) (hs : R ⊆ R') : OpOK w0 R' o :=
  ⟨h.n, h.many, h.d32, h.ds.mono hs, h.p.mono hs, h.pc, h.ss.mono hs, h.dsl, h.ssl, h.pl, h.sl⟩
def OpMore (w0 : World) (R : List Seg) (o : OpX) : Prop := Rc w0 R o.qA (o.ps.map pieceV) ∧ (∀ q ∈ o.ps, q.2.2.length ≤ 9223372036854775807) ∧ o.ps.length ≤ 9223372036854775807 ∧ (∀ q ∈ o.v.ss, q.length ≤ 9223372036854775807)

end Go.Proofs.Ythphfbohhbkdgaa
