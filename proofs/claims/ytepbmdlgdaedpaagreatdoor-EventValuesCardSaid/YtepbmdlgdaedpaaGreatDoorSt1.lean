/- Lists of names looked through; what a case holds. -/
import Derived.Test.YtepbmdlgdaedpaaGreatDoorEvI
import Derived.Test.YtepbmdlgdaedpaaGreatDoorEv9
namespace Go.Proofs.YtepbmdlgdaedpaaGreatDoor
open Go.RowKit Go.Dk

/-- a case with the memory of its lists -/
structure CA where
  name : List UInt8
  typ : List UInt8
  cnt : Int
  ch : List UInt8
  vals : List (List UInt8 × VA)
  vA : Option Addr
  vC : Nat
  opn : List (List UInt8)
  oA : Option Addr
  oC : Nat
  clo : List (List UInt8)
  cA : Option Addr
  cC : Nat
  rea : List (List UInt8)
  rA : Option Addr
  rC : Nat
abbrev bndC (b : List UInt8 × VA) : List Value := strV b.1 :: b.2.cells
abbrev CA.tl (c : CA) : List Value := [.slice c.vA c.vals.length c.vC, .slice c.oA c.opn.length c.oC, .slice c.cA c.clo.length c.cC, .slice c.rA c.rea.length c.rC]
abbrev CA.cells (c : CA) : List Value := [strV c.name, strV c.typ, .int .i64 c.cnt] ++ (dc c.ch ++ c.tl)
structure CA.Ok (w0 : World) (G : List Seg) (c : CA) : Prop where
  h32 : c.ch.length = 32
  vok : ∀ b ∈ c.vals, b.2.Ok w0 G
  vr : Rc w0 G c.vA (c.vals.map bndC).flatten
  vn : c.vals.length ≤ 9223372036854775807
  opr : Rc w0 G c.oA (c.opn.map strV)
  opl : c.opn.length ≤ 9223372036854775807
  clr : Rc w0 G c.cA (c.clo.map strV)
  cll : c.clo.length ≤ 9223372036854775807
  rer : Rc w0 G c.rA (c.rea.map strV)
  rel : c.rea.length ≤ 9223372036854775807
def noVA : VA := ⟨noVal, none, 0⟩
theorem noVA_ok {w0 : World} {G : List Seg} : noVA.Ok w0 G := ⟨fun h => absurd rfl h, by decide, noVal_in⟩

end Go.Proofs.YtepbmdlgdaedpaaGreatDoor
