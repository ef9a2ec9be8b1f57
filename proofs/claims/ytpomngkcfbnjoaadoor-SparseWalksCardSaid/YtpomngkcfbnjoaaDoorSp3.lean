/- The texts of a sparse proof. -/
import Derived.Test.YtpomngkcfbnjoaaDoorSp2
namespace Go.Proofs.YtpomngkcfbnjoaaDoor
open Go.RowKit Go.Dk

/-- texts: what they are, their slices -/
structure TxsS (ts : List TxX) (L : List (List UInt8)) (tv : Value) (XL : Seg) : Prop where
  bufs : ∀ t ∈ ts, Buf 5 1 t.X t.v t.l.length (dc t.l)
  txt : ts.map (·.l) = L
  lst : Buf 59 1 XL tv ts.length (ts.map (·.v))
theorem TxsS.len {ts : List TxX} {L : List (List UInt8)} {tv : Value} {XL : Seg} (h : TxsS ts L tv XL) : ts.length = L.length := by rw [← h.txt, List.length_map]
def Prf.texts (p : Prf) (width : Int) (k : List UInt8) (n : Nat) : List (List UInt8) := (List.range n).map (p.text width k)
end Go.Proofs.YtpomngkcfbnjoaaDoor
