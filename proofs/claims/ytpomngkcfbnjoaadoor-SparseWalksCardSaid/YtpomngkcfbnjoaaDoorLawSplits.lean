/- The walk of DigestSplits. -/
import Derived.Test.YtpomngkcfbnjoaaDoorTree
import Derived.Test.YtpomngkcfbnjoaaDoorLawNames
import Derived.Test.YtpomngkcfbnjoaaDoorTwo
import Derived.Test.YtpomngkcfbnjoaaDoorWrite0
import Derived.Test.YtpomngkcfbnjoaaDoorLists
namespace Go.Proofs.YtpomngkcfbnjoaaDoor
open Go.RowKit Go.Dk

theorem write_at (w : World) (hb : Nat) (m : List UInt8) (cs : List Value) (hH : HS m cs) (hrow : w.heap[hb]? = some (.cells cs.toArray 147 (0, 0))) (A : Option Addr) (l : List UInt8) (c n : Nat) (hn : n = l.length)
    (hr : Bts w A l) (hc : n ≤ c) (hoff : l ≠ [] → Off A hb) (hsz : m.length + l.length < 1152921504606846976) (hT : Tab w) (hb0 : hb ≠ 0) :
    Calls Tryd.prog 62 #[.pointer (some ⟨hb, 0, none⟩), .slice A n c] w (Wrote w hb (m ++ l)) := by
  subst hn
  exact write_all w hb m cs hH hrow A l c hr hc hoff hsz hT hb0
theorem flat_all (ps : List Part) : flat (ps.take ps.length) = flat ps := by rw [List.take_length]
end Go.Proofs.YtpomngkcfbnjoaaDoor
