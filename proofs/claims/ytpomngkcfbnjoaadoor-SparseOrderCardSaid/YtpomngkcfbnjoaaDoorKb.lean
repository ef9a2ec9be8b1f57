/- The statements' books of memory. -/
import Derived.Test.YtpomngkcfbnjoaaDoorBk
import Derived.Test.YtpomngkcfbnjoaaDoorBook0
namespace Go.Proofs.YtpomngkcfbnjoaaDoor
open Go.RowKit Go.Dk

theorem kb_same_digest (w0 w : World) (R : List Seg) (pa pb : Option Addr) (xs ys : List (List UInt8)) (ca cb : Nat) (hX : Rc w0 R pa (cel dc xs)) (hY : Rc w0 R pb (cel dc ys)) (hx : ∀ x ∈ xs, (dc x).length = 32) (hy : ∀ x ∈ ys, (dc x).length = 32) (hA : Hp w0 R w) (hn : xs.length ≤ 9223372036854775807) : Calls Tryd.prog 53 #[.slice pa xs.length ca, .slice pb ys.length cb] w fun e w' => e = .returned (.bool (decide (xs = ys))) ∧ Hp w0 R w' :=
  bk_same_digests w0 w R pa pb xs ys ca cb hX hY (fun d hd => by rw [← dc_length]; exact hx d hd) (fun d hd => by rw [← dc_length]; exact hy d hd) hA hn

end Go.Proofs.YtpomngkcfbnjoaaDoor
