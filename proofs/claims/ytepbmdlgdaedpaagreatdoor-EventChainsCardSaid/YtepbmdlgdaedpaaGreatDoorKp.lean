/- Texts that belong together, one behind the other. -/
import Derived.Test.YtepbmdlgdaedpaaGreatDoorEv9
import Derived.Test.YtepbmdlgdaedpaaGreatDoorOpenR
import Derived.Test.YtepbmdlgdaedpaaGreatDoorSp
import Derived.Test.YtepbmdlgdaedpaaGreatDoorOctetH
import Derived.Test.YtepbmdlgdaedpaaGreatDoorHc
import Derived.Test.YtepbmdlgdaedpaaGreatDoorOctetS
import Derived.Test.YtepbmdlgdaedpaaGreatDoorEv6
import Derived.Test.YtepbmdlgdaedpaaGreatDoorEvW
import Derived.Test.YtepbmdlgdaedpaaGreatDoorMore
namespace Go.Proofs.YtepbmdlgdaedpaaGreatDoor
open Go.RowKit Go.Dk
theorem vU (w0 w:World) (R:List Seg) (B:Option Addr) (l:List UInt8) (c:Nat) (hB:Rc w0 R B (dc l)) (hA:Hp w0 R w) (hl:l.length<140737488354000):Calls Tryz.prog 17 #[.slice B l.length c,.int .u8 219] w fun e w'=>∃ g,e= .returned (.slice (some ⟨g,0,none⟩) (l.length+80) (l.length+80))∧Hp w0 ([row g 5 (dc (l++List.replicate 80 219))]::R) w':=by
  have h:=tu w0 w R B l c 219 (by rw [← pM]; exact hB) (fun _ _=>rfl) rfl hA hl
  rw [← pM] at h
  exact h
theorem tC (w0 w:World) (R:List Seg) (B B2:Option Addr) (l:List UInt8) (c c2:Nat) (hB:Rc w0 R B (dc (l++List.replicate 80 219))) (hB2:Rc w0 R B2 (dc l)) (hc:l.length+80≤c) (hA:Hp w0 R w) (hl:l.length<140737488354000):Calls Tryz.prog 65 #[.slice B (l.length+80) c,.slice B2 l.length c2,.int .u8 219] w fun e w'=>e= .returned (.bool true)∧Hp w0 R w':=by
  have h:=rQ w0 w R B B2 l c c2 219 (by rw [← pM]; exact hB) (by rw [← pM]; exact hB2) (fun _ _=>rfl) rfl hc hA hl
  exact h
end Go.Proofs.YtepbmdlgdaedpaaGreatDoor
namespace Go.Proofs.YtepbmdlgdaedpaaGreatDoor
open Go.RowKit Go.Dk
theorem EC {a b:List UInt8} (h:a=b):bK .eql a b=true:=by subst h; unfold bK; simp
end Go.Proofs.YtepbmdlgdaedpaaGreatDoor
