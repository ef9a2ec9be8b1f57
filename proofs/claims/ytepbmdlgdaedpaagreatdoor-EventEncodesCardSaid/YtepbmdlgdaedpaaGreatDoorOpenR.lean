/- Texts that belong together, one behind the other. -/
import Derived.Test.YtepbmdlgdaedpaaGreatDoorEv6
import Derived.Test.YtepbmdlgdaedpaaGreatDoorEvW
import Derived.Test.YtepbmdlgdaedpaaGreatDoorEv9
import Derived.Test.YtepbmdlgdaedpaaGreatDoorOpenS
namespace Go.Proofs.YtepbmdlgdaedpaaGreatDoor
open Go.RowKit Go.Dk
structure CA where
  name:List UInt8
  typ:List UInt8
  cnt:Int
  ch:List UInt8
  vals:List (List UInt8 × VA)
  vA:Option Addr
  vC:Nat
  opn:List (List UInt8)
  oA:Option Addr
  oC:Nat
  clo:List (List UInt8)
  cA:Option Addr
  cC:Nat
  rea:List (List UInt8)
  rA:Option Addr
  rC:Nat
abbrev JA (b:List UInt8 × VA):List Value:=ak b.1::b.2.cells
abbrev CA.tl (c:CA):List Value:=[.slice c.vA c.vals.length c.vC,.slice c.oA c.opn.length c.oC,.slice c.cA c.clo.length c.cC,.slice c.rA c.rea.length c.rC]
abbrev CA.cells (c:CA):List Value:=[ak c.name,ak c.typ,.int .i64 c.cnt]++(dc c.ch++c.tl)
structure CA.Ok (w0:World) (G:List Seg) (c:CA):Prop where
  h32:c.ch.length=32
  vok:∀ b∈c.vals,b.2.Ok w0 G
  vr:Rc w0 G c.vA (c.vals.map JA).flatten
  vn:c.vals.length≤9223372036854775807
  opr:Rc w0 G c.oA (c.opn.map ak)
  opl:c.opn.length≤9223372036854775807
  clr:Rc w0 G c.cA (c.clo.map ak)
  cll:c.clo.length≤9223372036854775807
  rer:Rc w0 G c.rA (c.rea.map ak)
  rel:c.rea.length≤9223372036854775807
theorem GH {a b:List UInt8} (h:aY .eql a b=true):a=b:=by unfold aY at h; simpa using h
theorem GI {a b:List UInt8} (h:aY .eql a b=false):¬ a=b:=by unfold aY at h; simpa using h
theorem ui {α:Type} {l:List α} {i:Nat} {x y:α} (h:¬ x∈l.take i) (hi:l[i]? = some y) (hn:¬ x=y):¬ x∈l.take (i+1):=by
  rw [List.take_add_one,hi]
  simp only [Option.toList_some,List.mem_append,List.mem_singleton,not_or]
  exact ⟨h,hn⟩
theorem kK {W V:List Value} {i z k:Nat} (h:(W.drop i).take z=V) (hk:k<V.length):W[i+k]? = V[k]? := by
  subst h
  have hz:k<z:=Nat.lt_of_lt_of_le hk (by rw [List.length_take]; omega)
  rw [List.getElem?_take,if_pos hz,List.getElem?_drop]
end Go.Proofs.YtepbmdlgdaedpaaGreatDoor
namespace Go.Dk
open Go Go.ChangeShapes Go.WideShapes Go.ChangeAt Go.RowKit Go.Deep
section
variable {H:Type} {enc:TypeId × Value→H} {P:Program} {w:World} {held:Bool} {t e:TypeId} {v:Value} {d:DataW H} {p:List MemPlace}
theorem sS {t e:TypeId} {es sp:List (DataW H)} {d:DataW H} (hu:P.underlying t=some (.slice e)) (hd:d∈es) {x:Nat} (hx:x∈DataW.weights P e d):x∈DataW.weights P t (.slice es sp):=by
  rw [DataW.weights,hu]
  refine JJ _ (J3 _ ?_)
  induction es with
  | nil=>cases hd
  | cons y r ih =>
    rw [DataW.weightsAll]
    rcases List.mem_cons.1 hd with rfl | h
    · exact J3 _ hx
    · exact JZ _ (ih h)
end
end Go.Dk
