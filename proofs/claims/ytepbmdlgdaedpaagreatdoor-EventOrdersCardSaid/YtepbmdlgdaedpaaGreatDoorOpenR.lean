/- Texts that belong together, one behind the other. -/
import Derived.Test.YtepbmdlgdaedpaaGreatDoorEvT
import Derived.Test.YtepbmdlgdaedpaaGreatDoorEv9
import Derived.Test.YtepbmdlgdaedpaaGreatDoorOpenEv
import Derived.Test.YtepbmdlgdaedpaaGreatDoorOpenS
namespace Go.Proofs.YtepbmdlgdaedpaaGreatDoor
open Go.RowKit Go.Dk
structure CA where
  name:List UInt8
  typ:List UInt8
  cnt:Int
  ch:List UInt8
  vals:List (List UInt8 × VA)
  vA:Option Addr
  vC:Nat
  opn:List (List UInt8)
  oA:Option Addr
  oC:Nat
  clo:List (List UInt8)
  cA:Option Addr
  cC:Nat
  rea:List (List UInt8)
  rA:Option Addr
  rC:Nat
abbrev Hf (b:List UInt8 × VA):List Value:=ak b.1::b.2.cells
abbrev CA.tl (c:CA):List Value:=[.slice c.vA c.vals.length c.vC,.slice c.oA c.opn.length c.oC,.slice c.cA c.clo.length c.cC,.slice c.rA c.rea.length c.rC]
abbrev CA.cells (c:CA):List Value:=[ak c.name,ak c.typ,.int .i64 c.cnt]++(dc c.ch++c.tl)
structure CA.Ok (w0:World) (G:List Seg) (c:CA):Prop where
  h32:c.ch.length=32
  vok:∀ b∈c.vals,b.2.Ok w0 G
  vr:Rc w0 G c.vA (c.vals.map Hf).flatten
  vn:c.vals.length≤9223372036854775807
  opr:Rc w0 G c.oA (c.opn.map ak)
  opl:c.opn.length≤9223372036854775807
  clr:Rc w0 G c.cA (c.clo.map ak)
  cll:c.clo.length≤9223372036854775807
  rer:Rc w0 G c.rA (c.rea.map ak)
  rel:c.rea.length≤9223372036854775807
theorem fA {n:Int} {ch:List UInt8} (h:ch.length=32):(Value.int .i64 n::dc ch).length=33:=by rw [List.length_cons,aQ,h]
theorem EO {a b:List UInt8} (h:bn .eql a b=true):a=b:=by unfold bn at h; simpa using h
theorem EP {a b:List UInt8} (h:bn .eql a b=false):¬ a=b:=by unfold bn at h; simpa using h
end Go.Proofs.YtepbmdlgdaedpaaGreatDoor
namespace Go.Proofs.YtepbmdlgdaedpaaGreatDoor
open Go.ChangeShapes Go.WideShapes Go.ChangeAt Go.RowKit Go.Dk Go.Deep
theorem Gs:Tryz.prog.cellsOf 3=1:=af
theorem Gq:Tryz.prog.cellsOf 5=1:=af
theorem E8:Tryz.prog.cellsOf 29=32:=af
theorem E5:Tryz.prog.cellsOf 49=33:=af
set_option maxRecDepth 100000 in
theorem um {H:Type} {enc:TypeId × Value→H} {w:World} {held:Bool} {cs:List Value} {x:DataW H × List MemPlace} {fuel:Nat} (hlen:cs.length=33) (h:DataW.trod enc Tryz.prog w 0 (fun _=>true) held fuel 49 cs=some x):∃ (n:Int) (d:List UInt8),cs= .int .i64 n::dc d∧(-9223372036854775808≤n∧n≤9223372036854775807)∧d.length=32:=by
  obtain ⟨xs,n,_,_,_,xsl,xse⟩:=DataW.trod_struct Io h
  have xs2:xs.length=2:=xsl
  have g (i:Nat) (hi:i<2):xs[i]? = some xs[i]:=List.getElem?_eq_getElem ag
  have f0:DataW.trod enc Tryz.prog w 0 (fun _=>true) held n 3 (((cs).drop 0).take (Tryz.prog.cellsOf 3))=xs[0]? := xse 0 _ rfl
  rw [g 0 ag,Gs] at f0
  have f1:DataW.trod enc Tryz.prog w 0 (fun _=>true) held n 29 (((cs).drop 1).take (Tryz.prog.cellsOf 29))=xs[1]? := xse 1 _ rfl
  rw [g 1 ag,E8] at f1
  obtain ⟨cn,e0,k1,k2⟩:=yE H8 f0
  obtain ⟨ch,e1,hch⟩:=l7 Ip Ih Gq (by simp only [List.length_take,List.length_drop]; omega) f1
  refine ⟨cn,ch,?_,⟨k1,k2⟩,hch⟩
  have s0:=oD (cs) 0 1
  have s1:=oD (cs) 1 32
  rw [e0] at s0
  rw [e1] at s1
  have z1:cs.drop (1+32)=[]:=List.drop_of_length_le ag
  rw [z1] at s1
  rw [List.drop_zero] at s0
  rw [s0,s1]
  simp
set_option maxRecDepth 100000 in
theorem uK {H:Type} {enc:TypeId × Value→H} {w:World} {held:Bool} {v:Value} {d:DataW H} {p:List MemPlace} {r:Reach} {b0:Nat} (hv:Value.okWide Tryz.prog w r b0 49 v) (h:DataW.Trod enc Tryz.prog w 0 (fun _=>true) held 49 v d p):∃ (n:Int) (d:List UInt8),v= .agg (.int .i64 n::dc d:List Value).toArray∧(-9223372036854775808≤n∧n≤9223372036854775807)∧d.length=32:=by
  obtain ⟨cs,rfl,hsz⟩:∃ cs,v= .agg cs∧cs.size=Tryz.prog.cellsOf 49:=by
    obtain ⟨cs,h1,h2,_⟩:∃ cs,v= .agg cs∧cs.size=Tryz.prog.cellsOf 49∧Row.okWide Tryz.prog w r b0 49 cs:=by simpa [Value.okWide,Io] using hv
    exact ⟨cs,h1,h2⟩
  rw [E5] at hsz
  obtain ⟨fuel,hf⟩:=h
  have hc:(Value.agg cs).cells.toList=cs.toList:=rfl
  rw [hc] at hf
  obtain ⟨a,b,h1,h2,h3⟩:=um (by simpa using hsz) hf
  exact ⟨a,b,by rw [← h1],h2,h3⟩
end Go.Proofs.YtepbmdlgdaedpaaGreatDoor
namespace Go.Dk
open Go Go.ChangeShapes Go.WideShapes Go.ChangeAt Go.RowKit Go.Deep
section
variable {H:Type} {enc:TypeId × Value→H} {P:Program} {w:World} {held:Bool} {t e:TypeId} {v:Value} {d:DataW H} {p:List MemPlace}
theorem rD {t e:TypeId} {es sp:List (DataW H)} {d:DataW H} (hu:P.underlying t=some (.slice e)) (hd:d∈es) {x:Nat} (hx:x∈DataW.weights P e d):x∈DataW.weights P t (.slice es sp):=by
  rw [DataW.weights,hu]
  refine H5 _ (Il _ ?_)
  induction es with
  | nil=>cases hd
  | cons y r ih =>
    rw [DataW.weightsAll]
    rcases List.mem_cons.1 hd with rfl | h
    · exact Il _ hx
    · exact Ik _ (ih h)
end
end Go.Dk
