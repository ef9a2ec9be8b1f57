/- Texts that belong together, one behind the other. -/
import Derived.Test.YtepbmdlgdaedpaaGreatDoorEv6
import Derived.Test.YtepbmdlgdaedpaaGreatDoorEvW
import Derived.Test.YtepbmdlgdaedpaaGreatDoorEv9
import Derived.Test.YtepbmdlgdaedpaaGreatDoorLt
import Derived.Test.YtepbmdlgdaedpaaGreatDoorCell
namespace Go.Proofs.YtepbmdlgdaedpaaGreatDoor
open Go.RowKit Go.Dk
structure CA where
  name:List UInt8
  typ:List UInt8
  cnt:Int
  ch:List UInt8
  vals:List (List UInt8 × VA)
  vA:Option Addr
  vC:Nat
  opn:List (List UInt8)
  oA:Option Addr
  oC:Nat
  clo:List (List UInt8)
  cA:Option Addr
  cC:Nat
  rea:List (List UInt8)
  rA:Option Addr
  rC:Nat
abbrev PM (b:List UInt8 × VA):List Value:=ak b.1::b.2.cells
abbrev CA.tl (c:CA):List Value:=[.slice c.vA c.vals.length c.vC,.slice c.oA c.opn.length c.oC,.slice c.cA c.clo.length c.cC,.slice c.rA c.rea.length c.rC]
abbrev CA.cells (c:CA):List Value:=[ak c.name,ak c.typ,.int .i64 c.cnt]++(dc c.ch++c.tl)
structure CA.Ok (w0:World) (G:List Seg) (c:CA):Prop where
  h32:c.ch.length=32
  vok:∀ b∈c.vals,b.2.Ok w0 G
  vr:Rc w0 G c.vA (c.vals.map PM).flatten
  vn:c.vals.length≤9223372036854775807
  opr:Rc w0 G c.oA (c.opn.map ak)
  opl:c.opn.length≤9223372036854775807
  clr:Rc w0 G c.cA (c.clo.map ak)
  cll:c.clo.length≤9223372036854775807
  rer:Rc w0 G c.rA (c.rea.map ak)
  rel:c.rea.length≤9223372036854775807
theorem uh {n:Int} {ch:List UInt8} (h:ch.length=32):(Value.int .i64 n::dc ch).length=33:=by rw [List.length_cons,aI,h]
theorem Aq {a b:List UInt8} (h:bI .eql a b=true):a=b:=by unfold bI at h; simpa using h
theorem Au {a b:List UInt8} (h:bI .eql a b=false):¬ a=b:=by unfold bI at h; simpa using h
theorem yN {α:Type} {l:List α} {i:Nat} {x y:α} (h:¬ x∈l.take i) (hi:l[i]? = some y) (hn:¬ x=y):¬ x∈l.take (i+1):=by
  rw [List.take_add_one,hi]
  simp only [Option.toList_some,List.mem_append,List.mem_singleton,not_or]
  exact ⟨h,hn⟩
theorem ET {W V:List Value} {i z k:Nat} (h:(W.drop i).take z=V) (hk:k<V.length):W[i+k]? = V[k]? := by
  subst h
  have hz:k<z:=Nat.lt_of_lt_of_le hk (by rw [List.length_take]; omega)
  rw [List.getElem?_take,if_pos hz,List.getElem?_drop]
end Go.Proofs.YtepbmdlgdaedpaaGreatDoor
namespace Go.Proofs.YtepbmdlgdaedpaaGreatDoor
open Go.ChangeShapes Go.WideShapes Go.ChangeAt Go.RowKit Go.Dk Go.Deep
theorem OZ:Tryz.prog.cellsOf 3=1:=af
theorem OY:Tryz.prog.cellsOf 5=1:=af
theorem NQ:Tryz.prog.cellsOf 29=32:=af
theorem NP:Tryz.prog.cellsOf 49=33:=af
set_option maxRecDepth 100000 in
theorem zV {H:Type} {enc:TypeId × Value→H} {w:World} {held:Bool} {cs:List Value} {x:DataW H × List MemPlace} {fuel:Nat} (hlen:cs.length=33) (h:DataW.trod enc Tryz.prog w 0 (fun _=>true) held fuel 49 cs=some x):∃ (n:Int) (d:List UInt8),cs= .int .i64 n::dc d∧(-9223372036854775808≤n∧n≤9223372036854775807)∧d.length=32:=by
  obtain ⟨xs,n,_,_,_,xsl,xse⟩:=DataW.trod_struct Qo h
  have xs2:xs.length=2:=xsl
  have g (i:Nat) (hi:i<2):xs[i]? = some xs[i]:=List.getElem?_eq_getElem ag
  have f0:DataW.trod enc Tryz.prog w 0 (fun _=>true) held n 3 (((cs).drop 0).take (Tryz.prog.cellsOf 3))=xs[0]? := xse 0 _ rfl
  rw [g 0 ag,OZ] at f0
  have f1:DataW.trod enc Tryz.prog w 0 (fun _=>true) held n 29 (((cs).drop 1).take (Tryz.prog.cellsOf 29))=xs[1]? := xse 1 _ rfl
  rw [g 1 ag,NQ] at f1
  obtain ⟨cn,e0,k1,k2⟩:=FB Qb f0
  obtain ⟨ch,e1,hch⟩:=qN PV PW OY (by simp only [List.length_take,List.length_drop]; omega) f1
  refine ⟨cn,ch,?_,⟨k1,k2⟩,hch⟩
  have s0:=uk (cs) 0 1
  have s1:=uk (cs) 1 32
  rw [e0] at s0
  rw [e1] at s1
  have z1:cs.drop (1+32)=[]:=List.drop_of_length_le ag
  rw [z1] at s1
  rw [List.drop_zero] at s0
  rw [s0,s1]
  simp
set_option maxRecDepth 100000 in
theorem Bi {H:Type} {enc:TypeId × Value→H} {w:World} {held:Bool} {v:Value} {d:DataW H} {p:List MemPlace} {r:Reach} {b0:Nat} (hv:Value.okWide Tryz.prog w r b0 49 v) (h:DataW.Trod enc Tryz.prog w 0 (fun _=>true) held 49 v d p):∃ (n:Int) (d:List UInt8),v= .agg (.int .i64 n::dc d:List Value).toArray∧(-9223372036854775808≤n∧n≤9223372036854775807)∧d.length=32:=by
  obtain ⟨cs,rfl,hsz⟩:∃ cs,v= .agg cs∧cs.size=Tryz.prog.cellsOf 49:=by
    obtain ⟨cs,h1,h2,_⟩:∃ cs,v= .agg cs∧cs.size=Tryz.prog.cellsOf 49∧Row.okWide Tryz.prog w r b0 49 cs:=by simpa [Value.okWide,Qo] using hv
    exact ⟨cs,h1,h2⟩
  rw [NP] at hsz
  obtain ⟨fuel,hf⟩:=h
  have hc:(Value.agg cs).cells.toList=cs.toList:=rfl
  rw [hc] at hf
  obtain ⟨a,b,h1,h2,h3⟩:=zV (by simpa using hsz) hf
  exact ⟨a,b,by rw [← h1],h2,h3⟩
end Go.Proofs.YtepbmdlgdaedpaaGreatDoor
namespace Go.Dk
open Go Go.ChangeShapes Go.WideShapes Go.ChangeAt Go.RowKit Go.Deep
section
variable {H:Type} {enc:TypeId × Value→H} {P:Program} {w:World} {held:Bool} {t e:TypeId} {v:Value} {d:DataW H} {p:List MemPlace}
theorem xX {t e:TypeId} {es sp:List (DataW H)} {d:DataW H} (hu:P.underlying t=some (.slice e)) (hd:d∈es) {x:Nat} (hx:x∈DataW.weights P e d):x∈DataW.weights P t (.slice es sp):=by
  rw [DataW.weights,hu]
  refine P7 _ (Qj _ ?_)
  induction es with
  | nil=>cases hd
  | cons y r ih =>
    rw [DataW.weightsAll]
    rcases List.mem_cons.1 hd with rfl | h
    · exact Qj _ hx
    · exact Qi _ (ih h)
end
end Go.Dk
