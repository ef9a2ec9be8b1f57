/- A byte of a string by its place; guards whose truth is known by a fact; ways within a region that meet again. Plain lemmas over the model; no program. -/
import Derived.Test.YtepbmdlgdaedpaaGreatDoorBook0
/- A byte of a string by its place; guards whose truth is known by a fact; ways within a region that meet again. Plain lemmas over the model; no program. -/
namespace Go.Dk
open Go Go.RowKit
section
variable {P:Program} {w:World} {n:Nat} {F:List (Nat × Value)} {o:Oper} {a:Act} {t t' e ti:TypeId} {x y:Operand} {v:Value} {ops:Array Oper} {Q:Exit→Act→World→Prop} {rest:List Oper} {d:Nat}
theorem bytes_at {s:List UInt8} {j:Nat} {b:UInt8} (hb:s[j]? = some b):(⟨s.toArray⟩:ByteArray)[j]? = some b:=by
  obtain ⟨hj,he⟩:=List.getElem?_eq_some_iff.1 hb
  rw [getElem?_pos (⟨s.toArray⟩:ByteArray) j (by show j<s.toArray.size; simpa using hj)]
  show some (s.toArray[j]'_)=some b
  simp [he]
theorem ji {kd:IntKind} {p:Int} {s:List UInt8} (ho:o.op= .index t x y) (hu:P.underlying t=some .string) (hx:ev F x=some (ak s)) (hy:ev F y=some (.int kd p)) (j:Nat) (hp:p=j) {b:UInt8} (hb:s[j]? = some b):Yd P n F o w (.int .u8 (b.toNat:Int)):=fun a hF=>by
  subst hp
  have h1:(0:Int)≤(j:Int):=by omega
  have hb2:=bytes_at hb
  unfold execOp
  simp only [ho,hF.ev hx,hF.ev hy,Instr.index,asIntOf,Sem.run_bind,Sem.run_pure,Result.andThen_ok,run_underlying hu w,h1,if_true,Int.toNat_natCast,hb2]
theorem Aa {m:Nat} {kd:IntKind} {p:Int} {cs:List Value} (ho:o.op= .index t x y) (hu:P.underlying t=some (.array m e)) (he:P.underlying e=some .string) (hs:(P.info? e).map (·.size)=some 1) (hx:ev F x=some (.agg cs.toArray)) (hy:ev F y=some (.int kd p)) (j:Nat) (hp:p=j) (hj:j<m) (hv:cs[j]? = some v):Yd P n F o w v:=fun a hF=>by
  subst hp
  have h1:(0:Int)≤(j:Int)∧(j:Int)<(m:Int):=by omega
  have hpart:(part e cs.toArray (j*1)).run P w= .ok v w:=by simp [part,isAgg,run_underlying he,hv]
  unfold execOp
  simp only [ho,hF.ev hx,hF.ev hy,Instr.index,asIntOf,Sem.run_bind,Sem.run_pure,Result.andThen_ok,run_underlying hu w,h1,and_self,if_true,run_sizeOf hs,Int.toNat_natCast,hpart]
theorem tf (b:Bool):b=false∨b=true:=by cases b <;> simp
theorem aj {g want:Bool} (h:g=want):some (Value.bool g)=some (.bool want):=by rw [h]
theorem ax {g want:Bool} (h:g = !want):(g == want)=false:=by subst h; cases want <;> rfl
theorem aW {g:Bool} {x1 x2:Operand} (h:g=true) (ho:o.op= .pick x x1 x2) (hx:ev F x=some (.bool g)) (hv:ev F x1=some v):Yd P n F o w v:=dA (c:=true) ho (hx.trans (aj h)) hv
theorem aP {g:Bool} {x1 x2:Operand} (h:g=false) (ho:o.op= .pick x x1 x2) (hx:ev F x=some (.bool g)) (hv:ev F x2=some v):Yd P n F o w v:=dA (c:=false) ho (hx.trans (aj h)) hv
theorem aX {l l2:List Oper} (_hF:Fr n F a) (F':List (Nat × Value)) (h1:(∀ a,Fr n F' a→wpList P ops Q l2 a w)→wpList P ops Q l a w) (h2:∀ a,Fr n F' a→wpList P ops Q l2 a w):wpList P ops Q l a w:=h1 h2
theorem sU {l l2:List Oper} (_hF:Fr n F a) (C:World→Prop) (F':List (Nat × Value)) (h1:(∀ a x,Fr n F' a→C x→wpList P ops Q l2 a x)→wpList P ops Q l a w) (h2:∀ a x,Fr n F' a→C x→wpList P ops Q l2 a x):wpList P ops Q l a w:=h1 h2
theorem Fr.bool {g h:Bool} {d:Nat} (hF:Fr n ((d,.bool g)::F) a) (e:g=h):Fr n ((d,.bool h)::F) a:=e ▸ hF
end
end Go.Dk
