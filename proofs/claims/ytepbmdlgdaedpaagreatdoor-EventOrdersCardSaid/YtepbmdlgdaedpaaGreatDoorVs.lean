/- Further rules of the walk over named slots: slices, copies, literals, arrays of bytes. Plain lemmas over the model; no program. -/
import Derived.Test.YtepbmdlgdaedpaaGreatDoorVc
import Derived.Great.BuildSlice
import Derived.Lib.SlBytesConst
/- Further rules of the walk over named slots: slices, copies, literals, arrays of bytes. Plain lemmas over the model; no program. -/
namespace Go.Dk
open Go Go.RowKit
section
variable {P:Program} {Q:Exit→Act→World→Prop} {w w0:World} {n:Nat} {F:List (Nat × Value)} {a:Act}
variable {o:Oper} {d:Nat} {K:Act→World→Prop} {L:List Row} {t:TypeId} {x y:Operand} {v:Value}
inductive BoundF (F:List (Nat × Value)):Option Operand→Nat→Nat→Prop
  | none (k:Nat):BoundF F none k k
  | some {x:Operand} {kd:IntKind} {p:Int} {k dflt:Nat} (hx:ev F x=some (.int kd p)) (hp:p=k):BoundF F (some x) dflt k
theorem BoundF.bound {lo:Option Operand} {dflt k:Nat} (h:BoundF F lo dflt k) (hF:Fr n F a):iF (lo.map a.eval) dflt k:=by
  cases h with
  | none=>exact qW _
  | some hx hp =>
    subst hp
    rw [Option.map_some,hF.ev hx]
    exact qV _ _ _
theorem gU {e:TypeId} {lo hi:Option Operand} {size:Nat} {A:Option Addr} {len cap l h:Nat} (ho:o.op= .slice t x lo hi none) (hu:P.underlying t=some (.slice e)) (hs:(P.info? e).map (·.size)=some size)
    (hx:ev F x=some (.slice A len cap)) (hlo:BoundF F lo 0 l) (hhi:BoundF F hi len h) (h1:l≤h) (h2:h≤cap) (hv:Value.slice (sub A l cap size) (h-l) (cap-l)=v):Yd P n F o w v:=fun _ hF =>
  rQ ho hu hs (hF.ev hx) l h (hlo.bound hF) (hhi.bound hF) h1 h2 hv
theorem mX {e:TypeId} {lo hi:Option Operand} {m size:Nat} {ad:Addr} {l h:Nat} (ho:o.op= .slice t x lo hi none) (hu:P.underlying t=some (.array m e)) (hs:(P.info? e).map (·.size)=some size)
    (hx:ev F x=some (.pointer (some ad))) (hlo:BoundF F lo 0 l) (hhi:BoundF F hi m h) (h1:l≤h) (h2:h≤m) (hv:Value.slice (sub (some ad) l m size) (h-l) (m-l)=v):Yd P n F o w v:=fun _ hF =>
  qo ho hu hs (hF.ev hx) l h (hlo.bound hF) (hhi.bound hF) h1 h2 hv
theorem kN {A:Option Addr} {h cap size:Nat}:Value.slice (sub A 0 cap size) (h-0) (cap-0)= .slice A h cap:=by rw [sub_zero]; rfl
theorem dV (ho:o.op= .build t #[]) (hr:∀ w,(Instr.build t #[]).run P w= .ok v w):Yd P n F o w v:=fun a _=>by
  unfold execOp
  simp only [ho,Sem.run_bind]
  have h1:(Instr.build t (Array.map (fun x:Nat × Operand=>(x.1,a.eval x.2)) #[])).run P w= .ok v w:=by simpa using hr w
  simp only [h1,Result.andThen_ok,Sem.run_pure]
theorem rf {t':TypeId} (ho:o.op= .binOp .eql t x y t') (hu:P.underlying t=some (.pointer (P.pointee t))) (hx:ev F x=some (.pointer none)) (hy:ev F y=some (.pointer none)):Yd P n F o w (.bool true):=fun a hF=>by
  unfold execOp
  simp only [ho,hF.ev hx,hF.ev hy,Sem.run_bind]
  have h1:(eqGuard .eql t x y (.pointer none) (.pointer none)).run P w= .ok () w:=rfl
  rw [h1]
  simp only [Result.andThen_ok]
  rw [run_eql_pointer_nil w t none hu]
  rfl
theorem qc {k:IntKind} {p r:Int} (ho:o.op= .unOp .xor t x) (hx:ev F x=some (.int k p)) (hr:bits .xor k (if k.signed then -1 else k.max) p=r):Yd P n F o w (.int k r):=fun a hF=>by
  subst hr
  unfold execOp
  simp only [ho,hF.ev hx,Sem.run_bind,Op.unary,intBits_xor,Sem.run_pure,Result.andThen_ok]
theorem aJ {vs:Array Value} {i:Nat} (ho:o.op= .extract x i) (hx:ev F x=some (.tuple vs)) (hv:vs[i]? = some v):Yd P n F o w v:=fun a hF=>by
  unfold execOp
  simp only [ho,hF.ev hx,Instr.extract,hv,Sem.run_bind,Sem.run_pure,Result.andThen_ok]
def bn (b:BinOp) (l m:List UInt8):Bool:=match b with
  | .eql=>l == m
  | .neq => !(l == m)
  | .lss=>Op.bytesLess l m
  | .leq=>Op.bytesLess l m || l == m
  | .gtr => !(Op.bytesLess l m || l == m)
  | .geq => !(Op.bytesLess l m)
  | _=>false
theorem fP {b:BinOp} {c:Bool} {t':TypeId} {s u:ByteArray} (ho:o.op= .binOp b t x y t') (hb:wG b=true) (hx:ev F x=some (.string s)) (hy:ev F y=some (.string u)) (hr:bn b s.data.toList u.data.toList=c):Yd P n F o w (.bool c):=fun a hF=>by
  have h0:(eqGuard b t x y (.string s) (.string u)).run P w= .ok () w:=by unfold eqGuard; split <;> rfl
  subst hr; unfold execOp; simp only [ho,hF.ev hx,hF.ev hy,Sem.run_bind,h0,Result.andThen_ok]
  cases b <;> first | (simp [wG] at hb; done) | simp [binOp,Op.stringOp,bn,ByteArray.toList_eq]
theorem lw {t' e:TypeId} {A:Option Addr} {c m:Nat} {l:List UInt8} (ho:o.op= .convert t t' x) (hu:P.underlying t=some (.slice e)) (he:P.underlying e=some (.int .u8)) (hd:P.underlying t'=some .string)
    (hx:ev F x=some (.slice A m c)) (hn:m=l.length) (hr:Bts w A l):Yd P n F o w (.string ⟨l.toArray⟩):=fun a hF=>by
  by_cases hl:l=[]
  · subst hl
    subst hn
    have h:(convert t t' (.slice A 0 c)).run P w= .ok (.string ⟨([]:List UInt8).toArray⟩) w:=by
      cases A with
      | none=>rw [run_convert_bytes_string w t t' e none 0 c hu he hd]; rfl
      | some ad=>exact run_convert_bytes_back w t t' e ad c [] hu he hd (fun j hj=>absurd hj (Nat.not_lt_zero _))
    unfold execOp
    simp only [ho,hF.ev hx,Sem.run_bind,List.length_nil,h,Result.andThen_ok,Sem.run_pure]
  · exact mf ho hu he hd (hF.ev hx) hn hl hr
theorem yP {u:Value} {i:Nat} (ho:o.op= .build t #[(i,x)]) (hx:ev F x=some u) (hr:∀ w,(Instr.build t #[(i,u)]).run P w= .ok v w):Yd P n F o w v:=fun a hF=>by
  unfold execOp
  simp only [ho,Sem.run_bind]
  have h1:(Instr.build t (Array.map (fun x:Nat × Operand=>(x.1,a.eval x.2)) #[(i,x)])).run P w= .ok v w:=by simpa [hF.ev hx] using hr w
  simp only [h1,Result.andThen_ok,Sem.run_pure]
theorem fH {t':TypeId} {ad:Addr} (ho:o.op= .binOp .eql t x y t') (hu:P.underlying t=some (.pointer (P.pointee t))) (hx:ev F x=some (.pointer (some ad))) (hy:ev F y=some (.pointer none)):Yd P n F o w (.bool false):=fun a hF=>by
  unfold execOp
  simp only [ho,hF.ev hx,hF.ev hy,Sem.run_bind]
  have h1:(eqGuard .eql t x y (.pointer (some ad)) (.pointer none)).run P w= .ok () w:=rfl
  rw [h1]
  simp only [Result.andThen_ok]
  rw [run_eql_pointer_nil w t (some ad) hu]
  rfl
theorem Cc {tx ty e:TypeId} (hF:Fr n F a) (hd:o.dst=some d) (hlt:d<n) (ho:o.op= .call { callee:= .builtin .copy,args := #[x,y],argTypes := #[tx,ty] }) (hA:At w0 L w)
    (hu:P.underlying tx=some (.slice e)) (hs:(P.info? e).map (·.size)=some 1) {D A:Option Addr} {dLen dc' sLen sc:Nat} (hx:ev F x=some (.slice D dLen dc')) (hy:ev F y=some (.slice A sLen sc))
    (l:List UInt8) (hl:l.length=Nat.min sLen dLen) (hr:Bts w A l) {g:Nat} (off:Nat) (k:Nat) {te:TypeId} {cs:List Value} (hk:L[k]? = some (g,te,cs)) (hD:0<l.length→D=some ⟨g,off,none⟩) (hfit:off+l.length≤cs.length)
    (h:∀ w' a',Fr n ((d,.int .i64 (l.length:Nat))::F) a'→At w0 (L.set k (g,te,splice cs off (dc l))) w'→K a' w'):o.wp P a w K Q :=
  Cf ho hA hu hs (hF.ev hx) (hF.ev hy) hl hr k hk hD hfit (fun w' hw=>by rw [hd]; exact h w' _ (hF.put hlt) hw)
theorem az {c:Operand} {x y:Code} {b:Bool} (hF:Fr n F a) (hc:ev F c=some (.bool b)) (hb:b=true) (h:x.wp P Q a w):(Code.cond c x y).wp P Q a w:=iw hF (by rw [hc,hb]) h
theorem au {c:Operand} {x y:Code} {b:Bool} (hF:Fr n F a) (hc:ev F c=some (.bool b)) (hb:b=false) (h:y.wp P Q a w):(Code.cond c x y).wp P Q a w:=eP hF (by rw [hc,hb]) h
theorem Dj {w:World} {g:Nat} {t:TypeId} {cs:List Value} (h:w.heap.size≤g):∀ r∈[((g,t,cs):Row)],w.heap.size≤r.1:=by
  intro r hr; simp only [List.mem_cons,List.not_mem_nil,or_false] at hr; subst hr; exact h
theorem yR {e:TypeId} (hF:Fr n F a) (hd:o.dst=some d) (hlt:d<n) (ho:o.op= .buildSlice t 1 #[(0,x)]) (hA:At w0 L w) (b:UInt8) (hx:ev F x=some (.int .u8 (b.toNat:Int)))
    (hr:∀ (d:Int) (w:World),(Instr.buildSlice t 1 #[(0,.int .u8 d)]).run P w= .ok (.slice (some ⟨w.heap.size,0,none⟩) 1 1) (w.alloc (.cells #[.int .u8 d] e)))
    (h:∀ g w' a',w.heap.size≤g→Fr n ((d,.slice (some ⟨g,0,none⟩) 1 1)::F) a'→At w0 ((g,e,dc [b])::L) w'→K a' w'):o.wp P a w K Q :=
  EI ho hA (hF.ev hx) (hr _ w) (fun g w' hg hw=>by rw [hd]; exact h g w' _ hg (hF.put hlt) hw)
end
end Go.Dk
