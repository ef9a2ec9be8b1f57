/- Texts that belong together, one behind the other. -/
import Derived.Test.YtpomngkcfbnjoaaGreatDoorVc
import Derived.Great.BuildSlice
import Derived.Lib.SlBytesConst
import Derived.Test.YtpomngkcfbnjoaaGreatDoorDigest
namespace Go.Dk
open Go Go.RowKit
section
variable {P:Program} {Q:Exit→Act→World→Prop} {w w0:World} {n:Nat} {F:List (Nat × Value)} {a:Act}
variable {o:Oper} {d:Nat} {K:Act→World→Prop} {L:List Row} {t:TypeId} {x y:Operand} {v:Value}
inductive BoundF (F:List (Nat × Value)):Option Operand→Nat→Nat→Prop
  | none (k:Nat):BoundF F none k k
  | some {x:Operand} {kd:IntKind} {p:Int} {k dflt:Nat} (hx:ev F x=some (.int kd p)) (hp:p=k):BoundF F (some x) dflt k
theorem BoundF.bound {lo:Option Operand} {dflt k:Nat} (h:BoundF F lo dflt k) (hF:Fr n F a):iZ (lo.map a.eval) dflt k:=by
  cases h with
  | none=>exact dN _
  | some hx hp =>
    subst hp
    rw [Option.map_some,hF.ev hx]
    exact jX _ _ _
theorem ed {e:TypeId} {lo hi:Option Operand} {size:Nat} {A:Option Addr} {len cap l h:Nat} (ho:o.op= .slice t x lo hi none) (hu:P.underlying t=some (.slice e)) (hs:(P.info? e).map (·.size)=some size)
    (hx:ev F x=some (.slice A len cap)) (hlo:BoundF F lo 0 l) (hhi:BoundF F hi len h) (h1:l≤h) (h2:h≤cap) (hv:Value.slice (sub A l cap size) (h-l) (cap-l)=v):Yd P n F o w v:=fun _ hF =>
  oZ ho hu hs (hF.ev hx) l h (hlo.bound hF) (hhi.bound hF) h1 h2 hv
theorem dG {e:TypeId} {lo hi:Option Operand} {m size:Nat} {ad:Addr} {l h:Nat} (ho:o.op= .slice t x lo hi none) (hu:P.underlying t=some (.array m e)) (hs:(P.info? e).map (·.size)=some size)
    (hx:ev F x=some (.pointer (some ad))) (hlo:BoundF F lo 0 l) (hhi:BoundF F hi m h) (h1:l≤h) (h2:h≤m) (hv:Value.slice (sub (some ad) l m size) (h-l) (m-l)=v):Yd P n F o w v:=fun _ hF =>
  lI ho hu hs (hF.ev hx) l h (hlo.bound hF) (hhi.bound hF) h1 h2 hv
theorem dU {A:Option Addr} {h cap size:Nat}:Value.slice (sub A 0 cap size) (h-0) (cap-0)= .slice A h cap:=by rw [sub_zero]; rfl
theorem kL {ts e:TypeId} {A:Option Addr} {m c:Nat} (ho:o.op= .call { callee:= .builtin .cap,args := #[x],argTypes := #[ts] }) (hu:P.underlying ts=some (.slice e)) (hx:ev F x=some (.slice A m c)):Yd P n F o w (.int .i64 (c:Int)):=fun a hF=>by
  unfold execOp
  simp only [ho,hF.ev hx,resolve,invoke,builtin,Builtin.cap_,List.map_toArray,List.map_cons,List.map_nil,Sem.run_bind,Sem.run_pure,Result.andThen_ok,run_underlying hu w,List.getElem?_toArray,List.getElem?_cons_zero,goInt]
theorem oM {t' e:TypeId} {m:Nat} {X Y:List UInt8} (ho:o.op= .binOp .eql t x y t') (hu:P.underlying t=some (.array m e)) (he:P.underlying e=some (.int .u8)) (hs:(P.info? e).map (·.size)=some 1) (hm:P.eqGuardType P.depth t=false)
    (hx:ev F x=some (.agg (dc X).toArray)) (hy:ev F y=some (.agg (dc Y).toArray)) (hX:X.length=m) (hY:Y.length=m) {c:Bool} (hc:decide (X=Y)=c):Yd P n F o w (.bool c):=fun _ hF=>by
  subst hc; exact tV ho e m X Y (hF.ev hx) (hF.ev hy) hu he hs hX hY hm
theorem kS {t' e:TypeId} {m:Nat} {X Y:List UInt8} (ho:o.op= .binOp .neq t x y t') (hu:P.underlying t=some (.array m e)) (he:P.underlying e=some (.int .u8)) (hs:(P.info? e).map (·.size)=some 1) (hm:P.eqGuardType P.depth t=false)
    (hx:ev F x=some (.agg (dc X).toArray)) (hy:ev F y=some (.agg (dc Y).toArray)) (hX:X.length=m) (hY:Y.length=m) {c:Bool} (hc:(!decide (X=Y))=c):Yd P n F o w (.bool c):=fun _ hF=>by
  subst hc; exact tN ho e m X Y (hF.ev hx) (hF.ev hy) hu he hs hX hY hm
theorem nM (ho:o.op= .build t #[]) (hr:∀ w,(Instr.build t #[]).run P w= .ok v w):Yd P n F o w v:=fun a _=>by
  unfold execOp
  simp only [ho,Sem.run_bind]
  have h1:(Instr.build t (Array.map (fun x:Nat × Operand=>(x.1,a.eval x.2)) #[])).run P w= .ok v w:=by simpa using hr w
  simp only [h1,Result.andThen_ok,Sem.run_pure]
theorem lS {t':TypeId} (ho:o.op= .binOp .eql t x y t') (hu:P.underlying t=some (.pointer (P.pointee t))) (hx:ev F x=some (.pointer none)) (hy:ev F y=some (.pointer none)):Yd P n F o w (.bool true):=fun a hF=>by
  unfold execOp
  simp only [ho,hF.ev hx,hF.ev hy,Sem.run_bind]
  have h1:(eqGuard .eql t x y (.pointer none) (.pointer none)).run P w= .ok () w:=rfl
  rw [h1]
  simp only [Result.andThen_ok]
  rw [run_eql_pointer_nil w t none hu]
  rfl
theorem Jr {k:IntKind} {p r:Int} (ho:o.op= .unOp .xor t x) (hx:ev F x=some (.int k p)) (hr:bits .xor k (if k.signed then -1 else k.max) p=r):Yd P n F o w (.int k r):=fun a hF=>by
  subst hr
  unfold execOp
  simp only [ho,hF.ev hx,Sem.run_bind,Op.unary,intBits_xor,Sem.run_pure,Result.andThen_ok]
theorem cu {vs:Array Value} {i:Nat} (ho:o.op= .extract x i) (hx:ev F x=some (.tuple vs)) (hv:vs[i]? = some v):Yd P n F o w v:=fun a hF=>by
  unfold execOp
  simp only [ho,hF.ev hx,Instr.extract,hv,Sem.run_bind,Sem.run_pure,Result.andThen_ok]
theorem RN {p:Prop} [Decidable p] (h:¬p):(!decide p)=true:=by simp [h]
theorem Me {p:Prop} [Decidable p] (h:p):(!decide p)=false:=by simp [h]
theorem iG {t':TypeId} {ad:Addr} (ho:o.op= .binOp .eql t x y t') (hu:P.underlying t=some (.pointer (P.pointee t))) (hx:ev F x=some (.pointer (some ad))) (hy:ev F y=some (.pointer none)):Yd P n F o w (.bool false):=fun a hF=>by
  unfold execOp
  simp only [ho,hF.ev hx,hF.ev hy,Sem.run_bind]
  have h1:(eqGuard .eql t x y (.pointer (some ad)) (.pointer none)).run P w= .ok () w:=rfl
  rw [h1]
  simp only [Result.andThen_ok]
  rw [run_eql_pointer_nil w t (some ad) hu]
  rfl
theorem FQ {tx ty e:TypeId} (hF:Fr n F a) (hd:o.dst=some d) (hlt:d<n) (ho:o.op= .call { callee:= .builtin .copy,args := #[x,y],argTypes := #[tx,ty] }) (hA:At w0 L w)
    (hu:P.underlying tx=some (.slice e)) (hs:(P.info? e).map (·.size)=some 1) {D A:Option Addr} {dLen dc' sLen sc:Nat} (hx:ev F x=some (.slice D dLen dc')) (hy:ev F y=some (.slice A sLen sc))
    (l:List UInt8) (hl:l.length=Nat.min sLen dLen) (hr:Bts w A l) {g:Nat} (off:Nat) (k:Nat) {te:TypeId} {cs:List Value} (hk:L[k]? = some (g,te,cs)) (hD:0<l.length→D=some ⟨g,off,none⟩) (hfit:off+l.length≤cs.length)
    (h:∀ w' a',Fr n ((d,.int .i64 (l.length:Nat))::F) a'→At w0 (L.set k (g,te,splice cs off (dc l))) w'→K a' w'):o.wp P a w K Q :=
  qZ ho hA hu hs (hF.ev hx) (hF.ev hy) hl hr k hk hD hfit (fun w' hw=>by rw [hd]; exact h w' _ (hF.put hlt) hw)
theorem N9 {e:TypeId} (hF:Fr n F a) (hd:o.dst=some d) (hlt:d<n) (ho:o.op= .makeSlice t x y) (hA:At w0 L w) (hu:P.underlying t=some (.slice e)) (hb:jV P e)
    {kl kc:IntKind} {p q:Int} (m:Nat) (hx:ev F x=some (.int kl p)) (hy:ev F y=some (.int kc q)) (hp:p=m) (hq:q=m) (hm:m≤140737488355328)
    (h:∀ g w' a',w.heap.size≤g→Fr n ((d,.slice (some ⟨g,0,none⟩) m m)::F) a'→At w0 ((g,e,dc (List.replicate m 0))::L) w'→K a' w'):o.wp P a w K Q:=by
  subst hp hq
  exact Ob ho hA hu hb m (hF.ev hx) (hF.ev hy) hm (fun g w' hg hw=>by rw [hd]; exact h g w' _ hg (hF.put hlt) hw)
theorem aZ {c:Operand} {x y:Code} {b:Bool} (hF:Fr n F a) (hc:ev F c=some (.bool b)) (hb:b=true) (h:x.wp P Q a w):(Code.cond c x y).wp P Q a w:=eP hF (by rw [hc,hb]) h
theorem aS {c:Operand} {x y:Code} {b:Bool} (hF:Fr n F a) (hc:ev F c=some (.bool b)) (hb:b=false) (h:y.wp P Q a w):(Code.cond c x y).wp P Q a w:=dL hF (by rw [hc,hb]) h
theorem vO {w:World} {L M:List Row} (h1:∀ r∈L,w.heap.size≤(r:Row).1) (h2:∀ r∈M,w.heap.size≤(r:Row).1):∀ r∈L++M,w.heap.size≤(r:Row).1:=fun r hr=>by
  rcases List.mem_append.1 hr with h | h
  · exact h1 r h
  · exact h2 r h
theorem eQ {w:World} {g:Nat} {t:TypeId} {cs:List Value} (h:w.heap.size≤g):∀ r∈[((g,t,cs):Row)],w.heap.size≤r.1:=by
  intro r hr; simp only [List.mem_cons,List.not_mem_nil,or_false] at hr; subst hr; exact h
theorem cZ {w:World} {g:Nat} {t:TypeId} {cs:List Value} {L:List Row} (h:w.heap.size≤g) (h2:∀ r∈L,w.heap.size≤(r:Row).1):∀ r∈(g,t,cs)::L,w.heap.size≤(r:Row).1:=by
  intro r hr
  rcases List.mem_cons.1 hr with e | hr
  · subst e; exact h
  · exact h2 r hr
theorem uf {e:TypeId} {X:List Row} {v:Value} {n:Nat} {l:List UInt8} (h:Own w0 e 1 X v n (dc l)):n=l.length∧∃ A c,v= .slice A l.length c∧l.length≤c∧∀ (R:List Row) (x:World),At w0 (R++X) x→Bts x A l:=by
  have hn:n=l.length:=by have:=h.1; rw [aj] at this; omega
  refine ⟨hn,?_⟩
  obtain ⟨A,c,h1,h2⟩:=h.slice
  refine ⟨A,c,by rw [h1,hn],ag,fun R x hx=>?_⟩
  obtain ⟨A2,c2,h3,_,_,h6,_⟩:=h.bts hx
  rw [h1] at h3
  cases h3
  exact h6
theorem O6 {e:TypeId} {X:List Row} {v:Value} {n s:Nat} {W:List Value} (h:Own w0 e s X v n W):v.oneCell'=true:=by
  obtain ⟨A,c,rfl,_⟩:=h.slice
  rfl
theorem qX {e:TypeId} (hF:Fr n F a) (hd:o.dst=some d) (hlt:d<n) (ho:o.op= .buildSlice t 1 #[(0,x)]) (hA:At w0 L w) (b:UInt8) (hx:ev F x=some (.int .u8 (b.toNat:Int)))
    (hr:∀ (d:Int) (w:World),(Instr.buildSlice t 1 #[(0,.int .u8 d)]).run P w= .ok (.slice (some ⟨w.heap.size,0,none⟩) 1 1) (w.alloc (.cells #[.int .u8 d] e)))
    (h:∀ g w' a',w.heap.size≤g→Fr n ((d,.slice (some ⟨g,0,none⟩) 1 1)::F) a'→At w0 ((g,e,dc [b])::L) w'→K a' w'):o.wp P a w K Q :=
  QR ho hA (hF.ev hx) (hr _ w) (fun g w' hg hw=>by rw [hd]; exact h g w' _ hg (hF.put hlt) hw)
end
end Go.Dk
namespace Go.Proofs.YtpomngkcfbnjoaaGreatDoor
open Go.RowKit Go.Dk
theorem SC:bV Tryz.prog 5 (.int .u8 0):=by unfold bV; kernel_rfl
def kept (m:Int):Nat:=(min (max m 1) 32).toNat
def gZ (D:List UInt8) (m:Int):List UInt8:=D.take (kept m)++List.replicate (32-kept m) 0
theorem rY (m:Int):kept m≤32:=by unfold kept; omega
theorem dJ (D:List UInt8) (m:Int) (h:D.length=32):(gZ D m).length=32:=by
  have:=rY m
  simp [gZ,h]; omega
theorem Jb (D:List UInt8) (h:D.length=32) (k:Nat) (hk:k≤32):splice (dc D) k (List.replicate (32-k) (.int .u8 0))=dc (D.take k++List.replicate (32-k) 0):=by
  have:(dc D).drop (k+(32-k))=[]:=by rw [show k+(32-k)=32 by omega]; simp [dc,h]
  unfold splice
  rw [List.length_replicate,this]
  simp [dc]
theorem BG (X Y:List Value) (h:X.length=Y.length):splice X 0 Y=Y:=by
  have:X.drop (0+Y.length)=[]:=by simp [← h]
  unfold splice
  rw [this]
  simp
theorem dc_take (D:List UInt8) (X:List Value) (h:X=dc D) (hD:D.length=32):((X.drop 0).take 32).toArray=(dc D).toArray:=by
  subst h
  rw [List.drop_zero,TJ (by simp [dc,hD])]
set_option maxRecDepth 100000 in
set_option maxHeartbeats 1000000 in
theorem GR (D:List UInt8) (m:Int) (w:World) (hD:D.length=32) :
    Calls Tryz.prog 69 #[.agg (dc D).toArray,.int .i64 m] w fun e w'=>e= .returned (.agg (dc (gZ D m)).toArray)∧At w [] w':=by
  have hA0:=At.refl w
  have HD:=Lib.hid hD
  have HL:=Lib.hid (dJ D m hD)
  have HC:=Lib.hid (Jb D hD (kept m) (rY m))
  have hkl:=rY m
  clear hD
  have Hk:Hid (kept m=(min (max m 1) 32).toNat):=rfl
  have cases3:m<1∨32<m∨(1≤m∧m≤32):=by omega
  rcases cases3 with hm | hm | ⟨hm,hm'⟩
  all_goals
    go_enter Tryz.func69,Tryz.ntmps69
    go_wp2_with (first
      | (with_reducible refine NS rfl ?_
         refine wpList_plain rfl (fun _ hK=>zI (v:= .agg (dc D).toArray) rfl hA0 O (fun n1 w1 hn1 hA1=>hK _ _ ?_)); clear hK
         replace hA1:At w [(n1,25,dc D)] w1:=hA1)
      | (with_reducible refine lh rfl ?_
         refine wpList_plain rfl (fun _ hK=>ji rfl hA1 IR (fun n2 w2 hn2 hA2=>hK _ _ ?_)); clear hK
         replace hA2:At w [(n2,25,dc (List.replicate 32 0)),(n1,25,dc D)] w2:=hA2)
      | (with_reducible refine lg rfl ?_
         refine wpList_plain rfl (fun _ hK=>mW (l:=kept m) (h:=32) rfl Tz nV rfl (jD _ _ _ _ (by have:=Hk.out; omega)) (dN 32) hkl (TG _) (hK _ _ ?_)); clear hK)
      | (with_reducible refine FK (b:= .clear) rfl ?_
         refine wpList_plain rfl (fun _ hK=>Jy (off:=kept m) rfl hA2 O (fun h=>by rw [sub_lt ag,Nat.zero_add]) TC SC rfl rfl 1 O (by rw [aj,HD.out]; omega) (fun w3 hA3=>hK _ _ ?_)); clear hK
         replace hA3:At w [(n2,25,dc (List.replicate 32 0)),(n1,25,dc (gZ D m))] w3:=by rw [show dc (gZ D m)=_ from HC.out.symm]; exact hA3)
      | (with_reducible refine iK rfl ?_
         refine wpList_plain rfl (fun _ hK=>nY (off:=0) rfl hA3 O 1 O CY (by rw [aj,HL.out]; omega) (hK _ _ ?_)); clear hK
         rw [dc_take (gZ D m) _ rfl HL.out])
      | (with_reducible refine iQ rfl ?_
         refine wpList_plain rfl (fun _ hK=>jy (off:=0) (new:=(dc (gZ D m)).toArray) rfl hA3 O O 0 O (by rw [List.size_toArray,aj,aj,HL.out]; decide) (fun v hv=>bz _ v (by simpa using hv)) (by rw [IU,List.size_toArray,aj,HL.out]) (fun w4 hA4=>hK _ _ ?_)); clear hK
         replace hA4:At w [(n2,25,dc (gZ D m)),(n1,25,dc (gZ D m))] w4:=by
           have e:splice (dc (List.replicate 32 0)) 0 (dc (gZ D m))=dc (gZ D m):=BG _ _ (by rw [aj,aj,HL.out]; rfl)
           have h4:At w [(n2,25,splice (dc (List.replicate 32 0)) 0 (dc (gZ D m))),(n1,25,dc (gZ D m))] w4:=hA4
           rw [e] at h4; exact h4))
    refine bodyPost_ret (jO (by exact Tryz.results69) hA4 O 0 O (by rw [aj,HL.out]; exact CY)) O ⟨rfl,hA4.clear ?_⟩
    have h1:=hA1.size
    intro r hr
    simp only [List.mem_cons,List.not_mem_nil,or_false] at hr
    rcases hr with rfl | rfl <;> simp only <;> omega
end Go.Proofs.YtpomngkcfbnjoaaGreatDoor
