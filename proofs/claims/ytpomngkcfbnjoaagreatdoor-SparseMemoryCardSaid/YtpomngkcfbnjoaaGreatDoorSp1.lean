/- Texts that belong together, one behind the other. -/
import Derived.Test.YtpomngkcfbnjoaaGreatDoorHs
import Derived.Laws.StructEq
import Derived.Stop.BytesEq
import Derived.Test.YtpomngkcfbnjoaaGreatDoorSpL
import Derived.Lib.Tables
import Derived.Lib.BitFns
namespace Go.Dk
open Go Go.RowKit
section
variable {P:Program} {w:World} {n:Nat} {F:List (Nat × Value)} {o:Oper} {t t' e ti:TypeId} {x y:Operand} {v:Value}
theorem Js {m:Nat} {kd:IntKind} {p:Int} {cs:List Value} (ho:o.op= .index t x y) (hu:P.underlying t=some (.array m e)) (he:P.underlying e=some (.int .u8)) (hs:(P.info? e).map (·.size)=some 1) (hx:ev F x=some (.agg cs.toArray)) (hy:ev F y=some (.int kd p)) (j:Nat) (hp:p=j) (hj:j<m) (hv:cs[j]? = some v):Yd P n F o w v:=fun a hF=>by
  subst hp
  have h1:(0:Int)≤(j:Int)∧(j:Int)<(m:Int):=by omega
  have hpart:(part e cs.toArray (j*1)).run P w= .ok v w:=by simp [part,isAgg,run_underlying he,hv]
  unfold execOp
  simp only [ho,hF.ev hx,hF.ev hy,Instr.index,asIntOf,Sem.run_bind,Sem.run_pure,Result.andThen_ok,run_underlying hu w,h1,and_self,if_true,run_sizeOf hs,Int.toNat_natCast,hpart]
theorem qf (X:List UInt8):(X.map Extern.Stop.cell).toArray=(dc X).toArray:=rfl
theorem yY {f1 f2:Field} {c c':Int} {X X':List UInt8} (hS:P.underlying t=some (.struct (P.fieldsOf t))) (hp:P.stoodInHeld t=false) (hf:(P.fieldsOf t).toList=[f1,f2]) (n1:f1.name ≠ "_") (n2:f2.name ≠ "_") (o1:f1.offset=0) (o2:f2.offset=1)
    (hi:P.underlying f1.type=some (.int .i64)) (hu:P.underlying f2.type=some (.array 32 e)) (he:P.underlying e=some (.int .u8)) (hs:(P.info? e).map (·.size)=some 1) (hs2:(P.info? f2.type).map (·.size)=some 32) (hX:X.length=32) (hX':X'.length=32) :
    (Op.equalIn 10000 t (.agg (.int .i64 c::dc X).toArray) (.agg (.int .i64 c'::dc X').toArray)).run P w= .ok (decide (c=c'∧X=X')) w:=by
  rw [show (10000:Nat)=9999+1 from rfl,run_equalIn_agg w 9999 t _ _ hS hp,hf]
  have p1:∀ (z:Int) (Y:List UInt8),(part f1.type (.int .i64 z::dc Y).toArray f1.offset).run P w= .ok (.int .i64 z) w:=fun z Y=>by
    rw [o1]; simp [part,isAgg,run_underlying hi]
  have p2:∀ (z:Int) (Y:List UInt8),Y.length=32→(part f2.type (.int .i64 z::dc Y).toArray f2.offset).run P w= .ok (.agg (dc Y).toArray) w:=fun z Y hY=>by
    have h1:((Value.int .i64 z::dc Y).toArray.extract 1 (1+32))=(dc Y).toArray:=by
      apply Array.ext'
      rw [Array.toList_extract]
      show ((Value.int .i64 z::dc Y).take (32+1)).drop 1=dc Y
      rw [List.take_succ_cons,List.drop_one,List.tail_cons,TJ (by rw [aj]; omega)]
    rw [o2]
    simp only [part,isAgg,Sem.run_bind,run_underlying hu w,Result.andThen_ok,Sem.run_pure,if_true,run_sizeOf hs2,h1]
  have e2:(Op.equalIn 9999 f2.type (.agg (dc X).toArray) (.agg (dc X').toArray)).run P w= .ok (X == X') w:=by
    have:=Go.run_equalIn_bytes (P:=P) w 9997 f2.type e 32 hu he (fun w=>run_sizeOf hs) X X' hX hX'
    rwa [qf,qf] at this
  have e1:(Op.equalIn 9999 f1.type (.int .i64 c) (.int .i64 c')).run P w= .ok (c == c') w:=run_equalIn_int w 9998 f1.type .i64 .i64 c c' hi
  have q1:=fun z=>p2 z X hX
  have q2:=fun z=>p2 z X' hX'
  by_cases h1:c=c'
  · subst h1
    by_cases h2:X=X'
    · subst h2; simp [Op.eqFields,n1,n2,p1,q1,e1,e2]
    · simp [Op.eqFields,n1,n2,p1,q1,q2,e1,e2,h2]
  · simp [Op.eqFields,n1,n2,p1,q1,q2,e1,e2,h1]
theorem uS {f1 f2:Field} {c c':Int} {X X':List UInt8} {b:Bool} (ho:o.op= .binOp .eql t x y t') (hm:P.eqGuardType P.depth t=false) (hS:P.underlying t=some (.struct (P.fieldsOf t))) (hp:P.stoodInHeld t=false) (hf:(P.fieldsOf t).toList=[f1,f2]) (n1:f1.name ≠ "_") (n2:f2.name ≠ "_") (o1:f1.offset=0) (o2:f2.offset=1)
    (hi:P.underlying f1.type=some (.int .i64)) (hu:P.underlying f2.type=some (.array 32 e)) (he:P.underlying e=some (.int .u8)) (hs:(P.info? e).map (·.size)=some 1) (hs2:(P.info? f2.type).map (·.size)=some 32) (hX:X.length=32) (hX':X'.length=32)
    (hx:ev F x=some (.agg (.int .i64 c::dc X).toArray)) (hy:ev F y=some (.agg (.int .i64 c'::dc X').toArray)) (hb:decide (c=c'∧X=X')=b):Yd P n F o w (.bool b):=fun a hF=>by
  subst hb
  unfold execOp
  simp only [ho,hF.ev hx,hF.ev hy,Sem.run_bind,run_eqGuard_agg w .eql t x y _ _ hm,Result.andThen_ok]
  rw [run_eql_struct,yY hS hp hf n1 n2 o1 o2 hi hu he hs hs2 hX hX']
  rfl
theorem FO {f1 f2:Field} {c c':Int} {X X':List UInt8} {b:Bool} (ho:o.op= .binOp .neq t x y t') (hm:P.eqGuardType P.depth t=false) (hS:P.underlying t=some (.struct (P.fieldsOf t))) (hp:P.stoodInHeld t=false) (hf:(P.fieldsOf t).toList=[f1,f2]) (n1:f1.name ≠ "_") (n2:f2.name ≠ "_") (o1:f1.offset=0) (o2:f2.offset=1)
    (hi:P.underlying f1.type=some (.int .i64)) (hu:P.underlying f2.type=some (.array 32 e)) (he:P.underlying e=some (.int .u8)) (hs:(P.info? e).map (·.size)=some 1) (hs2:(P.info? f2.type).map (·.size)=some 32) (hX:X.length=32) (hX':X'.length=32)
    (hx:ev F x=some (.agg (.int .i64 c::dc X).toArray)) (hy:ev F y=some (.agg (.int .i64 c'::dc X').toArray)) (hb:(!decide (c=c'∧X=X'))=b):Yd P n F o w (.bool b):=fun a hF=>by
  subst hb
  unfold execOp
  simp only [ho,hF.ev hx,hF.ev hy,Sem.run_bind,run_eqGuard_agg w .neq t x y _ _ hm,Result.andThen_ok]
  rw [run_neq_struct,yY hS hp hf n1 n2 o1 o2 hi hu he hs hs2 hX hX']
  rfl
end
section
variable {e:TypeId} {X:Seg} {v:Value} {A:Option Addr} {z m n i c k:Nat} {W B Z V:List Value}
theorem Buf.cut (h:Buf e z X (.slice A m c) m W) (hn:n≤m):Buf e z X (.slice A n c) n (W.take (n*z)):=by
  have hW:=h.1
  obtain ⟨d,rfl⟩:∃ d,m=n+d:=⟨m-n,ag⟩
  rw [Nat.add_mul] at hW
  refine ⟨by rw [List.length_take,hW]; omega,?_⟩
  rcases h.2 with ⟨h1,h2,h3⟩ | ⟨g,c',B,Z,h1,h2,h3,h4⟩
  · injection h1 with e1 e2 e3
    subst e1 e3
    exact .inl ⟨by rw [show n=0 by omega],ag,h3⟩
  · injection h1 with e1 e2 e3
    subst e1 e3
    obtain ⟨f,rfl⟩:∃ f,c=n+d+f:=⟨c-(n+d),ag⟩
    refine .inr ⟨g,_,B,W.drop (n*z)++Z,rfl,ag,?_,?_⟩
    · rw [show n+d+f-(n+d)=f by omega] at h3
      rw [List.length_append,List.length_drop,hW,h3,show n+d+f-n=d+f by omega,Nat.add_mul]
      omega
    · rw [h4]
      simp only [List.append_assoc,List.append_cancel_left_eq,List.cons.injEq,and_true]
      congr 2
      rw [← List.append_assoc (W.take _),List.take_append_drop]
theorem Ht (h:k+V.length≤W.length):splice (B++W++Z) (B.length+k) V=B++splice W k V++Z:=by
  unfold splice
  have e1:B.take (B.length+k)=B:=TJ ag
  rw [List.append_assoc B W Z,List.take_append,e1,Nat.add_sub_cancel_left,List.take_append_of_le_length ag,Nat.add_assoc,← List.drop_drop,List.drop_left,List.drop_append_of_le_length h]
  simp [List.append_assoc]
theorem Buf.setRow (h:Buf e z X v m W) (hi:i<m) (hV:V.length=z):∃ g B Z c,v= .slice (some ⟨g,B.length,none⟩) m c∧X=[row g e (B++W++Z)]∧W.length=m*z∧i*z+z≤m*z∧Buf e z [row g e (splice (B++W++Z) (B.length+i*z) V)] v m (splice W (i*z) V):=by
  have hW:=h.1
  have hle:i*z+z≤m*z:=by have:=Nat.mul_le_mul_right z (show i+1≤m by omega); rwa [Nat.add_mul,Nat.one_mul] at this
  rcases h.2 with ⟨_,h2,_⟩ | ⟨g,c,B,Z,h1,h2,h3,h4⟩
  · omega
  · refine ⟨g,B,Z,c,h1,h4,hW,hle,?_,.inr ⟨g,c,B,Z,h1,h2,h3,?_⟩⟩
    · unfold splice
      rw [List.length_append,List.length_append,List.length_take,List.length_drop,hV]
      omega
    · rw [Ht (by rw [hV,hW]; exact hle)]
end
section
variable {P:Program} {w w0:World} {n:Nat} {F:List (Nat × Value)} {a:Act} {L:List Row} {R:List Seg}
theorem EM {fn:Func} {t u:Tmp} {ty:TypeId} (h:fn.results = #[.tmp t,.cell u ty]) {tmps:Array Value} (hA:At w0 L w) {g:Nat} (hx:tmps.getD u undef= .pointer (some ⟨g,0,none⟩))
    (k:Nat) {te:TypeId} {cs:List Value} (hk:L[k]? = some (g,te,cs)) (hr:isRow P ty cs.length=true):(results fn tmps).run P w= .ok (.tuple #[tmps.getD t undef,.agg cs.toArray]) w:=by
  obtain ⟨d,hu,hd,hi⟩:=jw hr
  have h1:=run_loadVar_mid (P:=P) w g 0 ty cs d (by simpa using hA.range hk 0 cs.length) hu hd hi
  have hx':tmps[u]?.getD undef= .pointer (some ⟨g,0,none⟩):=by simpa using hx
  simp [results,h,hx',h1,asAddr]
theorem Cj {fn:Func} {t u s:Tmp} {ty:TypeId} (h:fn.results = #[.tmp t,.cell u ty,.tmp s]) {tmps:Array Value} (hA:At w0 L w) {g:Nat} (hx:tmps.getD u undef= .pointer (some ⟨g,0,none⟩))
    (k:Nat) {te:TypeId} {cs:List Value} (hk:L[k]? = some (g,te,cs)) (hr:isRow P ty cs.length=true):(results fn tmps).run P w= .ok (.tuple #[tmps.getD t undef,.agg cs.toArray,tmps.getD s undef]) w:=by
  obtain ⟨d,hu,hd,hi⟩:=jw hr
  have h1:=run_loadVar_mid (P:=P) w g 0 ty cs d (by simpa using hA.range hk 0 cs.length) hu hd hi
  have hx':tmps[u]?.getD undef= .pointer (some ⟨g,0,none⟩):=by simpa using hx
  simp [results,h,hx',h1,asAddr]
theorem JI {fn:Func} {RR:Ending→World→Prop} {t u:Tmp} {ty te:TypeId} {g:Nat} {cs:List Value} {T:Seg} {v:Value} (hF:Fr n F a) (hr:fn.results = #[.tmp t,.cell u ty]) (hA:Hq w0 R w) (hl:look F t=some v) (hl2:look F u=some (.pointer (some ⟨g,0,none⟩)))
    (k:Nat) (hk:nth R k=some (row g te cs::T)) (hrow:isRow P ty cs.length=true) (h:RR (.returned (.tuple #[v,.agg cs.toArray])) w):bodyPost P fn RR .ret a w :=
  bodyPost_ret (EM hr (At.start1 (hA.rowAt hk)) (hF.at hl2) 0 rfl hrow) hF.defers (by rw [hF.at hl]; exact h)
theorem pq {fn:Func} {RR:Ending→World→Prop} {t u s:Tmp} {ty te:TypeId} {g:Nat} {cs:List Value} {T:Seg} {v x:Value} (hF:Fr n F a) (hr:fn.results = #[.tmp t,.cell u ty,.tmp s]) (hA:Hq w0 R w) (hl:look F t=some v) (hl2:look F u=some (.pointer (some ⟨g,0,none⟩))) (hl3:look F s=some x)
    (k:Nat) (hk:nth R k=some (row g te cs::T)) (hrow:isRow P ty cs.length=true) (h:RR (.returned (.tuple #[v,.agg cs.toArray,x])) w):bodyPost P fn RR .ret a w :=
  bodyPost_ret (Cj hr (At.start1 (hA.rowAt hk)) (hF.at hl2) 0 rfl hrow) hF.defers (by rw [hF.at hl,hF.at hl3]; exact h)
end
structure TxX where
  v:Value
  l:List UInt8
  X:Seg
def TxX.Ok (w0:World) (t:TxX):Prop:=∃ A c,t.v= .slice A t.l.length c∧Rd w0 [t.X] A t.l
abbrev txS (ts:List TxX):Seg:=(ts.map (·.X)).flatten
end Go.Dk
section
set_option maxRecDepth 100000
set_option maxHeartbeats 2000000
namespace Go.Proofs.YtpomngkcfbnjoaaGreatDoor
open Go.RowKit Go.Dk
theorem Ph:bW Tryz.prog 4=true:=af
theorem Ap:bW Tryz.prog 5=true:=af
theorem rQ:bW Tryz.prog 28=true:=af
theorem KN:isRow Tryz.prog 24 32=true:=af
theorem BN:isRow Tryz.prog 27 33=true:=af
theorem Om:(Tryz.prog.info? 4).map (·.size)=some 1:=af
theorem BA:(Tryz.prog.info? 24).map (·.size)=some 32:=af
theorem Bz:(Tryz.prog.info? 27).map (·.size)=some 33:=af
theorem rC:(Tryz.prog.info? 28).map (·.size)=some 1:=af
theorem Nj:aG Tryz.prog 52:=⟨_,Tryz.func52,af,af⟩
theorem MV:aG Tryz.prog 89:=⟨_,Tryz.func89,af,af⟩
theorem wI (w0 w:World) (R:List Seg) (k:List UInt8) (i:Nat) (hk:k.length=32) (hi:i<256) (hA:Hp w0 R w):Calls Tryz.prog 63 #[.agg (dc k).toArray,.int .i64 (i:Int)] w fun e w'=>e= .returned (.int .i64 (bK k i:Int))∧Hp w0 R w':=by
 refine aJ Tryz.func63 O Tryz.ntmps63 ai (fun a hF=>?_)
 refine wp_seq_k fun K1 hK1=>wp_region_lit ?_
 refine au O (fun K hK=>bC (cs:=dc k) hF O ae rfl hA O (fun b1 w2 a hb1 hF hA3=>hK _ _ ?_))
 refine vR hF<|vX O<|vE hK1<|wT fun K2 hK2=>vX O<|vV O (mQ O O O ae (CB i hi))<|vV O (aP O Tz nV rfl rfl (i/8) rfl ag (ad1 _ _) (rfl:(none:Option Nat)=none))<|vV O (aX O hA3.q O 0 O (iP (by rw [hk]; omega)) Ap) fun a hF=>?_
 refine vR hF<|vX O<|vV O (fO O O O ae (EP i))<|vV O (dm O O O (TB _ ag))<|vV O (mP O O O ag (OD _ i))<|vV O (fP O TA TP O (uT (nI _ _)))<|vV O (uy O O O (Pn k i))<|vX O<|vE hK2 fun a hF=>?_
 apply wp_ret
 refine aO hF Tryz.results63 O ?_
 have hA4:Hp w0 (R) w2:=hpS 1 [] [0] hA3 rfl
 exact ⟨rfl,hA4⟩
theorem ng (w0 w:World) (R:List Seg) (k:List UInt8) (i:Nat) (hk:k.length=32) (hi:i<256) (hA:Hp w0 R w):Calls Tryz.prog 51 #[.agg (dc k).toArray,.int .i64 (i:Int)] w fun e w'=>e= .returned (.int .i64 (bK k i:Int))∧Hp w0 R w':=by
 refine aJ Tryz.func51 O Tryz.ntmps51 ai (fun a hF=>?_)
 refine wp_seq_k fun K1 hK1=>wp_region_lit ?_
 refine au O (fun K hK=>bC (cs:=dc k) hF O ae rfl hA O (fun b1 w2 a hb1 hF hA3=>hK _ _ ?_))
 refine vR hF<|vX O<|vE hK1<|wQ fun K2 hK2 a hF=>?_
 refine ak 11 [11] [0,1,2,3,4,5,6,7,8,9,10,11] _ af af (Hq.drew hA3.q) ?_
 have hA4:=Hl.drew hA3
 refine pR hF<|pX O O<|pW O O (fun _=>mQ O O O ae (CB i hi))<|pW O O (fun _=>aP O Tz nV rfl rfl (i/8) rfl ag (ad1 _ _) (rfl:(none:Option Nat)=none))<|pV O O (fun x hx=>aX O hx O 0 O (iP (by rw [hk]; omega)) Ap) fun a hF=>?_
 refine pR hF<|pW O O (fun _=>fP O TA TP O (uT (bAt k (i/8)).toNat_lt))<|pX O O<|pW O O (fun _=>fO O O O ae (EP i))<|pW O O (fun _=>dm O O O (TB _ ag))<|pW O O (fun _=>yJ O O O ag (OE i))<|pW O O (fun _=>mQ O O O (Lt _) (Gp _ _))<|pW O O (fun _=>fO O O O ae (QC _)) fun a hF=>?_
 refine bY hF O O O O ae _ (bJ O O) (fun h=>absurd h ae) (fun a hF=>?_)
 refine aB ?_
 refine hK2 _ _ ?_
 apply wp_ret
 refine aO hF Tryz.results51 O ?_
 have hA5:Hp w0 (R) w2.drew:=hpS 1 [] [0] hA4 rfl
 exact ⟨rfl,hA5⟩
theorem Ep (w0 w:World) (R:List Seg) (p:Prf) (sv:Value) (hp:p.OK) (h:Nat) (hh:h<256) (hA:Hp w0 R w):Calls Tryz.prog 45 #[.agg (p.cells sv).toArray,.int .i64 (h:Int)] w fun e w'=>e= .returned (.bool (iF p.bs h))∧Hp w0 R w':=by
 refine aJ Tryz.func45 O Tryz.ntmps45 ai (fun a hF=>?_)
 refine wp_seq_k fun K1 hK1=>wp_region_lit ?_
 refine au O (fun K hK=>bC (cs:=p.cells sv) hF O ae rfl hA O (fun b1 w2 a hb1 hF hA3=>hK _ _ ?_))
 refine vR hF<|vX O<|vE hK1<|wQ fun K2 hK2 a hF=>?_
 refine ak 12 [12] [0,1,2,3,4,5,6,7,8,9,10,11,12] _ af af (Hq.drew hA3.q) ?_
 have hA4:=Hl.drew hA3
 refine pR hF<|pX O O<|pW O O (fun _=>mQ O O O ae (CB h hh))<|pW O O (fun _=>yf 34 rfl TW O BA O)<|pW O O (fun _=>aP O Ub nV rfl rfl (h/8) rfl ag (ad2 _ _ _) (rfl:(none:Option Nat)=none))<|pV O O (fun x hx=>aX O hx O 0 O (Prf.c_bit hp ag) Ap)<|pW O O (fun _=>fP O TA TP O (uT (bAt p.bs (h/8)).toNat_lt))<|pX O O<|pW O O (fun _=>fO O O O ae (EP h))<|pW O O (fun _=>yJ O O O ag (OG h))<|pW O O (fun _=>mQ O O O (Lt _) (Gp _ _))<|pW O O (fun _=>fO O O O ae (QC _))<|pW O O (fun _=>aH O O O O (Pq p.bs h)) fun a hF=>?_
 refine bY hF O O O O ae _ (bJ O O) (fun h=>absurd h ae) (fun a hF=>?_)
 refine aB ?_
 refine hK2 _ _ ?_
 apply wp_ret
 refine aO hF Tryz.results45 O ?_
 have hA5:Hp w0 (R) w2.drew:=hpS 1 [] [0] hA4 rfl
 exact ⟨rfl,hA5⟩
theorem kE (w0 w:World) (R:List Seg) (ct:Int) (ch:List UInt8) (hA:Hp w0 R w):Calls Tryz.prog 52 #[.agg (.int .i64 ct::dc ch).toArray] w fun e w'=>e= .returned (.bool (decide (1≤ct∧ct≤1099511627776)))∧Hp w0 R w':=by
 refine aJ Tryz.func52 O Tryz.ntmps52 ai (fun a hF=>?_)
 refine wp_seq_k fun K1 hK1=>wp_region_lit ?_
 refine au O (fun K hK=>bC (cs:= .int .i64 ct::dc ch) hF O ae rfl hA O (fun b1 w2 a hb1 hF hA3=>hK _ _ ?_))
 refine vR hF<|vX O<|vE hK1<|wQ fun K2 hK2 a hF=>?_
 by_cases h1:1≤ct
 ·by_cases h2:ct≤1099511627776
  ·refine wp_region_lit ?_
   refine vR hF<|vV O (yf 0 O Uf O QY O)<|vV O (aX O hA3.q O 0 O O Bq)<|vV O (aH O O O O (xN ag))<|vX O<|vG O (yf 0 O Uf O QY O)<|vG O (aX O hA3.q O 0 O O Bq)<|vG O (aH O O O O (Gy ag))<|vV O (bg O O O)<|vX O<|vE hK2 fun a hF=>?_
   apply wp_ret
   refine aO hF Tryz.results52 O ?_
   have hA4:Hp w0 (R) w2:=hpS 1 [] [0] hA3 rfl
   exact ⟨by rw [decide_eq_true ag],hA4⟩
  ·refine wp_region_lit ?_
   refine vR hF<|vV O (yf 0 O Uf O QY O)<|vV O (aX O hA3.q O 0 O O Bq)<|vV O (aH O O O O (xN ag))<|vX O<|vG O (yf 0 O Uf O QY O)<|vG O (aX O hA3.q O 0 O O Bq)<|vG O (aH O O O O (Gz ag))<|vV O (bg O O O)<|vX O<|vE hK2 fun a hF=>?_
   apply wp_ret
   refine aO hF Tryz.results52 O ?_
   have hA5:Hp w0 (R) w2:=hpS 1 [] [0] hA3 rfl
   exact ⟨by rw [decide_eq_false ag],hA5⟩
 ·refine wp_region_lit ?_
  refine vR hF<|vV O (yf 0 O Uf O QY O)<|vV O (aX O hA3.q O 0 O O Bq)<|vV O (aH O O O O (zx ag))<|vX O<|vS O<|vS O<|vS O<|vV O (bg O O O)<|vX O<|vE hK2 fun a hF=>?_
  apply wp_ret
  refine aO hF Tryz.results52 O ?_
  have hA6:Hp w0 (R) w2:=hpS 1 [] [0] hA3 rfl
  exact ⟨by rw [decide_eq_false ag],hA6⟩
theorem nN (w0 w:World) (R:List Seg) (ct:Int) (ch:List UInt8) (hA:Hp w0 R w):Calls Tryz.prog 46 #[.agg (.int .i64 ct::dc ch).toArray] w fun e w'=>e= .returned (.bool (decide (1≤ct∧ct≤1099511627776)))∧Hp w0 R w':=by
 refine aJ Tryz.func46 O Tryz.ntmps46 ai (fun a hF=>?_)
 refine wp_seq_k fun K1 hK1=>wp_region_lit ?_
 refine au O (fun K hK=>bC (cs:= .int .i64 ct::dc ch) hF O ae rfl hA O (fun b1 w2 a hb1 hF hA3=>hK _ _ ?_))
 refine vR hF<|vX O<|vE hK1<|wQ fun K2 hK2 a hF=>?_
 by_cases h1:1≤ct
 ·by_cases h2:ct≤1099511627776
  ·refine wp_region_lit ?_
   refine vR hF<|vV O (yf 0 O Uf O QY O)<|vV O (aX O hA3.q O 0 O O Bq)<|vV O (aH O O O O (xN ag))<|vX O<|vG O (yf 0 O Uf O QY O)<|vG O (aX O hA3.q O 0 O O Bq)<|vG O (aH O O O O (Gy ag))<|vV O (bg O O O)<|vX O<|vE hK2 fun a hF=>?_
   apply wp_ret
   refine aO hF Tryz.results46 O ?_
   have hA4:Hp w0 (R) w2:=hpS 1 [] [0] hA3 rfl
   exact ⟨by rw [decide_eq_true ag],hA4⟩
  ·refine wp_region_lit ?_
   refine vR hF<|vV O (yf 0 O Uf O QY O)<|vV O (aX O hA3.q O 0 O O Bq)<|vV O (aH O O O O (xN ag))<|vX O<|vG O (yf 0 O Uf O QY O)<|vG O (aX O hA3.q O 0 O O Bq)<|vG O (aH O O O O (Gz ag))<|vV O (bg O O O)<|vX O<|vE hK2 fun a hF=>?_
   apply wp_ret
   refine aO hF Tryz.results46 O ?_
   have hA5:Hp w0 (R) w2:=hpS 1 [] [0] hA3 rfl
   exact ⟨by rw [decide_eq_false ag],hA5⟩
 ·refine wp_region_lit ?_
  refine vR hF<|vV O (yf 0 O Uf O QY O)<|vV O (aX O hA3.q O 0 O O Bq)<|vV O (aH O O O O (zx ag))<|vX O<|vS O<|vS O<|vS O<|vV O (bg O O O)<|vX O<|vE hK2 fun a hF=>?_
  apply wp_ret
  refine aO hF Tryz.results46 O ?_
  have hA6:Hp w0 (R) w2:=hpS 1 [] [0] hA3 rfl
  exact ⟨by rw [decide_eq_false ag],hA6⟩
theorem J5 (w0 w:World) (R:List Seg) (b:UInt8) (hA:Hp w0 R w):Calls Tryz.prog 89 #[.int .u8 (b.toNat:Int)] w fun e w'=>e= .returned (.int .i64 ((y9 b:Nat):Int))∧Hp w0 R w':=by
 have h0:(0:Int)≤(b.toNat:Int):=by omega
 have h1:(b.toNat:Int)≤255:=by have:=b.toNat_lt; omega
 have h2:Calls Tryz.prog 89 #[.int .u8 (b.toNat:Int)] w fun e w'=>e= .returned (.int .i64 (Lib.onesCount (b.toNat:Int).toNat))∧w'=w:=by
  rw [← Lib.pop8_int _ h0 h1]
  go_enter Tryz.func89,Tryz.ntmps89
  go_wp2
  go_ret
  exact ⟨by simp [wrap64],rfl⟩
 refine h2.mono ?_
 rintro e w' ⟨rfl,rfl⟩
 exact ⟨rfl,hA⟩
theorem zS (w:World):(Instr.build 27 #[]).run Tryz.prog w= .ok (.agg (.int .i64 0::dc (List.replicate 32 0)).toArray) w:=af
noncomputable def QJ:Field:=(Tryz.prog.fieldsOf 27)[0]?.getD default
noncomputable def QI:Field:=(Tryz.prog.fieldsOf 27)[1]?.getD default
theorem pI:(Tryz.prog.fieldsOf 27).toList=[QJ,QI]:=af
theorem HY (w0 w:World) (R:List Seg) (p:Prf) (sA:Option Addr) (sC:Nat) (hp:p.OK) (hA:Hp w0 R w):Calls Tryz.prog 68 #[.agg (p.cells (.slice sA p.ss.length sC)).toArray] w fun e w'=>e= .returned (.bool p.formed)∧Hp w0 R w':=by
 refine aJ Tryz.func68 O Tryz.ntmps68 ai (fun a hF=>?_)
 refine wp_seq_k fun K1 hK1=>wp_region_lit ?_
 refine au O (fun K hK=>bC (cs:=p.cells (.slice sA p.ss.length sC)) hF O ae rfl hA O (fun b1 w2 a hb1 hF hA3=>hK _ _ ?_))
 refine vR hF<|vX O<|vE hK1<|wT fun K2 hK2=>vX O<|vE hK2<|wQ fun K3 hK3=>wT fun K4 hK4=>vV O (yf 34 rfl TW O BA O)<|vV O (aT O hA3.q O 0 O KN (by rw [Prf.c_len hp]; decide) (Prf.c_bits hp)) fun a hF=>?_
 refine vR hF<|vX O<|vE hK4<|wBk fun a hF=>?_
 refine bQ (G:=Nat) (fun i a x=>i≤32∧Fr 39 [(8,.int .i64 (i:Int)),(3,.int .i64 ((dh p.bs (8*i):Nat):Int)),(1,.pointer (some ⟨b1,0,none⟩)),(7,.agg (dc p.bs).toArray)] a∧Hp w0 ([row b1 30 (p.cells (.slice sA p.ss.length sC))]::R) x) (fun i=>32-i) 0 (⟨Tv _,hF.keep [8,3,1,7] rfl,hA3⟩) ?_
 clear hF
 rintro i a w5 ⟨hi,hF,hA4⟩
 refine wS hF fun K5 hK5=>vV O (aH O O O O O)<|vE hK5<|wQ fun K6 hK6 a hF=>?_
 by_cases hlt:i<32
 ·refine aZ hF O (dB ag) ?_
  have hb1:=mG p.bs (8*i)
  have hb2:=LC (bAt p.bs i)
  have hb3:dh p.bs (8*(i+1))=dh p.bs (8*i)+y9 (bAt p.bs i):=EZ p.bs i
  apply wp_skip
  refine hK6 _ _ ?_
  apply wp_seq_k; intro K7 hK7
  apply wp_block
  refine wS hF fun K8 hK8=>vV O (Js O Ub TA nV rfl rfl i rfl hlt (iP (by rw [hp.bs]; exact hlt))) fun a hF=>?_
  refine vR hF<|vX O<|vE hK8 fun a hF=>?_
  refine wp_region_lit ?_
  refine vR hF<|vX O<|vX O fun a hF=>?_
  refine au O (fun K hK=>ax hF O ae MV rfl rfl ?_)
  with_reducible refine (J5 w0 _ ([row b1 30 (p.cells (.slice sA p.ss.length sC))]::R) (bAt p.bs i) hA4).mono ?_
  rintro e' w6 ⟨rfl,hA7⟩
  refine ⟨_,rfl,fun a hF=>hK _ _ ?_⟩
  replace hA7:Hp w0 ([row b1 30 (p.cells (.slice sA p.ss.length sC))]::R) w6:=hA7
  refine vR hF<|vV O (bH O O O (show IntKind.i64.wrap (((dh p.bs (8*i):Nat):Int)+((y9 (bAt p.bs i):Nat):Int))=((dh p.bs (8*(i+1)):Nat):Int) by rw [TB _ ag]; omega)) fun a hF=>?_
  refine vR hF<|vX O fun a hF=>az<|hK7 _ _ ?_
  refine wp_region_lit ?_
  refine vR hF<|vV O (bH O O O (TB _ ag))<|vX O fun a hF=>?_
  refine az ?_
  exact ⟨i+1,ag,ag,hF.keep [8,3,1,7] rfl,hA7⟩
 ·refine aS hF O (dD ag) ?_
  obtain rfl:i=32:=by omega
  have hb1:=mG p.bs 256
  replace hF:=hF.keep [3,1] (F':=[(3,.int .i64 ((dh p.bs 256:Nat):Int)),(1,.pointer (some ⟨b1,0,none⟩))]) rfl
  apply wp_exit
  refine hK3 _ _ ?_
  apply wp_seq_k; intro K9 hK9
  refine wS hF fun K10 hK10=>vV O (yf 0 O TW O Om O)<|vV O (aX O hA4.q O 0 O O Ph)<|vE hK10 fun a hF=>?_
  by_cases hpr:p.pr=true
  ·refine aZ hF O hpr ?_
   by_cases heq:dh p.bs 256=p.ss.length
   ·refine wS hF fun K11 hK11=>vX O<|vV O (yf 66 rfl TW O rC O)<|vV O (aX O hA4.q O 0 O (Prf.c_sums hp) rQ)<|vV O (aY O Tu O O)<|vV O (aH O O O O (gJ ag))<|vX O<|vG O (yf 1 O TW O Bz O)<|vG O (aT O hA4.q O 0 O BN (by rw [Prf.c_len hp]; decide) (Prf.c_ent hp)) fun a hF=>?_
    refine lm hF O O O O (fun K hK=>ax hF O ae Nj rfl rfl ?_)
    with_reducible refine (kE w0 _ ([row b1 30 (p.cells (.slice sA p.ss.length sC))]::R) p.ct p.ch hA4).mono ?_
    rintro e' w8 ⟨rfl,hA9⟩
    refine ⟨_,rfl,fun a hF=>hK _ _ ?_⟩
    replace hA9:Hp w0 ([row b1 30 (p.cells (.slice sA p.ss.length sC))]::R) w8:=hA9
    refine vR hF<|vV O (bg O O O)<|vX O<|vE hK11 fun a hF=>?_
    apply wp_ret
    simp only [Exit.then]
    refine aO hF Tryz.results68 O ?_
    have hA10:Hp w0 (R) w8:=hpS 1 [] [0] hA9 rfl
    exact ⟨by rw [show p.formed=decide (1≤p.ct∧p.ct≤1099511627776) by simp [Prf.formed,hpr,heq,Prf.counted,Prf.blank]],hA10⟩
   ·refine wS hF fun K12 hK12=>vX O<|vV O (yf 66 rfl TW O rC O)<|vV O (aX O hA4.q O 0 O (Prf.c_sums hp) rQ)<|vV O (aY O Tu O O)<|vV O (aH O O O O (fJ ag))<|vX O<|vS O<|vS O<|vS O<|vV O (bg O O O)<|vX O<|vE hK12 fun a hF=>?_
    apply wp_ret
    simp only [Exit.then]
    refine aO hF Tryz.results68 O ?_
    have hA11:Hp w0 (R) w5:=hpS 1 [] [0] hA4 rfl
    exact ⟨by rw [show p.formed=false by simp [Prf.formed,hpr,heq,Prf.counted,Prf.blank]],hA11⟩
  ·have hpr2:p.pr=false:=by simpa using hpr
   refine aS hF O hpr2 ?_
   by_cases heq:dh p.bs 256=p.ss.length
   ·apply wp_skip
    refine hK9 _ _ ?_
    refine wS hF fun K13 hK13=>vX O<|vV O (yf 66 rfl TW O rC O)<|vV O (aX O hA4.q O 0 O (Prf.c_sums hp) rQ)<|vV O (aY O Tu O O)<|vV O (aH O O O O (gJ ag))<|vX O<|vG O (yf 1 O TW O Bz O)<|vG O (aT O hA4.q O 0 O BN (by rw [Prf.c_len hp]; decide) (Prf.c_ent hp)) fun a hF=>?_
    refine vR hF<|vG O (nM O zS)<|vG O (uS O af af af pI ae ae rfl rfl TP Tz TA nV oV hp.ch rfl rfl rfl rfl)<|vV O (bg O O O)<|vX O<|vE hK13 fun a hF=>?_
    apply wp_ret
    refine aO hF Tryz.results68 O ?_
    have hA12:Hp w0 (R) w5:=hpS 1 [] [0] hA4 rfl
    exact ⟨by rw [show p.formed=decide (p.ct=0∧p.ch=List.replicate 32 0) by simp [Prf.formed,hpr,heq,Prf.counted,Prf.blank]],hA12⟩
   ·apply wp_skip
    refine hK9 _ _ ?_
    refine wS hF fun K14 hK14=>vX O<|vV O (yf 66 rfl TW O rC O)<|vV O (aX O hA4.q O 0 O (Prf.c_sums hp) rQ)<|vV O (aY O Tu O O)<|vV O (aH O O O O (fJ ag))<|vX O<|vS O<|vS O<|vS O<|vS O<|vV O (bg O O O)<|vX O<|vE hK14 fun a hF=>?_
    apply wp_ret
    refine aO hF Tryz.results68 O ?_
    have hA13:Hp w0 (R) w5:=hpS 1 [] [0] hA4 rfl
    exact ⟨by rw [show p.formed=false by simp [Prf.formed,hpr,heq,Prf.counted,Prf.blank]],hA13⟩
end Go.Proofs.YtpomngkcfbnjoaaGreatDoor
end
