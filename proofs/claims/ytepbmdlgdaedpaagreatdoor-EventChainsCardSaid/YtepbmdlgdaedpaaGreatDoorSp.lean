/- Texts that belong together, one behind the other. -/
import Derived.Test.YtepbmdlgdaedpaaGreatDoorEv8
import Derived.Test.YtepbmdlgdaedpaaGreatDoorEv
import Derived.Test.YtepbmdlgdaedpaaGreatDoorHs
import Derived.Laws.StructEq
import Derived.Stop.BytesEq
namespace Go.Proofs.YtepbmdlgdaedpaaGreatDoor
open Go.RowKit Go.Dk
theorem Jo:aQ Tryz.prog 86:=⟨_,Tryz.func86,af,af⟩
theorem vT (w0 w:World) (R:List Seg) (pa pb:Option Addr) (xs ys:List (UInt8)) (ca cb:Nat) (hX:Rc w0 R pa (cel cB xs)) (hY:Rc w0 R pb (cel cB ys)) (hx:∀ x∈xs,(cB x).length=1) (hy:∀ x∈ys,(cB x).length=1) (hA:Hp w0 R w) (hn:xs.length≤9223372036854775807):Calls Tryz.prog 86 #[.slice pa xs.length ca,.slice pb ys.length cb] w fun e w'=>e= .returned (.bool (decide (xs=ys)))∧Hp w0 R w' :=
 ug w0 w R pa pb xs ys ca cb (by rw [pM]; exact hX) (by rw [pM]; exact hY) hA hn
theorem Af:(Tryz.prog.info? 5).map (fun i=>(i.zero.map (fun z=>z.cells.toList),i.size,i.bytes))=some (some (List.replicate 1 (.int .u8 0)),1,1):=af
theorem wH {l:List (UInt8)} (_:∀ x∈l,(cB x).length=1):∀ v∈cel cB l,v.oneCell'=true:=fun v hv=>by
 obtain ⟨W,hW,hv⟩:=List.mem_flatten.1 hv
 obtain ⟨x,_,rfl⟩:=List.mem_map.1 hW
 rw [List.mem_singleton.1 hv]; rfl
set_option maxRecDepth 100000 in
set_option maxHeartbeats 4000000 in
theorem tu (w0 w:World) (R:List Seg) (B:Option Addr) (l:List (UInt8)) (c:Nat) (y:UInt8) (hB:Rc w0 R B (cel cB l)) (hl1:∀ x∈l,(cB x).length=1) (hy1:(cB y).length=1) (hA:Hp w0 R w) (hl:l.length<140737488354000):Calls Tryz.prog 17 #[.slice B l.length c,.int .u8 (y.toNat:Int)] w fun e w'=>∃ g,e= .returned (.slice (some ⟨g,0,none⟩) (l.length+80) (l.length+80))∧Hp w0 ([row g 5 (cel cB (l++List.replicate 80 y))]::R) w':=by
 refine aP Tryz.func17 O Tryz.ntmps17 ai (fun a hF=>?_)
 refine wS hF fun K1 hK1=>vX O<|vE hK1<|wT fun K2 hK2=>vX O<|vV O (aX O NQ O O)<|vV O (bz O O O (NS _ ag)) fun a hF=>?_
 refine ay O (fun K hK=>xZ (size:=1) (bytes:=1) (u:= .int .u8 0) hF O ae rfl hA NQ Af ae (l.length+80) rfl rfl ag ag ag ag (fun b1 w2 a hb1 hF hA3=>hK _ _ ?_))
 have hA4:Hp w0 ([row b1 5 (cel cB (List.replicate (l.length+80) (0:UInt8)))]::R) w2:=by rw [← He (C:=cB) (sz:=1) (z:=(0:UInt8)) (u:= .int .u8 0) rfl]; exact hA3
 refine vR hF<|vX O<|vE hK2<|wT fun K3 hK3=>vX O<|vX O fun a hF=>?_
 refine ay O (fun K hK=>Fq (size:=1) hF O ae rfl hA4 NQ uX ae rfl rfl l.length (Nat.min_eq_left ag).symm (jW hl1) hB (Hq.sub hA4.q (fK (kz))) (wH hl1) 0 0 O (fun _=>rfl) (by rw [jW hl1,jW (sz:=1) (fun x hx=>by rw [List.eq_of_mem_replicate hx]; rfl),List.length_replicate]; omega) (fun w5 a hF hA6=>hK _ _ ?_))
 replace hA6:Hp w0 ([row b1 5 (splice (cel cB (List.replicate (l.length+80) (0:UInt8))) 0 (cel cB l))]::R) w5:=hA6
 have hA7:Hp w0 ([row b1 5 (cel cB (l++List.replicate 0 y++List.replicate (80-0) (0:UInt8)))]::R) w5:=by
  have e:=yU (C:=cB) (sz:=1) (l:=List.replicate (l.length+80) (0:UInt8)) (m:=l) (fun x hx=>by rw [List.eq_of_mem_replicate hx]; rfl) hl1 (by rw [List.length_replicate]; omega)
  rw [List.drop_replicate,show l.length+80-l.length=80-0 by omega] at e
  rw [List.replicate_zero,List.append_nil,← e]; exact hA6
 refine aI<|hK3 _ _ ?_
 apply wp_seq_k; intro K4 hK4
 refine wS hF fun K5 hK5=>vX O<|vV O (aX O NQ O O)<|vX O<|vE hK5<|wBk fun a hF=>?_
 refine bH (G:=Nat) (fun j a x=>j≤80∧Fr 27 [(6,.int .i64 ((l.length+j:Nat):Int)),(0,.slice B l.length c),(5,.slice (some ⟨b1,0,none⟩) (l.length+80) (l.length+80)),(1,.int .u8 (y.toNat:Int))] a∧Hp w0 ([row b1 5 (cel cB (l++List.replicate j y++List.replicate (80-j) (0:UInt8)))]::R) x) (fun j=>80-j) 0 (⟨NR _,hF.keep [6,0,5,1] rfl,hA7⟩) ?_
 clear hF
 rintro j a w9 ⟨hj,hF,hA8⟩
 apply wp_seq_k; intro K6 hK6
 refine wS hF fun K7 hK7=>vX O<|vX O<|vV O (aX O NQ O O)<|vV O (az O O O O O)<|vE hK7 fun a hF=>?_
 by_cases hlt:l.length+j<l.length+80
 ·refine aF hF O (dS ag) ?_
  apply wp_skip
  refine hK6 _ _ ?_
  apply wp_seq_k; intro K8 hK8
  apply wp_block
  refine wp_region_lit ?_
  refine vR hF<|vX O<|vX O<|vX O<|vV O (cO O NQ uX O O (l.length+j) rfl ag (ad2 _ _ _)) fun a hF=>?_
  have hfl:∀ x∈l++List.replicate j y++List.replicate (80-j) (0:UInt8),(cB x).length=1:=fun x hx=>by
   rcases List.mem_append.1 hx with hx | hx
   ·rcases List.mem_append.1 hx with hx | hx
    ·exact hl1 x hx
    ·rw [List.eq_of_mem_replicate hx]; exact hy1
   ·rw [List.eq_of_mem_replicate hx]; rfl
  have hflen:(l++List.replicate j y++List.replicate (80-j) (0:UInt8)).length=l.length+80:=by rw [List.length_append,List.length_append,List.length_replicate,List.length_replicate]; omega
  refine ay O (fun K hK=>cu hF O O hA8 O O 0 O (by rw [jW hfl,hflen]; omega) rfl uX (fun w10 hA11=>hK _ _ ?_))
  replace hA11:Hp w0 ([row b1 5 ((cel cB (l++List.replicate j y++List.replicate (80-j) (0:UInt8))).set (0+(l.length+j)) (.int .u8 (y.toNat:Int)))]::R) w10:=hA11
  have hA12:Hp w0 ([row b1 5 (cel cB (l++List.replicate (j+1) y++List.replicate (80-(j+1)) (0:UInt8)))]::R) w10:=by
   rw [← FT,← show 80-j=80-(j+1)+1 by omega,← Hf hfl (by rw [hflen]; omega) (u:= .int .u8 (y.toNat:Int)) rfl,← Nat.zero_add (l.length+j)]; exact hA11
  refine aI<|hK8 _ _ ?_
  refine wp_region_lit ?_
  refine vR hF<|vX O<|vV O (bz O O O (NS _ ag))<|vX O fun a hF=>?_
  refine aI ?_
  exact ⟨j+1,ag,ag,hF.keep [6,0,5,1] rfl,hA12⟩
 ·refine au hF O (dO ag) ?_
  obtain rfl:j=80:=by omega
  apply wp_exit
  refine hK4 _ _ ?_
  refine wS hF fun K9 hK9=>vX O<|vX O<|vE hK9 fun a hF=>?_
  apply wp_ret
  refine aO hF Tryz.results17 O ?_
  rw [Nat.sub_self,List.replicate_zero,List.append_nil] at hA8
  exact ⟨_,rfl,hA8⟩
set_option maxRecDepth 100000 in
set_option maxHeartbeats 4000000 in
theorem rQ (w0 w:World) (R:List Seg) (B B2:Option Addr) (l:List (UInt8)) (c c2:Nat) (y:UInt8) (hB:Rc w0 R B (cel cB (l++List.replicate 80 y))) (hB2:Rc w0 R B2 (cel cB l)) (hl1:∀ x∈l,(cB x).length=1) (hy1:(cB y).length=1) (hc:l.length+80≤c) (hA:Hp w0 R w) (hl:l.length<140737488354000):Calls Tryz.prog 65 #[.slice B (l.length+80) c,.slice B2 l.length c2,.int .u8 (y.toNat:Int)] w fun e w'=>e= .returned (.bool true)∧Hp w0 R w':=by
 have hlen1:(cel cB l).length=l.length*1:=jW hl1
 have hpre:Rc w0 R B (cel cB l):=by
  have h1:=hB.take (cel cB l).length
  rwa [kK,List.take_left] at h1
 have hfl:∀ x∈l++List.replicate 80 y,(cB x).length=1:=fun x hx=>by
  rcases List.mem_append.1 hx with hx | hx
  ·exact hl1 x hx
  ·rw [List.eq_of_mem_replicate hx]; exact hy1
 refine aP Tryz.func65 O Tryz.ntmps65 ai (fun a hF=>?_)
 refine wS hF fun K1 hK1=>vX O<|vE hK1<|wQ fun K2 hK2=>wT fun K3 hK3=>vX O<|vV O (aX O NQ O O)<|vX O<|vV O (aX O NQ O O)<|vV O (bz O O O (NS _ ag))<|vV O (az O O O O (gI ag))<|vX O<|vG O (aW O O)<|vG O (aW O O)<|vG O (aX O NQ O O)<|vG O (jP O NQ uX O (.none 0) (.some rfl rfl) (NR _) ag je)<|vG O (aW O O) fun a hF=>?_
 refine iq hF O O O O (fun K hK=>aB hF O ae Jo rfl rfl ?_)
 with_reducible refine (vT w0 _ R B B2 l l c c2 (hpre.mono (kz)) (hB2.mono (kz)) hl1 hl1 hA ag).mono ?_
 rintro e' w1 ⟨rfl,hA2⟩
 refine ⟨_,rfl,fun a hF=>hK _ _ ?_⟩
 replace hA2:Hp w0 (R) w1:=hA2
 rw [decide_eq_true rfl] at hF
 refine vR hF<|vG O (fA O O O)<|vV O (dH O O O)<|vE hK3<|vF1 O<|wKp hK2<|wQ fun K4 hK4=>wT fun K5 hK5=>vX O<|vV O (aX O NQ O O)<|vX O<|vE hK5<|wBk fun a hF=>?_
 refine bH (G:=Nat) (fun j a x=>j≤80∧Fr 37 [(7,.int .i64 ((l.length+j:Nat):Int)),(0,.slice B (l.length+80) c),(2,.int .u8 (y.toNat:Int))] a∧Hp w0 (R) x) (fun j=>80-j) 0 (⟨NR _,hF.keep [7,0,2] rfl,hA2⟩) ?_
 clear hF
 rintro j a w4 ⟨hj,hF,hA3⟩
 apply wp_seq_k; intro K6 hK6
 refine wS hF fun K7 hK7=>vX O<|vX O<|vV O (aX O NQ O O)<|vV O (az O O O O O)<|vE hK7 fun a hF=>?_
 by_cases hlt:l.length+j<l.length+80
 ·refine aF hF O (dS ag) ?_
  have hat:(l++List.replicate 80 y)[l.length+j]? = some y:=by rw [List.getElem?_append_right ag,Nat.add_sub_cancel_left,List.getElem?_replicate,if_pos ag]
  obtain ⟨hc1,hc2⟩:=JS (u:= .int .u8 (y.toNat:Int)) hfl hat rfl
  obtain ⟨b,o,rfl,hc⟩:=hB.ne (i:=l.length+j) hc2
  apply wp_skip
  refine hK6 _ _ ?_
  apply wp_seq_k; intro K8 hK8
  apply wp_block
  refine wS hF fun K9 hK9=>vX O<|vX O<|vV O (cO O NQ uX O O (l.length+j) rfl ag (ad2 _ _ _))<|vV O (fO (u:= .int .u8 (y.toNat:Int)) O (Hq.sub hA3.q (kz)) O hc (l.length+j) hc2 rfl hc1 vN)<|vX O<|vV O (az O O O O (gI rfl))<|vE hK9<|vF1 O fun a hF=>?_
  apply wp_skip
  refine hK8 _ _ ?_
  refine wp_region_lit ?_
  refine vR hF<|vX O<|vV O (bz O O O (NS _ ag))<|vX O fun a hF=>?_
  refine aI ?_
  exact ⟨j+1,ag,ag,hF.keep [7,0,2] rfl,hA3⟩
 ·refine au hF O (dO ag) ?_
  apply wp_exit
  refine hK4 _ _ ?_
  refine wS hF fun K10 hK10=>vX O<|vE hK10 fun a hF=>?_
  apply wp_ret
  refine aO hF Tryz.results65 O ?_
  exact ⟨rfl,hA3⟩
end Go.Proofs.YtepbmdlgdaedpaaGreatDoor
namespace Go.Dk
open Go Go.RowKit
section
variable {P:Program} {w:World} {n:Nat} {F:List (Nat × Value)} {o:Oper} {t t' e ti:TypeId} {x y:Operand} {v:Value}
theorem BV (X:List UInt8):(X.map Extern.Stop.cell).toArray=(dc X).toArray:=rfl
theorem CS {f1 f2:Field} {c c':Int} {X X':List UInt8} (hS:P.underlying t=some (.struct (P.fieldsOf t))) (hp:P.stoodInHeld t=false) (hf:(P.fieldsOf t).toList=[f1,f2]) (n1:f1.name ≠ "_") (n2:f2.name ≠ "_") (o1:f1.offset=0) (o2:f2.offset=1)
    (hi:P.underlying f1.type=some (.int .i64)) (hu:P.underlying f2.type=some (.array 32 e)) (he:P.underlying e=some (.int .u8)) (hs:(P.info? e).map (·.size)=some 1) (hs2:(P.info? f2.type).map (·.size)=some 32) (hX:X.length=32) (hX':X'.length=32) :
    (Op.equalIn 10000 t (.agg (.int .i64 c::dc X).toArray) (.agg (.int .i64 c'::dc X').toArray)).run P w= .ok (decide (c=c'∧X=X')) w:=by
  rw [show (10000:Nat)=9999+1 from rfl,run_equalIn_agg w 9999 t _ _ hS hp,hf]
  have p1:∀ (z:Int) (Y:List UInt8),(part f1.type (.int .i64 z::dc Y).toArray f1.offset).run P w= .ok (.int .i64 z) w:=fun z Y=>by
    rw [o1]; simp [part,isAgg,run_underlying hi]
  have p2:∀ (z:Int) (Y:List UInt8),Y.length=32→(part f2.type (.int .i64 z::dc Y).toArray f2.offset).run P w= .ok (.agg (dc Y).toArray) w:=fun z Y hY=>by
    have h1:((Value.int .i64 z::dc Y).toArray.extract 1 (1+32))=(dc Y).toArray:=by
      apply Array.ext'
      rw [Array.toList_extract]
      show ((Value.int .i64 z::dc Y).take (32+1)).drop 1=dc Y
      rw [List.take_succ_cons,List.drop_one,List.tail_cons,NZ (by rw [aK]; omega)]
    rw [o2]
    simp only [part,isAgg,Sem.run_bind,run_underlying hu w,Result.andThen_ok,Sem.run_pure,if_true,run_sizeOf hs2,h1]
  have e2:(Op.equalIn 9999 f2.type (.agg (dc X).toArray) (.agg (dc X').toArray)).run P w= .ok (X == X') w:=by
    have:=Go.run_equalIn_bytes (P:=P) w 9997 f2.type e 32 hu he (fun w=>run_sizeOf hs) X X' hX hX'
    rwa [BV,BV] at this
  have e1:(Op.equalIn 9999 f1.type (.int .i64 c) (.int .i64 c')).run P w= .ok (c == c') w:=run_equalIn_int w 9998 f1.type .i64 .i64 c c' hi
  have q1:=fun z=>p2 z X hX
  have q2:=fun z=>p2 z X' hX'
  by_cases h1:c=c'
  · subst h1
    by_cases h2:X=X'
    · subst h2; simp [Op.eqFields,n1,n2,p1,q1,e1,e2]
    · simp [Op.eqFields,n1,n2,p1,q1,q2,e1,e2,h2]
  · simp [Op.eqFields,n1,n2,p1,q1,q2,e1,e2,h1]
theorem H5 {f1 f2:Field} {c c':Int} {X X':List UInt8} {b:Bool} (ho:o.op= .binOp .neq t x y t') (hm:P.eqGuardType P.depth t=false) (hS:P.underlying t=some (.struct (P.fieldsOf t))) (hp:P.stoodInHeld t=false) (hf:(P.fieldsOf t).toList=[f1,f2]) (n1:f1.name ≠ "_") (n2:f2.name ≠ "_") (o1:f1.offset=0) (o2:f2.offset=1)
    (hi:P.underlying f1.type=some (.int .i64)) (hu:P.underlying f2.type=some (.array 32 e)) (he:P.underlying e=some (.int .u8)) (hs:(P.info? e).map (·.size)=some 1) (hs2:(P.info? f2.type).map (·.size)=some 32) (hX:X.length=32) (hX':X'.length=32)
    (hx:ev F x=some (.agg (.int .i64 c::dc X).toArray)) (hy:ev F y=some (.agg (.int .i64 c'::dc X').toArray)) (hb:(!decide (c=c'∧X=X'))=b):Yd P n F o w (.bool b):=fun a hF=>by
  subst hb
  unfold execOp
  simp only [ho,hF.ev hx,hF.ev hy,Sem.run_bind,run_eqGuard_agg w .neq t x y _ _ hm,Result.andThen_ok]
  rw [run_neq_struct,CS hS hp hf n1 n2 o1 o2 hi hu he hs hs2 hX hX']
  rfl
end
section
variable {e:TypeId} {X:Seg} {v:Value} {A:Option Addr} {z m n i c k:Nat} {W B Z V:List Value}
theorem Buf.cut (h:Buf e z X (.slice A m c) m W) (hn:n≤m):Buf e z X (.slice A n c) n (W.take (n*z)):=by
  have hW:=h.1
  obtain ⟨d,rfl⟩:∃ d,m=n+d:=⟨m-n,ag⟩
  rw [Nat.add_mul] at hW
  refine ⟨by rw [List.length_take,hW]; omega,?_⟩
  rcases h.2 with ⟨h1,h2,h3⟩ | ⟨g,c',B,Z,h1,h2,h3,h4⟩
  · injection h1 with e1 e2 e3
    subst e1 e3
    exact .inl ⟨by rw [show n=0 by omega],ag,h3⟩
  · injection h1 with e1 e2 e3
    subst e1 e3
    obtain ⟨f,rfl⟩:∃ f,c=n+d+f:=⟨c-(n+d),ag⟩
    refine .inr ⟨g,_,B,W.drop (n*z)++Z,rfl,ag,?_,?_⟩
    · rw [show n+d+f-(n+d)=f by omega] at h3
      rw [List.length_append,List.length_drop,hW,h3,show n+d+f-n=d+f by omega,Nat.add_mul]
      omega
    · rw [h4]
      simp only [List.append_assoc,List.append_cancel_left_eq,List.cons.injEq,and_true]
      congr 2
      rw [← List.append_assoc (W.take _),List.take_append_drop]
theorem CJ (h:k+V.length≤W.length):splice (B++W++Z) (B.length+k) V=B++splice W k V++Z:=by
  unfold splice
  have e1:B.take (B.length+k)=B:=NZ ag
  rw [List.append_assoc B W Z,List.take_append,e1,Nat.add_sub_cancel_left,List.take_append_of_le_length ag,Nat.add_assoc,← List.drop_drop,List.drop_left,List.drop_append_of_le_length h]
  simp [List.append_assoc]
theorem Buf.setRow (h:Buf e z X v m W) (hi:i<m) (hV:V.length=z):∃ g B Z c,v= .slice (some ⟨g,B.length,none⟩) m c∧X=[row g e (B++W++Z)]∧W.length=m*z∧i*z+z≤m*z∧Buf e z [row g e (splice (B++W++Z) (B.length+i*z) V)] v m (splice W (i*z) V):=by
  have hW:=h.1
  have hle:i*z+z≤m*z:=by have:=Nat.mul_le_mul_right z (show i+1≤m by omega); rwa [Nat.add_mul,Nat.one_mul] at this
  rcases h.2 with ⟨_,h2,_⟩ | ⟨g,c,B,Z,h1,h2,h3,h4⟩
  · omega
  · refine ⟨g,B,Z,c,h1,h4,hW,hle,?_,.inr ⟨g,c,B,Z,h1,h2,h3,?_⟩⟩
    · unfold splice
      rw [List.length_append,List.length_append,List.length_take,List.length_drop,hV]
      omega
    · rw [CJ (by rw [hV,hW]; exact hle)]
end
section
variable {P:Program} {w w0:World} {n:Nat} {F:List (Nat × Value)} {a:Act} {L:List Row} {R:List Seg}
end
structure TxX where
  v:Value
  l:List UInt8
  X:Seg
def TxX.Ok (w0:World) (t:TxX):Prop:=∃ A c,t.v= .slice A t.l.length c∧Rd w0 [t.X] A t.l
end Go.Dk
