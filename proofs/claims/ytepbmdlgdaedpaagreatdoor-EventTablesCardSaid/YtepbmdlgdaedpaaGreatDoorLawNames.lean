/- Texts that belong together, one behind the other. -/
import Derived.Test.YtepbmdlgdaedpaaGreatDoorDigest
import Derived.Great.BuildSlice
import Derived.Lib.SlBytesConst
namespace Go.Proofs.YtepbmdlgdaedpaaGreatDoor
open Go.RowKit Go.Dk
theorem Ov:bQ Tryz.prog 5 (.int .u8 0):=by unfold bQ; kernel_rfl
def kept (m:Int):Nat:=(min (max m 1) 32).toNat
def kN (D:List UInt8) (m:Int):List UInt8:=D.take (kept m)++List.replicate (32-kept m) 0
theorem xm (m:Int):kept m≤32:=by unfold kept; omega
theorem dE (D:List UInt8) (m:Int) (h:D.length=32):(kN D m).length=32:=by
  have:=xm m
  simp [kN,h]; omega
theorem E8 (D:List UInt8) (h:D.length=32) (k:Nat) (hk:k≤32):splice (dc D) k (List.replicate (32-k) (.int .u8 0))=dc (D.take k++List.replicate (32-k) 0):=by
  have:(dc D).drop (k+(32-k))=[]:=by rw [show k+(32-k)=32 by omega]; simp [dc,h]
  unfold splice
  rw [List.length_replicate,this]
  simp [dc]
theorem x9 (X Y:List Value) (h:X.length=Y.length):splice X 0 Y=Y:=by
  have:X.drop (0+Y.length)=[]:=by simp [← h]
  unfold splice
  rw [this]
  simp
theorem dc_take (D:List UInt8) (X:List Value) (h:X=dc D) (hD:D.length=32):((X.drop 0).take 32).toArray=(dc D).toArray:=by
  subst h
  rw [List.drop_zero,P8 (by simp [dc,hD])]
set_option maxRecDepth 100000 in
set_option maxHeartbeats 1000000 in
theorem Lh (D:List UInt8) (m:Int) (w:World) (hD:D.length=32) :
    Calls Tryz.prog 164 #[.agg (dc D).toArray,.int .i64 m] w fun e w'=>e= .returned (.agg (dc (kN D m)).toArray)∧At w [] w':=by
  have hA0:=At.refl w
  have HD:=Lib.hid hD
  have HL:=Lib.hid (dE D m hD)
  have HC:=Lib.hid (E8 D hD (kept m) (xm m))
  have hkl:=xm m
  clear hD
  have Hk:Hid (kept m=(min (max m 1) 32).toNat):=rfl
  have cases3:m<1∨32<m∨(1≤m∧m≤32):=by omega
  rcases cases3 with hm | hm | ⟨hm,hm'⟩
  all_goals
    go_enter Tryz.func164,Tryz.ntmps164
    go_wp2_with (first
      | (with_reducible refine Ju rfl ?_
         refine wpList_plain rfl (fun _ hK=>wG (v:= .agg (dc D).toArray) rfl hA0 O (fun n1 w1 hn1 hA1=>hK _ _ ?_)); clear hK
         replace hA1:At w [(n1,29,dc D)] w1:=hA1)
      | (with_reducible refine jP rfl ?_
         refine wpList_plain rfl (fun _ hK=>iK rfl hA1 EK (fun n2 w2 hn2 hA2=>hK _ _ ?_)); clear hK
         replace hA2:At w [(n2,29,dc (List.replicate 32 0)),(n1,29,dc D)] w2:=hA2)
      | (with_reducible refine jO rfl ?_
         refine wpList_plain rfl (fun _ hK=>kR (l:=kept m) (h:=32) rfl PV lG rfl (je _ _ _ _ (by have:=Hk.out; omega)) (cO 32) hkl (P5 _) (hK _ _ ?_)); clear hK)
      | (with_reducible refine BZ (b:= .clear) rfl ?_
         refine wpList_plain rfl (fun _ hK=>FY (off:=kept m) rfl hA2 O (fun h=>by rw [sub_lt ag,Nat.zero_add]) PZ Ov rfl rfl 1 O (by rw [aI,HD.out]; omega) (fun w3 hA3=>hK _ _ ?_)); clear hK
         replace hA3:At w [(n2,29,dc (List.replicate 32 0)),(n1,29,dc (kN D m))] w3:=by rw [show dc (kN D m)=_ from HC.out.symm]; exact hA3)
      | (with_reducible refine gq rfl ?_
         refine wpList_plain rfl (fun _ hK=>lJ (off:=0) rfl hA3 O 1 O yP (by rw [aI,HL.out]; omega) (hK _ _ ?_)); clear hK
         rw [dc_take (kN D m) _ rfl HL.out])
      | (with_reducible refine gJ rfl ?_
         refine wpList_plain rfl (fun _ hK=>ja (off:=0) (new:=(dc (kN D m)).toArray) rfl hA3 O O 0 O (by rw [List.size_toArray,aI,aI,HL.out]; decide) (fun v hv=>iw _ v (by simpa using hv)) (by rw [EL,List.size_toArray,aI,HL.out]) (fun w4 hA4=>hK _ _ ?_)); clear hK
         replace hA4:At w [(n2,29,dc (kN D m)),(n1,29,dc (kN D m))] w4:=by
           have e:splice (dc (List.replicate 32 0)) 0 (dc (kN D m))=dc (kN D m):=x9 _ _ (by rw [aI,aI,HL.out]; rfl)
           have h4:At w [(n2,29,splice (dc (List.replicate 32 0)) 0 (dc (kN D m))),(n1,29,dc (kN D m))] w4:=hA4
           rw [e] at h4; exact h4))
    refine bodyPost_ret (jo (by exact Tryz.results164) hA4 O 0 O (by rw [aI,HL.out]; exact yP)) O ⟨rfl,hA4.clear ?_⟩
    have h1:=hA1.size
    intro r hr
    simp only [List.mem_cons,List.not_mem_nil,or_false] at hr
    rcases hr with rfl | rfl <;> simp only <;> omega
end Go.Proofs.YtepbmdlgdaedpaaGreatDoor
namespace Go.Proofs.YtepbmdlgdaedpaaGreatDoor
open Go.RowKit Go.Dk
abbrev Part:=Option Addr × Nat × List UInt8
def flat (ps:List Part):List UInt8:=ps.flatMap (·.2.2)
theorem qw {ps:List Part} {i:Nat} {A:Option Addr} {c:Nat} {l:List UInt8} (h:ps[i]? = some (A,c,l)):flat (ps.take (i+1))=flat (ps.take i)++l:=by
  unfold flat
  rw [List.take_add_one,h]
  simp
theorem Dj {ps:List Part} {i:Nat} {A:Option Addr} {c:Nat} {l:List UInt8} (h:ps[i]? = some (A,c,l)):(flat (ps.take i)).length+l.length≤(flat ps).length:=by
  have h1:=congrArg List.length (qw h)
  have h2:flat ps=flat (ps.take (i+1))++flat (ps.drop (i+1)):=by
    unfold flat; rw [← List.flatMap_append,List.take_append_drop]
  rw [h2,List.length_append,h1,List.length_append]
  omega
theorem ut (d:Int) (w:World):(Instr.buildSlice 27 1 #[(0,.int .u8 d)]).run Tryz.prog w= .ok (.slice (some ⟨w.heap.size,0,none⟩) 1 1) (w.alloc (.cells #[.int .u8 d] 5)):=af
theorem GM {b o g:Nat} (h:b≠g):Off (some ⟨b,o,none⟩) g:=fun ad he=>by cases he; exact h
theorem O0:bu Tryz.prog 27=true:=af
end Go.Proofs.YtepbmdlgdaedpaaGreatDoor
namespace Go.Proofs.YtepbmdlgdaedpaaGreatDoor
open Go.RowKit Go.Dk
section
variable {P:Program} {ops:Array Oper} {Q:Exit→Act→World→Prop} {a:Act} {w0 w:World} {L:List Row} {rest:List Oper} {o:Oper}
end
def known:ByteArray:={ data := #[52,52,57,52,55,48,53,55,54,50,55,53,51,48,49,55,49,48,100,101,97,53,49,54,54,50,100,98,56,55,99,98,50,101,52,51,51,51,100,50,57,100,102,97,50,51,101,48,98,55,48,101,98,51,55,55,49,57,56,98,52,102,53,98] }
end Go.Proofs.YtepbmdlgdaedpaaGreatDoor
namespace Go.Proofs.YtepbmdlgdaedpaaGreatDoor
open Go.RowKit Go.Dk
@[irreducible] def lit0:List UInt8:=[116,104,101,32,116,104,105,114,100,32,99,97,115,101,32,111,102,32,116,104,101,32,100,111,99,107,101,116]
theorem PO:28=lit0.length:=af
@[irreducible] def lit1:List UInt8:=[97,32,100,111,99,107,101,116,32,105,115,32,114,101,97,100,32,102,114,111,109,32,105,116,115,32,102,105,114,115,116,32,101,118,101,110,116,32,116,111,32,105,116,115,32,108,97,115,116,44,32,116,119,105,99,101]
theorem len1:56=lit1.length:=af
@[irreducible] def lit2:List UInt8:=[99,108,101,114,107]
theorem PR:5=lit2.length:=af
@[irreducible] def lit3:List UInt8:=[104,101,97,100,32,49,50]
theorem PQ:7=lit3.length:=af
@[irreducible] def lit4:List UInt8:=[99,97,115,101]
theorem PP:4=lit4.length:=af
abbrev hx2:ByteArray:={ data := #[100,99,99,53,97,55,97,56,53,55,53,52,97,57,101,49,56,51,55,98,48,99,98,48,56,55,101,55,97,51,48,55,101,98,48,100,53,48,99,100,51,101,55,57,102,52,53,100,48,53,50,55,100,48,56,57,49,56,99,48,97,54,102,57] }
end Go.Proofs.YtepbmdlgdaedpaaGreatDoor
