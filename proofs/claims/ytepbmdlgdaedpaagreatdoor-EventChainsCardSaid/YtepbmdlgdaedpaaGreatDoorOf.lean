/- Texts that belong together, one behind the other. -/
import Derived.Test.YtepbmdlgdaedpaaGreatDoorDigest
namespace Go.Proofs.YtepbmdlgdaedpaaGreatDoor
open Go.RowKit Go.Dk
theorem LX:bI Tryz.prog 5 (.int .u8 0):=by unfold bI; kernel_rfl
def kept (m:Int):Nat:=(min (max m 1) 32).toNat
def kL (D:List UInt8) (m:Int):List UInt8:=D.take (kept m)++List.replicate (32-kept m) 0
theorem vP (m:Int):kept m≤32:=by unfold kept; omega
theorem dA (D:List UInt8) (m:Int) (h:D.length=32):(kL D m).length=32:=by
  have:=vP m
  simp [kL,h]; omega
theorem DW (D:List UInt8) (h:D.length=32) (k:Nat) (hk:k≤32):splice (dc D) k (List.replicate (32-k) (.int .u8 0))=dc (D.take k++List.replicate (32-k) 0):=by
  have:(dc D).drop (k+(32-k))=[]:=by rw [show k+(32-k)=32 by omega]; simp [dc,h]
  unfold splice
  rw [List.length_replicate,this]
  simp [dc]
theorem xu (X Y:List Value) (h:X.length=Y.length):splice X 0 Y=Y:=by
  have:X.drop (0+Y.length)=[]:=by simp [← h]
  unfold splice
  rw [this]
  simp
theorem dc_take (D:List UInt8) (X:List Value) (h:X=dc D) (hD:D.length=32):((X.drop 0).take 32).toArray=(dc D).toArray:=by
  subst h
  rw [List.drop_zero,NZ (by simp [dc,hD])]
set_option maxRecDepth 100000 in
set_option maxHeartbeats 1000000 in
theorem Jj (D:List UInt8) (m:Int) (w:World) (hD:D.length=32) :
    Calls Tryz.prog 164 #[.agg (dc D).toArray,.int .i64 m] w fun e w'=>e= .returned (.agg (dc (kL D m)).toArray)∧At w [] w':=by
  have hA0:=At.refl w
  have HD:=Lib.hid hD
  have HL:=Lib.hid (dA D m hD)
  have HC:=Lib.hid (DW D hD (kept m) (vP m))
  have hkl:=vP m
  clear hD
  have Hk:Hid (kept m=(min (max m 1) 32).toNat):=rfl
  have cases3:m<1∨32<m∨(1≤m∧m≤32):=by omega
  rcases cases3 with hm | hm | ⟨hm,hm'⟩
  all_goals
    go_enter Tryz.func164,Tryz.ntmps164
    go_wp2_with (first
      | (with_reducible refine Ho rfl ?_
         refine wpList_plain rfl (fun _ hK=>uP (v:= .agg (dc D).toArray) rfl hA0 O (fun n1 w1 hn1 hA1=>hK _ _ ?_)); clear hK
         replace hA1:At w [(n1,29,dc D)] w1:=hA1)
      | (with_reducible refine jI rfl ?_
         refine wpList_plain rfl (fun _ hK=>ja rfl hA1 Dx (fun n2 w2 hn2 hA2=>hK _ _ ?_)); clear hK
         replace hA2:At w [(n2,29,dc (List.replicate 32 0)),(n1,29,dc D)] w2:=hA2)
      | (with_reducible refine jH rfl ?_
         refine wpList_plain rfl (fun _ hK=>kP (l:=kept m) (h:=32) rfl N7 lu rfl (iW _ _ _ _ (by have:=Hk.out; omega)) (bU 32) hkl (NV _) (hK _ _ ?_)); clear hK)
      | (with_reducible refine AL (b:= .clear) rfl ?_
         refine wpList_plain rfl (fun _ hK=>Em (off:=kept m) rfl hA2 O (fun h=>by rw [sub_lt ag,Nat.zero_add]) NQ LX rfl rfl 1 O (by rw [aK,HD.out]; omega) (fun w3 hA3=>hK _ _ ?_)); clear hK
         replace hA3:At w [(n2,29,dc (List.replicate 32 0)),(n1,29,dc (kL D m))] w3:=by rw [show dc (kL D m)=_ from HC.out.symm]; exact hA3)
      | (with_reducible refine fV rfl ?_
         refine wpList_plain rfl (fun _ hK=>lD (off:=0) rfl hA3 O 1 O xX (by rw [aK,HL.out]; omega) (hK _ _ ?_)); clear hK
         rw [dc_take (kL D m) _ rfl HL.out])
      | (with_reducible refine gu rfl ?_
         refine wpList_plain rfl (fun _ hK=>iR (off:=0) (new:=(dc (kL D m)).toArray) rfl hA3 O O 0 O (by rw [List.size_toArray,aK,aK,HL.out]; decide) (fun v hv=>gG _ v (by simpa using hv)) (by rw [Dy,List.size_toArray,aK,HL.out]) (fun w4 hA4=>hK _ _ ?_)); clear hK
         replace hA4:At w [(n2,29,dc (kL D m)),(n1,29,dc (kL D m))] w4:=by
           have e:splice (dc (List.replicate 32 0)) 0 (dc (kL D m))=dc (kL D m):=xu _ _ (by rw [aK,aK,HL.out]; rfl)
           have h4:At w [(n2,29,splice (dc (List.replicate 32 0)) 0 (dc (kL D m))),(n1,29,dc (kL D m))] w4:=hA4
           rw [e] at h4; exact h4))
    refine bodyPost_ret (jg (by exact Tryz.results164) hA4 O 0 O (by rw [aK,HL.out]; exact xX)) O ⟨rfl,hA4.clear ?_⟩
    have h1:=hA1.size
    intro r hr
    simp only [List.mem_cons,List.not_mem_nil,or_false] at hr
    rcases hr with rfl | rfl <;> simp only <;> omega
end Go.Proofs.YtepbmdlgdaedpaaGreatDoor
namespace Go.Proofs.YtepbmdlgdaedpaaGreatDoor
open Go.RowKit Go.Dk
abbrev Part:=Option Addr × Nat × List UInt8
def flat (ps:List Part):List UInt8:=ps.flatMap (·.2.2)
theorem pI {ps:List Part} {i:Nat} {A:Option Addr} {c:Nat} {l:List UInt8} (h:ps[i]? = some (A,c,l)):flat (ps.take (i+1))=flat (ps.take i)++l:=by
  unfold flat
  rw [List.take_add_one,h]
  simp
theorem Bz {ps:List Part} {i:Nat} {A:Option Addr} {c:Nat} {l:List UInt8} (h:ps[i]? = some (A,c,l)):(flat (ps.take i)).length+l.length≤(flat ps).length:=by
  have h1:=congrArg List.length (pI h)
  have h2:flat ps=flat (ps.take (i+1))++flat (ps.drop (i+1)):=by
    unfold flat; rw [← List.flatMap_append,List.take_append_drop]
  rw [h2,List.length_append,h1,List.length_append]
  omega
theorem sH (d:Int) (w:World):(Instr.buildSlice 27 1 #[(0,.int .u8 d)]).run Tryz.prog w= .ok (.slice (some ⟨w.heap.size,0,none⟩) 1 1) (w.alloc (.cells #[.int .u8 d] 5)):=af
theorem EW {b o g:Nat} (h:b≠g):Off (some ⟨b,o,none⟩) g:=fun ad he=>by cases he; exact h
theorem MN:bn Tryz.prog 27=true:=af
end Go.Proofs.YtepbmdlgdaedpaaGreatDoor
