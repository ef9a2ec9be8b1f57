/- The walks of the reference's byteAt, numbers. -/
import Derived.Test.YtpomngkcfbnjoaaGreatDoorDigest
import Derived.Test.YtpomngkcfbnjoaaGreatDoorRing
/- The walks of the reference's byteAt, numbers. -/
namespace Go.Proofs.YtpomngkcfbnjoaaGreatDoor
open Go.RowKit Go.Dk
theorem zi:bV Tryz.prog 130 (.agg (wc (List.replicate 72 0)).toArray):=by unfold bV; kernel_rfl
theorem L8:isRow Tryz.prog 130 72=true:=af
theorem zk:(Tryz.prog.info? 130).map (·.size)=some 72:=af
def nums:List Nat:=ks++init8
theorem nums_length:nums.length=72:=by rfl
theorem FI (w:World):(Instr.build 130 ((nums.zipIdx.map fun p=>(p.2,Value.int .u32 (p.1:Int))).toArray)).run Tryz.prog w= .ok (.agg (wc nums).toArray) w:=af
set_option maxRecDepth 100000 in
set_option maxHeartbeats 1000000 in
theorem CV (w:World):Calls Tryz.prog 72 #[] w fun e w'=>e= .returned (.agg (wc nums).toArray)∧At w [] w':=by
  have hA0:=At.refl w
  have Hz1:Hid (0+(wc nums).toArray.size≤(wc (List.replicate 72 0)).length):=Lib.hid (by rw [List.size_toArray,bU,nums_length]; decide)
  have Hz2:Hid ((Tryz.prog.info? 130).map (·.size)=some (wc nums).toArray.size):=Lib.hid (by rw [zk,List.size_toArray,bU,nums_length])
  have Hz3:Hid (∀ v∈(wc nums).toArray,v.oneCell'=true):=Lib.hid (fun v hv=>by
    simp only [wc,List.mem_toArray,List.mem_map] at hv
    obtain ⟨_,_,rfl⟩:=hv
    rfl)
  have Hz4:Hid (splice (wc (List.replicate 72 0)) 0 (wc nums)=wc nums):=Lib.hid (jA _ _ (by rw [bU,bU,nums_length]; rfl))
  have Hz5:Hid ((wc nums).length=72):=Lib.hid (by rw [bU,nums_length])
  go_enter Tryz.func72,Tryz.ntmps72
  go_wp2_with (first
    | (with_reducible refine lh rfl ?_
       refine wpList_plain rfl (fun _ hK=>ji rfl hA0 zi (fun b1 w1 hb1 hA1=>hK _ _ ?_)); clear hK
       replace hA1:At w [(b1,130,wc (List.replicate 72 0))] w1:=hA1)
    | (with_reducible refine yg rfl ?_
       refine wpList_plain rfl (fun _ hK=>wp_build rfl (v:= .agg (wc nums).toArray) (by exact FI _) (hK _ _ ?_)); clear hK)
    | (with_reducible refine iQ rfl ?_
       refine wpList_plain rfl (fun _ hK=>jy (off:=0) (new:=(wc nums).toArray) rfl hA1 O O 0 O Hz1.out Hz3.out Hz2.out (fun w2 hA2=>hK _ _ ?_)); clear hK
       replace hA2:At w [(b1,130,splice (wc (List.replicate 72 0)) 0 (wc nums))] w2:=hA2
       rw [Hz4.out] at hA2))
  refine bodyPost_ret (jO Tryz.results72 hA2 O 0 O (by rw [Hz5.out]; exact L8)) O ⟨rfl,hA2.clear (fun r hr=>?_)⟩
  simp only [List.mem_cons,List.not_mem_nil,or_false] at hr
  subst hr
  exact hb1
theorem SI (n:Nat):((n:Int)%256)=((UInt8.ofNat n).toNat:Int):=(vY n).symm
set_option maxRecDepth 100000 in
set_option maxHeartbeats 1000000 in
theorem FH (w:World) (A:Option Addr) (l:List UInt8) (c n i whole:Nat) (hn:n=l.length) (hB:Bts w A l) (hl:n<281474976710656) (hw:whole=jI n) (hi:i<whole) :
    Calls Tryz.prog 73 #[.slice A n c,.int .i64 i,.int .i64 whole] w fun e w'=>e= .returned (.int .u8 ((bAt (padded l) i).toNat:Int))∧w=w':=by
  have Hn:=Lib.hid hn
  have Hw:=Lib.hid hw
  have hwb:whole≤n+72∧n+9≤whole:=by rw [hw]; unfold jI; omega
  clear hn hw
  by_cases c1:i<n
  · have hne:l≠[]:=fun e=>by have h:=Hn.out; rw [e] at h; simp at h; omega
    obtain ⟨b,o,rfl,hb,hcell⟩:=hB hne
    have Hc:=Lib.hid (hcell i (by have:=Hn.out; omega))
    have Hv:Hid (bAt (padded l) i=bAt l i):=Lib.hid (IJ l i (by have:=Hn.out; omega))
    clear hcell
    have l1:(i:Int)<n:=by omega
    rw [Hv.out]
    go_enter Tryz.func73,Tryz.ntmps73
    go_wp2_with (first
      | (with_reducible refine iK rfl ?_
         refine wpList_plain rfl (fun _ hK=>qG (v:= .int .u8 ((bAt l i).toNat:Int)) O O Hc.out af (hK _ _ ?_)); clear hK))
    go_ret
    exact ⟨rfl,rfl⟩
  · by_cases c2:i=n
    · have Hv:Hid (bAt (padded l) i=128):=Lib.hid (by rw [c2,Hn.out]; exact ET l)
      rw [Hv.out]
      subst c2
      go_enter Tryz.func73,Tryz.ntmps73
      go_wp2
      go_ret
      exact ⟨rfl,rfl⟩
    · by_cases c3:whole≤i+8
      · have Hv:Hid (bAt (padded l) i=UInt8.ofNat (8*n/256 ^ (whole-1-i))):=Lib.hid (by
          have h1:=Hn.out
          have h2:=Hw.out
          rw [EU l i ag (by rw [← h1,← h2]; omega) (by rw [← h1,← h2]; omega),← h1,← h2,Nat.mod_eq_of_lt ag])
        rw [Hv.out]
        have l1:(n:Int)<i:=by omega
        have l1':(n:Int)≤i:=by omega
        have l1'':¬ ((i:Int)=n):=by omega
        have l2:(whole:Int)-8≤i:=by omega
        have e1:IntKind.i64.wrap ((whole:Int)-8)=(whole:Int)-8:=TB _ ag
        have e2:IntKind.i64.wrap (8*(n:Int))=8*(n:Int):=TB _ ag
        have e3:IntKind.i64.wrap ((whole:Int)-1)=(whole:Int)-1:=TB _ ag
        have e4:IntKind.i64.wrap ((whole:Int)-1-i)=(whole:Int)-1-i:=TB _ ag
        have e5:IntKind.i64.wrap (8*((whole:Int)-1-i))=8*((whole:Int)-1-i):=TB _ ag
        have e6:IntKind.u64.wrap (8*((whole:Int)-1-i))=8*((whole:Int)-1-i):=by rw [IntKind.wrap_u64]; omega
        have e7:IntKind.u64.wrap (8*(n:Int))=8*(n:Int):=by rw [IntKind.wrap_u64]; omega
        have t2:(8*((whole:Int)-1-i)).toNat=8*(whole-1-i):=by omega
        have l3:0≤8*((whole:Int)-1-i)∧8*((whole:Int)-1-i)<64:=by omega
        go_enter Tryz.func73,Tryz.ntmps73
        go_wp2
        go_ret
        refine ⟨Ah ?_,rfl⟩
        rw [← SI]
        have h:=zU (8*n) (whole-1-i) (8*(whole-1-i)) rfl
        rw [← h]
        congr 1
      · have Hv:Hid (bAt (padded l) i=0):=Lib.hid (by
          have h1:=Hn.out
          have h2:=Hw.out
          exact CP l i ag (by rw [← h1,← h2]; omega))
        rw [Hv.out]
        have l1:(n:Int)<i:=by omega
        have l1':(n:Int)≤i:=by omega
        have l1'':¬ ((i:Int)=n):=by omega
        have l2:(i:Int)<(whole:Int)-8:=by omega
        have e1:IntKind.i64.wrap ((whole:Int)-8)=(whole:Int)-8:=TB _ ag
        go_enter Tryz.func73,Tryz.ntmps73
        go_wp2
        go_ret
        exact ⟨rfl,rfl⟩
end Go.Proofs.YtpomngkcfbnjoaaGreatDoor
