/- The walk of Sum: a hasher's sum. -/
import Derived.Test.YtepbmdlgdaedpaaGreatDoorWrite
/- The walk of Sum: a hasher's sum. -/
namespace Go.Proofs.YtepbmdlgdaedpaaGreatDoor
open Go.RowKit Go.Dk
theorem nU:bQ Tryz.prog 29 (.agg (dc (List.replicate 32 0)).toArray):=by unfold bQ; kernel_rfl
theorem Na:bQ Tryz.prog 246 (.agg (hcells (List.replicate 8 0) (List.replicate 64 0) 0).toArray):=by unfold bQ; kernel_rfl
theorem MZ:bQ Tryz.prog 247 (.agg (dc (List.replicate 128 0)).toArray):=by unfold bQ; kernel_rfl
theorem CP:isRow Tryz.prog 29 32=true:=af
theorem size87:(Tryz.prog.info? 246).map (·.size)=some 73:=af
theorem AA:(Tryz.prog.info? 29).map (·.size)=some 32:=af
def pd (Z B j:Nat):List UInt8:=(128::List.replicate Z 0)++((be 8 B).take j++List.replicate (127-Z-j) 0)
theorem iW (k n:Nat):(be k n).length=k:=by simp [be]
theorem EG (Z B j:Nat) (hZ:Z≤63) (hj:j≤8):(pd Z B j).length=128:=by simp [pd,iW]; omega
theorem Kt (Z B:Nat) (hZ:Z≤63):(dc (List.replicate 128 0)).set 0 (.int .u8 128)=dc (pd Z B 0):=by
  have h:List.replicate 128 (0:UInt8)=0::(List.replicate Z 0++List.replicate (127-Z) 0):=by
    rw [List.replicate_append_replicate,← List.replicate_succ]; congr 1; omega
  rw [h]
  simp [pd,dc]
theorem sG (n:Nat):((UInt8.ofNat n).toNat:Int)=(n:Int)%256:=by simp
theorem MW {k n i:Nat} (h:i<k):(be k n)[i]? = some (UInt8.ofNat (n/256 ^ (k-1-i))):=by simp [be,h]
theorem xZ {l:List UInt8} {j:Nat} (b:UInt8) (h:l[j]? = some b) (n:Nat):(dc (l.take j++List.replicate (n+1) 0)).set j (.int .u8 b.toNat)=dc (l.take (j+1)++List.replicate n 0):=by
  have hj:j<l.length:=(List.getElem?_eq_some_iff.1 h).1
  rw [bV,List.set_append,if_neg (by rw [aI,List.length_take]; omega),aI,List.length_take,show j-min j l.length=0 by omega,bV,List.take_add_one,h]
  simp [dc,List.replicate_succ]
theorem Ku (Z B j:Nat) (hZ:Z≤63) (hj:j<8):(dc (pd Z B j)).set (1+Z+j) (.int .u8 ((B/256 ^ (7-j):Nat)%256:Int))=dc (pd Z B (j+1)):=by
  have h:=xZ (l:=be 8 B) (j:=j) _ (MW hj) (127-Z-j-1)
  rw [show 127-Z-j-1+1=127-Z-j by omega,sG] at h
  unfold pd
  rw [bV,List.set_append,if_neg (by simp [dc]; omega),show 1+Z+j-(dc (128::List.replicate Z 0)).length=j by simp [dc]; omega,h,← bV,show 127-Z-j-1=127-Z-(j+1) by omega]
theorem NF (n:Nat):((dc (pd ((119-n%64)%64) (8*n%18446744073709551616) 8)).drop 0).take (padding n).length=dc (padding n):=by
  rw [List.drop_zero,dc_take]
  congr 1
  unfold pd padding
  rw [← List.append_assoc,P8 (l:=be 8 _) (by rw [iW]; omega)]
  exact List.take_left' rfl
theorem tu (n:Nat):(padding n).length=9+(119-n%64)%64:=by simp [padding,iW]; omega
def ob (st:List Nat) (n:Nat):List UInt8:=(st.flatMap (be 4)).take n++List.replicate (32-n) 0
theorem flat_length (st:List Nat):(st.flatMap (be 4)).length=4*st.length:=by
  induction st with
  | nil=>rfl
  | cons a t ih=>rw [List.flatMap_cons,List.length_append,iW,ih,List.length_cons]; omega
theorem pY (st:List Nat) (h:st.length=8) (n:Nat) (hn:n≤32):(ob st n).length=32:=by unfold ob; rw [List.length_append,List.length_take,flat_length,h,List.length_replicate]; omega
theorem flat_at (st:List Nat) (i j:Nat) (hi:i<st.length) (hj:j<4):(st.flatMap (be 4))[4*i+j]? = some (UInt8.ofNat (wAt st i/256 ^ (3-j))):=by
  induction st generalizing i with
  | nil=>cases hi
  | cons a t ih =>
    rw [List.flatMap_cons]
    cases i with
    | zero=>rw [List.getElem?_append_left (by rw [iW]; omega),MW ag]; simp [wAt]
    | succ i =>
      rw [List.getElem?_append_right (by rw [iW]; omega),iW,show 4*(i+1)+j-4=4*i+j by omega,ih i (by simpa using hi)]
      simp [wAt]
theorem CX (st:List Nat) (h:st.length=8) (i j:Nat) (hi:i<8) (hj:j<4):(dc (ob st (4*i+j))).set (4*i+j) (.int .u8 ((wAt st i/256 ^ (3-j):Nat)%256:Int))=dc (ob st (4*i+(j+1))):=by
  have h1:=xZ (l:=st.flatMap (be 4)) (j:=4*i+j) _ (flat_at st i j ag hj) (32-(4*i+j)-1)
  rw [show 32-(4*i+j)-1+1=32-(4*i+j) by omega,sG] at h1
  unfold ob
  rw [h1,show 32-(4*i+j)-1=32-(4*i+(j+1)) by omega,show 4*i+j+1=4*i+(j+1) by omega]
theorem GN (st:List Nat) (h:st.length=8):ob st (4*8)=st.flatMap (be 4):=by
  unfold ob
  rw [P8 (by rw [flat_length]; omega)]
  simp
theorem wP (B a b:Nat) (h:b=8*a):((B:Int)/2 ^ b%256)=((B/256 ^ a:Nat):Int)%256:=by
  subst h
  have h1:(2:Int) ^ (8*a)=((256 ^ a:Nat):Int):=by rw [show (256:Nat)=2 ^ 8 from rfl,← Nat.pow_mul,Int.natCast_pow]; rfl
  rw [h1,Int.natCast_ediv]
theorem F8 {a b:Int} (h:a=b):Value.int .u8 a= .int .u8 b:=by rw [h]
theorem BF {m:List UInt8} {cs:List Value} (h:HS m cs):cs.length=73∧cs[72]? = some (.int .u64 (m.length:Int))∧(∀ v∈cs.toArray,v.oneCell'=true)∧(cs.drop 0).take 8=wc (blocks (m.length/64) init8 m):=by
  obtain ⟨rest,h1,_,rfl⟩:=h
  have hb:=aX (m.length/64) init8 m rfl
  refine ⟨dM hb h1,iM hb h1,?_,vP hb⟩
  intro v hv
  simp only [hcells,wc,dc,List.mem_toArray,List.mem_append,List.mem_map,List.mem_cons,List.not_mem_nil,or_false] at hv
  rcases hv with ⟨_,_,rfl⟩ | ⟨_,_,rfl⟩ | rfl <;> rfl
theorem Ny (m:List UInt8):sha m=(blocks ((m++padding m.length).length/64) init8 (m++padding m.length)).flatMap (be 4):=rfl
set_option maxRecDepth 100000 in
set_option maxHeartbeats 4000000 in
theorem sum_any (w:World) (hb:Nat) (m:List UInt8) (cs:List Value) (hH:HS m cs) (hrow:w.heap[hb]? = some (.cells cs.toArray 246 (0,0)))
    (hsz:m.length+72<1152921504606846976) (hT:Tab w) (_hb0:hb≠2) :
    Calls Tryz.prog 165 #[.pointer (some ⟨hb,0,none⟩)] w fun e w'=>e= .returned (.agg (dc (sha m)).toArray)∧At w [] w':=by
  have hA0:=At.refl w
  obtain ⟨hl,hn72,hone,hst8⟩:=BF hH
  have Hl:=Lib.hid hl
  have Hn:=Lib.hid hn72
  have Hone:=Lib.hid hone
  have hlt:hb<w.heap.size:=jF hrow
  have Hc:Hid (w.cell? ⟨hb,72,none⟩=some (.int .u64 (m.length:Int))):=Lib.hid (((At.start1 hrow).cell (k:=0) rfl 72).trans hn72)
  obtain ⟨Z,HZ⟩:∃ Z,Hid (Z=(119-m.length%64)%64):=⟨_,rfl⟩
  obtain ⟨B,HB⟩:∃ B,Hid (B=8*m.length%18446744073709551616):=⟨_,rfl⟩
  have hZ:Z≤63:=by rw [HZ.out]; omega
  have HP0:=Lib.hid (Kt Z B hZ)
  obtain ⟨N,HN⟩:∃ N,Hid (N=m.length):=⟨_,rfl⟩
  rw [← HN.out] at Hn hsz Hc
  have eB:IntKind.u64.wrap (8*(N:Int))=B:=by have:=HN.out; have:=HB.out; rw [IntKind.wrap_u64]; omega
  have Htk:Hid ((cs.drop 0).take 73=cs):=Lib.hid (by rw [List.drop_zero,P8 ag])
  have Hs1:Hid (0+cs.toArray.size≤(hcells (List.replicate 8 0) (List.replicate 64 0) 0).length):=Lib.hid (by rw [List.size_toArray,hl]; exact Nat.le_of_eq ah)
  have Hs2:Hid ((Tryz.prog.info? 246).map (·.size)=some cs.toArray.size):=Lib.hid (by rw [size87,List.size_toArray,hl])
  have Hspl:Hid (splice (hcells (List.replicate 8 0) (List.replicate 64 0) 0) 0 cs=cs):=Lib.hid (gZ _ _ (by rw [hl]; rfl))
  clear hn72 hone hst8 hl
  go_enter Tryz.func165,Tryz.ntmps165
  go_wp2_with (first
    | (with_reducible refine jP rfl ?_
       refine wpList_plain rfl (fun _ hK=>iK rfl hA0 nU (fun b2 w1 hb2 hA1=>hK _ _ ?_)); clear hK
       replace hA1:At w [(b2,29,dc (List.replicate 32 0))] w1:=hA1)
    | (with_reducible refine jP rfl ?_
       refine wpList_plain rfl (fun _ hK=>iK rfl hA1 Na (fun b3 w2 hb3 hA2=>hK _ _ ?_)); clear hK
       replace hA2:At w [(b3,246,(hcells (List.replicate 8 0) (List.replicate 64 0) 0)),(b2,29,dc (List.replicate 32 0))] w2:=hA2)
    | (with_reducible refine gq rfl ?_
       refine wpList_plain rfl (fun _ hK=>lJ (off:=0) (n:=73) rfl (hA1.add hrow (by simp; omega)) O 1 O OE (by rw [Hl.out]; decide) (hK _ _ ?_)); clear hK
       rw [Htk.out])
    | (with_reducible refine gJ rfl ?_
       refine wpList_plain rfl (fun _ hK=>ja (off:=0) (new:=cs.toArray) rfl hA2 O O 0 O Hs1.out Hone.out Hs2.out (fun w3 hA3=>hK _ _ ?_)); clear hK
       replace hA3:At w [(b3,246,splice (hcells (List.replicate 8 0) (List.replicate 64 0) 0) 0 cs),(b2,29,dc (List.replicate 32 0))] w3:=hA3
       rw [Hspl.out] at hA3)
    | (with_reducible refine gq rfl ?_
       refine wpList_plain rfl (fun _ hK=>jM (off:=72) rfl hA3 O 0 O Hn.out qU (hK _ _ ?_)); clear hK)
    | (with_reducible refine jP rfl ?_
       refine wpList_plain rfl (fun _ hK=>iK rfl hA3 MZ (fun b5 w4 hb5 hA4=>hK _ _ ?_)); clear hK
       replace hA4:At w [(b5,247,dc (List.replicate 128 0)),(b3,246,cs),(b2,29,dc (List.replicate 32 0))] w4:=hA4)
    | (with_reducible refine gJ rfl ?_
       refine wpList_plain rfl (fun _ hK=>eH (off:=0) rfl hA4 O (v:= .int .u8 128) rfl 0 O ae rfl jm (fun w5 hA5=>hK _ _ ?_)); clear hK
       replace hA5:At w [(b5,247,dc (pd Z B 0)),(b3,246,cs),(b2,29,dc (List.replicate 32 0))] w5:=by rw [← HP0.out]; exact hA5))
  have q2:b2<b3:=by have:=hA1.lt (k:=0) rfl; omega
  have q3:b3<b5:=by have:=hA3.lt (k:=0) rfl; omega
  have hni:hb ∉ [b5,b3,b2]:=by simp; omega
  clear eB hA1 hA2 hA3 hA4
  go_loopw [6] (fun p wr=>∃ k:Nat,1≤k∧k≤1+Z∧p= .int .i64 k∧At w [(b5,247,dc (pd Z B 0)),(b3,246,cs),(b2,29,dc (List.replicate 32 0))] wr) (fun p _=>100-(intOf p).toNat)
  case atStart=>exact ⟨1,ag,ag,rfl,hA5⟩
  case round =>
    clear hA5
    obtain ⟨k,hk1,hk2,rfl,hAr⟩:=hrel
    have e1:IntKind.i64.wrap ((N:Int)%64+k)=(N:Int)%64+k:=PX _ ag
    have e2:IntKind.i64.wrap ((k:Int)+1)=(k:Int)+1:=PX _ ag
    by_cases hkz:k=1+Z
    · have h56:((N:Int)%64+k)%64=56:=by have:=HZ.out; have:=HN.out; omega
      have HkZ:=Lib.hid hkz
      clear hkz
      go_wp2_with (first
        | (with_reducible refine gq rfl ?_
           refine wpList_plain rfl (fun _ hK=>nV (v:= .int .u64 (N:Int)) O O ((hAr.old hlt hni _ _).trans Hc.out) qU (hK _ _ ?_)); clear hK))
      clear e1 e2 h56 hk1 hk2
      generalize ((N:Int)%64+(k:Int))%64=q1
      generalize (((N:Int)+(k:Int))%64 != 56)=q2
      have hkb:1≤k∧k≤64:=by have:=HkZ.out; omega
      generalize wr=wr0 at hAr
      go_loopw [31] (fun p wr=>∃ j:Nat,j≤8∧p= .int .i64 j∧At w [(b5,247,dc (pd Z B j)),(b3,246,cs),(b2,29,dc (List.replicate 32 0))] wr) (fun p _=>8-(intOf p).toNat)
      case atStart=>exact ⟨0,ag,rfl,hAr⟩
      case round =>
        clear hAr
        obtain ⟨j,hj,rfl,hAr⟩:=hrel
        by_cases hj8:j<8
        · have e1:IntKind.i64.wrap ((k:Int)+j)=(k:Int)+j:=PX _ ag
          have e2:IntKind.i64.wrap (8*(j:Int))=8*(j:Int):=PX _ ag
          have e3:IntKind.i64.wrap (56-8*(j:Int))=56-8*(j:Int):=PX _ ag
          have t1:((k:Int)+j).toNat=k+j:=by omega
          have t2:(56-8*(j:Int)).toNat=56-8*j:=by omega
          have l1:0≤(k:Int)+j∧(k:Int)+j<128:=by omega
          have l2:0≤56-8*(j:Int)∧56-8*(j:Int)<64:=by omega
          have l3:(j:Int)<8:=by omega
          have Hln:=Lib.hid (show (dc (pd Z B j)).length=128 by rw [aI,EG Z B j hZ hj])
          have Hst:=Lib.hid (Ku Z B j hZ hj8)
          rw [← HkZ.out] at Hst
          go_wp2_with (first
            | (with_reducible refine gJ rfl ?_
               go_loud (refine wpList_plain rfl (fun _ hK=>eH (off:=k+j) rfl hAr rfl (F8 (wP B (7-j) (56-8*j) ag)) 0 rfl (by rw [Hln.out]; omega) rfl jm (fun w5 hA5=>hK _ _ ?_)); clear hK
                        replace hA5:At w [(b5,247,(dc (pd Z B j)).set (k+j) (.int .u8 ((B/256 ^ (7-j):Nat)%256:Int))),(b3,246,cs),(b2,29,dc (List.replicate 32 0))] w5:=hA5
                        rw [Hst.out] at hA5)))
          clear e1 e2 e3 t1 t2 l1 l2
          go_roundw
          case rel =>
            exact ⟨j+1,ag,by go_num,hA5⟩
          case measure=>simp [intOf]; omega
        · obtain rfl:j=8:=by omega
          have e1:IntKind.i64.wrap ((k:Int)+8)=(k:Int)+8:=PX _ ag
          obtain ⟨l,HL⟩:∃ l,Hid (l=padding m.length):=⟨_,rfl⟩
          have HLl:=Lib.hid (show k+8=l.length by rw [HL.out,tu,HkZ.out,HZ.out]; omega)
          have HT0:Hid (((dc (pd Z B 8)).drop 0).take l.length=dc l):=Lib.hid (by rw [HL.out,HZ.out,HB.out]; exact NF _)
          have hBt:Bts wr (some ⟨b5,0,none⟩) l:=Bts.row hAr (k:=0) rfl HT0.out
          have hg0:2<w.heap.size:=hT.lt
          have hl128:l.length≤128:=by have:=HLl.out; omega
          have hsz2:m.length+l.length<1152921504606846976:=by have:=HLl.out; have:=HN.out; omega
          go_wp2_with (first
            | (with_reducible refine jO rfl ?_
               go_loud (refine wpList_plain rfl (fun _ hK=>kR (l:=0) (h:=k+8) rfl Tryz.underlying247 jm rfl (cO 0) (je _ _ _ _ rfl) ag ag (hK _ _ ?_)); clear hK
                        rw [sub_zero,Nat.sub_zero,Nat.sub_zero,HLl.out]))
            | (go_at_call 163
               go_loud (refine (write_any wr b3 m cs hH (hAr.row (k:=1) rfl) (some ⟨b5,0,none⟩) l 128 hBt hl128 (fun ad h=>by cases h; exact (by omega:b5≠b3)) hsz2 (hT.at_ hAr (by simp; omega)) ag).mono ?_
                        rintro e' wx ⟨rfl,cs',hH',hAx⟩
                        have hA6:At w [(b5,247,dc (pd Z B 8)),(b3,246,cs'),(b2,29,dc (List.replicate 32 0))] wx:=hAr.then1 (k:=1) rfl hAx
                        obtain ⟨hl',_,_,hst8'⟩:=BF hH'
                        obtain ⟨st,HSt⟩:∃ st,Hid (st=blocks ((m++l).length/64) init8 (m++l)):=⟨_,rfl⟩
                        rw [← HSt.out] at hst8'
                        have Hl':=Lib.hid hl'
                        have Hst8':=Lib.hid hst8'
                        clear hl' hst8' hAx))
            | (with_reducible refine jP rfl ?_
               refine wpList_plain rfl (fun _ hK=>iK rfl hA6 nU (fun b8 w7 hb8 hA7=>hK _ _ ?_)); clear hK
               replace hA7:At w [(b8,29,dc (List.replicate 32 0)),(b5,247,dc (pd Z B 8)),(b3,246,cs'),(b2,29,dc (List.replicate 32 0))] w7:=hA7)
            | (with_reducible refine gq rfl ?_
               go_loud (refine wpList_plain rfl (fun _ hK=>lJ (off:=0) (n:=8) rfl hA7 rfl 2 rfl MN (by rw [Hl'.out]; decide) (hK _ _ ?_)); clear hK
                        rw [Hst8'.out])))
          have Hst8:Hid (st.length=8):=Lib.hid (by rw [HSt.out]; exact aX _ _ _ rfl)
          have HAt:∀ i,i<8→Hid ((wc st).toArray[i]? = some (.int .u32 (wAt st i:Nat))):=fun i hi=>Lib.hid (by simpa using mG (l:=st) (by rw [Hst8.out]; exact hi))
          have HSha:Hid (ob st (4*8)=sha m):=Lib.hid (by rw [GN st Hst8.out,HSt.out,HL.out]; rfl)
          have r8:b5<b8:=by have:=hA6.lt (k:=0) rfl; omega
          have hA8:At w [(b8,29,dc (ob st (4*0))),(b5,247,dc (pd Z B 8)),(b3,246,cs'),(b2,29,dc (List.replicate 32 0))] w7:=hA7
          clear hA7 hA6 hAr e1
          go_loopw [51] (fun p wr=>∃ i:Nat,i≤8∧p= .int .i64 i∧At w [(b8,29,dc (ob st (4*i))),(b5,247,dc (pd Z B 8)),(b3,246,cs'),(b2,29,dc (List.replicate 32 0))] wr) (fun p _=>8-(intOf p).toNat)
          case atStart=>exact ⟨0,ag,rfl,hA8⟩
          case round =>
            clear hA8
            obtain ⟨i,hi,rfl,hAr⟩:=hrel
            by_cases hi8:i<8
            · have l3:(i:Int)<8:=by omega
              have HAi:=HAt i hi8
              go_wp2_with (first
                | (with_reducible refine Ae rfl ?_
                   go_loud (refine wpList_plain rfl (fun _ hK=>qy (k:=i) rfl Tryz.underlying242 af sS rfl rfl hi8 HAi.out (hK _ _ ?_)); clear hK)))
              generalize wr=wr1 at hAr
              go_loopw [55] (fun p wr=>∃ j:Nat,j≤4∧p= .int .i64 j∧At w [(b8,29,dc (ob st (4*i+j))),(b5,247,dc (pd Z B 8)),(b3,246,cs'),(b2,29,dc (List.replicate 32 0))] wr) (fun p _=>4-(intOf p).toNat)
              case atStart=>exact ⟨0,ag,rfl,hAr⟩
              case round =>
                clear hAr
                obtain ⟨j,hj,rfl,hAr⟩:=hrel
                by_cases hj4:j<4
                · have e1:IntKind.i64.wrap (4*(i:Int)+j)=4*(i:Int)+j:=PX _ ag
                  have e0:IntKind.i64.wrap (4*(i:Int))=4*(i:Int):=PX _ ag
                  have e2:IntKind.i64.wrap (8*(j:Int))=8*(j:Int):=PX _ ag
                  have e3:IntKind.i64.wrap (24-8*(j:Int))=24-8*(j:Int):=PX _ ag
                  have t1:(4*(i:Int)+j).toNat=4*i+j:=by omega
                  have t2:(24-8*(j:Int)).toNat=24-8*j:=by omega
                  have l1:0≤4*(i:Int)+j∧4*(i:Int)+j<32:=by omega
                  have l2:0≤24-8*(j:Int)∧24-8*(j:Int)<32:=by omega
                  have l4:(j:Int)<4:=by omega
                  have Hln:=Lib.hid (show (dc (ob st (4*i+j))).length=32 by rw [aI,pY st Hst8.out _ ag])
                  have Hst:=Lib.hid (CX st Hst8.out i j hi8 hj4)
                  go_wp2_with (first
                    | (with_reducible refine gJ rfl ?_
                       go_loud (refine wpList_plain rfl (fun _ hK=>eH (off:=4*i+j) rfl hAr rfl (F8 (wP (wAt st i) (3-j) (24-8*j) ag)) 0 rfl (by rw [Hln.out]; omega) rfl jm (fun w5 hA5=>hK _ _ ?_)); clear hK
                                replace hA5:At w [(b8,29,(dc (ob st (4*i+j))).set (4*i+j) (.int .u8 ((wAt st i/256 ^ (3-j):Nat)%256:Int))),(b5,247,dc (pd Z B 8)),(b3,246,cs'),(b2,29,dc (List.replicate 32 0))] w5:=hA5
                                rw [Hst.out] at hA5)))
                  clear e0 e1 e2 e3 t1 t2 l1 l2
                  go_roundw
                  case rel =>
                    exact ⟨j+1,ag,by go_num,hA5⟩
                  case measure=>simp [intOf]; omega
                · obtain rfl:j=4:=by omega
                  go_wp2
                  go_roundw
                  case rel =>
                    exact ⟨i+1,ag,by go_num,hAr⟩
                  case measure=>simp [intOf]; omega
            · obtain rfl:i=8:=by omega
              rw [HSha.out] at hAr
              have Hs36:Hid ((dc (sha m)).length=32):=Lib.hid (by rw [aI,← HSha.out,pY st Hst8.out _ ag])
              have Htk:Hid (((dc (sha m)).drop 0).take 32=dc (sha m)):=Lib.hid (by rw [List.drop_zero,P8 (by rw [Hs36.out]; exact P5 _)])
              have Hz1:Hid (0+(dc (sha m)).toArray.size≤(dc (List.replicate 32 0)).length):=Lib.hid (by rw [List.size_toArray,Hs36.out]; exact Nat.le_of_eq ah)
              have Hz2:Hid ((Tryz.prog.info? 29).map (·.size)=some (dc (sha m)).toArray.size):=Lib.hid (by rw [AA,List.size_toArray,Hs36.out])
              have Hz3:Hid (∀ v∈(dc (sha m)).toArray,v.oneCell'=true):=Lib.hid (fun v hv=>iw _ v (by simpa using hv))
              have Hz4:Hid (splice (dc (List.replicate 32 0)) 0 (dc (sha m))=dc (sha m)):=Lib.hid (gZ _ _ (by rw [Hs36.out]; rfl))
              go_wp2_with (first
                | (with_reducible refine gq rfl ?_
                   go_loud (refine wpList_plain rfl (fun _ hK=>lJ (off:=0) (n:=32) rfl hAr rfl 0 rfl CP (by rw [Hs36.out]; decide) (hK _ _ ?_)); clear hK
                            rw [Htk.out]))
                | (with_reducible refine gJ rfl ?_
                   go_loud (refine wpList_plain rfl (fun _ hK=>ja (off:=0) (new:=(dc (sha m)).toArray) rfl hAr rfl rfl 3 rfl Hz1.out Hz3.out Hz2.out (fun w9 hA9=>hK _ _ ?_)); clear hK
                            replace hA9:At w [(b8,29,dc (sha m)),(b5,247,dc (pd Z B 8)),(b3,246,cs'),(b2,29,splice (dc (List.replicate 32 0)) 0 (dc (sha m)))] w9:=hA9
                            rw [Hz4.out] at hA9)))
              refine bodyPost_ret (jo Tryz.results165 hA9 O 3 O (by rw [Hs36.out]; exact CP)) O ⟨rfl,hA9.clear (fun r hr=>?_)⟩
              simp only [List.mem_cons,List.not_mem_nil,or_false] at hr
              rcases hr with rfl | rfl | rfl | rfl <;> simp only <;> omega
    · have h56:((N:Int)%64+k)%64≠56:=by have:=HZ.out; have:=HN.out; omega
      go_wp2_with (first
        | (with_reducible refine gq rfl ?_
           refine wpList_plain rfl (fun _ hK=>nV (v:= .int .u64 (N:Int)) O O ((hAr.old hlt hni _ _).trans Hc.out) qU (hK _ _ ?_)); clear hK))
      go_roundw
      case rel =>
        exact ⟨k+1,ag,ag,by go_num,hAr⟩
      case measure=>simp [intOf]; omega
end Go.Proofs.YtepbmdlgdaedpaaGreatDoor
