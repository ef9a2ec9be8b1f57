/- The walk of Write: a piece taken by a hasher. -/
import Derived.Test.YtepbmdlgdaedpaaGreatDoorTake
import Derived.Test.YtepbmdlgdaedpaaGreatDoorHasher
/- The walk of Write: a piece taken by a hasher. -/
namespace Go.Proofs.YtepbmdlgdaedpaaGreatDoor
open Go.RowKit Go.Dk
theorem Tab.at_ {w0 w:World} {L:List Row} (h:Tab w0) (hA:At w0 L w) (hn:2 ∉ L.map (·.1)):Tab w:=fun i hi=>by
  rw [hA.old h.lt hn]; exact h i hi
theorem jm:(Tryz.prog.info? 5).map (·.size)=some 1:=af
theorem pO:(Tryz.prog.info? 135).map (·.size)=some 1:=af
theorem qU:bu Tryz.prog 135=true:=af
theorem val_u64 {a b:Int} (h:a=b):Value.int .u64 a= .int .u64 b:=by rw [h]
def Wrote (w:World) (hb:Nat) (m:List UInt8) (e:Ending) (w':World):Prop:=e= .returned (.tuple #[])∧∃ cs,HS m cs∧At w [(hb,246,cs)] w'
theorem sJ (w0 x:World) (hb:Nat) (st:List Nat) (rest:List UInt8) (n:Nat) (hA:At w0 [(hb,246,hcells st rest n)] x) (hst:st.length=8) (hlt:∀ y∈st,y<4294967296) (hr:rest.length=64)
    (A:Option Addr) (bs:List UInt8) (c:Nat) (hB:Bts x A bs) (hl:bs.length=64) (hT:Tab x) :
    Calls Tryz.prog 197 #[.pointer (some ⟨hb,0,none⟩),.slice A 64 c] x fun e w'=>e= .returned (.tuple #[])∧At w0 [(hb,246,hcells (compress st bs) rest n)] w':=by
  obtain ⟨pb,po,rfl,hpb,hcell⟩:=hB (fun e=>by rw [e] at hl; exact absurd hl ae)
  have hrow:x.heap[hb]? = some (.cells (hcells st rest n).toArray 246 (0,0)):=hA.row (k:=0) rfl
  refine (take_any x hb 0 246 _ st hrow (vP hst) hst hlt (by rw [dM hst hr]; decide) pb po c bs
    (fun i hi=>(hA.cell (k:=0) rfl _).trans (xx hst hi)) (fun i hi=>hcell i ag) hpb hT).mono ?_
  rintro e w' ⟨he,hA'⟩
  refine ⟨he,?_⟩
  rw [uJ hst (mr _ _)] at hA'
  exact hA.then1 (k:=0) rfl hA'
set_option maxRecDepth 100000 in
set_option maxHeartbeats 8000000 in
theorem write_any (w:World) (hb:Nat) (m:List UInt8) (cs:List Value) (hH:HS m cs) (hrow:w.heap[hb]? = some (.cells cs.toArray 246 (0,0))) (A:Option Addr) (l:List UInt8) (c:Nat)
    (hr:Bts w A l) (hc:l.length≤c) (hoff:Off A hb) (hsz:m.length+l.length<1152921504606846976) (hT:Tab w) (hb0:hb≠2) :
    Calls Tryz.prog 163 #[.pointer (some ⟨hb,0,none⟩),.slice A l.length c] w (Wrote w hb (m++l)):=by
  obtain ⟨rest,hrl,hrt,rfl⟩:=hH
  have hA0:=At.start1 hrow
  have hTa:∀ (L:List Value) (x:World),At w [(hb,246,L)] x→Tab x:=fun L x hx=>hT.at_ hx (by simpa using hb0.symm)
  by_cases h0:m.length%64=0
  · have e1:(m.length:Int)%64=0:=by omega
    have HN0:=Lib.hid (iM (n:=m.length) (aX (m.length/64) init8 m rfl) hrl)
    have H0:=Lib.hid h0
    have Hrl:=Lib.hid hrl
    obtain ⟨m1,Hm1⟩:∃ m1,Hid (m1=m):=⟨m,rfl⟩
    obtain ⟨l1,Hl1⟩:∃ l1,Hid (l1=l):=⟨l,rfl⟩
    clear hrl h0 hrt hrow
    go_enter Tryz.func163,Tryz.ntmps163
    go_wp2_with (first
      | (with_reducible refine gq rfl ?_
         refine wpList_plain rfl (fun _ hK=>jM (off:=72) rfl hA0 O 0 O HN0.out qU (hK _ _ ?_)); clear hK))
    have hE:Hid (m1++l1=m++l):=by rw [Hm1.out,Hl1.out]; exact rfl
    have HM0:Hid (m1.length%64=0):=by rw [Hm1.out]; exact H0.out
    have hsz1:m1.length+l1.length<1152921504606846976:=by rw [Hm1.out,Hl1.out]; exact hsz
    obtain ⟨R1,HR1e⟩:∃ R1,Hid (R1=rest):=⟨rest,rfl⟩
    have HR1:Hid (R1.length=64):=by rw [HR1e.out]; exact Hrl.out
    obtain ⟨r0,A0,c0,hrc0,hlr0,hB0,hO0,hA1,hp0⟩:∃ r A' c',r≤c'∧Hid (l1.length=64*0+r)∧Bts w A' (l1.drop (64*0))∧Off A' hb∧At w [(hb,246,hcells (blocks (m1.length/64+0) init8 (m1++l1)) R1 (m1.length+64*0))] w∧Hid (Value.slice A l.length c= .slice A' r c'):=by
      rw [Hm1.out,Hl1.out,HR1e.out]
      refine ⟨l.length,A,c,hc,Lib.hid ag,by simpa using hr,hoff,?_,rfl⟩
      rw [Nat.add_zero,Nat.mul_zero,Nat.add_zero,fK _ _ _ _ ag]
      exact hA0
    clear hA0 e1
    rw [hp0.out]
    go_loopw [1] (fun p wr=>∃ j r A' c',Hid (l1.length=64*j+r)∧p= .slice A' r c'∧r≤c'∧Bts w A' (l1.drop (64*j))∧Off A' hb∧At w [(hb,246,hcells (blocks (m1.length/64+j) init8 (m1++l1)) R1 (m1.length+64*j))] wr) (fun p _=>lenV p)
    case atStart=>exact ⟨0,r0,A0,c0,hlr0,rfl,hrc0,hB0,hO0,hA1⟩
    case round =>
      clear hA1 hB0 hO0 hrc0 hlr0 hp0
      obtain ⟨j,r,A',c',hlr,rfl,hrc,hB,hO,hAr⟩:=hrel
      by_cases h64:64≤r
      · have h64i:(64:Int)≤r:=by omega
        have hle64:64≤c':=by omega
        go_wp2
        haveI:Nonempty { x:World // At w [(hb,246,hcells (blocks (m1.length/64+j) init8 (m1++l1)) R1 (m1.length+64*j))] x }:=⟨⟨_,hAr⟩⟩
        refine aT 5 [5] [0,1,2,3,4,5] (At w [(hb,246,hcells (blocks (m1.length/64+j) init8 (m1++l1)) R1 (m1.length+64*j))]) af af (hAr.drew) ?_
        refine ax O O (fun K hK=>?_); go_simp; refine hK _ ?_
        refine ax O O (fun K hK=>?_); go_simp; refine hK _ ?_
        refine ax O O (fun K hK=>?_); go_simp; refine hK _ ?_
        refine ax O O (fun K hK=>?_); go_simp; refine hK _ ?_
        refine dP O O O (.slice A' 64 c') (fun x hx=>mO rfl PZ jm rfl 0 64 (by exact cO 0) (by exact je _ _ _ _ O) ae hle64 (by rw [sub_zero]; rfl)) ?_
        refine fF O O O (fun K hK=>?_); go_simp
        refine (sJ w _ hb _ _ _ hAr.drew (aX _ _ _ O) (nK _ _ _ oP) HR1.out _ ((l1.drop (64*j)).take 64) c' (((hB.take 64).at_ hAr (by simpa using hO)).drew 1) (by rw [List.length_take,List.length_drop]; have:=hlr.out; omega) (hTa _ _ hAr.drew)).mono ?_
        rintro e' w5 ⟨rfl,hA5⟩
        go_simp
        refine hK _ _ (fun h=>absurd h ae) ?_
        refine bG ?_
        have Hbm:=Lib.hid (uu m1 l1 j HM0.out)
        have hA6:At w [(hb,246,hcells (blocks (m1.length/64+(j+1)) init8 (m1++l1)) R1 (m1.length+64*j))] w5:=by rw [← Hbm.out]; exact hA5
        have HNj:=Lib.hid (iM (n:=m1.length+64*j) (aX (m1.length/64+(j+1)) init8 (m1++l1) rfl) HR1.out)
        have HSj:=Lib.hid (jy (n:=m1.length+64*j) (n':=m1.length+64*(j+1)) (aX (m1.length/64+(j+1)) init8 (m1++l1) rfl) HR1.out)
        have HLj:=Lib.hid (dM (n:=m1.length+64*j) (aX (m1.length/64+(j+1)) init8 (m1++l1) rfl) HR1.out)
        have hsj:m1.length+64*j+64<18446744073709551616:=by have:=hlr.out; omega
        clear hA5
        go_wp2_with (first
          | (with_reducible refine gq rfl ?_
             refine wpList_plain rfl (fun _ hK=>jM (off:=72) rfl hA6 O 0 O HNj.out qU (hK _ _ ?_)); clear hK)
          | (with_reducible refine gJ rfl ?_
             refine wpList_plain rfl (fun _ hK=>eH (off:=72) rfl hA6 O (v:= .int .u64 ((m1.length+64*(j+1):Nat):Int)) (val_u64 ag) 0 O (by rw [HLj.out]; decide) rfl pO (fun w7 hA7=>hK _ _ ?_)); clear hK
             replace hA7:At w [(hb,246,hcells (blocks (m1.length/64+(j+1)) init8 (m1++l1)) R1 (m1.length+64*(j+1)))] w7:=by rw [← HSj.out]; exact hA7)
          | (with_reducible refine jO rfl ?_
             refine wpList_plain rfl (fun _ hK=>lI (l:=64) (h:=r) rfl PZ jm rfl (je _ _ _ _ O) (cO r) h64 hrc (hK _ _ ?_)); clear hK))
        go_roundw
        case rel =>
          refine ⟨j+1,r-64,sub A' 64 c' 1,c'-64,Lib.hid (by have:=hlr.out; omega),rfl,ag,?_,hO.sub,hA7⟩
          have h8:=hB.drop 64 (cap:=c') (by rw [List.length_drop]; have:=hlr.out; omega)
          rw [List.drop_drop,show 64*j+64=64*(j+1) by omega] at h8
          exact h8
        case measure=>simp [lenV]; omega
      · have h64i:(r:Int)<64:=by omega
        go_wp2
        obtain ⟨N1,HN1⟩:∃ n,Hid (n=m1.length+64*j):=⟨_,rfl⟩
        obtain ⟨l',Hl'⟩:∃ x,Hid (x=l1.drop (64*j)):=⟨_,rfl⟩
        have Hr':Hid (l'.length=r):=by rw [Hl'.out]; exact (by rw [List.length_drop]; have:=hlr.out; omega:(l1.drop (64*j)).length=r)
        have hB':Bts w A' l':=by rw [Hl'.out]; exact hB
        rw [← HN1.out] at hAr
        have hl64:l'.length<64:=by have:=Hr'.out; omega
        have hN64:N1+l'.length<1152921504606846976:=by have h7:=HN1.out; have h8:=hlr.out; have h9:=Hr'.out; omega
        have HNj:=Lib.hid (iM (n:=N1) (aX (m1.length/64+j) init8 (m1++l1) rfl) HR1.out)
        have Hpj:=Lib.hid (nZ (n:=N1) (st:=blocks (m1.length/64+j) init8 (m1++l1)) (rest:=R1) (o:=0) (l:=l') (aX _ _ _ rfl) HR1.out ag)
        have Hpl2:Hid ((put R1 0 l').length=64):=by
          have h7:=HR1.out
          exact (by rw [kH ag,h7]:(put R1 0 l').length=64)
        have HLj:=Lib.hid (dM (n:=N1) (aX (m1.length/64+j) init8 (m1++l1) rfl) HR1.out)
        have HLj2:=Lib.hid (dM (n:=N1) (aX (m1.length/64+j) init8 (m1++l1) rfl) Hpl2.out)
        have HNj2:=Lib.hid (iM (n:=N1) (aX (m1.length/64+j) init8 (m1++l1) rfl) Hpl2.out)
        have HSj:=Lib.hid (jy (n:=N1) (n':=N1+l'.length) (aX (m1.length/64+j) init8 (m1++l1) rfl) Hpl2.out)
        have e2:IntKind.u64.wrap ((N1:Int)+(l'.length:Int))=(N1:Int)+l'.length:=by rw [IntKind.wrap_u64]; omega
        have e3:IntKind.u64.wrap (l'.length:Int)=l'.length:=by rw [IntKind.wrap_u64]; omega
        haveI:Nonempty { x:World // (fun x:World=>x.cell? ⟨hb,72,none⟩=some (.int .u64 (N1:Int))) x }:=⟨⟨_,(hAr.cell (k:=0) rfl 72).trans HNj.out⟩⟩
        refine aT 14 [9,14] [0,1,2,3,4,5,6,7,8,9,10,11,12,13,14] (fun x:World=>x.cell? ⟨hb,72,none⟩=some (.int .u64 (N1:Int))) af af ((hAr.drew.cell (k:=0) rfl 72).trans HNj.out) ?_
        refine ax O O (fun K hK=>?_); go_simp; refine hK _ ?_
        refine ax O O (fun K hK=>?_); go_simp; refine hK _ ?_
        refine ax O O (fun K hK=>?_); go_simp; refine hK _ ?_
        refine dP O O O _ (fun x hx=>bZ rfl rfl hx qU) ?_
        refine ax O O (fun K hK=>?_); go_simp; refine hK _ ?_
        refine ax O O (fun K hK=>?_); go_simp; refine hK _ ?_
        refine ax O O (fun K hK=>?_); go_simp; refine hK _ ?_
        refine dP O O O (.slice (some ⟨hb,8,none⟩) 64 64) (fun x hx=>jZ rfl Qx jm rfl 0 64 (by exact cO 0) (by exact cO 64) ae ae (by rw [sub_zero])) ?_
        refine ax O O (fun K hK=>?_); go_simp; refine hK _ ?_
        refine fF O O O (fun K hK=>oD (l:=l') rfl hAr.drew PZ jm rfl rfl (by rw [Hr'.out]; exact (Nat.min_eq_left ag).symm) ((hB'.at_ hAr (by simpa using hO)).drew 1) 0 O (fun _=>rfl) (by rw [HLj.out]; omega) (fun w8 hA8=>hK _ _ (fun _=>(hA8.cell (k:=0) rfl 72).trans (by rw [Hpj.out]; exact HNj2.out)) ?_))
        replace hA8:At w [(hb,246,hcells (blocks (m1.length/64+j) init8 (m1++l1)) (put R1 0 l') N1)] w8:=by rw [← Hpj.out]; exact hA8
        refine ax O O (fun K hK=>?_); go_simp; refine hK _ ?_
        refine ax O O (fun K hK=>?_); go_simp; refine hK _ ?_
        refine ax O O (fun K hK=>?_); go_simp; refine hK _ ?_
        refine ax O O (fun K hK=>?_); go_simp; refine hK _ ?_
        refine fF O O O (fun K hK=>eH (off:=72) rfl hA8 O (v:= .int .u64 ((N1+l'.length:Nat):Int)) (val_u64 ag) 0 O (by rw [HLj2.out]; decide) rfl pO (fun w9 hA9=>hK _ _ (fun h=>absurd h ae) ?_))
        replace hA9:At w [(hb,246,hcells (blocks (m1.length/64+j) init8 (m1++l1)) (put R1 0 l') (N1+l'.length))] w9:=by rw [← HSj.out]; exact hA9
        refine bG ?_
        clear e2 e3
        have hlr2:Hid (m1++l1=m1++l1.take (64*j)++l'):=by rw [Hl'.out,List.append_assoc,List.take_append_drop]; exact rfl
        have hln:(m1++l1.take (64*j)).length=N1:=by rw [HN1.out,List.length_append,List.length_take]; have:=hlr.out; omega
        have h0':=HM0.out
        have h9:=HS.tail (m1++l1.take (64*j)) l' R1 HR1.out (by rw [hln,HN1.out]; omega) hl64
        have h10:N1/64=m1.length/64+j:=by rw [HN1.out]; omega
        rw [← hlr2.out,hln,h10,hE.out] at h9
        have h11:blocks (m1.length/64+j) init8 (m1++l1)=blocks (m1.length/64+j) init8 (m1++l1.take (64*j)):=by
          rw [hlr2.out]; exact fK _ _ _ _ (by rw [hln,← h10]; omega)
        rw [← h11] at h9
        go_wp2
        refine bodyPost_end (results_none rfl _ _ _) rfl ?_
        exact ⟨rfl,_,h9,hA9⟩
  · obtain ⟨q,hq⟩:∃ q:Nat,q=m.length%64:=⟨_,rfl⟩
    have hq0:0<q:=by omega
    have hq1:q<64:=by omega
    have e1:(m.length:Int)%64=q:=by omega
    obtain ⟨l0,lx,hle,hl0⟩:∃ l0 lx,l=l0++lx∧l0.length=min l.length (64-q):=⟨l.take (64-q),l.drop (64-q),(List.take_append_drop _ _).symm,by rw [List.length_take]; omega⟩
    have hlen:l.length=l0.length+lx.length:=by rw [hle,List.length_append]
    have HN0:=Lib.hid (iM (n:=m.length) (aX (m.length/64) init8 m rfl) hrl)
    have HB0:Bts w A l0:=by have:=hr.take l0.length; rw [hle,List.take_left'] at this; exact this; rfl
    have HBx:Bts w (sub A l0.length c 1) lx:=by have:=hr.drop l0.length hc; rw [hle,List.drop_left'] at this; exact this; rfl
    have Hput:=Lib.hid (nZ (n:=m.length) (st:=blocks (m.length/64) init8 m) (rest:=rest) (o:=q) (l:=l0) (aX _ _ _ rfl) hrl ag)
    have Hpl:(put rest q l0).length=64:=by rw [kH ag,hrl]
    have HN1:=Lib.hid (iM (n:=m.length) (aX (m.length/64) init8 m rfl) Hpl)
    have HS1:=Lib.hid (jy (n:=m.length) (n':=m.length+l0.length) (aX (m.length/64) init8 m rfl) Hpl)
    have HPl:=Lib.hid Hpl
    have Hll:=Lib.hid (dM (n:=m.length) (aX (m.length/64) init8 m rfl) hrl)
    have Hll1:=Lib.hid (dM (n:=m.length) (aX (m.length/64) init8 m rfl) Hpl)
    have Hl0:=Lib.hid hl0
    have Hlen:=Lib.hid hlen
    have Hrl:=Lib.hid hrl
    have Hrt:=Lib.hid hrt
    have Hle:=Lib.hid hle
    have hk1:l0.length≤64-q:=by omega
    have hk2:l0.length≤l.length:=by omega
    have hk3:q+l0.length<64→lx=[]:=fun h=>List.eq_nil_of_length_eq_zero ag
    have Hk3:=Lib.hid hk3
    have Hq:=Lib.hid hq
    have hqi:(0:Int)<q:=by omega
    clear hrl h0 hrt hrow hl0 hlen hle hk3 Hpl hq
    by_cases hfull:q+l0.length<64
    · have hfi:(q:Int)+l0.length<64:=by omega
      go_enter Tryz.func163,Tryz.ntmps163
      go_wp2_with (first
        | (with_reducible refine gq rfl ?_
           refine wpList_plain rfl (fun _ hK=>jM (off:=72) rfl hA0 O 0 O HN0.out qU (hK _ _ ?_)); clear hK)
        | (with_reducible refine jO rfl ?_
           refine wpList_plain rfl (fun _ hK=>kR (l:=q) (h:=64) rfl Qx jm rfl (jB _ _ _) (cO 64) ag (P5 _) (hK _ _ ?_)); clear hK
           rw [sub_lt hq1])
        | (with_reducible refine BZ (b:= .copy) rfl ?_
           refine wpList_plain rfl (fun _ hK=>oD (l:=l0) rfl hA0 PZ jm rfl rfl Hl0.out HB0 0 O (fun _=>rfl) (by rw [Hll.out]; omega) (fun w2 hA2=>hK _ _ ?_)); clear hK
           replace hA2:At w [(hb,246,hcells (blocks (m.length/64) init8 m) (put rest q l0) m.length)] w2:=by rw [← Hput.out]; exact hA2)
        | (with_reducible refine gq rfl ?_
           refine wpList_plain rfl (fun _ hK=>jM (off:=72) rfl hA2 O 0 O HN1.out qU (hK _ _ ?_)); clear hK)
        | (with_reducible refine gJ rfl ?_
           refine wpList_plain rfl (fun _ hK=>eH (off:=72) rfl hA2 O (v:= .int .u64 ((m.length+l0.length:Nat):Int)) (val_u64 ag) 0 O (by rw [Hll1.out]; decide) rfl pO (fun w3 hA3=>hK _ _ ?_)); clear hK
           replace hA3:At w [(hb,246,hcells (blocks (m.length/64) init8 m) (put rest q l0) (m.length+l0.length))] w3:=by rw [← HS1.out]; exact hA3)
        | (with_reducible refine jO rfl ?_
           refine wpList_plain rfl (fun _ hK=>lI (l:=l0.length) (h:=l.length) rfl PZ jm rfl (jB _ _ _) (cO l.length) hk2 hc (hK _ _ ?_)); clear hK))
      refine bodyPost_ret (results_none rfl _ _ _) rfl ?_
      refine ⟨rfl,_,?_,hA3⟩
      have h4:=HS.part m l0 rest Hrl.out Hrt.out (by rw [← Hq.out]; exact hfull)
      rw [← Hq.out] at h4
      rw [Hle.out,Hk3.out hfull,List.append_nil]
      exact h4
    · have hfi:(64:Int)≤(q:Int)+l0.length:=by omega
      have hfe:q+l0.length=64:=by omega
      obtain ⟨hF1,hF2⟩:=fills m l0 rest Hrl.out Hrt.out (by rw [← Hq.out]; exact hfe)
      rw [← Hq.out] at hF1
      have HF1:=Lib.hid hF1
      have HF2:=Lib.hid hF2
      clear hF1 hF2 hfe
      go_enter Tryz.func163,Tryz.ntmps163
      go_wp2_with (first
        | (with_reducible refine gq rfl ?_
           refine wpList_plain rfl (fun _ hK=>jM (off:=72) rfl hA0 O 0 O HN0.out qU (hK _ _ ?_)); clear hK)
        | (with_reducible refine jO rfl ?_
           refine wpList_plain rfl (fun _ hK=>kR (l:=q) (h:=64) rfl Qx jm rfl (jB _ _ _) (cO 64) ag (P5 _) (hK _ _ ?_)); clear hK
           rw [sub_lt hq1])
        | (with_reducible refine BZ (b:= .copy) rfl ?_
           refine wpList_plain rfl (fun _ hK=>oD (l:=l0) rfl hA0 PZ jm rfl rfl Hl0.out HB0 0 O (fun _=>rfl) (by rw [Hll.out]; omega) (fun w2 hA2=>hK _ _ ?_)); clear hK
           replace hA2:At w [(hb,246,hcells (blocks (m.length/64) init8 m) (put rest q l0) m.length)] w2:=by rw [← Hput.out]; exact hA2)
        | (with_reducible refine gq rfl ?_
           refine wpList_plain rfl (fun _ hK=>jM (off:=72) rfl hA2 O 0 O HN1.out qU (hK _ _ ?_)); clear hK)
        | (with_reducible refine gJ rfl ?_
           refine wpList_plain rfl (fun _ hK=>eH (off:=72) rfl hA2 O (v:= .int .u64 ((m.length+l0.length:Nat):Int)) (val_u64 ag) 0 O (by rw [Hll1.out]; decide) rfl pO (fun w3 hA3=>hK _ _ ?_)); clear hK
           replace hA3:At w [(hb,246,hcells (blocks (m.length/64) init8 m) (put rest q l0) (m.length+l0.length))] w3:=by rw [← HS1.out]; exact hA3)
        | (with_reducible refine jO rfl ?_
           refine wpList_plain rfl (fun _ hK=>lI (l:=l0.length) (h:=l.length) rfl PZ jm rfl (jB _ _ _) (cO l.length) hk2 hc (hK _ _ ?_)); clear hK))
      have hTx:=Lib.hid hTa
      haveI:Nonempty { x:World // At w [(hb,246,hcells (blocks (m.length/64) init8 m) (put rest q l0) (m.length+l0.length))] x }:=⟨⟨_,hA3⟩⟩
      refine aT 7 [7] [0,1,2,3,4,5,6,7] (At w [(hb,246,hcells (blocks (m.length/64) init8 m) (put rest q l0) (m.length+l0.length))]) af af (hA3.drew) ?_
      refine ax O O (fun K hK=>?_); go_simp; refine hK _ ?_
      refine ax O O (fun K hK=>?_); go_simp; refine hK _ ?_
      refine ax O O (fun K hK=>?_); go_simp; refine hK _ ?_
      refine ax O O (fun K hK=>?_); go_simp; refine hK _ ?_
      refine ax O O (fun K hK=>?_); go_simp; refine hK _ ?_
      refine ax O O (fun K hK=>?_); go_simp; refine hK _ ?_
      refine dP O O O (.slice (some ⟨hb,8,none⟩) 64 64) (fun x hx=>jZ rfl Qx jm rfl 0 64 (by exact cO 0) (by exact cO 64) ae ae (by rw [sub_zero])) ?_
      refine fF O O O (fun K hK=>?_); go_simp
      refine (sJ w _ hb _ _ _ hA3.drew (aX _ _ _ O) (nK _ _ _ oP) HPl.out _ (put rest q l0) 64 (Bts.row hA3.drew (k:=0) rfl (yV (aX _ _ _ O) HPl.out)) HPl.out (hTa _ _ hA3.drew)).mono ?_
      rintro e' w4 ⟨rfl,hA4⟩
      go_simp
      refine hK _ _ (fun h=>absurd h ae) ?_
      refine bG ?_
      go_wp2_with fail
      obtain ⟨m1,Hm1⟩:∃ m1,Hid (m1=m++l0):=⟨_,rfl⟩
      obtain ⟨l1,Hl1⟩:∃ l1,Hid (l1=lx):=⟨_,rfl⟩
      have hE:Hid (m1++l1=m++l):=by rw [Hm1.out,Hl1.out,Hle.out,List.append_assoc]; exact rfl
      have HM0:Hid (m1.length%64=0):=by rw [Hm1.out]; exact HF2.out
      have hsz1:m1.length+l1.length<1152921504606846976:=by rw [Hm1.out,Hl1.out,List.length_append]; have:=Hlen.out; omega
      obtain ⟨R1,HR1e⟩:∃ R1,Hid (R1=put rest q l0):=⟨_,rfl⟩
      have HR1:Hid (R1.length=64):=by rw [HR1e.out]; exact HPl.out
      obtain ⟨r0,A0,c0,hrc0,hlr0,hB0,hO0,hA1,hp0⟩:∃ r A' c',r≤c'∧Hid (l1.length=64*0+r)∧Bts w A' (l1.drop (64*0))∧Off A' hb∧At w [(hb,246,hcells (blocks (m1.length/64+0) init8 (m1++l1)) R1 (m1.length+64*0))] w4∧Hid (Value.slice (sub A l0.length c 1) (l.length-l0.length) (c-l0.length)= .slice A' r c'):=by
        have h5:=Hlen.out
        refine ⟨lx.length,sub A l0.length c 1,c-l0.length,ag,Lib.hid (by rw [Hl1.out]; omega),by rw [Hl1.out]; simpa using HBx,hoff.sub,?_,by rw [show l.length-l0.length=lx.length by omega]; exact rfl⟩
        have h6:=HM0.out
        rw [Nat.add_zero,Nat.mul_zero,Nat.add_zero,fK _ _ _ _ ag,Hm1.out,← HF1.out,HR1e.out,List.length_append]
        exact hA4
      clear hA4 hA3 hA2 hA0 e1 hfi
      rw [hp0.out]
      go_loopw [1] (fun p wr=>∃ j r A' c',Hid (l1.length=64*j+r)∧p= .slice A' r c'∧r≤c'∧Bts w A' (l1.drop (64*j))∧Off A' hb∧At w [(hb,246,hcells (blocks (m1.length/64+j) init8 (m1++l1)) R1 (m1.length+64*j))] wr) (fun p _=>lenV p)
      case atStart=>exact ⟨0,r0,A0,c0,hlr0,rfl,hrc0,hB0,hO0,hA1⟩
      case round =>
        clear hA1 hB0 hO0 hrc0 hlr0 hp0
        obtain ⟨j,r,A',c',hlr,rfl,hrc,hB,hO,hAr⟩:=hrel
        by_cases h64:64≤r
        · have h64i:(64:Int)≤r:=by omega
          have hle64:64≤c':=by omega
          go_wp2
          haveI:Nonempty { x:World // At w [(hb,246,hcells (blocks (m1.length/64+j) init8 (m1++l1)) R1 (m1.length+64*j))] x }:=⟨⟨_,hAr⟩⟩
          refine aT 5 [5] [0,1,2,3,4,5] (At w [(hb,246,hcells (blocks (m1.length/64+j) init8 (m1++l1)) R1 (m1.length+64*j))]) af af (hAr.drew) ?_
          refine ax O O (fun K hK=>?_); go_simp; refine hK _ ?_
          refine ax O O (fun K hK=>?_); go_simp; refine hK _ ?_
          refine ax O O (fun K hK=>?_); go_simp; refine hK _ ?_
          refine ax O O (fun K hK=>?_); go_simp; refine hK _ ?_
          refine dP O O O (.slice A' 64 c') (fun x hx=>mO rfl PZ jm rfl 0 64 (by exact cO 0) (by exact je _ _ _ _ O) ae hle64 (by rw [sub_zero]; rfl)) ?_
          refine fF O O O (fun K hK=>?_); go_simp
          refine (sJ w _ hb _ _ _ hAr.drew (aX _ _ _ O) (nK _ _ _ oP) HR1.out _ ((l1.drop (64*j)).take 64) c' (((hB.take 64).at_ hAr (by simpa using hO)).drew 1) (by rw [List.length_take,List.length_drop]; have:=hlr.out; omega) (hTa _ _ hAr.drew)).mono ?_
          rintro e' w5 ⟨rfl,hA5⟩
          go_simp
          refine hK _ _ (fun h=>absurd h ae) ?_
          refine bG ?_
          have Hbm:=Lib.hid (uu m1 l1 j HM0.out)
          have hA6:At w [(hb,246,hcells (blocks (m1.length/64+(j+1)) init8 (m1++l1)) R1 (m1.length+64*j))] w5:=by rw [← Hbm.out]; exact hA5
          have HNj:=Lib.hid (iM (n:=m1.length+64*j) (aX (m1.length/64+(j+1)) init8 (m1++l1) rfl) HR1.out)
          have HSj:=Lib.hid (jy (n:=m1.length+64*j) (n':=m1.length+64*(j+1)) (aX (m1.length/64+(j+1)) init8 (m1++l1) rfl) HR1.out)
          have HLj:=Lib.hid (dM (n:=m1.length+64*j) (aX (m1.length/64+(j+1)) init8 (m1++l1) rfl) HR1.out)
          have hsj:m1.length+64*j+64<18446744073709551616:=by have:=hlr.out; omega
          clear hA5
          go_wp2_with (first
            | (with_reducible refine gq rfl ?_
               refine wpList_plain rfl (fun _ hK=>jM (off:=72) rfl hA6 O 0 O HNj.out qU (hK _ _ ?_)); clear hK)
            | (with_reducible refine gJ rfl ?_
               refine wpList_plain rfl (fun _ hK=>eH (off:=72) rfl hA6 O (v:= .int .u64 ((m1.length+64*(j+1):Nat):Int)) (val_u64 ag) 0 O (by rw [HLj.out]; decide) rfl pO (fun w7 hA7=>hK _ _ ?_)); clear hK
               replace hA7:At w [(hb,246,hcells (blocks (m1.length/64+(j+1)) init8 (m1++l1)) R1 (m1.length+64*(j+1)))] w7:=by rw [← HSj.out]; exact hA7)
            | (with_reducible refine jO rfl ?_
               refine wpList_plain rfl (fun _ hK=>lI (l:=64) (h:=r) rfl PZ jm rfl (je _ _ _ _ O) (cO r) h64 hrc (hK _ _ ?_)); clear hK))
          go_roundw
          case rel =>
            refine ⟨j+1,r-64,sub A' 64 c' 1,c'-64,Lib.hid (by have:=hlr.out; omega),rfl,ag,?_,hO.sub,hA7⟩
            have h8:=hB.drop 64 (cap:=c') (by rw [List.length_drop]; have:=hlr.out; omega)
            rw [List.drop_drop,show 64*j+64=64*(j+1) by omega] at h8
            exact h8
          case measure=>simp [lenV]; omega
        · have h64i:(r:Int)<64:=by omega
          go_wp2
          obtain ⟨N1,HN1⟩:∃ n,Hid (n=m1.length+64*j):=⟨_,rfl⟩
          obtain ⟨l',Hl'⟩:∃ x,Hid (x=l1.drop (64*j)):=⟨_,rfl⟩
          have Hr':Hid (l'.length=r):=by rw [Hl'.out]; exact (by rw [List.length_drop]; have:=hlr.out; omega:(l1.drop (64*j)).length=r)
          have hB':Bts w A' l':=by rw [Hl'.out]; exact hB
          rw [← HN1.out] at hAr
          have hl64:l'.length<64:=by have:=Hr'.out; omega
          have hN64:N1+l'.length<1152921504606846976:=by have h7:=HN1.out; have h8:=hlr.out; have h9:=Hr'.out; omega
          have HNj:=Lib.hid (iM (n:=N1) (aX (m1.length/64+j) init8 (m1++l1) rfl) HR1.out)
          have Hpj:=Lib.hid (nZ (n:=N1) (st:=blocks (m1.length/64+j) init8 (m1++l1)) (rest:=R1) (o:=0) (l:=l') (aX _ _ _ rfl) HR1.out ag)
          have Hpl2:Hid ((put R1 0 l').length=64):=by
            have h7:=HR1.out
            exact (by rw [kH ag,h7]:(put R1 0 l').length=64)
          have HLj:=Lib.hid (dM (n:=N1) (aX (m1.length/64+j) init8 (m1++l1) rfl) HR1.out)
          have HLj2:=Lib.hid (dM (n:=N1) (aX (m1.length/64+j) init8 (m1++l1) rfl) Hpl2.out)
          have HNj2:=Lib.hid (iM (n:=N1) (aX (m1.length/64+j) init8 (m1++l1) rfl) Hpl2.out)
          have HSj:=Lib.hid (jy (n:=N1) (n':=N1+l'.length) (aX (m1.length/64+j) init8 (m1++l1) rfl) Hpl2.out)
          have e2:IntKind.u64.wrap ((N1:Int)+(l'.length:Int))=(N1:Int)+l'.length:=by rw [IntKind.wrap_u64]; omega
          have e3:IntKind.u64.wrap (l'.length:Int)=l'.length:=by rw [IntKind.wrap_u64]; omega
          haveI:Nonempty { x:World // (fun x:World=>x.cell? ⟨hb,72,none⟩=some (.int .u64 (N1:Int))) x }:=⟨⟨_,(hAr.cell (k:=0) rfl 72).trans HNj.out⟩⟩
          refine aT 14 [9,14] [0,1,2,3,4,5,6,7,8,9,10,11,12,13,14] (fun x:World=>x.cell? ⟨hb,72,none⟩=some (.int .u64 (N1:Int))) af af ((hAr.drew.cell (k:=0) rfl 72).trans HNj.out) ?_
          refine ax O O (fun K hK=>?_); go_simp; refine hK _ ?_
          refine ax O O (fun K hK=>?_); go_simp; refine hK _ ?_
          refine ax O O (fun K hK=>?_); go_simp; refine hK _ ?_
          refine dP O O O _ (fun x hx=>bZ rfl rfl hx qU) ?_
          refine ax O O (fun K hK=>?_); go_simp; refine hK _ ?_
          refine ax O O (fun K hK=>?_); go_simp; refine hK _ ?_
          refine ax O O (fun K hK=>?_); go_simp; refine hK _ ?_
          refine dP O O O (.slice (some ⟨hb,8,none⟩) 64 64) (fun x hx=>jZ rfl Qx jm rfl 0 64 (by exact cO 0) (by exact cO 64) ae ae (by rw [sub_zero])) ?_
          refine ax O O (fun K hK=>?_); go_simp; refine hK _ ?_
          refine fF O O O (fun K hK=>oD (l:=l') rfl hAr.drew PZ jm rfl rfl (by rw [Hr'.out]; exact (Nat.min_eq_left ag).symm) ((hB'.at_ hAr (by simpa using hO)).drew 1) 0 O (fun _=>rfl) (by rw [HLj.out]; omega) (fun w8 hA8=>hK _ _ (fun _=>(hA8.cell (k:=0) rfl 72).trans (by rw [Hpj.out]; exact HNj2.out)) ?_))
          replace hA8:At w [(hb,246,hcells (blocks (m1.length/64+j) init8 (m1++l1)) (put R1 0 l') N1)] w8:=by rw [← Hpj.out]; exact hA8
          refine ax O O (fun K hK=>?_); go_simp; refine hK _ ?_
          refine ax O O (fun K hK=>?_); go_simp; refine hK _ ?_
          refine ax O O (fun K hK=>?_); go_simp; refine hK _ ?_
          refine ax O O (fun K hK=>?_); go_simp; refine hK _ ?_
          refine fF O O O (fun K hK=>eH (off:=72) rfl hA8 O (v:= .int .u64 ((N1+l'.length:Nat):Int)) (val_u64 ag) 0 O (by rw [HLj2.out]; decide) rfl pO (fun w9 hA9=>hK _ _ (fun h=>absurd h ae) ?_))
          replace hA9:At w [(hb,246,hcells (blocks (m1.length/64+j) init8 (m1++l1)) (put R1 0 l') (N1+l'.length))] w9:=by rw [← HSj.out]; exact hA9
          refine bG ?_
          clear e2 e3
          have hlr2:Hid (m1++l1=m1++l1.take (64*j)++l'):=by rw [Hl'.out,List.append_assoc,List.take_append_drop]; exact rfl
          have hln:(m1++l1.take (64*j)).length=N1:=by rw [HN1.out,List.length_append,List.length_take]; have:=hlr.out; omega
          have h0':=HM0.out
          have h9:=HS.tail (m1++l1.take (64*j)) l' R1 HR1.out (by rw [hln,HN1.out]; omega) hl64
          have h10:N1/64=m1.length/64+j:=by rw [HN1.out]; omega
          rw [← hlr2.out,hln,h10,hE.out] at h9
          have h11:blocks (m1.length/64+j) init8 (m1++l1)=blocks (m1.length/64+j) init8 (m1++l1.take (64*j)):=by
            rw [hlr2.out]; exact fK _ _ _ _ (by rw [hln,← h10]; omega)
          rw [← h11] at h9
          go_wp2
          refine bodyPost_end (results_none rfl _ _ _) rfl ?_
          exact ⟨rfl,_,h9,hA9⟩
end Go.Proofs.YtepbmdlgdaedpaaGreatDoor
