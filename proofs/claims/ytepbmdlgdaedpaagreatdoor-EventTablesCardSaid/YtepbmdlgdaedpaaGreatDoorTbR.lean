/- What a Table is, the document's own: the walk. -/
import Derived.Test.YtepbmdlgdaedpaaGreatDoorTbW
import Derived.Test.YtepbmdlgdaedpaaGreatDoorR1
import Derived.Test.YtepbmdlgdaedpaaGreatDoorOctetS
import Derived.Test.YtepbmdlgdaedpaaGreatDoorKb
import Derived.Test.YtepbmdlgdaedpaaGreatDoorHc
import Derived.Test.YtepbmdlgdaedpaaGreatDoorEv6
import Derived.Test.YtepbmdlgdaedpaaGreatDoorEvW
import Derived.Test.YtepbmdlgdaedpaaGreatDoorHs
/- What a Table is, the document's own: the walk. -/
namespace Go.Proofs.YtepbmdlgdaedpaaGreatDoor
open Go.RowKit Go.Dk
theorem Fq:aP Tryz.prog 109:=⟨_,Tryz.func109,af,af⟩
theorem Fp:aP Tryz.prog 114:=⟨_,Tryz.func114,af,af⟩
theorem jk {P:Program} {Q:Exit→Act→World→Prop} {w:World} {n:Nat} {F:List (Nat × Value)} {a:Act} {ops:Array Oper} {S:World→Prop} {hd:Nat} {loud rest:List Nat} {i:Nat} {o:Oper} {d:Nat} (hF:Fr n F a) (ho:ops[i]? = some o) (hl:loud.contains i=false) (hdst:o.dst=some d) {j dj:Nat} {want:Bool} {oj:Oper} (hg:o.guard=some (j,want)) (hj:ops[j]? = some oj) (hdj:oj.dst=some dj) (hlk:Go.Dk.look F dj=some undef) (hlt:d<n)
  (h:∀ a',Fr n ((d,undef)::F) a'→cu P ops Q S hd loud rest a' w):cu P ops Q S hd loud (i::rest) a w:=by
 have h1:=hF.has dj _ hlk
 have h2:Region.wanted o (yielded ops a.tmps)=false:=by
  unfold Region.wanted
  simp only [hg,yielded,hj,hdj,Option.bind_some,h1]
  rfl
 refine vH ho h2 ?_ hl
 rw [hdst]
 exact h _ (hF.put hlt)
theorem OC (w:World):(Instr.buildSlice 27 2 #[(0,.int .u8 0),(1,.int .u8 0)]).run Tryz.prog w= .ok (.slice (some ⟨w.heap.size,0,none⟩) 2 2) (w.alloc (.cells (dc [0,0]).toArray 5)):=af
theorem Ns:(Tryz.prog.info? 4).map (fun i=>(i.zero.map (fun z=>z.cells.toList),i.size,i.bytes))=some (some (List.replicate 1 (.bool false)),1,1):=af
theorem Hf {w:List UInt8} (h:bP w=true):1≤w.length:=by
 unfold bP fO at h
 simp only [Bool.and_eq_true,decide_eq_true_eq] at h
 exact h.1.1.1.1
abbrev lbl (n:Nat) (os:List Nat):List Value:=(List.range n).map fun k=> .bool (decide (k∈os))
theorem KI {n:Nat}:lbl n []=List.replicate (n*1) (Value.bool false):=by
 rw [Nat.mul_one]
 apply List.ext_getElem?
 intro i
 by_cases hi:i<n
 ·rw [List.getElem?_map,List.getElem?_range hi,List.getElem?_replicate,if_pos hi]
  rfl
 ·rw [List.getElem?_eq_none (by simp; omega),List.getElem?_eq_none (by simp; omega)]
theorem Hg {n j:Nat} {os:List Nat} (h:j<n):(lbl n os)[0+j]? = some (.bool (decide (j∈os))):=by
 rw [Nat.zero_add,List.getElem?_map,List.getElem?_range h]
 rfl
theorem O1 {n j:Nat} {os:List Nat} (h:j<n) (hj:j∈os):(lbl n os)[0+j]? = some (.bool true):=by rw [Hg h,decide_eq_true hj]
theorem MR {n j:Nat} {os:List Nat} (h:j<n) (hj:¬ j∈os):(lbl n os)[0+j]? = some (.bool false):=by rw [Hg h,decide_eq_false hj]
theorem KH {n k:Nat} {os:List Nat} (h:k<n):(lbl n os).set (0+k) (.bool true)=lbl n (os++[k]):=by
 rw [Nat.zero_add]
 apply List.ext_getElem?
 intro i
 by_cases hi:i<n
 ·rw [List.getElem?_set,List.getElem?_map,List.getElem?_map,List.getElem?_range hi]
  by_cases hik:k=i
  ·subst hik
   rw [if_pos rfl,if_pos (by simp [h])]
   simp
  ·rw [if_neg hik]
   simp only [Option.map_some,List.mem_append,List.mem_singleton]
   congr 3
   exact propext ⟨fun h=> .inl h,fun h=>h.elim id fun e=>absurd e.symm hik⟩
 ·rw [List.getElem?_eq_none (by simp; omega),List.getElem?_eq_none (by simp; omega)]
theorem GY {l m:List Nat} (h:l.Nodup) (hs:l⊆m):l.length≤m.length:=by
 induction l generalizing m with
 | nil=>exact PU _
 | cons a l ih =>
  have ha:a∈m:=hs (P6 ..)
  have h2:=List.nodup_cons.1 h
  have h3:l⊆m.erase a:=fun x hx=>(List.mem_erase_of_ne (fun e=>by subst e; exact h2.1 hx)).2 (hs (P7 _ hx))
  have h4:=ih h2.2 h3
  have h5:=List.length_erase_of_mem ha
  have h6:=List.length_pos_of_mem ha
  rw [List.length_cons]
  omega
theorem Bq {l m:List Nat} (h:l.Nodup) (hs:l⊆m) (hl:m.length≤l.length):l.Perm m:=by
 induction l generalizing m with
 | nil =>
  have:m=[]:=List.length_eq_zero_iff.1 (Nat.le_zero.1 hl)
  rw [this]
 | cons a l ih =>
  have ha:a∈m:=hs (P6 ..)
  have h2:=List.nodup_cons.1 h
  have h3:l⊆m.erase a:=fun x hx=>(List.mem_erase_of_ne (fun e=>by subst e; exact h2.1 hx)).2 (hs (P7 _ hx))
  have h5:=List.length_erase_of_mem ha
  have h6:=List.length_pos_of_mem ha
  rw [List.length_cons] at hl
  exact ((ih h2.2 h3 ag).cons a).trans (List.perm_cons_erase ha).symm
structure Sel (ns:List (List UInt8)) (os:List Nat) (ln:List UInt8):Prop where
 nd:os.Nodup
 lt:∀ k∈os,k<ns.length
 rise:Ce ns os
 low:∀ u,u<ns.length→u ∉ os→∀ c∈os,¬ dm ns u<dm ns c
 last:(os=[]∧ln=[])∨∃ os' c,os=os'++[c]∧ln=dm ns c
theorem Sel.nil {ns:List (List UInt8)}:Sel ns [] []:=⟨List.nodup_nil,fun _ h=>(by cases h),List.Pairwise.nil,fun _ _ _ _ h=>(by cases h),.inl ⟨rfl,rfl⟩⟩
def MinK (ns:List (List UInt8)) (os:List Nat) (j:Nat) (kz:Int):Prop :=
 (kz = -1∧∀ u,u<j→u∈os)∨∃ k:Nat,kz=(k:Int)∧k<ns.length∧k ∉ os∧∀ u,u<j→u ∉ os→¬ dm ns u<dm ns k
theorem MinK.zero {ns:List (List UInt8)} {os:List Nat}:MinK ns os 0 (-1):= .inl ⟨rfl,fun u h=>absurd h (Nat.not_lt_zero u)⟩
theorem MinK.skip {ns:List (List UInt8)} {os:List Nat} {j:Nat} {kz:Int} (h:MinK ns os j kz) (hj:j∈os):MinK ns os (j+1) kz:=by
 rcases h with ⟨h1,h2⟩ | ⟨k,h1,h2,h3,h4⟩
 ·exact .inl ⟨h1,fun u hu=>if e:u=j then e ▸ hj else h2 u ag⟩
 ·exact .inr ⟨k,h1,h2,h3,fun u hu huo=>if e:u=j then absurd (e ▸ hj) huo else h4 u ag huo⟩
theorem MinK.first {ns:List (List UInt8)} {os:List Nat} {j:Nat} (hl:j<ns.length) (hj:¬ j∈os) (h:∀ u,u<j→u∈os):MinK ns os (j+1) ((j:Nat):Int) :=
 .inr ⟨j,rfl,hl,hj,fun u hu huo=>if e:u=j then by rw [e]; exact List.lt_irrefl _ else absurd (h u ag) huo⟩
theorem MinK.stay {ns:List (List UInt8)} {os:List Nat} {j k:Nat} (hk:k<ns.length) (hko:k ∉ os) (h:∀ u,u<j→u ∉ os→¬ dm ns u<dm ns k) (hn:¬ dm ns j<dm ns k):MinK ns os (j+1) ((k:Nat):Int) :=
 .inr ⟨k,rfl,hk,hko,fun u hu huo=>if e:u=j then by rw [e]; exact hn else h u ag huo⟩
theorem MinK.less {ns:List (List UInt8)} {os:List Nat} {j k:Nat} (hl:j<ns.length) (hj:¬ j∈os) (h:∀ u,u<j→u ∉ os→¬ dm ns u<dm ns k) (hn:dm ns j<dm ns k):MinK ns os (j+1) ((j:Nat):Int) :=
 .inr ⟨j,rfl,hl,hj,fun u hu huo=>if e:u=j then by rw [e]; exact List.lt_irrefl _ else fun h2=>h u ag huo (List.lt_trans h2 hn)⟩
theorem MinK.found {ns:List (List UInt8)} {os:List Nat} {ln:List UInt8} {kz:Int} (h:MinK ns os ns.length kz) (hS:Sel ns os ln) (hl:os.length<ns.length):∃ k:Nat,kz=(k:Int)∧k<ns.length∧k ∉ os∧∀ u,u<ns.length→u ∉ os→¬ dm ns u<dm ns k:=by
 rcases h with ⟨_,h2⟩ | h
 ·have h3:=GY (l:=List.range ns.length) List.nodup_range (m:=os) (fun u hu=>h2 u (List.mem_range.1 hu))
  rw [List.length_range] at h3
  omega
 ·exact h
theorem Sel.perm {ns:List (List UInt8)} {os:List Nat} {ln:List UInt8} (h:Sel ns os ln) (hl:ns.length≤os.length):os.Perm (List.range ns.length) :=
 Bq h.nd (fun k hk=>List.mem_range.2 (h.lt k hk)) (by rw [List.length_range]; exact hl)
theorem Sel.dup {ns:List (List UInt8)} {os:List Nat} {ln:List UInt8} {k:Nat} (h:Sel ns os ln) (hk:k<ns.length) (hko:k ∉ os) (hne:dm ns k≠[]) (he:dm ns k=ln):¬ ns.Nodup:=by
 rcases h.last with ⟨_,h2⟩ | ⟨os',c,h1,h2⟩
 ·exact absurd (he.trans h2) hne
 ·have hc:c∈os:=by rw [h1]; simp
  exact Iy hk (h.lt c hc) (fun e=>hko (e ▸ hc)) (he.trans h2)
theorem Sel.snoc {ns:List (List UInt8)} {os:List Nat} {ln:List UInt8} {k:Nat} (h:Sel ns os ln) (hk:k<ns.length) (hko:k ∉ os) (hm:∀ u,u<ns.length→u ∉ os→¬ dm ns u<dm ns k) (hne:¬ dm ns k=ln):Sel ns (os++[k]) (dm ns k):=by
 refine ⟨List.nodup_append.2 ⟨h.nd,by simp,fun a ha b hb e=>?_⟩,fun c hc=>?_,vk h.rise ?_,fun u hu huo c hc=>?_,.inr ⟨os,k,rfl,rfl⟩⟩
 ·rw [List.mem_singleton.1 hb] at e
  exact hko (e ▸ ha)
 ·rcases List.mem_append.1 hc with hc | hc
  ·exact h.lt c hc
  ·rw [List.mem_singleton.1 hc]; exact hk
 ·intro a ha
  rcases h.last with ⟨h1,_⟩ | ⟨os',c,h1,h2⟩
  ·rw [h1] at ha; cases ha
  ·have hr:=h.rise
   rw [h1] at hr ha
   have hc:c∈os:=by rw [h1]; simp
   exact vw hr (vN (h.low k hk hko c hc) (fun e=>hne (h2 ▸ e.symm))) a ha
 ·have huo2:u ∉ os:=fun h9=>huo (Qj _ h9)
  rcases List.mem_append.1 hc with hc | hc
  ·exact h.low u hu huo2 c hc
  ·rw [List.mem_singleton.1 hc]; exact hm u hu huo2
theorem NW {a b:List UInt8} (h:bI .lss a b=false):¬ a<b:=by rw [Bz] at h; simpa using h
theorem NV {a b:List UInt8} (h:bI .lss a b=true):a<b:=by rw [Bz] at h; simpa using h
theorem Oi {w0:World} {G:List Seg} {A:Option Addr} {ds:List (List UInt8)} (h:Rc w0 G A (mZ ds)) (hds:∀ d∈ds,d.length=32) {k:Nat} {d:List UInt8} (hk:ds[k]? = some d):∃ b o,A=some ⟨b,o,none⟩∧Rd w0 G (some ⟨b,o+k*32,none⟩) d:=by
 obtain ⟨h1,h2⟩:=IA hds hk
 obtain ⟨b,o,he,hc⟩:=h.ne (i:=k*32) ag
 have hd:=hds d (List.mem_of_getElem? hk)
 refine ⟨b,o,he,fun _=>⟨b,o+k*32,rfl,fun x hx=>⟨(hc x hx).1,fun i hi=>?_⟩⟩⟩
 rw [aI,hd] at hi
 rw [Nat.add_assoc,(hc x hx).2 (k*32+i) ag]
 exact ET h1 (by rw [aI,hd]; exact hi)
set_option maxRecDepth 100000 in
set_option maxHeartbeats 8000000 in
theorem Gp {w0:World} {R:List Seg} {G:List Seg} (n:Int) (ch:List UInt8) (clk:Int) (A1:Option Addr) (ns:List (List UInt8)) (c1:Nat) (A2:Option Addr) (ds:List (List UInt8)) (c2:Nat) (w:World) (hT:Jz w0) (hch:ch.length=32) (h1:Rc w0 G A1 (ns.map ak)) (h2:Rc w0 G A2 (mZ ds)) (hds:∀ d∈ds,d.length=32) (hG:G⊆R) (hA:Hp w0 R w):Calls Tryz.prog 61 #[.agg (.int .i64 n::dc ch:List Value).toArray,.int .i64 clk,.slice A1 ns.length c1,.slice A2 ds.length c2] w fun e w'=>∃ v Z out,e= .returned (.tuple #[v,.int .i64 (tbE ns ds.length:Nat)])∧TbB n ch clk ns ds out∧Buf 5 1 Z v out.length (dc out)∧Hp w0 (Z::R) w':=by
 refine aQ Tryz.func61 O Tryz.ntmps61 ai (fun a hF=>?_)
 refine wp_seq_k fun K1 hK1=>wp_region_lit ?_
 refine az O (fun K hK=>fU (cs:= .int .i64 n::dc ch) hF O ae rfl hA O (fun b1 w2 a hb1 hF hA3=>hK _ _ ?_))
 refine vR hF<|vX O<|vX O<|vE hK1<|wQ fun K2 hK2=>wT fun K3 hK3=>vX O<|vV O (aU O PY O O)<|vX O<|vV O (aU O PS O O)<|vV O (aB O O O O O)<|vE hK3 fun a hF=>?_
 by_cases hl:ns.length≠ds.length
 ·refine aF hF O (iL ag) ?_
  refine wS hF fun K4 hK4=>vX O<|vX O<|vE hK4 fun a hF=>?_
  apply wp_ret
  simp only [Exit.then]
  refine fM hF Tryz.results61 O O ?_
  have hA4:Hp w0 (R) w2:=hpS 1 [] [0] hA3 rfl
  have e0:tbE ns ds.length=1:=if_pos hl
  rw [e0]
  exact ⟨_,[],[],rfl,TbB.no (by rw [e0]; decide),Buf.nil _ _,Hp.nil hA4⟩
 ·refine au hF O (fG ag) ?_
  replace hl:ns.length=ds.length:=Classical.not_not.1 hl
  apply wp_skip
  refine hK2 _ _ ?_
  apply wp_seq_k; intro K5 hK5
  refine wS hF fun K6 hK6=>vX O<|vV O (aU O PY O O)<|vV O (aB O O O O O)<|vE hK6 fun a hF=>?_
  by_cases hb:1000<ns.length
  ·refine aF hF O (gG ag) ?_
   refine wS hF fun K7 hK7=>vX O<|vX O<|vE hK7 fun a hF=>?_
   apply wp_ret
   simp only [Exit.then]
   refine fM hF Tryz.results61 O O ?_
   have hA5:Hp w0 (R) w2:=hpS 1 [] [0] hA3 rfl
   have e0:tbE ns ds.length=7:=(if_neg (by simp [hl])).trans (if_pos hb)
   rw [e0]
   exact ⟨_,[],[],rfl,TbB.no (by rw [e0]; decide),Buf.nil _ _,Hp.nil hA5⟩
  ·refine au hF O (ik ag) ?_
   have hb1:ns.length≤1000:=by omega
   apply wp_skip
   refine hK5 _ _ ?_
   apply wp_seq_k; intro K8 hK8
   refine wS hF fun K9 hK9=>vX O<|vE hK9<|wBk fun a hF=>?_
   refine bH (G:=Nat) (fun i a x=>i≤ns.length∧(ns.take i).all bP=true∧Fr 116 [(10,.int .i64 ((i:Nat):Int)),(1,.int .i64 clk),(2,.slice A1 ns.length c1),(3,.slice A2 ds.length c2),(4,.pointer (some ⟨b1,0,none⟩))] a∧Hp w0 ([row b1 49 (.int .i64 n::dc ch)]::R) x) (fun i=>ns.length-i) 0 (⟨PU _,rfl,hF.keep [10,1,2,3,4] rfl,hA3⟩) ?_
   clear hF
   rintro i a w7 ⟨hi,hlg,hF,hA6⟩
   apply wp_seq_k; intro K10 hK10
   refine wS hF fun K11 hK11=>vX O<|vX O<|vV O (aU O PY O O)<|vV O (aB O O O O O)<|vE hK11 fun a hF=>?_
   by_cases hlt:i<ns.length
   ·refine aF hF O (dB ag) ?_
    obtain ⟨q,hpq⟩:∃ q,ns[i]? = some q:=⟨_,List.getElem?_eq_getElem hlt⟩
    obtain ⟨bq,oq,hsq,hcq⟩:=h1.ne (i:=i) (by rw [List.length_map]; exact hlt)
    rw [hsq] at hF
    apply wp_skip
    refine hK10 _ _ ?_
    apply wp_seq_k; intro K12 hK12
    apply wp_block
    refine wS hF fun K13 hK13=>vX O<|vX O<|vV O (bF O PY wL O O i rfl hlt (ad2 _ _ _))<|vV O (dL (u:=ak q) rfl (Hq.sub hA6.q (List.Subset.trans hG (bW (fD)))) O hcq i (by rw [List.length_map]; exact hlt) rfl (by rw [List.getElem?_map,hpq]; rfl) xe) fun a hF=>?_
    refine az O (fun K hK=>ay hF O ae Fp rfl rfl ?_)
    with_reducible refine (Gq q _ hT hA6).mono ?_
    rintro e' w10 ⟨rfl,rfl⟩
    refine ⟨_,rfl,fun a hF=>hK _ _ ?_⟩
    refine vR hF<|vV O (dK O O O)<|vE hK13 fun a hF=>?_
    rcases tf (bP q) with hq | hq
    ·refine aF hF O (by rw [hq]; rfl) ?_
     refine wS hF fun K14 hK14=>vX O<|vX O<|vE hK14 fun a hF=>?_
     apply wp_ret
     simp only [Exit.then,Exit.inBlock]
     refine fM hF Tryz.results61 O O ?_
     have hA11:Hp w0 (R) w7:=hpS 1 [] [0] hA6 rfl
     have e0:tbE ns ds.length=34:=MM hl hb1 hpq hq
     rw [e0]
     exact ⟨_,[],[],rfl,TbB.no (by rw [e0]; decide),Buf.nil _ _,Hp.nil hA11⟩
    ·refine au hF O (by rw [hq]; rfl) ?_
     apply wp_skip
     refine hK12 _ _ ?_
     refine wp_region_lit ?_
     refine vR hF<|vX O<|vV O (bn O O O (PX _ ag))<|vX O fun a hF=>?_
     refine aG ?_
     rw [← hsq] at hF
     exact ⟨i+1,ag,ag,Af hlg hpq hq,hF.keep [10,1,2,3,4] rfl,hA6⟩
   ·refine au hF O (dA ag) ?_
    obtain rfl:i=ns.length:=by omega
    rw [List.take_length] at hlg
    have hlg1:∀ q∈ns,q.length≤64:=fun q hq=>fB (List.all_eq_true.1 hlg q hq)
    have hlg0:∀ k,k<ns.length→dm ns k≠[]:=fun k hk e=>by
     have h9:=Hf (List.all_eq_true.1 hlg _ (List.mem_of_getElem? (bU hk)))
     rw [e] at h9
     exact absurd h9 ae
    apply wp_exit
    refine hK8 _ _ ?_
    refine wp_seq_k fun K15 hK15=>wp_region_lit ?_
    refine az O (fun K hK=>qI (qs := #[(0,.int .u8 0),(1,.int .u8 0)]) (cells:=(dc [0,0]).toArray) hF O ae rfl hA6 O OC (fun b12 w13 a hb12 hF hA14=>hK _ _ ?_))
    have hB0:Buf 5 1 [row b12 5 (dc [0,0])] (.slice (some ⟨b12,0,none⟩) 2 2) ([0,0]).length (dc ([0,0])):=Buf.full rfl ae
    refine vR hF<|vV O (yf 0 O Qo O jl O)<|vV O (bi (u:= .int .i64 n) rfl hA14.q O 1 O O mV) fun a hF=>?_
    refine az O (fun K hK=>ay hF O ae Fv rfl rfl ?_)
    with_reducible refine (nD n 8 8 _ O ae hA14).mono ?_
    rintro e' w15 ⟨vN1,ZN1,rfl,hN1,hA16⟩
    refine ⟨_,rfl,fun a hF=>hK _ _ ?_⟩
    replace hA16:Hp w0 (ZN1::[row b12 5 (dc [0,0])]::[row b1 49 (.int .i64 n::dc ch)]::R) w15:=hA16
    obtain ⟨_,AN1,cN1,rfl,hcN1,hRN1⟩:=hN1.rd (w0:=w0) (R:=[ZN1]) (P6 ..)
    refine az O (fun K hK=>dn hF O ae rfl hA16 1 O hB0 PZ dS rfl rfl (Rc.src hRN1 (Hq.sub hA16.q (List.cons_subset.2 ⟨((P6 ..)),List.nil_subset _⟩)) PZ) (by rw [aY]; decide) ae (fun v1 X1 w17 a hB1 hF hA18=>hK _ _ ?_))
    replace hA18:Hp w0 (ZN1::X1::[row b1 49 (.int .i64 n::dc ch)]::R) w17:=hA18
    replace hB1:Buf 5 1 X1 v1 ([0,0]++be 8 (u64 n)).length (dc ([0,0]++be 8 (u64 n))):=by rw [List.length_append,bV]; exact hB1
    refine vR hF<|vX O<|vE hK15<|wT fun K16 hK16=>vX O<|vV O (yf 1 O Qo O ry O)<|vV O (jC O PV Aa rfl (.none 0) (.none 32) (PU _) (P5 _) (show Value.slice (sub (some ⟨b1,1,none⟩) 0 32 1) (32-0) (32-0)= .slice (some ⟨b1,1,none⟩) ch.length 32 by rw [hch]; rfl)) fun a hF=>?_
    refine az O (fun K hK=>dn hF O ae rfl hA18 1 O hB1 PZ dS rfl rfl (Rc.src (Rc.ofRow (R:=ZN1::X1::[row b1 49 (.int .i64 n::dc ch)]::R) (i:=2) (off:=1) rfl (by show ((dc ch).take (dc ch).length)=_; exact List.take_length ..)) hA18.q PZ) (by simp only [List.length_append,aY,hch]; decide) ae (fun v2 X2 w19 a hB2 hF hA20=>hK _ _ ?_))
    replace hA20:Hp w0 (ZN1::X2::[row b1 49 (.int .i64 n::dc ch)]::R) w19:=hA20
    replace hB2:Buf 5 1 X2 v2 (([0,0]++be 8 (u64 n))++ch).length (dc (([0,0]++be 8 (u64 n))++ch)):=by rw [List.length_append,bV]; exact hB2
    refine vR hF<|vX O fun a hF=>?_
    refine az O (fun K hK=>ay hF O ae Fv rfl rfl ?_)
    with_reducible refine (nD clk 8 8 _ O ae hA20).mono ?_
    rintro e' w21 ⟨vN2,ZN2,rfl,hN2,hA22⟩
    refine ⟨_,rfl,fun a hF=>hK _ _ ?_⟩
    replace hA22:Hp w0 (ZN2::ZN1::X2::[row b1 49 (.int .i64 n::dc ch)]::R) w21:=hA22
    obtain ⟨_,AN2,cN2,rfl,hcN2,hRN2⟩:=hN2.rd (w0:=w0) (R:=[ZN2]) (P6 ..)
    refine az O (fun K hK=>dn hF O ae rfl hA22 2 O hB2 PZ dS rfl rfl (Rc.src hRN2 (Hq.sub hA22.q (List.cons_subset.2 ⟨((P6 ..)),List.nil_subset _⟩)) PZ) (by simp only [List.length_append,aY,hch]; decide) ae (fun v3 X3 w23 a hB3 hF hA24=>hK _ _ ?_))
    replace hA24:Hp w0 (ZN2::ZN1::X3::[row b1 49 (.int .i64 n::dc ch)]::R) w23:=hA24
    replace hB3:Buf 5 1 X3 v3 (([0,0]++be 8 (u64 n)++ch)++be 8 (u64 clk)).length (dc (([0,0]++be 8 (u64 n)++ch)++be 8 (u64 clk))):=by rw [List.length_append,bV]; exact hB3
    refine vR hF<|vX O<|vE hK16<|wT fun K17 hK17=>vX O<|vX O<|vV O (aU O PY O O) fun a hF=>?_
    refine az O (fun K hK=>ay hF O ae Fv rfl rfl ?_)
    with_reducible refine (nD (ns.length:Int) 4 4 _ O ae hA24).mono ?_
    rintro e' w25 ⟨vN3,ZN3,rfl,hN3,hA26⟩
    refine ⟨_,rfl,fun a hF=>hK _ _ ?_⟩
    replace hA26:Hp w0 (ZN3::ZN2::ZN1::X3::[row b1 49 (.int .i64 n::dc ch)]::R) w25:=hA26
    obtain ⟨_,AN3,cN3,rfl,hcN3,hRN3⟩:=hN3.rd (w0:=w0) (R:=[ZN3]) (P6 ..)
    refine az O (fun K hK=>dn hF O ae rfl hA26 3 O hB3 PZ dS rfl rfl (Rc.src hRN3 (Hq.sub hA26.q (List.cons_subset.2 ⟨((P6 ..)),List.nil_subset _⟩)) PZ) (by simp only [List.length_append,aY,hch]; decide) ae (fun v4 X4 w27 a hB4 hF hA28=>hK _ _ ?_))
    replace hA28:Hp w0 (ZN3::ZN2::ZN1::X4::[row b1 49 (.int .i64 n::dc ch)]::R) w27:=hA28
    replace hB4:Buf 5 1 X4 v4 (([0,0]++be 8 (u64 n)++ch++be 8 (u64 clk))++be 4 (u64 (ns.length:Int))).length (dc (([0,0]++be 8 (u64 n)++ch++be 8 (u64 clk))++be 4 (u64 (ns.length:Int)))):=by rw [List.length_append,bV]; exact hB4
    refine vR hF<|vX O<|vE hK17<|wQ fun K18 hK18 a hF=>?_
    rw [Cm (show ns.length<140737488353900 by omega)] at hB4
    obtain ⟨m1,hm1⟩:∃ m1,m1=BH n ch clk ns.length:=⟨_,rfl⟩
    replace hB4:Buf 5 1 X4 v4 (m1).length (dc (m1)):=by rw [hm1]; exact hB4
    have hml:m1.length=54:=by rw [hm1]; unfold BH; simp only [List.length_append,aY,hch]
    refine wp_region_lit ?_
    refine vR hF<|vX O<|vV O (aU O PY O O) fun a hF=>?_
    refine az O (fun K hK=>lu (size:=1) (bytes:=1) (u:= .bool false) hF O ae rfl hA28 Qv Ns ae ns.length rfl rfl rfl rfl ag ag (fun gl w29 a hgl hF hA30=>hK _ _ ?_))
    have hA31:Hp w0 ([row gl 4 (lbl ns.length [])]::ZN3::ZN2::ZN1::X4::[row b1 49 (.int .i64 n::dc ch)]::R) w29:=(by have h9:=hA30; rw [KI]; exact h9)
    refine vR hF<|vX O<|vE hK18<|wT fun K19 hK19=>vX O<|vE hK19<|wQ fun K20 hK20=>wT fun K21 hK21=>vX O<|vE hK21<|wBk fun a hF=>?_
    have hA32:Hp w0 (X4::[row gl 4 (lbl ns.length [])]::R) w29:=hpS 6 [4,0] [1,2,3,5] hA31 rfl
    refine bH (G:=Nat) (fun i a x=>∃ (os:List Nat) (ln:List UInt8) (vL:Value) (XL:Seg),i≤ns.length∧os.length=i∧Sel ns os ln∧Buf 5 1 XL vL (m1++(os.map (jS ns ds)).flatMap rowB).length (dc (m1++(os.map (jS ns ds)).flatMap rowB))∧Fr 116 [(14,.int .i64 ((i:Nat):Int)),(13,ak ln),(11,vL),(2,.slice A1 ns.length c1),(3,.slice A2 ds.length c2),(12,.slice (some ⟨gl,0,none⟩) ns.length ns.length)] a∧Hp w0 (XL::[row gl 4 (lbl ns.length os)]::R) x) (fun i=>ns.length-i) 0 (⟨[],[],_,_,PU _,rfl,Sel.nil,(by rw [List.map_nil,List.flatMap_nil,List.append_nil]; exact hB4),hF.keep [14,13,11,2,3,12] rfl,hA32⟩) ?_
    clear hF
    rintro i a w34 ⟨os,ln,vL,XL,hi,hol,hS,hB5,hF,hA33⟩
    apply wp_seq_k; intro K22 hK22
    refine wS hF fun K23 hK23=>vX O<|vX O<|vV O (aU O PY O O)<|vV O (aB O O O O O)<|vE hK23 fun a hF=>?_
    by_cases hlt:i<ns.length
    ·refine aF hF O (dB ag) ?_
     apply wp_skip
     refine hK22 _ _ ?_
     apply wp_seq_k; intro K24 hK24
     apply wp_block
     refine wS hF fun K25 hK25=>vX O<|vE hK25<|wQ fun K26 hK26=>wT fun K27 hK27=>vX O<|vE hK27<|wBk fun a hF=>?_
     refine bH (G:=Nat) (fun j a x=>∃ (kz:Int),j≤ns.length∧MinK ns os j kz∧Fr 116 [(15,.int .i64 kz),(16,.int .i64 ((j:Nat):Int)),(2,.slice A1 ns.length c1),(3,.slice A2 ds.length c2),(11,vL),(12,.slice (some ⟨gl,0,none⟩) ns.length ns.length),(13,ak ln),(14,.int .i64 ((i:Nat):Int))] a∧Hp w0 (XL::[row gl 4 (lbl ns.length os)]::R) x) (fun j=>ns.length-j) 0 (⟨-1,PU _,MinK.zero,hF.keep [15,16,2,3,11,12,13,14] rfl,hA33⟩) ?_
     clear hF
     rintro j a w36 ⟨kz,hj,hM,hF,hA35⟩
     apply wp_seq_k; intro K28 hK28
     refine wS hF fun K29 hK29=>vX O<|vX O<|vV O (aU O PY O O)<|vV O (aB O O O O O)<|vE hK29 fun a hF=>?_
     by_cases hlt2:j<ns.length
     ·refine aF hF O (dB ag) ?_
      by_cases hjo:j∈os
      ·apply wp_skip
       refine hK28 _ _ ?_
       apply wp_seq_k; intro K30 hK30
       apply wp_block
       apply wp_seq_k; intro K31 hK31
       refine aT 19 [19] [0,1,2,3,4,5,6,7,8,9,10,11,12,13,14,15,16,17,18,19] _ af af (Hq.drew hA35.q) ?_
       have hA37:=Hl.drew hA35
       refine pR hF<|pX O O<|pX O O<|pW O O (fun _=>bF O Qv lL O O j rfl hlt2 (ad2 _ _ _))<|pV O O (fun x hx=>bi (u:= .bool true) rfl hx O 1 O (O1 hlt2 hjo) lQ)<|pW O O (fun _=>dK O O O)<|pX O O<|pS O O<|pS O O<|pS O O fun a hF=>?_
       refine jk hF O O O O O O O ae (fun a hF=>?_)
       refine jk hF O O O O O O O ae (fun a hF=>?_)
       refine jk hF O O O O O O O ae (fun a hF=>?_)
       refine jk hF O O O O O O O ae (fun a hF=>?_)
       refine jk hF O O O O O O O ae (fun a hF=>?_)
       refine jk hF O O O O O O O ae (fun a hF=>?_)
       refine jk hF O O O O O O O ae (fun a hF=>?_)
       refine jk hF O O O O O O O ae (fun a hF=>?_)
       refine jk hF O O O O O O O ae (fun a hF=>?_)
       refine pR hF<|pS O O fun a hF=>?_
       refine dZ hF O O O O ae _ (dw O O O) (fun h=>absurd h ae) (fun a hF=>?_)
       refine bG ?_
       refine hK31 _ _ ?_
       refine eU hF O ?_
       apply wp_skip
       refine hK30 _ _ ?_
       refine wp_region_lit ?_
       refine vR hF<|vX O<|vV O (bn O O O (PX _ ag))<|vX O fun a hF=>?_
       refine aG ?_
       exact ⟨j+1,ag,_,ag,hM.skip hjo,hF.keep [15,16,2,3,11,12,13,14] rfl,hA37⟩
      ·rcases hM with ⟨hkz,hM⟩ | ⟨k,hkz,hkl,hko,hM⟩
       ·apply wp_skip
        refine hK28 _ _ ?_
        apply wp_seq_k; intro K32 hK32
        apply wp_block
        apply wp_seq_k; intro K33 hK33
        refine aT 19 [19] [0,1,2,3,4,5,6,7,8,9,10,11,12,13,14,15,16,17,18,19] _ af af (Hq.drew hA35.q) ?_
        have hA38:=Hl.drew hA35
        refine pR hF<|pX O O<|pX O O<|pW O O (fun _=>bF O Qv lL O O j rfl hlt2 (ad2 _ _ _))<|pV O O (fun x hx=>bi (u:= .bool false) rfl hx O 1 O (MR hlt2 hjo) lQ)<|pW O O (fun _=>dK O O O)<|pX O O<|pG O O (fun _=>aV O O)<|pG O O (fun _=>aB O O O O (dB ag))<|pG O O (fun _=>aV O O)<|pS O O<|pS O O<|pS O O<|pS O O<|pS O O<|pS O O<|pS O O<|pS O O<|pS O O<|pG O O (fun _=>dw O O O) fun a hF=>?_
        refine dZ hF O O O O ae _ (dw O O O) (fun h=>absurd h ae) (fun a hF=>?_)
        refine bG ?_
        refine hK33 _ _ ?_
        refine iQ hF O ?_
        refine wp_region_lit ?_
        refine vR hF<|vX O<|vX O fun a hF=>aG<|hK32 _ _ ?_
        refine wp_region_lit ?_
        refine vR hF<|vX O<|vV O (bn O O O (PX _ ag))<|vX O fun a hF=>?_
        refine aG ?_
        exact ⟨j+1,ag,_,ag,MinK.first hlt2 hjo hM,hF.keep [15,16,2,3,11,12,13,14] rfl,hA38⟩
       ·obtain ⟨bq,oq,hsA,hcq⟩:=h1.ne (i:=j) (by rw [List.length_map]; exact hlt2)
        rw [hsA] at hF
        subst hkz
        apply wp_skip
        refine hK28 _ _ ?_
        apply wp_seq_k; intro K34 hK34
        apply wp_block
        apply wp_seq_k; intro K35 hK35
        refine aT 19 [19] [0,1,2,3,4,5,6,7,8,9,10,11,12,13,14,15,16,17,18,19] _ af af (Hq.drew hA35.q) ?_
        have hA39:=Hl.drew hA35
        refine pR hF<|pX O O<|pX O O<|pW O O (fun _=>bF O Qv lL O O j rfl hlt2 (ad2 _ _ _))<|pV O O (fun x hx=>bi (u:= .bool false) rfl hx O 1 O (MR hlt2 hjo) lQ)<|pW O O (fun _=>dK O O O)<|pX O O<|pG O O (fun _=>aV O O)<|pG O O (fun _=>aB O O O O (dA ag))<|pG O O (fun _=>aV O O)<|pG O O (fun _=>aV O O)<|pG O O (fun _=>aV O O)<|pG O O (fun _=>bF O PY wL O O j rfl hlt2 (ad2 _ _ _)) fun a hF=>?_
        refine lg hF O O O O O O O ae _ (fun x hx=>dL (u:=ak (dm ns j)) O (Hq.sub hx (List.Subset.trans hG (bW (bW (fD))))) O hcq j (by rw [List.length_map]; exact hlt2) rfl (by rw [List.getElem?_map,bU hlt2]; rfl) xe) (fun a hF=>?_)
        refine pR hF<|pG O O (fun _=>aV O O)<|pG O O (fun _=>aV O O)<|pG O O (fun _=>bF O PY wL O O k rfl hkl (ad2 _ _ _)) fun a hF=>?_
        refine lg hF O O O O O O O ae _ (fun x hx=>dL (u:=ak (dm ns k)) O (Hq.sub hx (List.Subset.trans hG (bW (bW (fD))))) O hcq k (by rw [List.length_map]; exact hkl) rfl (by rw [List.getElem?_map,bU hkl]; rfl) xe) (fun a hF=>?_)
        refine pR hF<|pG O O (fun _=>fJ O O O O O)<|pG O O (fun _=>dw O O O) fun a hF=>?_
        refine dZ hF O O O O ae _ (dw O O O) (fun h=>absurd h ae) (fun a hF=>?_)
        refine bG ?_
        refine hK35 _ _ ?_
        rcases tf (bI .lss (dm ns j) (dm ns k)) with he | he
        ·refine au hF O he ?_
         apply wp_skip
         refine hK34 _ _ ?_
         refine wp_region_lit ?_
         refine vR hF<|vX O<|vV O (bn O O O (PX _ ag))<|vX O fun a hF=>?_
         refine aG ?_
         rw [← hsA] at hF
         exact ⟨j+1,ag,_,ag,MinK.stay hkl hko hM (NW he),hF.keep [15,16,2,3,11,12,13,14] rfl,hA39⟩
        ·refine aF hF O he ?_
         refine wp_region_lit ?_
         refine vR hF<|vX O<|vX O fun a hF=>aG<|hK34 _ _ ?_
         refine wp_region_lit ?_
         refine vR hF<|vX O<|vV O (bn O O O (PX _ ag))<|vX O fun a hF=>?_
         refine aG ?_
         rw [← hsA] at hF
         exact ⟨j+1,ag,_,ag,MinK.less hlt2 hjo hM (NV he),hF.keep [15,16,2,3,11,12,13,14] rfl,hA39⟩
     ·refine au hF O (dA ag) ?_
      obtain rfl:j=ns.length:=by omega
      obtain ⟨k,rfl,hkl,hko,hkm⟩:=hM.found hS ag
      obtain ⟨bq,oq,hsA,hcq⟩:=h1.ne (i:=k) (by rw [List.length_map]; exact hkl)
      have hdl:k<ds.length:=by omega
      obtain ⟨d,hd⟩:∃ d,ds[k]? = some d:=⟨_,List.getElem?_eq_getElem hdl⟩
      have hd32:=hds d (List.mem_of_getElem? hd)
      have hde:ds.getD k []=d:=by rw [List.getD_eq_getElem?_getD,hd]; rfl
      obtain ⟨bd,od,hsD,hRd⟩:=Oi h2 hds hd
      have hnl:=hlg1 _ (List.mem_of_getElem? (bU hkl))
      rw [hsA,hsD] at hF
      have hrl:((os.map (jS ns ds)).flatMap rowB).length≤98000:=by
       have q1:=sZ (ps:=os.map (jS ns ds)) (fun p hp=>by
        obtain ⟨k,hk,rfl⟩:=List.mem_map.1 hp
        have hkl:=hS.lt k hk
        exact ⟨hlg1 _ (List.mem_of_getElem? (bU hkl)),hds _ (List.mem_of_getElem? (bU (ns:=ds) ag))⟩)
       rw [List.length_map] at q1
       omega
      apply wp_exit
      refine hK26 _ _ ?_
      apply wp_seq_k; intro K36 hK36
      refine wS hF fun K37 hK37=>vX O<|vX O<|vV O (bF O PY wL O O k rfl hkl (ad2 _ _ _))<|vV O (dL (u:=ak (dm ns k)) O (Hq.sub hA35.q (List.Subset.trans hG (bW (bW (fD))))) O hcq k (by rw [List.length_map]; exact hkl) rfl (by rw [List.getElem?_map,bU hkl]; rfl) xe) fun a hF=>?_
      refine vR hF<|vX O<|vV O (fJ O O O O O)<|vE hK37 fun a hF=>?_
      rcases tf (bI .eql (dm ns k) ln) with he | he
      ·refine au hF O he ?_
       have hS2:=hS.snoc hkl hko hkm (Au he)
       apply wp_skip
       refine hK36 _ _ ?_
       refine wS hF fun K38 hK38=>vX O<|vX O<|vV O (bF O PY wL O O k rfl hkl (ad2 _ _ _))<|vV O (dL (u:=ak (dm ns k)) O (Hq.sub hA35.q (List.Subset.trans hG (bW (bW (fD))))) O hcq k (by rw [List.length_map]; exact hkl) rfl (by rw [List.getElem?_map,bU hkl]; rfl) xe) fun a hF=>?_
       refine vR hF<|vX O<|vE hK38<|wT fun K39 hK39=>vX O<|vX O<|vV O (bF O Qv lL O O k rfl hkl (ad2 _ _ _)) fun a hF=>?_
       refine az O (fun K hK=>bY hF O O hA35 O O 1 O (by rw [List.length_map,List.length_range]; omega) rfl lL (fun w40 hA41=>hK _ _ ?_))
       replace hA41:Hp w0 (XL::[row gl 4 ((lbl ns.length os).set (0+k) (.bool true))]::R) w40:=hA41
       have hA42:Hp w0 (XL::[row gl 4 (lbl ns.length (os++[k]))]::R) w40:=(by rw [← KH hkl]; exact hA41)
       refine aG<|hK39 _ _ ?_
       refine aT 12 [5,6,11,12] [0,1,2,3,4,7,8,9,10,5,6,11,12] (fun x=>Hq w0 ([row gl 4 (lbl ns.length (os++[k]))]::R) x) af af (Hq.drew (qT hA42)) ?_
       have hA43:=Hl.drew hA42
       refine pR hF<|pX O O<|pX O O<|pX O O<|pW O O (fun _=>bF O PY wL O O k rfl hkl (ad2 _ _ _))<|pV O O (fun x hx=>dL (u:=ak (dm ns k)) O (Hq.sub hx (List.Subset.trans hG (bW (fD)))) O hcq k (by rw [List.length_map]; exact hkl) rfl (by rw [List.getElem?_map,bU hkl]; rfl) xe) fun a hF=>?_
       refine pR hF<|pX O O<|pX O O<|pW O O (fun _=>bF O PS ry O O k rfl hdl rfl)<|pW O O (fun _=>jC O PV Aa rfl (.none 0) (.none 32) (PU _) (P5 _) (show Value.slice (sub (some ⟨bd,od+k*32,none⟩) 0 32 1) (32-0) (32-0)= .slice (some ⟨bd,od+k*32,none⟩) d.length 32 by rw [hd32]; rfl)) fun a hF=>?_
       refine iE O O O (fun K hK=>ay hF O ae Fq rfl rfl ?_)
       with_reducible refine (JX (dm ns k) _ ag hA43).mono ?_
       rintro e' w44 ⟨vN4,ZN4,rfl,hN4,hA45⟩
       refine ⟨_,rfl,fun a hF=>hK _ _ (fun _=>?_) ?_⟩
       ·exact Hp.qp [ZN4,XL,[row gl 4 (lbl ns.length (os++[k]))]] R [2] hA45
       replace hA45:Hp w0 (ZN4::XL::[row gl 4 (lbl ns.length (os++[k]))]::R) w44:=hA45
       obtain ⟨_,AN4,cN4,rfl,hcN4,hRN4⟩:=hN4.rd (w0:=w0) (R:=[ZN4]) (P6 ..)
       refine iE O O O (fun K hK=>dn hF O ae rfl hA45 1 O hB5 PZ dS rfl rfl (Rc.src hRN4 (Hq.sub hA45.q (List.cons_subset.2 ⟨((P6 ..)),List.nil_subset _⟩)) PZ) (by rw [List.length_append,iC]; omega) ae (fun v6 X6 w46 a hB6 hF hA47=>hK _ _ (fun _=>?_) ?_))
       ·exact Hp.qp [ZN4,X6,[row gl 4 (lbl ns.length (os++[k]))]] R [2] hA47
       replace hA47:Hp w0 (ZN4::X6::[row gl 4 (lbl ns.length (os++[k]))]::R) w46:=hA47
       replace hB6:Buf 5 1 X6 v6 ((m1++(os.map (jS ns ds)).flatMap rowB)++nameB (dm ns k)).length (dc ((m1++(os.map (jS ns ds)).flatMap rowB)++nameB (dm ns k))):=by rw [List.length_append,bV]; exact hB6
       refine iE O O O (fun K hK=>dn hF O ae rfl hA47 1 O hB6 PZ dS rfl rfl (Rc.src hRd (Hq.sub hA47.q (List.Subset.trans hG (bW (bW (bW (fD)))))) PZ) (by simp only [List.length_append,iC,hd32]; omega) ae (fun v7 X7 w48 a hB7 hF hA49=>hK _ _ (fun _=>?_) ?_))
       ·exact Hp.qp [ZN4,X7,[row gl 4 (lbl ns.length (os++[k]))]] R [2] hA49
       replace hA49:Hp w0 (ZN4::X7::[row gl 4 (lbl ns.length (os++[k]))]::R) w48:=hA49
       replace hB7:Buf 5 1 X7 v7 (((m1++(os.map (jS ns ds)).flatMap rowB)++nameB (dm ns k))++d).length (dc (((m1++(os.map (jS ns ds)).flatMap rowB)++nameB (dm ns k))++d)):=by rw [List.length_append,bV]; exact hB7
       refine dZ hF O O O O ae _ (jL O O) (fun h=>absurd h ae) (fun a hF=>?_)
       refine bG ?_
       refine hK24 _ _ ?_
       refine wp_region_lit ?_
       refine vR hF<|vX O<|vV O (bn O O O (PX _ ag))<|vX O fun a hF=>?_
       refine aG ?_
       rw [← hsA,← hsD] at hF
       have hA50:Hp w0 (X7::[row gl 4 (lbl ns.length (os++[k]))]::R) w48:=hpS 3 [1,2] [0] hA49 rfl
       exact ⟨i+1,ag,os++[k],_,_,_,ag,by rw [List.length_append,hol]; rfl,hS2,by rw [List.map_append,List.flatMap_append,List.map_singleton,List.flatMap_singleton,show rowB (jS ns ds k)=nameB (dm ns k)++d by unfold rowB jS; rw [hde],← List.append_assoc,← List.append_assoc]; exact hB7,hF.keep [14,13,11,2,3,12] rfl,hA50⟩
      ·refine aF hF O he ?_
       refine wS hF fun K40 hK40=>vX O<|vX O<|vE hK40 fun a hF=>?_
       apply wp_ret
       simp only [Exit.then,Exit.inBlock]
       refine fM hF Tryz.results61 O O ?_
       have hA51:Hp w0 (R) w36:=hpS 2 [] [0,1] hA35 rfl
       have e0:tbE ns ds.length=92:=ML hl hb1 hlg (hS.dup hkl hko (hlg0 k hkl) (Aq he))
       rw [e0]
       exact ⟨_,[],[],rfl,TbB.no (by rw [e0]; decide),Buf.nil _ _,Hp.nil hA51⟩
    ·refine au hF O (dA ag) ?_
     apply wp_exit
     refine hK20 _ _ ?_
     refine wS hF fun K41 hK41=>vX O<|vX O<|vX O<|vE hK41 fun a hF=>?_
     apply wp_ret
     refine fM hF Tryz.results61 O O ?_
     have hA52:Hp w0 (XL::R) w34:=hpS 2 [0] [1] hA33 rfl
     obtain ⟨e0,hTb⟩:=MK (n:=n) (ch:=ch) (clk:=clk) hl hb1 hlg (hS.perm ag) hS.rise
     rw [e0]
     rw [hm1] at hB5
     exact ⟨_,XL,_,rfl,hTb,hB5,hA52⟩
end Go.Proofs.YtepbmdlgdaedpaaGreatDoor
