/- Texts that belong together, one behind the other. -/
import Derived.Test.YtepbmdlgdaedpaaGreatDoorSt2
import Derived.Sort.LotA
import Derived.Sort.Walk0
import Derived.Test.YtepbmdlgdaedpaaGreatDoorBk
namespace Go.Proofs.YtepbmdlgdaedpaaGreatDoor
open Go.RowKit Go.Dk
abbrev Pr:=List UInt8 × List UInt8
def rowB (p:Pr):List UInt8:=nameB p.1++p.2
def sO (n:Int) (ch:List UInt8) (clk:Int) (k:Nat):List UInt8:=be 2 0++be 8 (u64 n)++ch++be 8 (u64 clk)++be 4 k
def tbE (ns:List (List UInt8)) (m:Nat):Nat:=if ns.length≠m then 1 else if 1000<ns.length then 7 else if ns.all bY=false then 34 else if ns.Nodup then 0 else 92
def nmR (p q:Pr):Prop:=p.1<q.1
def TbB (n:Int) (ch:List UInt8) (clk:Int) (ns ds:List (List UInt8)) (out:List UInt8):Prop :=
  if tbE ns ds.length=0 then ∃ ps:List Pr,ps.Perm (ns.zip ds)∧ps.Pairwise nmR∧out=sO n ch clk ns.length++ps.flatMap rowB else out=[]
theorem J3 (a b:List UInt8):bJ .lss a b=decide (a<b):=by unfold bJ; exact Go.Proofs.bytesLess_eq a b
theorem TbB.no {n:Int} {ch:List UInt8} {clk:Int} {ns ds:List (List UInt8)} (h:¬ tbE ns ds.length=0):TbB n ch clk ns ds []:=by unfold TbB; rw [if_neg h]
def dM (ns:List (List UInt8)) (k:Nat):List UInt8:=ns.getD k []
def ng (ns ds:List (List UInt8)) (k:Nat):Pr:=(dM ns k,ds.getD k [])
theorem dH {ns:List (List UInt8)} {k:Nat} (h:k<ns.length):ns[k]? = some (dM ns k):=by
  unfold dM
  rw [List.getD_eq_getElem?_getD,List.getElem?_eq_getElem h]
  rfl
theorem BD {ns ds:List (List UInt8)} (h:ns.length=ds.length):(List.range ns.length).map (ng ns ds)=ns.zip ds:=by
  apply List.ext_getElem?
  intro i
  by_cases hi:i<ns.length
  · rw [List.getElem?_map,List.getElem?_range hi,List.getElem?_zip_eq_some.2 (show ns[i]? = some (ng ns ds i).1∧ds[i]? = some (ng ns ds i).2 from ⟨dH hi,dH (ns:=ds) ag⟩)]
    rfl
  · rw [List.getElem?_eq_none (by simp; omega),List.getElem?_eq_none (by simp; omega)]
theorem xw {ns:List (List UInt8)}:(List.range ns.length).map (dM ns)=ns:=by
  apply List.ext_getElem?
  intro i
  by_cases hi:i<ns.length
  · rw [List.getElem?_map,List.getElem?_range hi,dH hi]
    rfl
  · rw [List.getElem?_eq_none (by simp; omega),List.getElem?_eq_none ag]
theorem Em {ns:List (List UInt8)} {os:List Nat} (hp:os.Perm (List.range ns.length)) (hs:os.Pairwise fun a b=>dM ns a<dM ns b):ns.Nodup:=by
  have h1:(os.map (dM ns)).Nodup:=List.Pairwise.map _ (fun a b h e=>by rw [e] at h; exact List.lt_irrefl _ h) hs
  have h2:=((hp.map (dM ns)).nodup_iff).1 h1
  rwa [xw] at h2
theorem Fh {ns:List (List UInt8)} {a b:Nat} (ha:a<ns.length) (hb:b<ns.length) (hab:a≠b) (he:dM ns a=dM ns b):¬ ns.Nodup:=fun hn=>by
  have h1:ns[a]=dM ns a:=by have:=dH ha; rwa [List.getElem?_eq_getElem ha,Option.some.injEq] at this
  have h2:ns[b]=dM ns b:=by have:=dH hb; rwa [List.getElem?_eq_getElem hb,Option.some.injEq] at this
  have hq:=List.pairwise_iff_getElem.1 hn
  rcases Nat.lt_or_gt_of_ne hab with h | h
  · exact hq a b ha hb h (by rw [h1,h2,he])
  · exact hq b a hb ha h (by rw [h1,h2,he])
theorem KZ {n:Int} {ch:List UInt8} {clk:Int} {ns ds:List (List UInt8)} {os:List Nat} (hl:ns.length=ds.length) (h1000:ns.length≤1000) (hlg:ns.all bY=true) (hp:os.Perm (List.range ns.length)) (hs:os.Pairwise fun a b=>dM ns a<dM ns b) :
    tbE ns ds.length=0∧TbB n ch clk ns ds (sO n ch clk ns.length++(os.map (ng ns ds)).flatMap rowB):=by
  have h0:tbE ns ds.length=0:=by
    unfold tbE
    rw [if_neg (by simp [hl]),if_neg ag,if_neg (by simp [hlg]),if_pos (Em hp hs)]
  refine ⟨h0,?_⟩
  unfold TbB
  rw [if_pos h0]
  refine ⟨os.map (ng ns ds),?_,List.Pairwise.map _ (fun a b h=>h) hs,rfl⟩
  rw [← BD hl]
  exact hp.map _
theorem La {ns:List (List UInt8)} {m:Nat} (hl:ns.length=m) (h1000:ns.length≤1000) (hlg:ns.all bY=true) (hd:¬ ns.Nodup):tbE ns m=92:=by
  unfold tbE
  rw [if_neg (by simp [hl]),if_neg ag,if_neg (by simp [hlg]),if_neg hd]
theorem Lc {ns:List (List UInt8)} {m i:Nat} (hl:ns.length=m) (h1000:ns.length≤1000) {q:List UInt8} (hi:ns[i]? = some q) (hq:bY q=false):tbE ns m=34:=by
  have h:ns.all bY=false:=by
    rw [List.all_eq_false]
    exact ⟨q,List.mem_of_getElem? hi,by simp [hq]⟩
  unfold tbE
  rw [if_neg (by simp [hl]),if_neg ag,if_pos h]
theorem Gy {ns:List (List UInt8)} {i:Nat} {q:List UInt8} (h:(ns.take i).all bY=true) (hi:ns[i]? = some q) (hq:bY q=true):(ns.take (i+1)).all bY=true:=by
  rw [List.take_add_one,hi,List.all_append,h]
  simp [hq]
def zO (ns:List (List UInt8)) (os:List Nat):Prop:=os.Pairwise fun a b=>dM ns a<dM ns b
theorem tV {ns:List (List UInt8)} {os:List Nat} {k:Nat} (h:zO ns os) (hk:∀ a∈os,dM ns a<dM ns k):zO ns (os++[k]):=by
  refine List.pairwise_append.2 ⟨h,List.pairwise_singleton ..,fun a ha b hb=>?_⟩
  rw [List.mem_singleton.1 hb]
  exact hk a ha
theorem uf {a b:List UInt8} (h:¬ b<a) (hne:a≠b):a<b:=by
  rcases List.not_lt.1 h |> fun (h':a≤b)=>Classical.em (a<b) with h2 | h2
  · exact h2
  · exact absurd (List.le_antisymm (List.not_lt.1 h) (List.not_lt.1 h2)) hne
theorem tX {ns:List (List UInt8)} {os:List Nat} {c k:Nat} (h:zO ns (os++[c])) (hk:dM ns c<dM ns k):∀ a∈os++[c],dM ns a<dM ns k:=fun a ha=>by
  rcases List.mem_append.1 ha with ha | ha
  · exact List.lt_trans ((List.pairwise_append.1 h).2.2 a ha c (List.mem_singleton.2 rfl)) hk
  · rw [List.mem_singleton.1 ha]; exact hk
theorem l9 {os:List Nat} {i c:Nat} (h:os[i]? = some c):os.take (i+1)=os.take i++[c]:=by
  rw [List.take_add_one,h]; rfl
theorem tK {ns ds:List (List UInt8)} {os:List Nat} {i k:Nat} (h:os[i]? = some k):((os.take (i+1)).map (ng ns ds)).flatMap rowB=((os.take i).map (ng ns ds)).flatMap rowB++rowB (ng ns ds k):=by
  rw [l9 h,List.map_append,List.flatMap_append]
  simp
theorem DY {p:Pr} (h1:p.1.length≤64) (h2:p.2.length=32):(rowB p).length≤98:=by
  unfold rowB
  rw [List.length_append,gq,h2]
  omega
theorem DW {ps:List Pr} (h:∀ p∈ps,p.1.length≤64∧p.2.length=32):(ps.flatMap rowB).length≤ps.length*98:=by
  induction ps with
  | nil=>simp
  | cons p ps ih =>
    rw [List.flatMap_cons,List.length_append,List.length_cons]
    have q1:=DY (h p (Nu ..)).1 (h p (Nu ..)).2
    have q2:=ih fun q hq=>h q (Nw _ hq)
    omega
end Go.Proofs.YtepbmdlgdaedpaaGreatDoor
namespace Go.Proofs.YtepbmdlgdaedpaaGreatDoor
open Go.RowKit Go.Dk
theorem zS:∀ {ns ds:List (List UInt8)},ns.length=ds.length→ns.reverse.zip ds.reverse=(ns.zip ds).reverse
  | [],[],_=>rfl
  | [],_::_,h=>by simp at h
  | _::_,[],h=>by simp at h
  | a::ns,b::ds,h=>by
    have h':ns.length=ds.length:=by simpa using h
    rw [List.reverse_cons,List.reverse_cons,List.zip_append (by simp [h']),zS h',show (a::ns).zip (b::ds)=(a,b)::ns.zip ds from rfl,List.reverse_cons]
    rfl
theorem G6 {ns:List (List UInt8)} {m:Nat}:tbE ns.reverse m=tbE ns m:=by
  unfold tbE
  simp only [List.length_reverse,List.all_reverse,(List.reverse_perm ns).nodup_iff]
theorem TbB.rev {n:Int} {ch:List UInt8} {clk:Int} {ns ds:List (List UInt8)} {out:List UInt8} (hl:ns.length=ds.length) (h:TbB n ch clk ns.reverse ds.reverse out):TbB n ch clk ns ds out:=by
  unfold TbB at h ⊢
  rw [G6,List.length_reverse,List.length_reverse,zS hl] at h
  split at h
  · rename_i h0
    rw [if_pos h0]
    obtain ⟨ps,p1,p2,p3⟩:=h
    exact ⟨ps,p1.trans (List.reverse_perm _),p2,p3⟩
  · rename_i h0
    rw [if_neg h0]
    exact h
theorem TbB.turn {n:Int} {ch:List UInt8} {clk:Int} {ns ds:List (List UInt8)} {out:List UInt8} (hl:ns.length=ds.length) (h:TbB n ch clk ns ds out):TbB n ch clk ns.reverse ds.reverse out :=
  TbB.rev (by rw [List.length_reverse,List.length_reverse,hl]) (by rw [List.reverse_reverse,List.reverse_reverse]; exact h)
theorem TbB.ok {n:Int} {ch:List UInt8} {clk:Int} {ns ds:List (List UInt8)} {out:List UInt8} (h0:tbE ns ds.length=0) (h:TbB n ch clk ns ds out):∃ ps:List Pr,ps.Perm (ns.zip ds)∧ps.Pairwise nmR∧out=sO n ch clk ns.length++ps.flatMap rowB:=by
  unfold TbB at h
  rwa [if_pos h0] at h
theorem TbB.nil {n:Int} {ch:List UInt8} {clk:Int} {ns ds:List (List UInt8)} {out:List UInt8} (h0:¬ tbE ns ds.length=0) (h:TbB n ch clk ns ds out):out=[]:=by
  unfold TbB at h
  rwa [if_neg h0] at h
theorem TbB.two {n:Int} {ch:List UInt8} {clk:Int} {ns ds:List (List UInt8)} {out:List UInt8} (h0:tbE ns ds.length=0) (h:TbB n ch clk ns ds out):∃ r,out=0::0::r:=by
  obtain ⟨ps,_,_,e⟩:=h.ok h0
  refine ⟨be 8 (u64 n)++ch++be 8 (u64 clk)++be 4 ns.length++ps.flatMap rowB,?_⟩
  rw [e]
  unfold sO
  rw [show be 2 0=[0,0] from rfl]
  simp only [List.append_assoc,List.cons_append,List.nil_append]
theorem vz {n n':Int} {ch ch':List UInt8} {clk clk':Int} {k k':Nat} {r r':List UInt8} (h1:ch.length=32) (h2:ch'.length=32) (hk:k<4294967296) (hk':k'<4294967296) (h:sO n ch clk k++r=sO n' ch' clk' k'++r'):u64 n=u64 n'∧ch=ch'∧u64 clk=u64 clk'∧k=k'∧r=r':=by
  unfold sO at h
  simp only [List.append_assoc] at h
  obtain ⟨_,h⟩:=lZ rfl h
  obtain ⟨e1,h⟩:=lZ (by rw [bf,bf]) h
  obtain ⟨e2,h⟩:=lZ (by rw [h1,h2]) h
  obtain ⟨e3,h⟩:=lZ (by rw [bf,bf]) h
  obtain ⟨e4,h⟩:=lZ (by rw [bf,bf]) h
  exact ⟨wG (K:=8) (iQ n) (iQ n') e1,e2,wG (K:=8) (iQ clk) (iQ clk') e3,wG (K:=4) (by show k<4294967296; exact hk) (by show k'<4294967296; exact hk') e4,h⟩
theorem uz {ns:List (List UInt8)} {m:Nat} (h:tbE ns m=0):ns.length=m∧ns.length≤1000∧ns.all bY=true∧ns.Nodup:=by
  unfold tbE at h
  split at h
  · cases h
  split at h
  · cases h
  split at h
  · cases h
  split at h
  · rename_i h1 h2 h3 h4
    exact ⟨Classical.not_not.1 h1,ag,by simpa using h3,h4⟩
  · cases h
theorem TbB.ne {n n':Int} {ch:List UInt8} {clk clk':Int} {ns ds:List (List UInt8)} {o1 o2:List UInt8} (hch:ch.length=32) (h0:tbE ns ds.length=0) (h1:TbB n ch clk ns ds o1) (h2:TbB n' ch clk' ns ds o2) (hne:¬ u64 n=u64 n'∨¬ u64 clk=u64 clk'):¬ o1=o2:=fun he=>by
  obtain ⟨ps,_,_,rfl⟩:=h1.ok h0
  obtain ⟨qs,_,_,rfl⟩:=h2.ok h0
  have hk:=(uz h0).2.1
  obtain ⟨e1,_,e3,_⟩:=vz hch hch ag ag he
  rcases hne with h | h
  · exact h e1
  · exact h e3
theorem TbB.less {n:Int} {ch:List UInt8} {clk:Int} {ns ds ns' ds':List (List UInt8)} {o1 o2:List UInt8} (hch:ch.length=32) (h0:tbE ns ds.length=0) (h1:TbB n ch clk ns ds o1) (h2:TbB n ch clk ns' ds' o2) (hne:¬ ns.length=ns'.length):¬ o1=o2:=fun he=>by
  obtain ⟨r,hr⟩:=h1.two h0
  by_cases h3:tbE ns' ds'.length=0
  · obtain ⟨ps,_,_,rfl⟩:=h1.ok h0
    obtain ⟨qs,_,_,rfl⟩:=h2.ok h3
    have hk:=(uz h0).2.1
    have hk2:=(uz h3).2.1
    exact hne (vz hch hch ag ag he).2.2.2.1
  · rw [← he,hr] at h2
    exact absurd (h2.nil h3) (by simp)
theorem DX {p q:Pr} {c d:List UInt8} (hp:p.1.length≤64∧p.2.length=32) (hq:q.1.length≤64∧q.2.length=32) (h:rowB p++c=rowB q++d):p=q∧c=d:=by
  unfold rowB at h
  rw [List.append_assoc,List.append_assoc] at h
  obtain ⟨e1,h⟩:=Cf hp.1 hq.1 h
  obtain ⟨e2,h⟩:=lZ (by rw [hp.2,hq.2]) h
  exact ⟨Prod.ext e1 e2,h⟩
theorem xq {p:Pr} (hp:p.2.length=32):0<(rowB p).length:=by
  unfold rowB
  rw [List.length_append,hp]
  omega
theorem xn:∀ {ps qs:List Pr},(∀ p∈ps,p.1.length≤64∧p.2.length=32)→(∀ p∈qs,p.1.length≤64∧p.2.length=32)→ps.flatMap rowB=qs.flatMap rowB→ps=qs
  | [],[],_,_,_=>rfl
  | [],q::qs,_,h2,h=>by
    have:=congrArg List.length h
    rw [List.flatMap_nil,List.flatMap_cons,List.length_append,List.length_nil] at this
    have:=xq (h2 q (Nu ..)).2
    omega
  | p::ps,[],h1,_,h=>by
    have:=congrArg List.length h
    rw [List.flatMap_nil,List.flatMap_cons,List.length_append,List.length_nil] at this
    have:=xq (h1 p (Nu ..)).2
    omega
  | p::ps,q::qs,h1,h2,h=>by
    rw [List.flatMap_cons,List.flatMap_cons] at h
    obtain ⟨e,h⟩:=DX (h1 p (Nu ..)) (h2 q (Nu ..)) h
    rw [e,xn (fun x hx=>h1 x (Nw _ hx)) (fun x hx=>h2 x (Nw _ hx)) h]
theorem GH {ns ds:List (List UInt8)} {k:Nat} {a b:List UInt8} (h1:ns[k]? = some a) (h2:ds[k]? = some b):(a,b)∈ns.zip ds :=
  List.mem_of_getElem? (i:=k) (by rw [List.getElem?_zip_eq_some]; exact ⟨h1,h2⟩)
theorem TbB.sum {n:Int} {ch:List UInt8} {clk:Int} {ns ds:List (List UInt8)} {o1 o2 d:List UInt8} {k:Nat} (hch:ch.length=32) (h0:tbE ns ds.length=0) (hds:∀ d∈ds,d.length=32) (hd:d.length=32) (hk:k<ds.length) (hne:¬ ds[k]? = some d) (h1:TbB n ch clk ns ds o1) (h2:TbB n ch clk ns (ds.set k d) o2):¬ o1=o2:=fun he=>by
  obtain ⟨hl,hm,hlg,hnd⟩:=uz h0
  obtain ⟨ps,p1,_,rfl⟩:=h1.ok h0
  obtain ⟨qs,q1,_,rfl⟩:=h2.ok (by rw [List.length_set]; exact h0)
  have hin:∀ p∈ns.zip ds,p.1.length≤64∧p.2.length=32:=fun p hp=>⟨dZ (List.all_eq_true.1 hlg _ (List.of_mem_zip hp).1),hds _ (List.of_mem_zip hp).2⟩
  have hin2:∀ p∈ns.zip (ds.set k d),p.1.length≤64∧p.2.length=32:=fun p hp=>by
    refine ⟨dZ (List.all_eq_true.1 hlg _ (List.of_mem_zip hp).1),?_⟩
    rcases List.mem_or_eq_of_mem_set (List.of_mem_zip hp).2 with h | h
    · exact hds _ h
    · rw [h]; exact hd
  have e:ps=qs:=xn (fun p hp=>hin p (p1.subset hp)) (fun p hp=>hin2 p (q1.subset hp)) (vz hch hch ag ag he).2.2.2.2
  subst e
  obtain ⟨a,ha⟩:∃ a,ns[k]? = some a:=⟨_,List.getElem?_eq_getElem ag⟩
  have hm1:(a,d)∈ns.zip ds:=p1.subset (q1.symm.subset (GH ha (by rw [List.getElem?_set_self hk])))
  obtain ⟨j,hj⟩:=List.mem_iff_getElem?.1 hm1
  obtain ⟨hj1,hj2⟩:=List.getElem?_zip_eq_some.1 hj
  obtain ⟨hjl,hje⟩:=List.getElem?_eq_some_iff.1 hj1
  obtain ⟨hkl,hke⟩:=List.getElem?_eq_some_iff.1 ha
  have hjk:j=k:=Classical.byContradiction fun h=>Fh hjl hkl h (by unfold dM; rw [List.getD_eq_getElem?_getD,List.getD_eq_getElem?_getD,hj1,ha]) hnd
  subst hjk
  exact hne hj2
end Go.Proofs.YtepbmdlgdaedpaaGreatDoor
