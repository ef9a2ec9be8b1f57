/- Texts that belong together, one behind the other. -/
import Derived.Test.YtepbmdlgdaedpaaGreatDoorTbL
import Derived.Test.YtepbmdlgdaedpaaGreatDoorEvT
import Derived.Test.YtepbmdlgdaedpaaGreatDoorEv
import Derived.Laws.StructEq
import Derived.Stop.BytesEq
namespace Go.Proofs.YtepbmdlgdaedpaaGreatDoor
open Go.RowKit Go.Dk
theorem vO:∀ {ns ds:List (List UInt8)},ns.length=ds.length→ns.reverse.zip ds.reverse=(ns.zip ds).reverse
  | [],[],_=>rfl
  | [],_::_,h=>by simp at h
  | _::_,[],h=>by simp at h
  | a::ns,b::ds,h=>by
    have h':ns.length=ds.length:=by simpa using h
    rw [List.reverse_cons,List.reverse_cons,List.zip_append (by simp [h']),vO h',show (a::ns).zip (b::ds)=(a,b)::ns.zip ds from rfl,List.reverse_cons]
    rfl
theorem vZ {ns:List (List UInt8)} {m:Nat}:tbE ns.reverse m=tbE ns m:=by
  unfold tbE
  simp only [List.length_reverse,List.all_reverse,(List.reverse_perm ns).nodup_iff]
theorem TbB.rev {n:Int} {ch:List UInt8} {clk:Int} {ns ds:List (List UInt8)} {out:List UInt8} (hl:ns.length=ds.length) (h:TbB n ch clk ns.reverse ds.reverse out):TbB n ch clk ns ds out:=by
  unfold TbB at h ⊢
  rw [vZ,List.length_reverse,List.length_reverse,vO hl] at h
  split at h
  · rename_i h0
    rw [if_pos h0]
    obtain ⟨ps,p1,p2,p3⟩:=h
    exact ⟨ps,p1.trans (List.reverse_perm _),p2,p3⟩
  · rename_i h0
    rw [if_neg h0]
    exact h
theorem TbB.turn {n:Int} {ch:List UInt8} {clk:Int} {ns ds:List (List UInt8)} {out:List UInt8} (hl:ns.length=ds.length) (h:TbB n ch clk ns ds out):TbB n ch clk ns.reverse ds.reverse out :=
  TbB.rev (by rw [List.length_reverse,List.length_reverse,hl]) (by rw [List.reverse_reverse,List.reverse_reverse]; exact h)
theorem TbB.ok {n:Int} {ch:List UInt8} {clk:Int} {ns ds:List (List UInt8)} {out:List UInt8} (h0:tbE ns ds.length=0) (h:TbB n ch clk ns ds out):∃ ps:List Pr,ps.Perm (ns.zip ds)∧ps.Pairwise nmR∧out=oN n ch clk ns.length++ps.flatMap rowB:=by
  unfold TbB at h
  rwa [if_pos h0] at h
theorem TbB.nil {n:Int} {ch:List UInt8} {clk:Int} {ns ds:List (List UInt8)} {out:List UInt8} (h0:¬ tbE ns ds.length=0) (h:TbB n ch clk ns ds out):out=[]:=by
  unfold TbB at h
  rwa [if_neg h0] at h
theorem TbB.two {n:Int} {ch:List UInt8} {clk:Int} {ns ds:List (List UInt8)} {out:List UInt8} (h0:tbE ns ds.length=0) (h:TbB n ch clk ns ds out):∃ r,out=0::0::r:=by
  obtain ⟨ps,_,_,e⟩:=h.ok h0
  refine ⟨be 8 (u64 n)++ch++be 8 (u64 clk)++be 4 ns.length++ps.flatMap rowB,?_⟩
  rw [e]
  unfold oN
  rw [show be 2 0=[0,0] from rfl]
  simp only [List.append_assoc,List.cons_append,List.nil_append]
theorem qJ {n n':Int} {ch ch':List UInt8} {clk clk':Int} {k k':Nat} {r r':List UInt8} (h1:ch.length=32) (h2:ch'.length=32) (hk:k<4294967296) (hk':k'<4294967296) (h:oN n ch clk k++r=oN n' ch' clk' k'++r'):u64 n=u64 n'∧ch=ch'∧u64 clk=u64 clk'∧k=k'∧r=r':=by
  unfold oN at h
  simp only [List.append_assoc] at h
  obtain ⟨_,h⟩:=jU rfl h
  obtain ⟨e1,h⟩:=jU (by rw [aT,aT]) h
  obtain ⟨e2,h⟩:=jU (by rw [h1,h2]) h
  obtain ⟨e3,h⟩:=jU (by rw [aT,aT]) h
  obtain ⟨e4,h⟩:=jU (by rw [aT,aT]) h
  exact ⟨qY (K:=8) (gq n) (gq n') e1,e2,qY (K:=8) (gq clk) (gq clk') e3,qY (K:=4) (by show k<4294967296; exact hk) (by show k'<4294967296; exact hk') e4,h⟩
theorem qg {ns:List (List UInt8)} {m:Nat} (h:tbE ns m=0):ns.length=m∧ns.length≤1000∧ns.all bz=true∧ns.Nodup:=by
  unfold tbE at h
  split at h
  · cases h
  split at h
  · cases h
  split at h
  · cases h
  split at h
  · rename_i h1 h2 h3 h4
    exact ⟨Classical.not_not.1 h1,ag,by simpa using h3,h4⟩
  · cases h
theorem TbB.ne {n n':Int} {ch:List UInt8} {clk clk':Int} {ns ds:List (List UInt8)} {o1 o2:List UInt8} (hch:ch.length=32) (h0:tbE ns ds.length=0) (h1:TbB n ch clk ns ds o1) (h2:TbB n' ch clk' ns ds o2) (hne:¬ u64 n=u64 n'∨¬ u64 clk=u64 clk'):¬ o1=o2:=fun he=>by
  obtain ⟨ps,_,_,rfl⟩:=h1.ok h0
  obtain ⟨qs,_,_,rfl⟩:=h2.ok h0
  have hk:=(qg h0).2.1
  obtain ⟨e1,_,e3,_⟩:=qJ hch hch ag ag he
  rcases hne with h | h
  · exact h e1
  · exact h e3
theorem TbB.less {n:Int} {ch:List UInt8} {clk:Int} {ns ds ns' ds':List (List UInt8)} {o1 o2:List UInt8} (hch:ch.length=32) (h0:tbE ns ds.length=0) (h1:TbB n ch clk ns ds o1) (h2:TbB n ch clk ns' ds' o2) (hne:¬ ns.length=ns'.length):¬ o1=o2:=fun he=>by
  obtain ⟨r,hr⟩:=h1.two h0
  by_cases h3:tbE ns' ds'.length=0
  · obtain ⟨ps,_,_,rfl⟩:=h1.ok h0
    obtain ⟨qs,_,_,rfl⟩:=h2.ok h3
    have hk:=(qg h0).2.1
    have hk2:=(qg h3).2.1
    exact hne (qJ hch hch ag ag he).2.2.2.1
  · rw [← he,hr] at h2
    exact absurd (h2.nil h3) (by simp)
theorem zq {p q:Pr} {c d:List UInt8} (hp:p.1.length≤64∧p.2.length=32) (hq:q.1.length≤64∧q.2.length=32) (h:rowB p++c=rowB q++d):p=q∧c=d:=by
  unfold rowB at h
  rw [List.append_assoc,List.append_assoc] at h
  obtain ⟨e1,h⟩:=xZ hp.1 hq.1 h
  obtain ⟨e2,h⟩:=jU (by rw [hp.2,hq.2]) h
  exact ⟨Prod.ext e1 e2,h⟩
theorem rW {p:Pr} (hp:p.2.length=32):0<(rowB p).length:=by
  unfold rowB
  rw [List.length_append,hp]
  omega
theorem rV:∀ {ps qs:List Pr},(∀ p∈ps,p.1.length≤64∧p.2.length=32)→(∀ p∈qs,p.1.length≤64∧p.2.length=32)→ps.flatMap rowB=qs.flatMap rowB→ps=qs
  | [],[],_,_,_=>rfl
  | [],q::qs,_,h2,h=>by
    have:=congrArg List.length h
    rw [List.flatMap_nil,List.flatMap_cons,List.length_append,List.length_nil] at this
    have:=rW (h2 q (HY ..)).2
    omega
  | p::ps,[],h1,_,h=>by
    have:=congrArg List.length h
    rw [List.flatMap_nil,List.flatMap_cons,List.length_append,List.length_nil] at this
    have:=rW (h1 p (HY ..)).2
    omega
  | p::ps,q::qs,h1,h2,h=>by
    rw [List.flatMap_cons,List.flatMap_cons] at h
    obtain ⟨e,h⟩:=zq (h1 p (HY ..)) (h2 q (HY ..)) h
    rw [e,rV (fun x hx=>h1 x (H5 _ hx)) (fun x hx=>h2 x (H5 _ hx)) h]
theorem BV {ns ds:List (List UInt8)} {k:Nat} {a b:List UInt8} (h1:ns[k]? = some a) (h2:ds[k]? = some b):(a,b)∈ns.zip ds :=
  List.mem_of_getElem? (i:=k) (by rw [List.getElem?_zip_eq_some]; exact ⟨h1,h2⟩)
theorem TbB.sum {n:Int} {ch:List UInt8} {clk:Int} {ns ds:List (List UInt8)} {o1 o2 d:List UInt8} {k:Nat} (hch:ch.length=32) (h0:tbE ns ds.length=0) (hds:∀ d∈ds,d.length=32) (hd:d.length=32) (hk:k<ds.length) (hne:¬ ds[k]? = some d) (h1:TbB n ch clk ns ds o1) (h2:TbB n ch clk ns (ds.set k d) o2):¬ o1=o2:=fun he=>by
  obtain ⟨hl,hm,hlg,hnd⟩:=qg h0
  obtain ⟨ps,p1,_,rfl⟩:=h1.ok h0
  obtain ⟨qs,q1,_,rfl⟩:=h2.ok (by rw [List.length_set]; exact h0)
  have hin:∀ p∈ns.zip ds,p.1.length≤64∧p.2.length=32:=fun p hp=>⟨dC (List.all_eq_true.1 hlg _ (List.of_mem_zip hp).1),hds _ (List.of_mem_zip hp).2⟩
  have hin2:∀ p∈ns.zip (ds.set k d),p.1.length≤64∧p.2.length=32:=fun p hp=>by
    refine ⟨dC (List.all_eq_true.1 hlg _ (List.of_mem_zip hp).1),?_⟩
    rcases List.mem_or_eq_of_mem_set (List.of_mem_zip hp).2 with h | h
    · exact hds _ h
    · rw [h]; exact hd
  have e:ps=qs:=rV (fun p hp=>hin p (p1.subset hp)) (fun p hp=>hin2 p (q1.subset hp)) (qJ hch hch ag ag he).2.2.2.2
  subst e
  obtain ⟨a,ha⟩:∃ a,ns[k]? = some a:=⟨_,List.getElem?_eq_getElem ag⟩
  have hm1:(a,d)∈ns.zip ds:=p1.subset (q1.symm.subset (BV ha (by rw [List.getElem?_set_self hk])))
  obtain ⟨j,hj⟩:=List.mem_iff_getElem?.1 hm1
  obtain ⟨hj1,hj2⟩:=List.getElem?_zip_eq_some.1 hj
  obtain ⟨hjl,hje⟩:=List.getElem?_eq_some_iff.1 hj1
  obtain ⟨hkl,hke⟩:=List.getElem?_eq_some_iff.1 ha
  have hjk:j=k:=Classical.byContradiction fun h=>AP hjl hkl h (by unfold dm; rw [List.getD_eq_getElem?_getD,List.getD_eq_getElem?_getD,hj1,ha]) hnd
  subst hjk
  exact hne hj2
theorem yY {n:Int}:¬ u64 n=u64 (IntKind.i64.wrap (n+1)):=by
  rw [IntKind.wrap_i64]
  unfold u64
  omega
theorem sJ {x:Nat}:¬ x=x ^^^ 1:=fun h=>by
  have h1:=congrArg (fun y=>x ^^^ y) h
  simp only [← Nat.xor_assoc,Nat.xor_self,Nat.zero_xor] at h1
  exact absurd h1 ae
theorem BK (b:UInt8):¬ b=UInt8.ofNat (b.toNat ^^^ 1):=fun h=>by
  have h1:=congrArg UInt8.toNat h
  rw [UInt8.toNat_ofNat',Nat.mod_eq_of_lt (Nat.xor_lt_two_pow (n:=8) b.toNat_lt ae)] at h1
  exact sJ h1
theorem yX {n:Int}:¬ u64 n=u64 (bits .xor .i64 n 1):=by
  have h:u64 (bits .xor .i64 n 1)=u64 n ^^^ 1:=by
    have hx:u64 n ^^^ 1<2 ^ 64:=Nat.xor_lt_two_pow (gq n) ae
    have e:u64 n=(BitVec.ofInt 64 n).toNat:=by
      rw [BitVec.toNat_ofInt]
      rfl
    show u64 (IntKind.i64.wrap ((BitVec.ofInt 64 n ^^^ BitVec.ofInt 64 1).toNat:Int))=_
    rw [BitVec.toNat_xor,← e,show (BitVec.ofInt 64 1).toNat=1 from by decide]
    generalize u64 n ^^^ 1=y at hx
    rw [IntKind.wrap_i64]
    unfold u64
    omega
  rw [h]
  exact sJ
def jE {α:Type} (l:List α) (j:Nat):List α:=l.reverse.take j
theorem uu {α:Type} {l:List α}:jE l l.length=l.reverse:=H6 (by rw [List.length_reverse]; exact Ib _)
theorem pU {α:Type} {l:List α} {j:Nat} {a:α} (h:j<l.length) (ha:l[l.length-1-j]? = some a):jE l (j+1)=jE l j++[a]:=by
  unfold jE
  rw [List.take_add_one,List.getElem?_reverse h,ha]
  rfl
end Go.Proofs.YtepbmdlgdaedpaaGreatDoor
namespace Go.Dk
open Go Go.RowKit
section
variable {P:Program} {w:World} {n:Nat} {F:List (Nat × Value)} {o:Oper} {t t' e ti:TypeId} {x y:Operand} {v:Value}
end
section
variable {e:TypeId} {X:Seg} {v:Value} {A:Option Addr} {z m n i c k:Nat} {W B Z V:List Value}
theorem Buf.cut (h:Buf e z X (.slice A m c) m W) (hn:n≤m):Buf e z X (.slice A n c) n (W.take (n*z)):=by
  have hW:=h.1
  obtain ⟨d,rfl⟩:∃ d,m=n+d:=⟨m-n,ag⟩
  rw [Nat.add_mul] at hW
  refine ⟨by rw [List.length_take,hW]; omega,?_⟩
  rcases h.2 with ⟨h1,h2,h3⟩ | ⟨g,c',B,Z,h1,h2,h3,h4⟩
  · injection h1 with e1 e2 e3
    subst e1 e3
    exact .inl ⟨by rw [show n=0 by omega],ag,h3⟩
  · injection h1 with e1 e2 e3
    subst e1 e3
    obtain ⟨f,rfl⟩:∃ f,c=n+d+f:=⟨c-(n+d),ag⟩
    refine .inr ⟨g,_,B,W.drop (n*z)++Z,rfl,ag,?_,?_⟩
    · rw [show n+d+f-(n+d)=f by omega] at h3
      rw [List.length_append,List.length_drop,hW,h3,show n+d+f-n=d+f by omega,Nat.add_mul]
      omega
    · rw [h4]
      simp only [List.append_assoc,List.append_cancel_left_eq,List.cons.injEq,and_true]
      congr 2
      rw [← List.append_assoc (W.take _),List.take_append_drop]
theorem xK (h:k+V.length≤W.length):splice (B++W++Z) (B.length+k) V=B++splice W k V++Z:=by
  unfold splice
  have e1:B.take (B.length+k)=B:=H6 ag
  rw [List.append_assoc B W Z,List.take_append,e1,Nat.add_sub_cancel_left,List.take_append_of_le_length ag,Nat.add_assoc,← List.drop_drop,List.drop_left,List.drop_append_of_le_length h]
  simp [List.append_assoc]
theorem Buf.setRow (h:Buf e z X v m W) (hi:i<m) (hV:V.length=z):∃ g B Z c,v= .slice (some ⟨g,B.length,none⟩) m c∧X=[row g e (B++W++Z)]∧W.length=m*z∧i*z+z≤m*z∧Buf e z [row g e (splice (B++W++Z) (B.length+i*z) V)] v m (splice W (i*z) V):=by
  have hW:=h.1
  have hle:i*z+z≤m*z:=by have:=Nat.mul_le_mul_right z (show i+1≤m by omega); rwa [Nat.add_mul,Nat.one_mul] at this
  rcases h.2 with ⟨_,h2,_⟩ | ⟨g,c,B,Z,h1,h2,h3,h4⟩
  · omega
  · refine ⟨g,B,Z,c,h1,h4,hW,hle,?_,.inr ⟨g,c,B,Z,h1,h2,h3,?_⟩⟩
    · unfold splice
      rw [List.length_append,List.length_append,List.length_take,List.length_drop,hV]
      omega
    · rw [xK (by rw [hV,hW]; exact hle)]
end
section
variable {P:Program} {w w0:World} {n:Nat} {F:List (Nat × Value)} {a:Act} {L:List Row} {R:List Seg}
end
structure TxX where
  v:Value
  l:List UInt8
  X:Seg
def TxX.Ok (w0:World) (t:TxX):Prop:=∃ A c,t.v= .slice A t.l.length c∧Rd w0 [t.X] A t.l
end Go.Dk
