/- Texts that belong together, one behind the other. -/
import Derived.Test.YtepbmdlgdaedpaaGreatDoorW1
import Derived.Test.YtepbmdlgdaedpaaGreatDoorTbW
import Derived.Test.YtepbmdlgdaedpaaGreatDoorEv9
import Derived.Test.YtepbmdlgdaedpaaGreatDoorOpenR
import Derived.Test.YtepbmdlgdaedpaaGreatDoorEv8
import Derived.Test.YtepbmdlgdaedpaaGreatDoorEv
import Derived.Test.YtepbmdlgdaedpaaGreatDoorOctetH
import Derived.Test.YtepbmdlgdaedpaaGreatDoorHc
import Derived.Test.YtepbmdlgdaedpaaGreatDoorEv6
import Derived.Test.YtepbmdlgdaedpaaGreatDoorEvW
import Derived.Test.YtepbmdlgdaedpaaGreatDoorEnt
import Derived.Test.YtepbmdlgdaedpaaGreatDoorMore
import Derived.Test.YtepbmdlgdaedpaaGreatDoorLawApart
import Derived.Test.YtepbmdlgdaedpaaGreatDoorSp
namespace Go.Proofs.YtepbmdlgdaedpaaGreatDoor
open Go.RowKit Go.Dk
def tb (b:UInt8):UInt8:=UInt8.ofNat (b.toNat ^^^ 1)
def Cb (n:Int):Int:=bits .xor .i64 n 1
abbrev tA (a:VA):VA:=⟨⟨a.v.k,Cb a.v.n,a.v.t,a.v.s⟩,a.sA,a.sC⟩
def FX (u:EA):EA:={ u with args:=u.args.map tA,src:=u.src.map tb }
theorem vY (n:Int) : -9223372036854775808≤Cb n∧Cb n≤9223372036854775807:=by
  unfold Cb bits
  rw [IntKind.wrap_i64]
  omega
theorem FT (b:UInt8):bits .xor .u8 ((b.toNat:Nat):Int) 1=((tb b).toNat:Int):=by
  have h:=u8_xor_nat b.toNat 1 b.toNat_lt ae
  unfold tb
  rw [UInt8.toNat_ofNat',Nat.mod_eq_of_lt (Nat.xor_lt_two_pow (n:=8) b.toNat_lt ae)]
  exact h
theorem WE.turn {w0:World} {gS gA gB:Nat} {M:Seg} {u:EA} (h:WE w0 gS gA gB M u):WE w0 gS gA gB M (FX u):=by
  refine ⟨h.vA,h.vC,h.aA,by show u.aC=(u.args.map tA).length+80; rw [List.length_map]; exact h.aC,h.bA,by show u.bC=(u.src.map tb).length+80; rw [List.length_map]; exact h.bC,fun a ha=>?_,h.nS,by show (u.args.map tA).length≤_; rw [List.length_map]; exact h.nA,by show (u.src.map tb).length≤_; rw [List.length_map]; exact h.nB,h.i.1,h.i.2.1,h.i.2.2.1,h.i.2.2.2.1,fun v hv=>?_,h.i.2.2.2.2.2⟩
  · obtain ⟨b,hb,rfl⟩:=List.mem_map.1 ha
    obtain ⟨h1,h2,h3,h4⟩:=h.m b hb
    exact ⟨h1,h2,h3,h4.1,vY _⟩
  · have hv':v∈(u.args.map tA).map VA.v:=hv
    rw [List.map_map] at hv'
    obtain ⟨b,hb,rfl⟩:=List.mem_map.1 hv'
    exact ⟨(h.m b hb).2.2.2.1,vY _⟩
end Go.Proofs.YtepbmdlgdaedpaaGreatDoor
namespace Go.Proofs.YtepbmdlgdaedpaaGreatDoor
open Go.RowKit Go.Dk
theorem uO {l m:List Nat} (h:l.Nodup) (hs:l⊆m) (hl:m.length≤l.length):l.Perm m:=by
  induction l generalizing m with
  | nil =>
    have:m=[]:=List.length_eq_zero_iff.1 (Nat.le_zero.1 hl)
    rw [this]
  | cons a l ih =>
    have ha:a∈m:=hs (HY ..)
    have h2:=List.nodup_cons.1 h
    have h3:l⊆m.erase a:=fun x hx=>(List.mem_erase_of_ne (fun e=>by subst e; exact h2.1 hx)).2 (hs (H5 _ hx))
    have h5:=List.length_erase_of_mem ha
    have h6:=List.length_pos_of_mem ha
    rw [List.length_cons] at hl
    exact ((ih h2.2 h3 ag).cons a).trans (List.perm_cons_erase ha).symm
structure Sel (ns:List (List UInt8)) (os:List Nat) (ln:List UInt8):Prop where
  nd:os.Nodup
  lt:∀ k∈os,k<ns.length
  rise:vM ns os
  low:∀ u,u<ns.length→u ∉ os→∀ c∈os,¬ dm ns u<dm ns c
  last:(os=[]∧ln=[])∨∃ os' c,os=os'++[c]∧ln=dm ns c
theorem Sel.nil {ns:List (List UInt8)}:Sel ns [] []:=⟨List.nodup_nil,fun _ h=>(by cases h),List.Pairwise.nil,fun _ _ _ _ h=>(by cases h),.inl ⟨rfl,rfl⟩⟩
def MinK (ns:List (List UInt8)) (os:List Nat) (j:Nat) (kz:Int):Prop :=
  (kz = -1∧∀ u,u<j→u∈os)∨∃ k:Nat,kz=(k:Int)∧k<ns.length∧k ∉ os∧∀ u,u<j→u ∉ os→¬ dm ns u<dm ns k
theorem MinK.zero {ns:List (List UInt8)} {os:List Nat}:MinK ns os 0 (-1):= .inl ⟨rfl,fun u h=>absurd h (Nat.not_lt_zero u)⟩
theorem MinK.skip {ns:List (List UInt8)} {os:List Nat} {j:Nat} {kz:Int} (h:MinK ns os j kz) (hj:j∈os):MinK ns os (j+1) kz:=by
  rcases h with ⟨h1,h2⟩ | ⟨k,h1,h2,h3,h4⟩
  · exact .inl ⟨h1,fun u hu=>if e:u=j then e ▸ hj else h2 u ag⟩
  · exact .inr ⟨k,h1,h2,h3,fun u hu huo=>if e:u=j then absurd (e ▸ hj) huo else h4 u ag huo⟩
theorem MinK.first {ns:List (List UInt8)} {os:List Nat} {j:Nat} (hl:j<ns.length) (hj:¬ j∈os) (h:∀ u,u<j→u∈os):MinK ns os (j+1) ((j:Nat):Int) :=
  .inr ⟨j,rfl,hl,hj,fun u hu huo=>if e:u=j then by rw [e]; exact List.lt_irrefl _ else absurd (h u ag) huo⟩
theorem MinK.less {ns:List (List UInt8)} {os:List Nat} {j k:Nat} (hl:j<ns.length) (hj:¬ j∈os) (h:∀ u,u<j→u ∉ os→¬ dm ns u<dm ns k) (hn:dm ns j<dm ns k):MinK ns os (j+1) ((j:Nat):Int) :=
  .inr ⟨j,rfl,hl,hj,fun u hu huo=>if e:u=j then by rw [e]; exact List.lt_irrefl _ else fun h2=>h u ag huo (List.lt_trans h2 hn)⟩
theorem Sel.perm {ns:List (List UInt8)} {os:List Nat} {ln:List UInt8} (h:Sel ns os ln) (hl:ns.length≤os.length):os.Perm (List.range ns.length) :=
  uO h.nd (fun k hk=>List.mem_range.2 (h.lt k hk)) (by rw [List.length_range]; exact hl)
end Go.Proofs.YtepbmdlgdaedpaaGreatDoor
namespace Go.Proofs.YtepbmdlgdaedpaaGreatDoor
open Go.RowKit Go.Dk
theorem zg {ns:List (List UInt8)} {m:Nat} (h:tbE ns m=0):ns.length=m∧ns.length≤1000∧ns.all bz=true∧ns.Nodup:=by
  unfold tbE at h
  split at h
  · cases h
  split at h
  · cases h
  split at h
  · cases h
  split at h
  · rename_i h1 h2 h3 h4
    exact ⟨Classical.not_not.1 h1,ag,by simpa using h3,h4⟩
  · cases h
theorem TbB.ps {n:Int} {ch:List UInt8} {clk:Int} {ns ds:List (List UInt8)} {ps:List Pr} (h0:tbE ns ds.length=0) (hds:∀ d∈ds,d.length=32) (hp:ps.Perm (ns.zip ds)):ps.length=ns.length∧∀ p∈ps,p.1.length≤64∧p.2.length=32:=by
  obtain ⟨h1,h2,h3,_⟩:=zg h0
  refine ⟨by rw [hp.length_eq,List.length_zip]; omega,fun p hp2=>?_⟩
  have h4:=hp.subset hp2
  exact ⟨dC (List.all_eq_true.1 h3 _ (List.of_mem_zip h4).1),hds _ (List.of_mem_zip h4).2⟩
theorem TbB.len {n:Int} {ch:List UInt8} {clk:Int} {ns ds:List (List UInt8)} {out:List UInt8} (h:TbB n ch clk ns ds out) (hch:ch.length=32) (hds:∀ d∈ds,d.length=32):out.length≤98100:=by
  unfold TbB at h
  split at h
  · rename_i h0
    obtain ⟨ps,hp,_,rfl⟩:=h
    obtain ⟨q1,q2⟩:=TbB.ps (n:=n) (ch:=ch) (clk:=clk) h0 hds hp
    have q3:=rU q2
    have q4:=(zg h0).2.1
    unfold oN
    simp only [List.length_append,aT,hch]
    omega
  · rw [h]; decide
end Go.Proofs.YtepbmdlgdaedpaaGreatDoor
