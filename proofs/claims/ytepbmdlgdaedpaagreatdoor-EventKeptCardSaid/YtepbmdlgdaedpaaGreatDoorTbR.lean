/- Texts that belong together, one behind the other. -/
import Derived.Test.YtepbmdlgdaedpaaGreatDoorEv9
import Derived.Test.YtepbmdlgdaedpaaGreatDoorSt1
import Derived.Test.YtepbmdlgdaedpaaGreatDoorBook1
import Derived.Test.YtepbmdlgdaedpaaGreatDoorOctetH
import Derived.Test.YtepbmdlgdaedpaaGreatDoorOctetS
import Derived.Test.YtepbmdlgdaedpaaGreatDoorBk
import Derived.Test.YtepbmdlgdaedpaaGreatDoorSt2
import Derived.Test.YtepbmdlgdaedpaaGreatDoorTwo
import Derived.Test.YtepbmdlgdaedpaaGreatDoorSp
import Derived.Test.YtepbmdlgdaedpaaGreatDoorOctetW
import Derived.Test.YtepbmdlgdaedpaaGreatDoorHr
import Derived.Test.YtepbmdlgdaedpaaGreatDoorCs
import Derived.Test.YtepbmdlgdaedpaaGreatDoorTab4
import Derived.Test.YtepbmdlgdaedpaaGreatDoorKr4
import Derived.Test.YtepbmdlgdaedpaaGreatDoorKr
import Derived.Test.YtepbmdlgdaedpaaGreatDoorTbW
import Derived.Test.YtepbmdlgdaedpaaGreatDoorBook0
namespace Go.Proofs.YtepbmdlgdaedpaaGreatDoor
open Go.RowKit Go.Dk
theorem qH {cs:List Value} {k:Nat} {u:Value} (h:k<cs.length):splice cs k [u]=cs.set k u:=by
  unfold splice
  rw [List.set_eq_take_append_cons_drop,if_pos h,List.append_assoc]
  rfl
theorem Jm {e:TypeId} {X:Seg} {v:Value} {m i:Nat} {W:List Value} (h:Buf e 1 X v m W) (hi:i<m) (u:Value):∃ g B Z c,v= .slice (some ⟨g,B.length,none⟩) m c∧X=[row g e (B++W++Z)]∧m≤c∧Buf e 1 [row g e ((B++W++Z).set (B.length+i) u)] (.slice (some ⟨g,B.length,none⟩) m c) m (W.set i u):=by
  obtain ⟨g,B,Z,c,hv,hX,hW,hle,hb⟩:=h.setRow (V:=[u]) hi rfl
  obtain ⟨A0,c0,hv0,hmc⟩:=h.slice
  rw [hv] at hv0
  injection hv0 with _ _ hcc
  rw [Nat.mul_one] at hb
  rw [qH (by rw [List.length_append,List.length_append,hW]; omega),qH (by rw [hW]; omega),hv] at hb
  exact ⟨g,B,Z,c,hv,hX,by rw [hcc]; exact hmc,hb⟩
end Go.Proofs.YtepbmdlgdaedpaaGreatDoor
namespace Go.Proofs.YtepbmdlgdaedpaaGreatDoor
open Go.RowKit Go.Dk
theorem Ha {c:CA} {n:Int} {ch:List UInt8} {l1 l2 l3:List (List UInt8)} (hch:ch.length=32):(stX c n ch l1 l2 l3).length≤4300000:=by
  by_cases h:stE c.typ (l1.map (jd c.bind)) l1.length l2.length l3.length=0
  · rw [yP h]
    unfold stE at h
    by_cases h1:bY c.typ=false
    · rw [if_pos h1] at h; cases h
    rw [if_neg h1] at h
    by_cases h2:64<max (max l1.length l2.length) l3.length
    · rw [if_pos h2] at h; cases h
    rw [if_neg h2] at h
    have q1:=lH (je h)
    rw [List.length_map] at q1
    have q2:=dZ (w:=c.typ) (by simpa using h1)
    unfold stB
    simp only [List.length_append,bf,gq,hch,pg (k:=1) (fun x=>bf 1 x),pg (k:=1) (f:=nV) (fun _=>rfl),List.length_map]
    omega
  · rw [uG h]; decide
end Go.Proofs.YtepbmdlgdaedpaaGreatDoor
namespace Go.Proofs.YtepbmdlgdaedpaaGreatDoor
open Go.RowKit Go.Dk
theorem fV {P:Program} {Q:Exit→Act→World→Prop} {w:World} {n:Nat} {F:List (Nat × Value)} {a:Act} {ops:Array Oper} {S:World→Prop} {hd:Nat} {loud rest:List Nat} {i:Nat} {o:Oper} {d:Nat} (hF:Fr n F a) (ho:ops[i]? = some o) (hl:loud.contains i=false) (hdst:o.dst=some d) {j dj:Nat} {want:Bool} {oj:Oper} (hg:o.guard=some (j,want)) (hj:ops[j]? = some oj) (hdj:oj.dst=some dj) (hlk:Go.Dk.look F dj=some undef) (hlt:d<n)
    (h:∀ a',Fr n ((d,undef)::F) a'→bZ P ops Q S hd loud rest a' w):bZ P ops Q S hd loud (i::rest) a w:=by
  have h1:=hF.has dj _ hlk
  have h2:Region.wanted o (yielded ops a.tmps)=false:=by
    unfold Region.wanted
    simp only [hg,yielded,hj,hdj,Option.bind_some,h1]
    rfl
  refine tY ho h2 ?_ hl
  rw [hdst]
  exact h _ (hF.put hlt)
theorem zg {l m:List Nat} (h:l.Nodup) (hs:l⊆m) (hl:m.length≤l.length):l.Perm m:=by
  induction l generalizing m with
  | nil =>
    have:m=[]:=List.length_eq_zero_iff.1 (Nat.le_zero.1 hl)
    rw [this]
  | cons a l ih =>
    have ha:a∈m:=hs (Nu ..)
    have h2:=List.nodup_cons.1 h
    have h3:l⊆m.erase a:=fun x hx=>(List.mem_erase_of_ne (fun e=>by subst e; exact h2.1 hx)).2 (hs (Nw _ hx))
    have h5:=List.length_erase_of_mem ha
    have h6:=List.length_pos_of_mem ha
    rw [List.length_cons] at hl
    exact ((ih h2.2 h3 ag).cons a).trans (List.perm_cons_erase ha).symm
structure Sel (ns:List (List UInt8)) (os:List Nat) (ln:List UInt8):Prop where
  nd:os.Nodup
  lt:∀ k∈os,k<ns.length
  rise:zO ns os
  low:∀ u,u<ns.length→u ∉ os→∀ c∈os,¬ dM ns u<dM ns c
  last:(os=[]∧ln=[])∨∃ os' c,os=os'++[c]∧ln=dM ns c
theorem Sel.nil {ns:List (List UInt8)}:Sel ns [] []:=⟨List.nodup_nil,fun _ h=>(by cases h),List.Pairwise.nil,fun _ _ _ _ h=>(by cases h),.inl ⟨rfl,rfl⟩⟩
def MinK (ns:List (List UInt8)) (os:List Nat) (j:Nat) (kz:Int):Prop :=
  (kz = -1∧∀ u,u<j→u∈os)∨∃ k:Nat,kz=(k:Int)∧k<ns.length∧k ∉ os∧∀ u,u<j→u ∉ os→¬ dM ns u<dM ns k
theorem MinK.zero {ns:List (List UInt8)} {os:List Nat}:MinK ns os 0 (-1):= .inl ⟨rfl,fun u h=>absurd h (Nat.not_lt_zero u)⟩
theorem MinK.skip {ns:List (List UInt8)} {os:List Nat} {j:Nat} {kz:Int} (h:MinK ns os j kz) (hj:j∈os):MinK ns os (j+1) kz:=by
  rcases h with ⟨h1,h2⟩ | ⟨k,h1,h2,h3,h4⟩
  · exact .inl ⟨h1,fun u hu=>if e:u=j then e ▸ hj else h2 u ag⟩
  · exact .inr ⟨k,h1,h2,h3,fun u hu huo=>if e:u=j then absurd (e ▸ hj) huo else h4 u ag huo⟩
theorem MinK.first {ns:List (List UInt8)} {os:List Nat} {j:Nat} (hl:j<ns.length) (hj:¬ j∈os) (h:∀ u,u<j→u∈os):MinK ns os (j+1) ((j:Nat):Int) :=
  .inr ⟨j,rfl,hl,hj,fun u hu huo=>if e:u=j then by rw [e]; exact List.lt_irrefl _ else absurd (h u ag) huo⟩
theorem MinK.less {ns:List (List UInt8)} {os:List Nat} {j k:Nat} (hl:j<ns.length) (hj:¬ j∈os) (h:∀ u,u<j→u ∉ os→¬ dM ns u<dM ns k) (hn:dM ns j<dM ns k):MinK ns os (j+1) ((j:Nat):Int) :=
  .inr ⟨j,rfl,hl,hj,fun u hu huo=>if e:u=j then by rw [e]; exact List.lt_irrefl _ else fun h2=>h u ag huo (List.lt_trans h2 hn)⟩
theorem Sel.perm {ns:List (List UInt8)} {os:List Nat} {ln:List UInt8} (h:Sel ns os ln) (hl:ns.length≤os.length):os.Perm (List.range ns.length) :=
  zg h.nd (fun k hk=>List.mem_range.2 (h.lt k hk)) (by rw [List.length_range]; exact hl)
theorem Sel.snoc {ns:List (List UInt8)} {os:List Nat} {ln:List UInt8} {k:Nat} (h:Sel ns os ln) (hk:k<ns.length) (hko:k ∉ os) (hm:∀ u,u<ns.length→u ∉ os→¬ dM ns u<dM ns k) (hne:¬ dM ns k=ln):Sel ns (os++[k]) (dM ns k):=by
  refine ⟨List.nodup_append.2 ⟨h.nd,by simp,fun a ha b hb e=>?_⟩,fun c hc=>?_,tV h.rise ?_,fun u hu huo c hc=>?_,.inr ⟨os,k,rfl,rfl⟩⟩
  · rw [List.mem_singleton.1 hb] at e
    exact hko (e ▸ ha)
  · rcases List.mem_append.1 hc with hc | hc
    · exact h.lt c hc
    · rw [List.mem_singleton.1 hc]; exact hk
  · intro a ha
    rcases h.last with ⟨h1,_⟩ | ⟨os',c,h1,h2⟩
    · rw [h1] at ha; cases ha
    · have hr:=h.rise
      rw [h1] at hr ha
      have hc:c∈os:=by rw [h1]; simp
      exact tX hr (uf (h.low k hk hko c hc) (fun e=>hne (h2 ▸ e.symm))) a ha
  · have huo2:u ∉ os:=fun h9=>huo (Nr _ h9)
    rcases List.mem_append.1 hc with hc | hc
    · exact h.low u hu huo2 c hc
    · rw [List.mem_singleton.1 hc]; exact hm u hu huo2
end Go.Proofs.YtepbmdlgdaedpaaGreatDoor
