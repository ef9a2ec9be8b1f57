/- EventKept, plain: what a State of one binding and a Table of one type are; how great what is read is; memory that is kept. -/
import Derived.Test.YtepbmdlgdaedpaaGreatDoorKr4
import Derived.Test.YtepbmdlgdaedpaaGreatDoorTbO
import Derived.Test.YtepbmdlgdaedpaaGreatDoorSt2
import Derived.Test.YtepbmdlgdaedpaaGreatDoorBk
/- EventKept, plain: what a State of one binding and a Table of one type are; how great what is read is; memory that is kept. -/
namespace Go.Proofs.YtepbmdlgdaedpaaGreatDoor
open Go.RowKit Go.Dk
abbrev lkT:List UInt8:=[116]
abbrev lkA:List UInt8:=[97]
abbrev lkZ:List UInt8:=List.replicate 32 0
theorem J5:bY lkT=true:=by decide +kernel
theorem Ez {ca:CA} {v:Val} (h1:ca.typ=lkT) (h2:ca.bind=[(lkA,v)]):stE ca.typ ([lkA].map (jd ca.bind)) 1 0 0=v.right:=by
  have e:[lkA].map (jd ca.bind)=[v]:=by rw [h2]; rfl
  rw [e,h1]
  unfold stE
  rw [if_neg (by rw [J5]; decide),if_neg ae]
  unfold dU
  split
  · rename_i h; rw [h]; rfl
  · rfl
def xJ (n:Int):List UInt8:=nameB lkT++be 8 (u64 n)++lkZ++be 2 1
theorem oZ (n:Int):(xJ n).length=45:=by
  unfold xJ nameB
  simp only [List.length_append,bf,List.length_replicate]
  rfl
theorem LV {ca:CA} {v:Val} {n:Int} (h1:ca.typ=lkT) (h2:ca.bind=[(lkA,v)]) (h0:v.right=0):stX ca n lkZ [lkA] [] []=xJ n++(v.bytes++(be 2 0++be 2 0)):=by
  have e:[lkA].map (jd ca.bind)=[v]:=by rw [h2]; rfl
  rw [yP (by rw [show ([lkA]:List (List UInt8)).length=1 from rfl,show ([]:List (List UInt8)).length=0 from rfl,Ez h1 h2,h0]),e,h1]
  unfold stB xJ
  have e2:v.put=v.bytes:=if_pos h0
  simp only [List.map_nil,List.flatMap_nil,List.flatMap_cons,List.append_nil,List.append_assoc,List.length_nil,List.length_cons,e2]
theorem vF {α:Type} {r:List UInt8→Res α} {d v:α} {l:List UInt8} {p k:Nat} (h:r (l.drop p)= .ok v k):got r d l p 0=⟨v,p+k,0⟩:=by
  unfold got Res.val Res.pl Res.why
  rw [h]
  rfl
theorem Ie {X:List UInt8} {n:Int} {v:Val} (hv:v.In) (h0:v.right=0) (hX:X=xJ n++(v.bytes++(be 2 0++be 2 0))) {k1 p1 y1 k2 p2 y2 p3 y3:Nat} {d3:List UInt8}
    (h1:got (eQ 1) 0 X 0 0=⟨k1,p1,y1⟩) (h2:got (eQ 2) 0 X p1 y1=⟨k2,p2,y2⟩) (h3:got (eF · 42) [] X p2 y2=⟨d3,p3,y3⟩):∃ q,cu X p3 y3=⟨v,q,0⟩:=by
  have hl:45≤X.length:=by rw [hX,List.length_append,oZ]; omega
  have e1:got (eQ 1) 0 X 0 0=⟨num ((X.drop 0).take 1),0+1,0⟩:=vF (by unfold eQ; rw [if_neg (by rw [List.length_drop]; omega)])
  rw [h1] at e1
  injection e1 with _ e1 e1'
  subst e1 e1'
  have e2:got (eQ 2) 0 X (0+1) 0=⟨num ((X.drop (0+1)).take 2),0+1+2,0⟩:=vF (by unfold eQ; rw [if_neg (by rw [List.length_drop]; omega)])
  rw [h2] at e2
  injection e2 with _ e2 e2'
  subst e2 e2'
  have e3:got (eF · 42) [] X (0+1+2) 0=⟨(X.drop (0+1+2)).take 42,0+1+2+42,0⟩:=vF (by unfold eF; rw [if_neg (by rw [List.length_drop]; omega)]; rfl)
  rw [h3] at e3
  injection e3 with _ e3 e3'
  subst e3 e3'
  refine ⟨_,(o8 hv h0 (l:=X) (p:=0+1+2+42) (s:=be 2 0++be 2 0) ?_).1⟩
  rw [hX]
  exact List.drop_left' (oZ n)
theorem Ey {ds:List (List UInt8)} (h:ds.length=1):tbE [lkT] ds.length=0:=by rw [h]; decide +kernel
theorem LM {n:Int} {ch:List UInt8} {clk:Int} {d out:List UInt8} (hch:ch.length=32) (hd:d.length=32) (h:TbB n ch clk [lkT] [d] out):out.length=89:=by
  obtain ⟨ps,p1,_,rfl⟩:=h.ok (Ey rfl)
  have e:ps=[(lkT,d)]:=List.perm_singleton.1 p1
  rw [e]
  unfold sO rowB nameB
  simp only [List.length_append,bf,hch,List.flatMap_cons,List.flatMap_nil,List.length_cons,List.length_nil,hd]
theorem lG {v:Val} (h:v.right=0):v.s.length≤64:=by
  unfold Val.right at h
  split at h
  · cases h
  split at h
  · cases h
  split at h
  · cases h
  split at h
  · cases h
  · omega
theorem vJ {l:List UInt8} {p y:Nat}:(cu l p y).v.s.length≤64:=by
  obtain ⟨b,hb⟩:∃ b,b=dX (got (eQ 1) 0 l p y).v l (got (eQ 1) 0 l p y).p (got (eQ 1) 0 l p y).y:=⟨_,rfl⟩
  have e:cu l p y=⟨if (if b.y=0∧b.v.right≠0 then 8 else b.y)=0 then b.v else noVal,b.p,if b.y=0∧b.v.right≠0 then 8 else b.y⟩:=by rw [hb]; rfl
  rw [e]
  show (if (if b.y=0∧b.v.right≠0 then 8 else b.y)=0 then b.v else noVal).s.length≤64
  by_cases hq:b.y=0∧b.v.right≠0
  · rw [if_pos hq,if_neg ae]
    exact Nl _
  · rw [if_neg hq]
    by_cases hy:b.y=0
    · rw [if_pos hy]
      exact lG (Classical.byContradiction fun h3=>hq ⟨hy,h3⟩)
    · rw [if_neg hy]
      exact Nl _
theorem CZ (raw:List UInt8):(mJ raw).v.s.length≤64∧(mJ raw).args.length≤16∧(∀ v∈(mJ raw).args,v.s.length≤64)∧(mJ raw).src.length≤60000:=by
  unfold mJ
  split
  · rename_i h
    have R:=(Ev.rt h.2.2.2.2.1).1
    exact ⟨lG R.v,R.args,fun v hv=>lG (R.vs v hv),R.src⟩
  · exact ⟨Nl _,Nl _,(fun v hv=>by cases hv),Nl _⟩
def RRdF (w0:World) (F:Seg) (ks:List KeptR):Prop:=∀ k∈ks,RRd w0 [F] k
theorem RRdF.mono {w0:World} {F F':Seg} {ks:List KeptR} (h:RRdF w0 F ks) (hs:F⊆F'):RRdF w0 F' ks:=fun k hk=>by
  obtain ⟨h1,h2⟩:=h k hk
  exact ⟨fun a ha=>(h1 a ha).mono1 hs,fun a ha=>(h2 a ha).mono1 hs⟩
theorem RRdF.inR {w0:World} {F:Seg} {R:List Seg} {ks:List KeptR} (h:RRdF w0 F ks) (hs:∀ r∈F,r∈R.flatten):∀ k∈ks,RRd w0 R k:=fun k hk=>by
  obtain ⟨h1,h2⟩:=h k hk
  have hs2:([F]:List Seg).flatten⊆R.flatten:=fun r hr=>hs r (by simpa using hr)
  exact ⟨fun a ha=>(h1 a ha).monoF hs2,fun a ha=>(h2 a ha).monoF hs2⟩
theorem oI {α:Type} {C:α→List Value} {se e:TypeId} {sz:Nat} {ks:List (KeptX α)} {lv wv:Value} {Y:Seg} (h:BookV C se e sz ks lv wv Y):aS ks⊆Y:=by
  obtain ⟨_,XL,XW,_,_,_,rfl⟩:=h
  exact fun r hr=>Ns _ (Ns _ hr)
theorem RowsV.sub {ks:List KeptR} {lv wv:Value} {Y:Seg} (h:RowsV ks lv wv Y):aS (ks.map (·.x))⊆Y:=by
  obtain ⟨_,XL,XW,_,_,_,rfl⟩:=h
  exact fun r hr=>Ns _ (Ns _ hr)
theorem iV {F Y:Seg} {R:List Seg} (h:F⊆Y) (hY:Y∈R):∀ r∈F,r∈R.flatten:=fun _ hr=>List.mem_flatten.2 ⟨Y,hY,h hr⟩
theorem vK {F G:Seg} {R:List Seg} (h1:∀ r∈F,r∈R.flatten) (h2:∀ r∈G,r∈R.flatten):∀ r∈F++G,r∈R.flatten:=fun r hr=>by
  rcases List.mem_append.1 hr with h | h
  · exact h1 r h
  · exact h2 r h
theorem JA {F K D:Seg} {R:List Seg} (h:∀ r∈F,r∈K∨r∈D) (h1:∀ r∈K,r∈R.flatten) (h2:∀ r∈D,r∈R.flatten):∀ r∈F,r∈R.flatten:=fun r hr=>by
  rcases h r hr with h | h
  · exact h1 r h
  · exact h2 r h
theorem qN {w0:World} {X:Seg} {R:List Seg} {A:Option Addr} {W:List Value} (h:Rc w0 [X] A W) (hs:∀ r∈X,r∈R.flatten):Rc w0 R A W:=h.monoF (fun r hr=>hs r (by simpa using hr))
theorem o5 {ks ks':List (KeptX (List UInt8))} {DD MM:Seg} (h:∀ r∈aS ks,r∈aS ks'∨r∈DD):aS ks++MM⊆aS ks'++(DD++MM):=fun r hr=>by
  rcases List.mem_append.1 hr with hr | hr
  · rcases h r hr with h | h
    · exact Nr _ h
    · exact Ns _ (Nr _ h)
  · exact Ns _ (Ns _ hr)
theorem tu {P:Program} {Q:Exit→Act→World→Prop} {w:World} {n:Nat} {F:List (Nat × Value)} {a:Act} {ops:Array Oper} {S:World→Prop} {hd:Nat} {loud rest:List Nat} {i:Nat} {o:Oper} {d:Nat} (hF:Fr n F a) (ho:ops[i]? = some o) (hl:loud.contains i=true) (hdst:o.dst=some d) {j dj:Nat} {want:Bool} {oj:Oper} (hg:o.guard=some (j,want)) (hj:ops[j]? = some oj) (hdj:oj.dst=some dj) (hlk:Go.Dk.look F dj=some undef) (hlt:d<n) (hS:S w)
    (h:∀ a',Fr n ((d,undef)::F) a'→bZ P ops Q S hd loud rest a' w):bZ P ops Q S hd loud (i::rest) a w:=by
  have h1:=hF.has dj _ hlk
  have h2:Region.wanted o (yielded ops a.tmps)=false:=by
    unfold Region.wanted
    simp only [hg,yielded,hj,hdj,Option.bind_some,h1]
    rfl
  refine qP ho h2 hS ?_ hl
  rw [hdst]
  exact h _ (hF.put hlt)
theorem LP {i n:Nat} (h:(aI .lss ((i:Nat):Int) (n:Int) && aI .lss ((i:Nat):Int) 30)=true):i<n∧i<30:=by
  simp [aI] at h
  exact ⟨h.1,ag⟩
theorem Ig (e:Ev):(dV e).length≤65536:=by
  by_cases h:eY e=0
  · exact AA h
  · rw [show dV e=[] from if_neg h]
    exact Nl _
theorem xI {ez:EA} {raw:List UInt8} (h:ez.ev=mJ raw):ez.v.v.s.length≤64∧ez.args.length≤16∧(∀ a∈ez.args,a.v.s.length≤64)∧ez.src.length≤60000:=by
  have h1:=CZ raw
  rw [← h] at h1
  refine ⟨h1.1,?_,fun a ha=>h1.2.2.1 _ (List.mem_map_of_mem ha),h1.2.2.2⟩
  have h2:=h1.2.1
  unfold EA.ev at h2
  rwa [List.length_map] at h2
theorem OwnL.ok {w0:World} {G:List Seg} {l:List VA} {M:Seg} (h:OwnL l M) (ho:∀ a∈l,a.Ok w0 G):∀ a∈l,a.Ok w0 [M]:=by
  induction h with
  | nil=>exact fun a ha=>by cases ha
  | cons h1 _ ih =>
    intro a ha
    rcases List.mem_cons.1 ha with rfl | ha
    · have h2:=ho _ (Nu ..)
      obtain ⟨A,c,e,_,hr⟩:=Buf.rc (w0:=w0) h1 (Nu (a:=_) (l:=[]))
      injection e with e _ _
      subst e
      exact ⟨hr.monoF (by intro r hr; simp at hr ⊢; exact .inl hr),h2.n,h2.i⟩
    · exact (ih (fun b hb=>ho b (Nw _ hb)) a ha).mono1 (fun r hr=>Ns _ hr)
theorem OwnL.uncons {a:VA} {l:List VA} {M:Seg} (h:OwnL (a::l) M):∃ Z M',M=Z++M'∧a.Own Z∧OwnL l M':=by
  cases h with
  | cons h1 h2=>exact ⟨_,_,rfl,h1,h2⟩
theorem zX {w0:World} {F M1 M2:Seg} {ks ks':List KeptR} {kn:KeptR} (h:RRdF w0 F ks) (hin:∀ k∈ks',k∈ks∨k=kn) (h1:∀ a∈kn.x.l,a.Ok w0 [M1]) (h2:∀ a∈kn.m,a.Ok w0 [M2]):RRdF w0 (F++(M1++M2)) ks':=fun k hk=>by
  rcases hin k hk with hk | rfl
  · exact h.mono (fun r hr=>Nr _ hr) k hk
  · exact ⟨fun a ha=>(h1 a ha).mono1 (fun r hr=>by simp [hr]),fun a ha=>(h2 a ha).mono1 (fun r hr=>by simp [hr])⟩
theorem Ik {ks ks':List (KeptX (List UInt8))} {DD MM Z M1 M2:Seg} (h:∀ r∈aS ks,r∈aS ks'∨r∈DD) (hZ:Z⊆aS ks'):aS ks++(MM++((Z++M1)++M2))⊆aS ks'++((DD++MM)++(M1++M2)):=fun r hr=>by
  simp only [List.mem_append] at hr ⊢
  rcases hr with hr | hr | (hr | hr) | hr
  · rcases h r hr with h | h
    · exact .inl h
    · exact .inr (.inl (.inl h))
  · exact .inr (.inl (.inr hr))
  · exact .inl (hZ hr)
  · exact .inr (.inr (.inl hr))
  · exact .inr (.inr (.inr hr))
theorem Ij {ks ks':List (KeptX (List UInt8))} {DD MM Z M1 M2:Seg} (h:∀ r∈aS ks,r∈aS ks'∨r∈DD) (hZ:Z⊆aS ks'):aS ks++(MM++(M1++(Z++M2)))⊆aS ks'++((DD++MM)++(M1++M2)):=fun r hr=>by
  simp only [List.mem_append] at hr ⊢
  rcases hr with hr | hr | hr | hr | hr
  · rcases h r hr with h | h
    · exact .inl h
    · exact .inr (.inl (.inl h))
  · exact .inr (.inl (.inr hr))
  · exact .inr (.inr (.inl hr))
  · exact .inl (hZ hr)
  · exact .inr (.inr (.inr hr))
theorem J4 {k i n:Nat} (h:(aI .neq ((k:Nat):Int) 0 && aI .lss ((i:Nat):Int) (n:Int))=true):¬ k=0∧i<n:=by
  simp [aI] at h
  exact ⟨ ag,h.2⟩
theorem rG {W V:List Value} {i z k m:Nat} (h:(W.drop i).take z=V) (hk:k+m≤z):(W.drop (i+k)).take m=(V.drop k).take m:=by
  subst h
  rw [List.drop_take,List.drop_drop,List.take_take,Nat.min_eq_left ag]
end Go.Proofs.YtepbmdlgdaedpaaGreatDoor
