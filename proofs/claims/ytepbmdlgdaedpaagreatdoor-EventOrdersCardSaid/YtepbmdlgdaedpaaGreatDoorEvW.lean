/- An event's bytes are read back as that event, whatever stands behind them: plain Lean. -/
import Derived.Test.YtepbmdlgdaedpaaGreatDoorEvL
import Derived.Test.YtepbmdlgdaedpaaGreatDoorOpsLaw0
/- An event's bytes are read back as that event, whatever stands behind them: plain Lean. -/
namespace Go.Proofs.YtepbmdlgdaedpaaGreatDoor
open Go.RowKit Go.Dk
theorem lI {α:Type} {r:List UInt8→Res α} {d v:α} {l q s:List UInt8} {p k:Nat} (h:l.drop p=q++s) (hr:r (q++s)= .ok v k) (hk:k=q.length):got r d l p 0=⟨v,p+q.length,0⟩∧l.drop (p+q.length)=s:=by
  subst hk
  refine ⟨?_,by rw [← List.drop_drop,h,List.drop_left]⟩
  unfold got Res.val Res.pl Res.why
  rw [h,hr]
  rfl
theorem ku {K n:Nat} {l s:List UInt8} {p:Nat} (hn:n<256 ^ K) (h:l.drop p=be K n++s):got (dX K) 0 l p 0=⟨n,p+(be K n).length,0⟩∧l.drop (p+(be K n).length)=s :=
  lI h (qB hn s) (aT K n).symm
theorem gQ (s:List UInt8):(nameB s).length=2+s.length:=by unfold nameB; rw [List.length_append,aT]
theorem qX {m k:Int} (h0:0≤m) (h1:m≤k):bnd m k=m:=by unfold bnd; omega
theorem kV {t l s:List UInt8} {p:Nat} {m:Int} (h0:0≤m) (h1:m≤65535) (ht:(t.length:Int)≤m) (h:l.drop p=nameB t++s):got (dA · m) [] l p 0=⟨t,p+(nameB t).length,0⟩∧l.drop (p+(nameB t).length)=s :=
  lI h (o5 (by rw [qX h0 h1]; exact ht) s) (gQ t).symm
theorem jM {α:Type} {b:Bool} {d v:α} {g:Got α} {l q s:List UInt8} {p:Nat} (h:l.drop p=(if b then q else [])++s) (hb:b=true→l.drop p=q++s→g=⟨v,p+q.length,0⟩∧l.drop (p+q.length)=s) (hn:b=false→v=d):iM b d p 0 g=⟨v,p+(if b then q else []).length,0⟩∧l.drop (p+(if b then q else []).length)=s:=by
  unfold iM
  cases b with
  | true=>exact hb rfl h
  | false=>exact ⟨by rw [hn rfl]; rfl,by simpa using h⟩
theorem gq (n:Int):u64 n<18446744073709551616:=by unfold u64; omega
theorem qH {n:Int} (h : -9223372036854775808≤n∧n≤9223372036854775807):i64 (u64 n)=n:=by unfold i64 u64; split <;> omega
theorem rY {s:List (List UInt8)}:∀ {n:Nat},dD s n=true→∀ j,j+1<n→bn .geq (s.getD j []) (s.getD (j+1) [])=false
  | 0,_,j,hj=>by omega
  | 1,_,j,hj=>by omega
  | n+2,h,j,hj=>by
    have h2:(dD s (n+1) && !bn .geq (s.getD n []) (s.getD (n+1) []))=true:=h
    rw [Bool.and_eq_true] at h2
    by_cases e:j=n
    · subst e; simpa using h2.2
    · exact rY h2.1 j ag
theorem FN {s:List (List UInt8)} (h:¬ s.any gI=true):∀ m∈s,m.length≤1024:=fun m hm=>by
  have h1:¬ gI m=true:=fun hh=>h (List.any_eq_true.2 ⟨m,hm,hh⟩)
  unfold gI at h1
  rw [decide_eq_true_eq] at h1
  omega
theorem tH (f:Nat→Nat) (k i:Nat) (h:∀ j,i≤j→j<i+k→f j=0):iT f i k=0:=by
  induction k generalizing i with
  | zero=>rfl
  | succ k ih=>rw [iT,if_pos (h i (Ib _) ag)]; exact ih (i+1) (fun j h1 h2=>h j ag ag)
structure Val.Rt (v:Val):Prop where
  t:v.k=3∨v.t=[]
  s:v.k=5∨v.s=[]
  k:(v.k=0∧v.n=0)∨v.k=1∨(v.k=2∧(v.n=0∨v.n=1))∨(v.k=3∧v.n=0)∨v.k=4∨(v.k=5∧v.n=0∧dD v.s v.s.length=true)
  tl:v.t.length≤1024
  sl:v.s.length≤64
  ml:∀ m∈v.s,m.length≤1024
theorem Val.rt {v:Val} (h:v.right=0):v.Rt:=by
  unfold Val.right at h
  split at h
  · exact absurd h ae
  rename_i hf
  split at h
  · exact absurd h ae
  split at h
  · exact absurd h ae
  rename_i hl
  split at h
  · exact absurd h ae
  rename_i hs
  have hf:v.formed=true:=by simpa using hf
  unfold Val.formed at hf
  split at hf
  · exact absurd hf ae
  rename_i h0
  have ht:v.k=3∨v.t=[]:=by
    by_cases e:v.k=3
    · exact .inl e
    · exact .inr (Classical.byContradiction fun hh=>h0 (.inl ⟨e,hh⟩))
  have hS:v.k=5∨v.s=[]:=by
    by_cases e:v.k=5
    · exact .inl e
    · exact .inr (Classical.byContradiction fun hh=>h0 (.inr ⟨e,hh⟩))
  refine ⟨ht,hS,?_,?_,?_,FN fun hh=>hl (.inr hh)⟩
  · split at hf
    · rename_i e; rcases e with e | e
      · exact .inr (.inl e)
      · exact .inr (.inr (.inr (.inr (.inl e))))
    split at hf
    · rename_i e; exact .inr (.inr (.inl ⟨e,by simpa using hf⟩))
    split at hf
    · rename_i e; rcases e with e | e
      · exact .inl ⟨e,by simpa using hf⟩
      · exact .inr (.inr (.inr (.inl ⟨e,by simpa using hf⟩)))
    split at hf
    · rename_i e
      rw [Bool.and_eq_true] at hf
      exact .inr (.inr (.inr (.inr (.inr ⟨e,by simpa using hf.2,hf.1⟩))))
    · exact absurd hf ae
  · exact Nat.le_of_not_lt fun hh=>hl (.inl hh)
  · exact Nat.le_of_not_lt hs
theorem o7 {s:List (List UInt8)} (h1:s.length≤64) (h2:∀ m∈s,m.length≤1024) (h3:dD s s.length=true):gY s 64 1024=0:=by
  unfold gY
  rw [if_neg (by unfold bnd; omega)]
  refine tH _ _ _ fun j _ hj=>?_
  have hj:j<s.length:=by omega
  have hm:(s.getD j []).length≤1024:=by
    rw [List.getD_eq_getElem?_getD,List.getElem?_eq_getElem hj]
    exact h2 _ (List.getElem_mem hj)
  unfold iC
  rw [if_neg (by unfold bnd; omega),if_neg]
  rintro ⟨h0,hg⟩
  have:=rY h3 (j-1) ag
  rw [show j-1+1=j by omega] at this
  rw [this] at hg
  exact absurd hg ae
theorem pz {v:Val} (hi:v.In) (hr:v.right=0) {l s:List UInt8} {p:Nat} (h:l.drop p=v.bytes++s):bK l p 0=⟨v,p+v.bytes.length,0⟩∧l.drop (p+v.bytes.length)=s:=by
  have R:=Val.rt hr
  have hk:0≤v.k∧v.k≤5:=by rcases R.k with h | h | h | h | h | h <;> omega
  have hkn:((v.k.toNat:Nat):Int)=v.k:=by omega
  refine ⟨?_,by rw [← List.drop_drop,h,List.drop_left]⟩
  obtain ⟨q,hq⟩:∃ q,q=(if v.k=1∨v.k=4 then be 8 (u64 v.n) else if v.k=2 then [if v.n=1 then 1 else 0] else if v.k=3 then be 2 v.t.length++v.t else if v.k=5 then be 2 v.s.length++dI v.s else []:List UInt8):=⟨_,rfl⟩
  have hb:v.bytes=be 1 v.k.toNat++q:=by rw [hq]; rfl
  rw [hb,List.append_assoc] at h
  obtain ⟨e1,h2⟩:=ku (K:=1) (n:=v.k.toNat) (by show v.k.toNat<256; omega) h
  obtain ⟨p2,hp2⟩:∃ p2,p2=p+(be 1 v.k.toNat).length:=⟨_,rfl⟩
  rw [← hp2] at e1 h2
  have hbody:dw v.k.toNat l p2 0=⟨v,p2+q.length,0⟩:=by
    unfold dw
    by_cases c1:v.k=1∨v.k=4
    · rw [if_pos c1] at hq
      rw [if_pos ag]
      subst hq
      rw [(ku (K:=8) (gq v.n) h2).1]
      have ht:v.t=[]:=R.t.resolve_left ag
      have hs:v.s=[]:=R.s.resolve_left ag
      show (⟨⟨((v.k.toNat:Nat):Int),i64 (u64 v.n),[],[]⟩,_,_⟩:Got Val)=_
      rw [hkn,qH hi.2,← ht]
      conv=>lhs; rw [show v.t=v.t from rfl]
      cases v; simp_all
    rw [if_neg c1] at hq
    rw [if_neg ag]
    by_cases c2:v.k=2
    · rw [if_pos c2] at hq
      rw [if_pos ag]
      subst hq
      have hn:v.n=0∨v.n=1:=by
        rcases R.k with h | h | h | h | h | h
        · omega
        · omega
        · exact h.2
        · omega
        · omega
        · omega
      have ht:v.t=[]:=R.t.resolve_left ag
      have hs:v.s=[]:=R.s.resolve_left ag
      have hf:=yw (decide (v.n=1)) s
      have e:(if decide (v.n=1)=true then (1:UInt8) else 0)=if v.n=1 then 1 else 0:=by simp
      rw [e] at hf
      rw [(lI (r:=ik) (d:=false) h2 hf rfl).1]
      cases v; simp_all
      omega
    rw [if_neg c2] at hq
    rw [if_neg ag]
    by_cases c3:v.k=3
    · rw [if_pos c3] at hq
      rw [if_pos ag]
      subst hq
      have hn:v.n=0:=by rcases R.k with h | h | h | h | h | h <;> omega
      have hs:v.s=[]:=R.s.resolve_left ag
      rw [(kV (t:=v.t) (m:=1024) ae ae (by have:=R.tl; omega) h2).1]
      cases v; simp_all [nameB]
    rw [if_neg c3] at hq
    rw [if_neg ag]
    by_cases c5:v.k=5
    · rw [if_pos c5] at hq
      rw [if_pos ag]
      have hn:v.n=0:=by rcases R.k with h | h | h | h | h | h <;> omega
      have hrs:dD v.s v.s.length=true:=by
        rcases R.k with h | h | h | h | h | h
        · omega
        · omega
        · omega
        · omega
        · omega
        · exact h.2.2
      have ht:v.t=[]:=R.t.resolve_left ag
      obtain ⟨h5,h6⟩:=uz (o7 R.sl R.ml hrs) s
      rw [← hq] at h6
      rw [h6] at h5
      rw [(lI (r:=(dR · 64 1024)) (d:=[]) h2 h5 rfl).1]
      cases v; simp_all
    · rw [if_neg c5] at hq
      rw [if_neg ag]
      have hn:v.n=0:=by rcases R.k with h | h | h | h | h | h <;> omega
      have ht:v.t=[]:=R.t.resolve_left ag
      have hs:v.s=[]:=R.s.resolve_left ag
      subst hq
      cases v; simp_all
  show (let g:=got (dX 1) 0 l p 0; let b:=dw g.v l g.p g.y; let y2:=if b.y=0∧b.v.right≠0 then 8 else b.y; (⟨if y2=0 then b.v else fC,b.p,y2⟩:Got Val))=_
  rw [e1]
  show (let b:=dw v.k.toNat l p2 0; let y2:=if b.y=0∧b.v.right≠0 then 8 else b.y; (⟨if y2=0 then b.v else fC,b.p,y2⟩:Got Val))=_
  rw [hbody,hb,List.length_append,← Nat.add_assoc,← hp2]
  simp [hr]
theorem nX:∀ (vs:List Val),(∀ v∈vs,v.In∧v.right=0)→∀ {l s:List UInt8} {p:Nat},l.drop p=vs.flatMap Val.put++s→dP l vs.length p 0=⟨vs,p+(vs.flatMap Val.put).length,0⟩∧l.drop (p+(vs.flatMap Val.put).length)=s
  | [],_,l,s,p,h=>⟨rfl,by simpa using h⟩
  | v::vs,hv,l,s,p,h=>by
    obtain ⟨h1,h2⟩:=hv v (HY ..)
    have hp:v.put=v.bytes:=if_pos h2
    rw [List.flatMap_cons,hp,List.append_assoc] at h
    obtain ⟨e1,h3⟩:=pz h1 h2 h
    obtain ⟨e2,h4⟩:=nX vs (fun u hu=>hv u (H5 _ hu)) h3
    rw [List.flatMap_cons,hp,List.length_append,← Nat.add_assoc]
    refine ⟨?_,h4⟩
    show (if (0:Nat)=0 then (let g:=bK l p 0; let r:=dP l vs.length g.p g.y; (⟨g.v::r.v,r.p,r.y⟩:Got (List Val))) else _)=_
    rw [if_pos rfl,e1]
    show (let r:=dP l vs.length (p+v.bytes.length) 0; (⟨v::r.v,r.p,r.y⟩:Got (List Val)))=_
    rw [e2]
theorem uX {b:Bool} {vs:List Val} (hb:b=false→vs=[]) (hn:vs.length≤16) (hv:∀ v∈vs,v.In∧v.right=0) {l s:List UInt8} {p:Nat} (h:l.drop p=(if b then be 1 vs.length++vs.flatMap Val.put else [])++s) :
    ∃ n1 p1,iM b 0 p 0 (got (dX 1) 0 l p 0)=⟨n1,p1,0⟩∧dP l n1 p1 0=⟨vs,p+(if b then be 1 vs.length++vs.flatMap Val.put else []).length,0⟩∧l.drop (p+(if b then be 1 vs.length++vs.flatMap Val.put else []).length)=s:=by
  cases b with
  | true =>
    simp only [if_true,List.append_assoc] at h ⊢
    obtain ⟨e1,h1⟩:=ku (K:=1) (n:=vs.length) (by show vs.length<256; omega) h
    obtain ⟨e2,h2⟩:=nX vs hv h1
    rw [List.length_append,← Nat.add_assoc]
    exact ⟨_,_,e1,e2,h2⟩
  | false =>
    rw [hb rfl]
    exact ⟨0,p,rfl,rfl,by simpa using h⟩
theorem lX {l:List Val} (h:ig l=0):∀ v∈l,v.right=0:=by
  induction l with
  | nil=>intro v hv; cases hv
  | cons u l ih =>
    unfold ig at h
    split at h
    · rename_i h0
      intro v hv
      rcases List.mem_cons.1 hv with rfl | hv
      · exact h0
      · exact ih h v hv
    · rename_i h0; exact absurd h h0
structure Ev.Rt (e:Ev):Prop where
  op:1≤e.op∧e.op≤5
  spare:bZ e (dZ e.op)=true
  cas:(dZ e.op).cased=true→di e.cas 64=true
  typ:(dZ e.op).typed=true→bz e.typ=true
  nam:(dZ e.op).named=true→bz e.nam=true
  num:0≤e.num∧e.num<1099511627776
  clk:0≤e.clk∧e.clk≤4611686018427387904
  args:e.args.length≤16
  v:e.v.right=0
  vs:∀ v∈e.args,v.right=0
  src:e.src.length≤60000
  len:(e.bytes (dZ e.op)).length≤65536
theorem Ev.rt {e:Ev} (h:fE e=0):e.Rt∧eY e=e.bytes (dZ e.op):=by
  have hB:eY e=e.bytes (dZ e.op):=if_pos h
  refine ⟨?_,hB⟩
  unfold fE at h
  split at h
  · exact absurd h ae
  rename_i hop
  have hop:iK e.op:=Classical.not_not.1 hop
  split at h
  rotate_left
  · rename_i h0; exact absurd h h0
  rename_i hr
  split at h
  · exact absurd h ae
  rename_i hlen
  unfold bJ at hr
  split at hr
  · exact absurd hr ae
  rename_i hsp
  split at hr
  · exact absurd hr ae
  rename_i hnm
  split at hr
  · exact absurd hr ae
  rename_i hnum
  split at hr
  · exact absurd hr ae
  rename_i hclk
  split at hr
  · exact absurd hr ae
  rename_i hargs
  split at hr
  rotate_left
  · rename_i h0; exact absurd hr h0
  rename_i hfirst
  split at hr
  · exact absurd hr ae
  rename_i hsrc
  have hv:=lX hfirst
  refine ⟨hop,by simpa using hsp,fun hc=>?_,fun hc=>?_,fun hc=>?_,ag,ag,ag,hv _ (HY ..),fun v hm=>hv v (H5 _ hm),ag,ag⟩
  · cases hh:di e.cas 64 with
    | true=>rfl
    | false=>exact absurd (.inl ⟨hc,hh⟩) hnm
  · cases hh:bz e.typ with
    | true=>rfl
    | false=>exact absurd (.inr (.inl ⟨hc,hh⟩)) hnm
  · cases hh:bz e.nam with
    | true=>rfl
    | false=>exact absurd (.inr (.inr ⟨hc,hh⟩)) hnm
theorem jl {w:List UInt8} {m:Int} (h:di w m=true):(w.length:Int)≤m:=by
  unfold di at h
  rw [Bool.and_eq_true,decide_eq_true_eq] at h
  exact h.1.2
theorem dC {w:List UInt8} (h:bz w=true):w.length≤64:=by
  unfold bz fM at h
  rw [Bool.and_eq_true,Bool.and_eq_true,Bool.and_eq_true,decide_eq_true_eq] at h
  exact h.1.1.1.2
theorem uN {v:Val} (h:v.nothing=true):v=fC:=by
  unfold Val.nothing at h
  rw [decide_eq_true_eq] at h
  obtain ⟨h1,h2,h3,h4⟩:=h
  cases v
  simp only [fC] at *
  subst h1 h2 h3 h4
  rfl
theorem Af {e:Ev} (hi:e.In) (h:fE e=0) (s:List UInt8):fZ (eY e++s)=⟨e,(eY e).length,0⟩:=by
  obtain ⟨R,hB⟩:=Ev.rt h
  obtain ⟨_,_,_,hiv,hia,heff⟩:=hi
  obtain ⟨f,hf⟩:∃ f,f=dZ e.op:=⟨_,rfl⟩
  have hsp:=R.spare
  have hcas:=R.cas
  have htyp:=R.typ
  have hnam:=R.nam
  rw [← hf] at hsp hcas htyp hnam hB
  unfold bZ at hsp
  simp only [Bool.and_eq_true,Bool.or_eq_true,decide_eq_true_eq] at hsp
  obtain ⟨⟨⟨⟨⟨s1,s2⟩,s3⟩,s4⟩,s5⟩,s6⟩:=hsp
  obtain ⟨l,hl⟩:∃ l,l=eY e++s:=⟨_,rfl⟩
  have hop:((e.op.toNat:Nat):Int)=e.op:=by have:=R.op; omega
  have h0:l.drop 0=be 1 e.op.toNat++(be 8 (u64 e.num)++(be 8 (u64 e.clk)++((if f.cased then nameB e.cas else [])++((if f.typed then nameB e.typ else [])++((if f.named then nameB e.nam else [])++((if f.source then be 4 e.src.length++e.src else [])++((if f.valued then e.v.put else [])++((if f.args then be 1 e.args.length++e.args.flatMap Val.put else [])++(e.eff++s))))))))):=by
    rw [List.drop_zero,hl,hB]
    unfold Ev.bytes
    simp only [List.append_assoc]
  have hlen:(eY e).length=0+(be 1 e.op.toNat).length+(be 8 (u64 e.num)).length+(be 8 (u64 e.clk)).length+(if f.cased then nameB e.cas else []).length+(if f.typed then nameB e.typ else []).length+(if f.named then nameB e.nam else []).length+(if f.source then be 4 e.src.length++e.src else []).length+(if f.valued then e.v.put else []).length+(if f.args then be 1 e.args.length++e.args.flatMap Val.put else []).length+e.eff.length:=by
    rw [hB]
    unfold Ev.bytes
    simp only [List.length_append,Nat.zero_add]
  obtain ⟨e1,h1⟩:=ku (K:=1) (n:=e.op.toNat) (by have:=R.op; show e.op.toNat<256; omega) h0
  obtain ⟨e2,h2⟩:=ku (K:=8) (gq e.num) h1
  obtain ⟨e3,h3⟩:=ku (K:=8) (gq e.clk) h2
  obtain ⟨e4,h4⟩:=jM (d:=[]) (v:=e.cas) (g:=got (dA · 64) [] l _ 0) h3 (fun hb hh=>kV ae ae (jl (hcas hb)) hh) (fun hb=>s2.resolve_left (by simp [hb]))
  obtain ⟨e5,h5⟩:=jM (d:=[]) (v:=e.typ) (g:=got (dA · 64) [] l _ 0) h4 (fun hb hh=>kV ae ae (by have:=dC (htyp hb); omega) hh) (fun hb=>s1.resolve_left (by simp [hb]))
  obtain ⟨e6,h6⟩:=jM (d:=[]) (v:=e.nam) (g:=got (dA · 64) [] l _ 0) h5 (fun hb hh=>kV ae ae (by have:=dC (hnam hb); omega) hh) (fun hb=>s3.resolve_left (by simp [hb]))
  obtain ⟨e7,h7⟩:=jM (d:=[]) (v:=e.src) (g:=got (fQ · 60000) [] l _ 0) h6 (fun hb hh=>lI hh (vF (by rw [qX ae ae]; have:=R.src; omega) _) (by rw [List.length_append,aT])) (fun hb=>s6.resolve_left (by simp [hb]))
  have hput:e.v.put=e.v.bytes:=if_pos R.v
  obtain ⟨e8,h8⟩:=jM (d:=fC) (v:=e.v) (g:=bK l _ 0) h7 (fun hb hh=>by rw [hput] at hh ⊢; exact pz hiv R.v hh) (fun hb=>uN (s4.resolve_left (by simp [hb])))
  obtain ⟨n1,p1,e9,e9b,h9⟩:=uX (vs:=e.args) (fun hb=>s5.resolve_left (by simp [hb])) R.args (fun v hv=>⟨hia v hv,R.vs v hv⟩) h8
  have e10:=(lI (r:=(dE · 32)) (d:=List.replicate 32 0) (v:=e.eff) (k:=32) h9 (by have:=zC e.eff s; rwa [heff] at this) heff.symm).1
  rw [← hl,hlen]
  unfold fZ
  rw [e1,bI,hop,← hf,e2,bI,e3,bI,e4,bI,e5,bI,e6,bI,e7,bI,e8,bI,e9,bI,e9b,bI,e10,bI,qH (by have:=R.num; omega),qH (by have:=R.clk; omega)]
theorem DR {a:Ev} (ea:fE a=0):(eY a).length≤65536:=by obtain ⟨R,hB⟩:=Ev.rt ea; rw [hB]; exact R.len
theorem DX {e:Ev} (hi:e.In) (h:fE e=0):ug (eY e)=0∧qQ (eY e)=e:=by
  have h1:=Af hi h []
  rw [List.append_nil] at h1
  have h2:jf (eY e):=by
    refine ⟨DR h,?_,?_,?_,?_,?_⟩
    all_goals rw [h1]
    · exact (Ev.rt h).1.op
    · exact h
  refine ⟨if_pos h2,?_⟩
  rw [qQ,if_pos h2,h1]
end Go.Proofs.YtepbmdlgdaedpaaGreatDoor
