/- Texts that belong together, one behind the other. -/
import Derived.Test.YtepbmdlgdaedpaaGreatDoorOctetS
import Derived.Test.YtepbmdlgdaedpaaGreatDoorEvL
namespace Go.Proofs.YtepbmdlgdaedpaaGreatDoor
open Go.RowKit Go.Dk
theorem Jn (K n:Nat):be (K+1) n=be K (n/256)++[UInt8.ofNat n]:=by
  unfold be
  rw [List.range_succ,List.map_append]
  congr 1
  · apply List.map_congr_left
    intro i hi
    have hi:=List.mem_range.1 hi
    rw [show K+1-1-i=(K-1-i)+1 by omega,Nat.pow_succ,Nat.mul_comm,Nat.div_div_eq_div_mul]
  · simp
theorem JZ (K n:Nat):num (be K n)=n%256 ^ K:=by
  induction K generalizing n with
  | zero=>simp [be,num,Nat.mod_one]
  | succ K ih =>
    rw [Jn,qV,ih,UInt8.toNat_ofNat',show 256 ^ (K+1)=256*256 ^ K from by rw [Nat.pow_succ,Nat.mul_comm],Nat.mod_mul]
    show n/256%256 ^ K*256+n%256=_
    omega
theorem oQ {K n:Nat} (h:n<256 ^ K):num (be K n)=n:=by rw [JZ,Nat.mod_eq_of_lt h]
theorem uA (K n:Nat) (r:List UInt8):(be K n++r).take K=be K n:=List.take_left' (bf K n)
theorem AB (K n:Nat) (r:List UInt8):(be K n++r).drop K=r:=List.drop_left' (bf K n)
theorem uS {K n:Nat} (h:n<256 ^ K) (r:List UInt8):eQ K (be K n++r)= .ok n K:=by
  rw [eQ,if_neg (by rw [List.length_append,bf]; omega),uA,oQ h]
theorem tH {K e:Nat} {s r:List UInt8} {b:Int} (h:s.length<256 ^ K) (hb:(s.length:Int)≤b):iE K e (be K s.length++s++r) b= .ok s (K+s.length):=by
  rw [List.append_assoc]
  unfold iE
  rw [uA,oQ h,AB,List.length_append,bf,if_neg ag,if_neg ag,if_neg (by rw [List.length_append]; omega),List.take_left]
theorem CQ (b:Bool) (r:List UInt8):jl ((if b then 1 else 0)::r)= .ok b 1:=by
  cases b <;> simp [jl,num]
theorem D8 (p r:List UInt8):eF (p++r) (p.length:Int)= .ok p p.length:=by
  unfold eF
  rw [if_neg (by rw [List.length_append]; omega),Int.toNat_natCast,List.take_left]
theorem tC {s:List UInt8} {most:Int} (h:(s.length:Int)≤bnd most 65535) (r:List UInt8):eU (be 2 s.length++s++r) most= .ok s (2+s.length) :=
  tH (by have:=kw most 65535; show s.length<65536; omega) h
theorem zJ {s:List UInt8} {most:Int} (h:(s.length:Int)≤bnd most 2147483647) (r:List UInt8):iK (be 4 s.length++s++r) most= .ok s (4+s.length) :=
  tH (by have:=kw most 2147483647; show s.length<4294967296; omega) h
theorem wU (each:Int) (ss acc:List (List UInt8)) (at_:Nat) (r:List UInt8) (h:∀ j,acc.length≤j→j<(acc++ss).length→jo (acc++ss) each j=0):iH each ss.length acc at_ (fJ ss++r)= .ok (acc++ss) (at_+(fJ ss).length):=by
  induction ss generalizing acc at_ with
  | nil=>rw [List.length_nil,iH,List.append_nil]; rfl
  | cons s ss ih =>
    have h0:=h acc.length (Nv _) (by rw [List.length_append,List.length_cons]; omega)
    have hs:(acc++s::ss).getD acc.length []=s:=by rw [List.getD_eq_getElem?_getD,List.getElem?_append_right (Nv _),Nat.sub_self]; rfl
    unfold jo at h0
    rw [hs] at h0
    have hlen:¬ bnd each 65535<(s.length:Int):=fun hh=>by rw [if_pos hh] at h0; exact absurd h0 ae
    rw [if_neg hlen] at h0
    have hge:¬ (0<acc.length∧bJ .geq ((acc++s::ss).getD (acc.length-1) []) s=true):=fun hh=>by rw [if_pos hh] at h0; exact absurd h0 ae
    have e:fJ (s::ss)++r=be 2 s.length++s++(fJ ss++r):=by simp [fJ]
    rw [List.length_cons,iH,e,tC ag]
    simp only
    have hn:¬ (acc≠[]∧bJ .geq (acc.getLastD []) s=true):=fun hh=>hge (by
      have hp:0<acc.length:=List.length_pos_iff.2 hh.1
      refine ⟨hp,?_⟩
      have h3:(acc++s::ss).getD (acc.length-1) []=acc.getLastD []:=by
        rw [List.getD_eq_getElem?_getD,List.getElem?_append_left ag,List.getLastD_eq_getLast?,List.getLast?_eq_getElem?]
      rw [h3]; exact hh.2)
    have e2:(be 2 s.length++s++(fJ ss++r)).drop (2+s.length)=fJ ss++r:=List.drop_left' (by rw [List.length_append,bf])
    have e3:(fJ (s::ss)).length=2+s.length+(fJ ss).length:=by simp [fJ,bf]; omega
    rw [if_neg hn,e2,ih (acc++[s]) _ (fun j h1 h2=>by
      have h4:=h j (by rw [List.length_append] at h1; omega) (by simpa using h2)
      rwa [show acc++s::ss=acc++[s]++ss by simp] at h4),e3]
    rw [show acc++[s]++ss=acc++s::ss by simp,Nat.add_assoc]
theorem yJ {ss:List (List UInt8)} {most each:Int} (h:jg ss most each=0) (r:List UInt8):fZ (jh ss most each++r) most each= .ok ss (jh ss most each).length∧jh ss most each=be 2 ss.length++fJ ss:=by
  have hB:jh ss most each=be 2 ss.length++fJ ss:=by rw [jh,if_pos h]
  unfold jg at h
  split at h
  · exact absurd h ae
  · rename_i h1
    have hb:=kw most 65535
    have h2:ss.length<256 ^ 2:=by show ss.length<65536; omega
    have hz:=pU _ _ _ h
    refine ⟨?_,hB⟩
    rw [hB,List.append_assoc]
    unfold fZ
    rw [uA,oQ h2,AB,List.length_append,bf,if_neg ag,if_neg h1]
    have h3:=wU each ss [] 2 r (fun j _ h5=>by simpa using hz j (Nl _) (by simpa using h5))
    rw [List.nil_append] at h3
    rw [h3,List.length_append,bf]
end Go.Proofs.YtepbmdlgdaedpaaGreatDoor
namespace Go.Proofs.YtepbmdlgdaedpaaGreatDoor
open Go.RowKit Go.Dk
theorem o7 {α:Type} {r:List UInt8→Res α} {d v:α} {l q s:List UInt8} {p k:Nat} (h:l.drop p=q++s) (hr:r (q++s)= .ok v k) (hk:k=q.length):got r d l p 0=⟨v,p+q.length,0⟩∧l.drop (p+q.length)=s:=by
  subst hk
  refine ⟨?_,by rw [← List.drop_drop,h,List.drop_left]⟩
  unfold got Res.val Res.pl Res.why
  rw [h,hr]
  rfl
theorem mD {K n:Nat} {l s:List UInt8} {p:Nat} (hn:n<256 ^ K) (h:l.drop p=be K n++s):got (eQ K) 0 l p 0=⟨n,p+(be K n).length,0⟩∧l.drop (p+(be K n).length)=s :=
  o7 h (uS hn s) (bf K n).symm
theorem gq (s:List UInt8):(nameB s).length=2+s.length:=by unfold nameB; rw [List.length_append,bf]
theorem wF {m k:Int} (h0:0≤m) (h1:m≤k):bnd m k=m:=by unfold bnd; omega
theorem nU {t l s:List UInt8} {p:Nat} {m:Int} (h0:0≤m) (h1:m≤65535) (ht:(t.length:Int)≤m) (h:l.drop p=nameB t++s):got (eU · m) [] l p 0=⟨t,p+(nameB t).length,0⟩∧l.drop (p+(nameB t).length)=s :=
  o7 h (tC (by rw [wF h0 h1]; exact ht) s) (gq t).symm
theorem lQ {α:Type} {b:Bool} {d v:α} {g:Got α} {l q s:List UInt8} {p:Nat} (h:l.drop p=(if b then q else [])++s) (hb:b=true→l.drop p=q++s→g=⟨v,p+q.length,0⟩∧l.drop (p+q.length)=s) (hn:b=false→v=d):jM b d p 0 g=⟨v,p+(if b then q else []).length,0⟩∧l.drop (p+(if b then q else []).length)=s:=by
  unfold jM
  cases b with
  | true=>exact hb rfl h
  | false=>exact ⟨by rw [hn rfl]; rfl,by simpa using h⟩
theorem iQ (n:Int):u64 n<18446744073709551616:=by unfold u64; omega
theorem vk {n:Int} (h : -9223372036854775808≤n∧n≤9223372036854775807):i64 (u64 n)=n:=by unfold i64 u64; split <;> omega
theorem xu {s:List (List UInt8)}:∀ {n:Nat},fC s n=true→∀ j,j+1<n→bJ .geq (s.getD j []) (s.getD (j+1) [])=false
  | 0,_,j,hj=>by omega
  | 1,_,j,hj=>by omega
  | n+2,h,j,hj=>by
    have h2:(fC s (n+1) && !bJ .geq (s.getD n []) (s.getD (n+1) []))=true:=h
    rw [Bool.and_eq_true] at h2
    by_cases e:j=n
    · subst e; simpa using h2.2
    · exact xu h2.1 j ag
theorem KO {s:List (List UInt8)} (h:¬ s.any iT=true):∀ m∈s,m.length≤1024:=fun m hm=>by
  have h1:¬ iT m=true:=fun hh=>h (List.any_eq_true.2 ⟨m,hm,hh⟩)
  unfold iT at h1
  rw [decide_eq_true_eq] at h1
  omega
theorem x8 (f:Nat→Nat) (k i:Nat) (h:∀ j,i≤j→j<i+k→f j=0):ku f i k=0:=by
  induction k generalizing i with
  | zero=>rfl
  | succ k ih=>rw [ku,if_pos (h i (Nv _) ag)]; exact ih (i+1) (fun j h1 h2=>h j ag ag)
structure Val.Rt (v:Val):Prop where
  t:v.k=3∨v.t=[]
  s:v.k=5∨v.s=[]
  k:(v.k=0∧v.n=0)∨v.k=1∨(v.k=2∧(v.n=0∨v.n=1))∨(v.k=3∧v.n=0)∨v.k=4∨(v.k=5∧v.n=0∧fC v.s v.s.length=true)
  tl:v.t.length≤1024
  sl:v.s.length≤64
  ml:∀ m∈v.s,m.length≤1024
theorem Val.rt {v:Val} (h:v.right=0):v.Rt:=by
  unfold Val.right at h
  split at h
  · exact absurd h ae
  rename_i hf
  split at h
  · exact absurd h ae
  split at h
  · exact absurd h ae
  rename_i hl
  split at h
  · exact absurd h ae
  rename_i hs
  have hf:v.formed=true:=by simpa using hf
  unfold Val.formed at hf
  split at hf
  · exact absurd hf ae
  rename_i h0
  have ht:v.k=3∨v.t=[]:=by
    by_cases e:v.k=3
    · exact .inl e
    · exact .inr (Classical.byContradiction fun hh=>h0 (.inl ⟨e,hh⟩))
  have hS:v.k=5∨v.s=[]:=by
    by_cases e:v.k=5
    · exact .inl e
    · exact .inr (Classical.byContradiction fun hh=>h0 (.inr ⟨e,hh⟩))
  refine ⟨ht,hS,?_,?_,?_,KO fun hh=>hl (.inr hh)⟩
  · split at hf
    · rename_i e; rcases e with e | e
      · exact .inr (.inl e)
      · exact .inr (.inr (.inr (.inr (.inl e))))
    split at hf
    · rename_i e; exact .inr (.inr (.inl ⟨e,by simpa using hf⟩))
    split at hf
    · rename_i e; rcases e with e | e
      · exact .inl ⟨e,by simpa using hf⟩
      · exact .inr (.inr (.inr (.inl ⟨e,by simpa using hf⟩)))
    split at hf
    · rename_i e
      rw [Bool.and_eq_true] at hf
      exact .inr (.inr (.inr (.inr (.inr ⟨e,by simpa using hf.2,hf.1⟩))))
    · exact absurd hf ae
  · exact Nat.le_of_not_lt fun hh=>hl (.inl hh)
  · exact Nat.le_of_not_lt hs
theorem tJ {s:List (List UInt8)} (h1:s.length≤64) (h2:∀ m∈s,m.length≤1024) (h3:fC s s.length=true):jg s 64 1024=0:=by
  unfold jg
  rw [if_neg (by unfold bnd; omega)]
  refine x8 _ _ _ fun j _ hj=>?_
  have hj:j<s.length:=by omega
  have hm:(s.getD j []).length≤1024:=by
    rw [List.getD_eq_getElem?_getD,List.getElem?_eq_getElem hj]
    exact h2 _ (List.getElem_mem hj)
  unfold jo
  rw [if_neg (by unfold bnd; omega),if_neg]
  rintro ⟨h0,hg⟩
  have:=xu h3 (j-1) ag
  rw [show j-1+1=j by omega] at this
  rw [this] at hg
  exact absurd hg ae
theorem o8 {v:Val} (hi:v.In) (hr:v.right=0) {l s:List UInt8} {p:Nat} (h:l.drop p=v.bytes++s):cu l p 0=⟨v,p+v.bytes.length,0⟩∧l.drop (p+v.bytes.length)=s:=by
  have R:=Val.rt hr
  have hk:0≤v.k∧v.k≤5:=by rcases R.k with h | h | h | h | h | h <;> omega
  have hkn:((v.k.toNat:Nat):Int)=v.k:=by omega
  refine ⟨?_,by rw [← List.drop_drop,h,List.drop_left]⟩
  obtain ⟨q,hq⟩:∃ q,q=(if v.k=1∨v.k=4 then be 8 (u64 v.n) else if v.k=2 then [if v.n=1 then 1 else 0] else if v.k=3 then be 2 v.t.length++v.t else if v.k=5 then be 2 v.s.length++fJ v.s else []:List UInt8):=⟨_,rfl⟩
  have hb:v.bytes=be 1 v.k.toNat++q:=by rw [hq]; rfl
  rw [hb,List.append_assoc] at h
  obtain ⟨e1,h2⟩:=mD (K:=1) (n:=v.k.toNat) (by show v.k.toNat<256; omega) h
  obtain ⟨p2,hp2⟩:∃ p2,p2=p+(be 1 v.k.toNat).length:=⟨_,rfl⟩
  rw [← hp2] at e1 h2
  have hbody:dX v.k.toNat l p2 0=⟨v,p2+q.length,0⟩:=by
    unfold dX
    by_cases c1:v.k=1∨v.k=4
    · rw [if_pos c1] at hq
      rw [if_pos ag]
      subst hq
      rw [(mD (K:=8) (iQ v.n) h2).1]
      have ht:v.t=[]:=R.t.resolve_left ag
      have hs:v.s=[]:=R.s.resolve_left ag
      show (⟨⟨((v.k.toNat:Nat):Int),i64 (u64 v.n),[],[]⟩,_,_⟩:Got Val)=_
      rw [hkn,vk hi.2,← ht]
      conv=>lhs; rw [show v.t=v.t from rfl]
      cases v; simp_all
    rw [if_neg c1] at hq
    rw [if_neg ag]
    by_cases c2:v.k=2
    · rw [if_pos c2] at hq
      rw [if_pos ag]
      subst hq
      have hn:v.n=0∨v.n=1:=by
        rcases R.k with h | h | h | h | h | h
        · omega
        · omega
        · exact h.2
        · omega
        · omega
        · omega
      have ht:v.t=[]:=R.t.resolve_left ag
      have hs:v.s=[]:=R.s.resolve_left ag
      have hf:=CQ (decide (v.n=1)) s
      have e:(if decide (v.n=1)=true then (1:UInt8) else 0)=if v.n=1 then 1 else 0:=by simp
      rw [e] at hf
      rw [(o7 (r:=jl) (d:=false) h2 hf rfl).1]
      cases v; simp_all
      omega
    rw [if_neg c2] at hq
    rw [if_neg ag]
    by_cases c3:v.k=3
    · rw [if_pos c3] at hq
      rw [if_pos ag]
      subst hq
      have hn:v.n=0:=by rcases R.k with h | h | h | h | h | h <;> omega
      have hs:v.s=[]:=R.s.resolve_left ag
      rw [(nU (t:=v.t) (m:=1024) ae ae (by have:=R.tl; omega) h2).1]
      cases v; simp_all [nameB]
    rw [if_neg c3] at hq
    rw [if_neg ag]
    by_cases c5:v.k=5
    · rw [if_pos c5] at hq
      rw [if_pos ag]
      have hn:v.n=0:=by rcases R.k with h | h | h | h | h | h <;> omega
      have hrs:fC v.s v.s.length=true:=by
        rcases R.k with h | h | h | h | h | h
        · omega
        · omega
        · omega
        · omega
        · omega
        · exact h.2.2
      have ht:v.t=[]:=R.t.resolve_left ag
      obtain ⟨h5,h6⟩:=yJ (tJ R.sl R.ml hrs) s
      rw [← hq] at h6
      rw [h6] at h5
      rw [(o7 (r:=(fZ · 64 1024)) (d:=[]) h2 h5 rfl).1]
      cases v; simp_all
    · rw [if_neg c5] at hq
      rw [if_neg ag]
      have hn:v.n=0:=by rcases R.k with h | h | h | h | h | h <;> omega
      have ht:v.t=[]:=R.t.resolve_left ag
      have hs:v.s=[]:=R.s.resolve_left ag
      subst hq
      cases v; simp_all
  show (let g:=got (eQ 1) 0 l p 0; let b:=dX g.v l g.p g.y; let y2:=if b.y=0∧b.v.right≠0 then 8 else b.y; (⟨if y2=0 then b.v else noVal,b.p,y2⟩:Got Val))=_
  rw [e1]
  show (let b:=dX v.k.toNat l p2 0; let y2:=if b.y=0∧b.v.right≠0 then 8 else b.y; (⟨if y2=0 then b.v else noVal,b.p,y2⟩:Got Val))=_
  rw [hbody,hb,List.length_append,← Nat.add_assoc,← hp2]
  simp [hr]
theorem rF:∀ (vs:List Val),(∀ v∈vs,v.In∧v.right=0)→∀ {l s:List UInt8} {p:Nat},l.drop p=vs.flatMap Val.put++s→fQ l vs.length p 0=⟨vs,p+(vs.flatMap Val.put).length,0⟩∧l.drop (p+(vs.flatMap Val.put).length)=s
  | [],_,l,s,p,h=>⟨rfl,by simpa using h⟩
  | v::vs,hv,l,s,p,h=>by
    obtain ⟨h1,h2⟩:=hv v (Nu ..)
    have hp:v.put=v.bytes:=if_pos h2
    rw [List.flatMap_cons,hp,List.append_assoc] at h
    obtain ⟨e1,h3⟩:=o8 h1 h2 h
    obtain ⟨e2,h4⟩:=rF vs (fun u hu=>hv u (Nw _ hu)) h3
    rw [List.flatMap_cons,hp,List.length_append,← Nat.add_assoc]
    refine ⟨?_,h4⟩
    show (if (0:Nat)=0 then (let g:=cu l p 0; let r:=fQ l vs.length g.p g.y; (⟨g.v::r.v,r.p,r.y⟩:Got (List Val))) else _)=_
    rw [if_pos rfl,e1]
    show (let r:=fQ l vs.length (p+v.bytes.length) 0; (⟨v::r.v,r.p,r.y⟩:Got (List Val)))=_
    rw [e2]
theorem zu {b:Bool} {vs:List Val} (hb:b=false→vs=[]) (hn:vs.length≤16) (hv:∀ v∈vs,v.In∧v.right=0) {l s:List UInt8} {p:Nat} (h:l.drop p=(if b then be 1 vs.length++vs.flatMap Val.put else [])++s) :
    ∃ n1 p1,jM b 0 p 0 (got (eQ 1) 0 l p 0)=⟨n1,p1,0⟩∧fQ l n1 p1 0=⟨vs,p+(if b then be 1 vs.length++vs.flatMap Val.put else []).length,0⟩∧l.drop (p+(if b then be 1 vs.length++vs.flatMap Val.put else []).length)=s:=by
  cases b with
  | true =>
    simp only [if_true,List.append_assoc] at h ⊢
    obtain ⟨e1,h1⟩:=mD (K:=1) (n:=vs.length) (by show vs.length<256; omega) h
    obtain ⟨e2,h2⟩:=rF vs hv h1
    rw [List.length_append,← Nat.add_assoc]
    exact ⟨_,_,e1,e2,h2⟩
  | false =>
    rw [hb rfl]
    exact ⟨0,p,rfl,rfl,by simpa using h⟩
theorem je {l:List Val} (h:dU l=0):∀ v∈l,v.right=0:=by
  induction l with
  | nil=>intro v hv; cases hv
  | cons u l ih =>
    unfold dU at h
    split at h
    · rename_i h0
      intro v hv
      rcases List.mem_cons.1 hv with rfl | hv
      · exact h0
      · exact ih h v hv
    · rename_i h0; exact absurd h h0
structure Ev.Rt (e:Ev):Prop where
  op:1≤e.op∧e.op≤5
  spare:dJ e (gU e.op)=true
  cas:(gU e.op).cased=true→dS e.cas 64=true
  typ:(gU e.op).typed=true→bY e.typ=true
  nam:(gU e.op).named=true→bY e.nam=true
  num:0≤e.num∧e.num<1099511627776
  clk:0≤e.clk∧e.clk≤4611686018427387904
  args:e.args.length≤16
  v:e.v.right=0
  vs:∀ v∈e.args,v.right=0
  src:e.src.length≤60000
  len:(e.bytes (gU e.op)).length≤65536
theorem Ev.rt {e:Ev} (h:eY e=0):e.Rt∧dV e=e.bytes (gU e.op):=by
  have hB:dV e=e.bytes (gU e.op):=if_pos h
  refine ⟨?_,hB⟩
  unfold eY at h
  split at h
  · exact absurd h ae
  rename_i hop
  have hop:jH e.op:=Classical.not_not.1 hop
  split at h
  rotate_left
  · rename_i h0; exact absurd h h0
  rename_i hr
  split at h
  · exact absurd h ae
  rename_i hlen
  unfold dw at hr
  split at hr
  · exact absurd hr ae
  rename_i hsp
  split at hr
  · exact absurd hr ae
  rename_i hnm
  split at hr
  · exact absurd hr ae
  rename_i hnum
  split at hr
  · exact absurd hr ae
  rename_i hclk
  split at hr
  · exact absurd hr ae
  rename_i hargs
  split at hr
  rotate_left
  · rename_i h0; exact absurd hr h0
  rename_i hfirst
  split at hr
  · exact absurd hr ae
  rename_i hsrc
  have hv:=je hfirst
  refine ⟨hop,by simpa using hsp,fun hc=>?_,fun hc=>?_,fun hc=>?_,ag,ag,ag,hv _ (Nu ..),fun v hm=>hv v (Nw _ hm),ag,ag⟩
  · cases hh:dS e.cas 64 with
    | true=>rfl
    | false=>exact absurd (.inl ⟨hc,hh⟩) hnm
  · cases hh:bY e.typ with
    | true=>rfl
    | false=>exact absurd (.inr (.inl ⟨hc,hh⟩)) hnm
  · cases hh:bY e.nam with
    | true=>rfl
    | false=>exact absurd (.inr (.inr ⟨hc,hh⟩)) hnm
theorem kR {w:List UInt8} {m:Int} (h:dS w m=true):(w.length:Int)≤m:=by
  unfold dS at h
  rw [Bool.and_eq_true,decide_eq_true_eq] at h
  exact h.1.2
theorem dZ {w:List UInt8} (h:bY w=true):w.length≤64:=by
  unfold bY iI at h
  rw [Bool.and_eq_true,Bool.and_eq_true,Bool.and_eq_true,decide_eq_true_eq] at h
  exact h.1.1.1.2
theorem zf {v:Val} (h:v.nothing=true):v=noVal:=by
  unfold Val.nothing at h
  rw [decide_eq_true_eq] at h
  obtain ⟨h1,h2,h3,h4⟩:=h
  cases v
  simp only [noVal] at *
  subst h1 h2 h3 h4
  rfl
theorem EN {e:Ev} (hi:e.In) (h:eY e=0) (s:List UInt8):iM (dV e++s)=⟨e,(dV e).length,0⟩:=by
  obtain ⟨R,hB⟩:=Ev.rt h
  obtain ⟨_,_,_,hiv,hia,heff⟩:=hi
  obtain ⟨f,hf⟩:∃ f,f=gU e.op:=⟨_,rfl⟩
  have hsp:=R.spare
  have hcas:=R.cas
  have htyp:=R.typ
  have hnam:=R.nam
  rw [← hf] at hsp hcas htyp hnam hB
  unfold dJ at hsp
  simp only [Bool.and_eq_true,Bool.or_eq_true,decide_eq_true_eq] at hsp
  obtain ⟨⟨⟨⟨⟨s1,s2⟩,s3⟩,s4⟩,s5⟩,s6⟩:=hsp
  obtain ⟨l,hl⟩:∃ l,l=dV e++s:=⟨_,rfl⟩
  have hop:((e.op.toNat:Nat):Int)=e.op:=by have:=R.op; omega
  have h0:l.drop 0=be 1 e.op.toNat++(be 8 (u64 e.num)++(be 8 (u64 e.clk)++((if f.cased then nameB e.cas else [])++((if f.typed then nameB e.typ else [])++((if f.named then nameB e.nam else [])++((if f.source then be 4 e.src.length++e.src else [])++((if f.valued then e.v.put else [])++((if f.args then be 1 e.args.length++e.args.flatMap Val.put else [])++(e.eff++s))))))))):=by
    rw [List.drop_zero,hl,hB]
    unfold Ev.bytes
    simp only [List.append_assoc]
  have hlen:(dV e).length=0+(be 1 e.op.toNat).length+(be 8 (u64 e.num)).length+(be 8 (u64 e.clk)).length+(if f.cased then nameB e.cas else []).length+(if f.typed then nameB e.typ else []).length+(if f.named then nameB e.nam else []).length+(if f.source then be 4 e.src.length++e.src else []).length+(if f.valued then e.v.put else []).length+(if f.args then be 1 e.args.length++e.args.flatMap Val.put else []).length+e.eff.length:=by
    rw [hB]
    unfold Ev.bytes
    simp only [List.length_append,Nat.zero_add]
  obtain ⟨e1,h1⟩:=mD (K:=1) (n:=e.op.toNat) (by have:=R.op; show e.op.toNat<256; omega) h0
  obtain ⟨e2,h2⟩:=mD (K:=8) (iQ e.num) h1
  obtain ⟨e3,h3⟩:=mD (K:=8) (iQ e.clk) h2
  obtain ⟨e4,h4⟩:=lQ (d:=[]) (v:=e.cas) (g:=got (eU · 64) [] l _ 0) h3 (fun hb hh=>nU ae ae (kR (hcas hb)) hh) (fun hb=>s2.resolve_left (by simp [hb]))
  obtain ⟨e5,h5⟩:=lQ (d:=[]) (v:=e.typ) (g:=got (eU · 64) [] l _ 0) h4 (fun hb hh=>nU ae ae (by have:=dZ (htyp hb); omega) hh) (fun hb=>s1.resolve_left (by simp [hb]))
  obtain ⟨e6,h6⟩:=lQ (d:=[]) (v:=e.nam) (g:=got (eU · 64) [] l _ 0) h5 (fun hb hh=>nU ae ae (by have:=dZ (hnam hb); omega) hh) (fun hb=>s3.resolve_left (by simp [hb]))
  obtain ⟨e7,h7⟩:=lQ (d:=[]) (v:=e.src) (g:=got (iK · 60000) [] l _ 0) h6 (fun hb hh=>o7 hh (zJ (by rw [wF ae ae]; have:=R.src; omega) _) (by rw [List.length_append,bf])) (fun hb=>s6.resolve_left (by simp [hb]))
  have hput:e.v.put=e.v.bytes:=if_pos R.v
  obtain ⟨e8,h8⟩:=lQ (d:=noVal) (v:=e.v) (g:=cu l _ 0) h7 (fun hb hh=>by rw [hput] at hh ⊢; exact o8 hiv R.v hh) (fun hb=>zf (s4.resolve_left (by simp [hb])))
  obtain ⟨n1,p1,e9,e9b,h9⟩:=zu (vs:=e.args) (fun hb=>s5.resolve_left (by simp [hb])) R.args (fun v hv=>⟨hia v hv,R.vs v hv⟩) h8
  have e10:=(o7 (r:=(eF · 32)) (d:=List.replicate 32 0) (v:=e.eff) (k:=32) h9 (by have:=D8 e.eff s; rwa [heff] at this) heff.symm).1
  rw [← hl,hlen]
  unfold iM
  rw [e1,di,hop,← hf,e2,di,e3,di,e4,di,e5,di,e6,di,e7,di,e8,di,e9,di,e9b,di,e10,di,vk (by have:=R.num; omega),vk (by have:=R.clk; omega)]
theorem AA {a:Ev} (ea:eY a=0):(dV a).length≤65536:=by obtain ⟨R,hB⟩:=Ev.rt ea; rw [hB]; exact R.len
theorem AC {e:Ev} (hi:e.In) (h:eY e=0):og (dV e)=0∧mJ (dV e)=e:=by
  have h1:=EN hi h []
  rw [List.append_nil] at h1
  have h2:kH (dV e):=by
    refine ⟨AA h,?_,?_,?_,?_,?_⟩
    all_goals rw [h1]
    · exact (Ev.rt h).1.op
    · exact h
  refine ⟨if_pos h2,?_⟩
  rw [mJ,if_pos h2,h1]
end Go.Proofs.YtepbmdlgdaedpaaGreatDoor
