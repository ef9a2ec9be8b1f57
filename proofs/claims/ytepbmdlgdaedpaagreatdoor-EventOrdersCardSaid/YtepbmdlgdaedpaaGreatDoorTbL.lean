/- Texts that belong together, one behind the other. -/
import Derived.Test.YtepbmdlgdaedpaaGreatDoorRegion
import Derived.Shelf.GgSortFunc.Whole
import Derived.Shelf.GgSortFunc.Tiny
import Derived.Test.YtepbmdlgdaedpaaGreatDoorProg
import Derived.Test.YtepbmdlgdaedpaaGreatDoorOpenR
import Derived.Sort.LotA
import Derived.Sort.Walk0
namespace Go.Proofs.YtepbmdlgdaedpaaGreatDoor
open Go.Shelf Go.Dk
def CP:Go.Shelf.Ren:=⟨fun | 6=>93 | 10=>147 | 11=>148 | 12=>149 | 13=>150 | 14=>151 | 24=>182 | 25=>183 | 26=>184 | 27=>185 | 28=>186 | 29=>187 | 30=>188 | 31=>189 | 32=>190 | 33=>191 | 34=>202 | 35=>203 | 36=>204 | 37=>205 | 38=>206 | 39=>209 | n=>n,fun | 20=>20 | 26=>148 | 35=>208 | 0=>0 | 37=>192 | 3=>3 | 41=>38 | 44=>214 | 49=>150 | 51=>135 | 4=>4 | 54=>233 | 53=>232 | 58=>237 | 5=>5 | 9=>9 | 60=>253 | 64=>257 | 66=>261 | 67=>262 | 17=>17 | 32=>205 | 33=>206 | 82=>276 | 12=>12 | 75=>269 | 76=>270 | 77=>271 | 78=>272 | 79=>273 | 80=>274 | n=>n,fun | n=>n⟩
set_option maxRecDepth 100000 in
theorem sl6:Go.Proofs.LaysGg.n6 Tryz.prog CP:={
  mixed:=by kernel_rfl,
  f6:=Tryz.func93.trans (congrArg some af),
  f10:=Tryz.func147.trans (congrArg some af),
  f11:=Tryz.func148.trans (congrArg some af),
  f12:=Tryz.func149.trans (congrArg some af),
  f13:=Tryz.func150.trans (congrArg some af),
  f14:=Tryz.func151.trans (congrArg some af),
  f24:=Tryz.func182.trans (congrArg some af),
  f25:=Tryz.func183.trans (congrArg some af),
  f26:=Tryz.func184.trans (congrArg some af),
  f27:=Tryz.func185.trans (congrArg some af),
  f28:=Tryz.func186.trans (congrArg some af),
  f29:=Tryz.func187.trans (congrArg some af),
  f30:=Tryz.func188.trans (congrArg some af),
  f31:=Tryz.func189.trans (congrArg some af),
  f32:=Tryz.func190.trans (congrArg some af),
  f33:=Tryz.func191.trans (congrArg some af),
  f34:=Tryz.func202.trans (congrArg some af),
  f35:=Tryz.func203.trans (congrArg some af),
  f36:=Tryz.func204.trans (congrArg some af),
  f37:=Tryz.func205.trans (congrArg some af),
  f38:=Tryz.func206.trans (congrArg some af),
  f39:=Tryz.func209.trans (congrArg some af),
  t0:=Tryz.underlying0,
  a0:=Tryz.isAgg0,
  z0:=Tryz.sizeOf0,
  v0:=Tryz.zeroValue0,
  i0:=by kernel_rfl,
  t3:=H8,
  a3:=Tryz.isAgg3,
  z3:=Tryz.sizeOf3,
  v3:=Tryz.zeroValue3,
  i3:=by kernel_rfl,
  t4:=Tryz.underlying4,
  a4:=Tryz.isAgg4,
  z4:=Tryz.sizeOf4,
  v4:=Tryz.zeroValue4,
  i4:=by kernel_rfl,
  t5:=Ih,
  a5:=Tryz.isAgg5,
  z5:=Tryz.sizeOf5,
  v5:=Tryz.zeroValue5,
  i5:=by kernel_rfl,
  t9:=H7,
  a9:=Tryz.isAgg9,
  z9:=Tryz.sizeOf9,
  v9:=Tryz.zeroValue9,
  i9:=by kernel_rfl,
  t12:=Tryz.underlying12,
  a12:=Tryz.isAgg12,
  z12:=Tryz.sizeOf12,
  v12:=Tryz.zeroValue12,
  i12:=by kernel_rfl,
  t17:=Tryz.underlying17,
  a17:=Tryz.isAgg17,
  z17:=Tryz.sizeOf17,
  v17:=Tryz.zeroValue17,
  i17:=by kernel_rfl,
  t20:=Tryz.underlying20,
  a20:=Tryz.isAgg20,
  z20:=Tryz.sizeOf20,
  v20:=Tryz.zeroValue20,
  i20:=by kernel_rfl,
  t26:=Tryz.underlying148,
  a26:=Tryz.isAgg148,
  z26:=Tryz.sizeOf148,
  v26:=Tryz.zeroValue148,
  i26:=by kernel_rfl,
  t32:=Tryz.underlying205,
  a32:=Tryz.isAgg205,
  z32:=Tryz.sizeOf205,
  v32:=Tryz.zeroValue205,
  i32:=by kernel_rfl,
  t33:=Tryz.underlying206,
  a33:=Tryz.isAgg206,
  z33:=Tryz.sizeOf206,
  v33:=Tryz.zeroValue206,
  i33:=by kernel_rfl,
  t35:=Tryz.underlying208,
  a35:=Tryz.isAgg208,
  z35:=Tryz.sizeOf208,
  v35:=Tryz.zeroValue208,
  i35:=by kernel_rfl,
  t37:=Tryz.underlying192,
  a37:=Tryz.isAgg192,
  z37:=Tryz.sizeOf192,
  v37:=Tryz.zeroValue192,
  i37:=by kernel_rfl,
  t41:=Tryz.underlying38,
  a41:=Tryz.isAgg38,
  z41:=Tryz.sizeOf38,
  v41:=Tryz.zeroValue38,
  i41:=by kernel_rfl,
  t44:=Tryz.underlying214,
  a44:=Tryz.isAgg214,
  z44:=Tryz.sizeOf214,
  v44:=Tryz.zeroValue214,
  i44:=by kernel_rfl,
  t49:=Iu,
  a49:=Tryz.isAgg150,
  z49:=Tryz.sizeOf150,
  v49:=Tryz.zeroValue150,
  i49:=by kernel_rfl,
  t51:=Ii,
  a51:=Tryz.isAgg135,
  z51:=Tryz.sizeOf135,
  v51:=Tryz.zeroValue135,
  i51:=by kernel_rfl,
  t53:=Tryz.underlying232,
  a53:=Tryz.isAgg232,
  z53:=Tryz.sizeOf232,
  v53:=Tryz.zeroValue232,
  i53:=by kernel_rfl,
  t54:=Tryz.underlying233,
  a54:=Tryz.isAgg233,
  z54:=Tryz.sizeOf233,
  v54:=Tryz.zeroValue233,
  i54:=by kernel_rfl,
  t58:=Tryz.underlying237,
  a58:=Tryz.isAgg237,
  z58:=Tryz.sizeOf237,
  v58:=Tryz.zeroValue237,
  i58:=by kernel_rfl,
  t60:=Tryz.underlying253,
  a60:=Tryz.isAgg253,
  z60:=Tryz.sizeOf253,
  v60:=Tryz.zeroValue253,
  i60:=by kernel_rfl,
  t64:=Tryz.underlying257,
  a64:=Tryz.isAgg257,
  z64:=Tryz.sizeOf257,
  v64:=Tryz.zeroValue257,
  i64:=by kernel_rfl,
  t66:=Tryz.underlying261,
  a66:=Tryz.isAgg261,
  z66:=Tryz.sizeOf261,
  v66:=Tryz.zeroValue261,
  i66:=by kernel_rfl,
  t67:=Tryz.underlying262,
  a67:=Tryz.isAgg262,
  z67:=Tryz.sizeOf262,
  v67:=Tryz.zeroValue262,
  i67:=by kernel_rfl,
  t75:=Tryz.underlying269,
  a75:=Tryz.isAgg269,
  z75:=Tryz.sizeOf269,
  v75:=Tryz.zeroValue269,
  i75:=by kernel_rfl,
  t76:=Tryz.underlying270,
  a76:=Tryz.isAgg270,
  z76:=Tryz.sizeOf270,
  v76:=Tryz.zeroValue270,
  i76:=by kernel_rfl,
  t77:=Tryz.underlying271,
  a77:=Tryz.isAgg271,
  z77:=Tryz.sizeOf271,
  v77:=Tryz.zeroValue271,
  i77:=by kernel_rfl,
  t78:=Tryz.underlying272,
  a78:=Tryz.isAgg272,
  z78:=Tryz.sizeOf272,
  v78:=Tryz.zeroValue272,
  i78:=by kernel_rfl,
  t79:=Tryz.underlying273,
  a79:=Tryz.isAgg273,
  z79:=Tryz.sizeOf273,
  v79:=Tryz.zeroValue273,
  i79:=by kernel_rfl,
  t80:=Tryz.underlying274,
  a80:=Tryz.isAgg274,
  z80:=Tryz.sizeOf274,
  v80:=Tryz.zeroValue274,
  i80:=by kernel_rfl,
  t82:=Tryz.underlying276,
  a82:=Tryz.isAgg276,
  z82:=Tryz.sizeOf276,
  v82:=Tryz.zeroValue276,
  i82:=by kernel_rfl }
end Go.Proofs.YtepbmdlgdaedpaaGreatDoor
namespace Go.Proofs.YtepbmdlgdaedpaaGreatDoor
open Go.RowKit Go.Dk
abbrev Pr:=List UInt8 × List UInt8
def rowB (p:Pr):List UInt8:=nameB p.1++p.2
def oN (n:Int) (ch:List UInt8) (clk:Int) (k:Nat):List UInt8:=be 2 0++be 8 (u64 n)++ch++be 8 (u64 clk)++be 4 k
def tbE (ns:List (List UInt8)) (m:Nat):Nat:=if ns.length≠m then 1 else if 1000<ns.length then 7 else if ns.all bz=false then 34 else if ns.Nodup then 0 else 92
def nmR (p q:Pr):Prop:=p.1<q.1
def TbB (n:Int) (ch:List UInt8) (clk:Int) (ns ds:List (List UInt8)) (out:List UInt8):Prop :=
  if tbE ns ds.length=0 then ∃ ps:List Pr,ps.Perm (ns.zip ds)∧ps.Pairwise nmR∧out=oN n ch clk ns.length++ps.flatMap rowB else out=[]
theorem Fb (a b:List UInt8):bn .lss a b=decide (a<b):=by unfold bn; exact Go.Proofs.bytesLess_eq a b
theorem zQ {p q:Pr} (h:nmR p q):¬ nmR q p:=fun h2=>List.lt_irrefl _ (List.lt_trans h h2)
theorem lT {α:Type} {R:α→α→Prop} (asy:∀ a b,R a b→¬ R b a):∀ {ps qs:List α},ps.Perm qs→ps.Pairwise R→qs.Pairwise R→ps=qs
  | [],qs,hp,_,_=>(List.nil_perm.1 hp).symm
  | p::ps,[],hp,_,_=>absurd (List.perm_nil.1 hp) (by simp)
  | p::ps,q::qs,hp,h1,h2=>by
    have hpq:p=q:=by
      rcases List.mem_cons.1 (hp.subset (HY ..)) with h | h
      · exact h
      rcases List.mem_cons.1 (hp.symm.subset (HY ..)) with h' | h'
      · exact h'.symm
      exact absurd ((List.pairwise_cons.1 h1).1 q h') (asy _ _ ((List.pairwise_cons.1 h2).1 p h))
    subst hpq
    rw [lT asy ((List.perm_cons p).1 hp) (List.pairwise_cons.1 h1).2 (List.pairwise_cons.1 h2).2]
theorem TbB.uniq {n:Int} {ch:List UInt8} {clk:Int} {ns ds:List (List UInt8)} {o1 o2:List UInt8} (h1:TbB n ch clk ns ds o1) (h2:TbB n ch clk ns ds o2):o1=o2:=by
  unfold TbB at h1 h2
  split at h1
  · rw [if_pos (by assumption)] at h2
    obtain ⟨ps,p1,p2,rfl⟩:=h1
    obtain ⟨qs,q1,q2,rfl⟩:=h2
    rw [lT (fun _ _=>zQ) (p1.trans q1.symm) p2 q2]
  · rw [if_neg (by assumption)] at h2
    rw [h1,h2]
theorem TbB.no {n:Int} {ch:List UInt8} {clk:Int} {ns ds:List (List UInt8)} (h:¬ tbE ns ds.length=0):TbB n ch clk ns ds []:=by unfold TbB; rw [if_neg h]
def dm (ns:List (List UInt8)) (k:Nat):List UInt8:=ns.getD k []
def kG (ns ds:List (List UInt8)) (k:Nat):Pr:=(dm ns k,ds.getD k [])
theorem bU {ns:List (List UInt8)} {k:Nat} (h:k<ns.length):ns[k]? = some (dm ns k):=by
  unfold dm
  rw [List.getD_eq_getElem?_getD,List.getElem?_eq_getElem h]
  rfl
theorem xx {ns ds:List (List UInt8)} (h:ns.length=ds.length):(List.range ns.length).map (kG ns ds)=ns.zip ds:=by
  apply List.ext_getElem?
  intro i
  by_cases hi:i<ns.length
  · rw [List.getElem?_map,List.getElem?_range hi,List.getElem?_zip_eq_some.2 (show ns[i]? = some (kG ns ds i).1∧ds[i]? = some (kG ns ds i).2 from ⟨bU hi,bU (ns:=ds) ag⟩)]
    rfl
  · rw [List.getElem?_eq_none (by simp; omega),List.getElem?_eq_none (by simp; omega)]
theorem rZ {ns:List (List UInt8)}:(List.range ns.length).map (dm ns)=ns:=by
  apply List.ext_getElem?
  intro i
  by_cases hi:i<ns.length
  · rw [List.getElem?_map,List.getElem?_range hi,bU hi]
    rfl
  · rw [List.getElem?_eq_none (by simp; omega),List.getElem?_eq_none ag]
theorem zN {ns:List (List UInt8)} {os:List Nat} (hp:os.Perm (List.range ns.length)) (hs:os.Pairwise fun a b=>dm ns a<dm ns b):ns.Nodup:=by
  have h1:(os.map (dm ns)).Nodup:=List.Pairwise.map _ (fun a b h e=>by rw [e] at h; exact List.lt_irrefl _ h) hs
  have h2:=((hp.map (dm ns)).nodup_iff).1 h1
  rwa [rZ] at h2
theorem AP {ns:List (List UInt8)} {a b:Nat} (ha:a<ns.length) (hb:b<ns.length) (hab:a≠b) (he:dm ns a=dm ns b):¬ ns.Nodup:=fun hn=>by
  have h1:ns[a]=dm ns a:=by have:=bU ha; rwa [List.getElem?_eq_getElem ha,Option.some.injEq] at this
  have h2:ns[b]=dm ns b:=by have:=bU hb; rwa [List.getElem?_eq_getElem hb,Option.some.injEq] at this
  have hq:=List.pairwise_iff_getElem.1 hn
  rcases Nat.lt_or_gt_of_ne hab with h | h
  · exact hq a b ha hb h (by rw [h1,h2,he])
  · exact hq b a hb ha h (by rw [h1,h2,he])
theorem FY {n:Int} {ch:List UInt8} {clk:Int} {ns ds:List (List UInt8)} {os:List Nat} (hl:ns.length=ds.length) (h1000:ns.length≤1000) (hlg:ns.all bz=true) (hp:os.Perm (List.range ns.length)) (hs:os.Pairwise fun a b=>dm ns a<dm ns b) :
    tbE ns ds.length=0∧TbB n ch clk ns ds (oN n ch clk ns.length++(os.map (kG ns ds)).flatMap rowB):=by
  have h0:tbE ns ds.length=0:=by
    unfold tbE
    rw [if_neg (by simp [hl]),if_neg ag,if_neg (by simp [hlg]),if_pos (zN hp hs)]
  refine ⟨h0,?_⟩
  unfold TbB
  rw [if_pos h0]
  refine ⟨os.map (kG ns ds),?_,List.Pairwise.map _ (fun a b h=>h) hs,rfl⟩
  rw [← xx hl]
  exact hp.map _
theorem FZ {ns:List (List UInt8)} {m:Nat} (hl:ns.length=m) (h1000:ns.length≤1000) (hlg:ns.all bz=true) (hd:¬ ns.Nodup):tbE ns m=92:=by
  unfold tbE
  rw [if_neg (by simp [hl]),if_neg ag,if_neg (by simp [hlg]),if_neg hd]
theorem F5 {ns:List (List UInt8)} {m i:Nat} (hl:ns.length=m) (h1000:ns.length≤1000) {q:List UInt8} (hi:ns[i]? = some q) (hq:bz q=false):tbE ns m=34:=by
  have h:ns.all bz=false:=by
    rw [List.all_eq_false]
    exact ⟨q,List.mem_of_getElem? hi,by simp [hq]⟩
  unfold tbE
  rw [if_neg (by simp [hl]),if_neg ag,if_pos h]
theorem BQ {ns:List (List UInt8)} {i:Nat} {q:List UInt8} (h:(ns.take i).all bz=true) (hi:ns[i]? = some q) (hq:bz q=true):(ns.take (i+1)).all bz=true:=by
  rw [List.take_add_one,hi,List.all_append,h]
  simp [hq]
def vM (ns:List (List UInt8)) (os:List Nat):Prop:=os.Pairwise fun a b=>dm ns a<dm ns b
theorem xN {ns:List (List UInt8)} {os:List Nat} {k:Nat} (h:vM ns os) (hk:∀ a∈os,dm ns a<dm ns k):vM ns (os++[k]):=by
  refine List.pairwise_append.2 ⟨h,List.pairwise_singleton ..,fun a ha b hb=>?_⟩
  rw [List.mem_singleton.1 hb]
  exact hk a ha
theorem x8 {a b:List UInt8} (h:¬ b<a) (hne:a≠b):a<b:=by
  rcases List.not_lt.1 h |> fun (h':a≤b)=>Classical.em (a<b) with h2 | h2
  · exact h2
  · exact absurd (List.le_antisymm (List.not_lt.1 h) (List.not_lt.1 h2)) hne
theorem xO {ns:List (List UInt8)} {os:List Nat} {c k:Nat} (h:vM ns (os++[c])) (hk:dm ns c<dm ns k):∀ a∈os++[c],dm ns a<dm ns k:=fun a ha=>by
  rcases List.mem_append.1 ha with ha | ha
  · exact List.lt_trans ((List.pairwise_append.1 h).2.2 a ha c (List.mem_singleton.2 rfl)) hk
  · rw [List.mem_singleton.1 ha]; exact hk
theorem jV {os:List Nat} {i c:Nat} (h:os[i]? = some c):os.take (i+1)=os.take i++[c]:=by
  rw [List.take_add_one,h]; rfl
theorem o8 {ns ds:List (List UInt8)} {os:List Nat} {i k:Nat} (h:os[i]? = some k):((os.take (i+1)).map (kG ns ds)).flatMap rowB=((os.take i).map (kG ns ds)).flatMap rowB++rowB (kG ns ds k):=by
  rw [jV h,List.map_append,List.flatMap_append]
  simp
theorem zu {p:Pr} (h1:p.1.length≤64) (h2:p.2.length=32):(rowB p).length≤98:=by
  unfold rowB
  rw [List.length_append,gQ,h2]
  omega
theorem rU {ps:List Pr} (h:∀ p∈ps,p.1.length≤64∧p.2.length=32):(ps.flatMap rowB).length≤ps.length*98:=by
  induction ps with
  | nil=>simp
  | cons p ps ih =>
    rw [List.flatMap_cons,List.length_append,List.length_cons]
    have q1:=zu (h p (HY ..)).1 (h p (HY ..)).2
    have q2:=ih fun q hq=>h q (H5 _ hq)
    omega
end Go.Proofs.YtepbmdlgdaedpaaGreatDoor
