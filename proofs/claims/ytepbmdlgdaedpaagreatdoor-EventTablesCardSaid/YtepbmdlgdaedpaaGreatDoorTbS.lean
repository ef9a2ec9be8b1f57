/- Texts that belong together, one behind the other. -/
import Derived.Test.YtepbmdlgdaedpaaGreatDoorOpenR
import Derived.Sort.LotA
import Derived.Sort.Walk0
import Derived.Test.YtepbmdlgdaedpaaGreatDoorSl6
namespace Go.Proofs.YtepbmdlgdaedpaaGreatDoor
open Go.RowKit Go.Dk
abbrev Pr:=List UInt8 × List UInt8
def rowB (p:Pr):List UInt8:=nameB p.1++p.2
def BH (n:Int) (ch:List UInt8) (clk:Int) (k:Nat):List UInt8:=be 2 0++be 8 (u64 n)++ch++be 8 (u64 clk)++be 4 k
def tbE (ns:List (List UInt8)) (m:Nat):Nat:=if ns.length≠m then 1 else if 1000<ns.length then 7 else if ns.all bP=false then 34 else if ns.Nodup then 0 else 92
def nmR (p q:Pr):Prop:=p.1<q.1
def TbB (n:Int) (ch:List UInt8) (clk:Int) (ns ds:List (List UInt8)) (out:List UInt8):Prop :=
  if tbE ns ds.length=0 then ∃ ps:List Pr,ps.Perm (ns.zip ds)∧ps.Pairwise nmR∧out=BH n ch clk ns.length++ps.flatMap rowB else out=[]
theorem Bz (a b:List UInt8):bI .lss a b=decide (a<b):=by unfold bI; exact Go.Proofs.bytesLess_eq a b
theorem G5 {p q:Pr} (h:nmR p q):¬ nmR q p:=fun h2=>List.lt_irrefl _ (List.lt_trans h h2)
theorem qG {α:Type} {R:α→α→Prop} (asy:∀ a b,R a b→¬ R b a):∀ {ps qs:List α},ps.Perm qs→ps.Pairwise R→qs.Pairwise R→ps=qs
  | [],qs,hp,_,_=>(List.nil_perm.1 hp).symm
  | p::ps,[],hp,_,_=>absurd (List.perm_nil.1 hp) (by simp)
  | p::ps,q::qs,hp,h1,h2=>by
    have hpq:p=q:=by
      rcases List.mem_cons.1 (hp.subset (P6 ..)) with h | h
      · exact h
      rcases List.mem_cons.1 (hp.symm.subset (P6 ..)) with h' | h'
      · exact h'.symm
      exact absurd ((List.pairwise_cons.1 h1).1 q h') (asy _ _ ((List.pairwise_cons.1 h2).1 p h))
    subst hpq
    rw [qG asy ((List.perm_cons p).1 hp) (List.pairwise_cons.1 h1).2 (List.pairwise_cons.1 h2).2]
theorem TbB.uniq {n:Int} {ch:List UInt8} {clk:Int} {ns ds:List (List UInt8)} {o1 o2:List UInt8} (h1:TbB n ch clk ns ds o1) (h2:TbB n ch clk ns ds o2):o1=o2:=by
  unfold TbB at h1 h2
  split at h1
  · rw [if_pos (by assumption)] at h2
    obtain ⟨ps,p1,p2,rfl⟩:=h1
    obtain ⟨qs,q1,q2,rfl⟩:=h2
    rw [qG (fun _ _=>G5) (p1.trans q1.symm) p2 q2]
  · rw [if_neg (by assumption)] at h2
    rw [h1,h2]
theorem TbB.no {n:Int} {ch:List UInt8} {clk:Int} {ns ds:List (List UInt8)} (h:¬ tbE ns ds.length=0):TbB n ch clk ns ds []:=by unfold TbB; rw [if_neg h]
def dm (ns:List (List UInt8)) (k:Nat):List UInt8:=ns.getD k []
def jS (ns ds:List (List UInt8)) (k:Nat):Pr:=(dm ns k,ds.getD k [])
theorem bU {ns:List (List UInt8)} {k:Nat} (h:k<ns.length):ns[k]? = some (dm ns k):=by
  unfold dm
  rw [List.getD_eq_getElem?_getD,List.getElem?_eq_getElem h]
  rfl
theorem DZ {ns ds:List (List UInt8)} (h:ns.length=ds.length):(List.range ns.length).map (jS ns ds)=ns.zip ds:=by
  apply List.ext_getElem?
  intro i
  by_cases hi:i<ns.length
  · rw [List.getElem?_map,List.getElem?_range hi,List.getElem?_zip_eq_some.2 (show ns[i]? = some (jS ns ds i).1∧ds[i]? = some (jS ns ds i).2 from ⟨bU hi,bU (ns:=ds) ag⟩)]
    rfl
  · rw [List.getElem?_eq_none (by simp; omega),List.getElem?_eq_none (by simp; omega)]
theorem yF {ns:List (List UInt8)}:(List.range ns.length).map (dm ns)=ns:=by
  apply List.ext_getElem?
  intro i
  by_cases hi:i<ns.length
  · rw [List.getElem?_map,List.getElem?_range hi,bU hi]
    rfl
  · rw [List.getElem?_eq_none (by simp; omega),List.getElem?_eq_none ag]
theorem GX {ns:List (List UInt8)} {os:List Nat} (hp:os.Perm (List.range ns.length)) (hs:os.Pairwise fun a b=>dm ns a<dm ns b):ns.Nodup:=by
  have h1:(os.map (dm ns)).Nodup:=List.Pairwise.map _ (fun a b h e=>by rw [e] at h; exact List.lt_irrefl _ h) hs
  have h2:=((hp.map (dm ns)).nodup_iff).1 h1
  rwa [yF] at h2
theorem Iy {ns:List (List UInt8)} {a b:Nat} (ha:a<ns.length) (hb:b<ns.length) (hab:a≠b) (he:dm ns a=dm ns b):¬ ns.Nodup:=fun hn=>by
  have h1:ns[a]=dm ns a:=by have:=bU ha; rwa [List.getElem?_eq_getElem ha,Option.some.injEq] at this
  have h2:ns[b]=dm ns b:=by have:=bU hb; rwa [List.getElem?_eq_getElem hb,Option.some.injEq] at this
  have hq:=List.pairwise_iff_getElem.1 hn
  rcases Nat.lt_or_gt_of_ne hab with h | h
  · exact hq a b ha hb h (by rw [h1,h2,he])
  · exact hq b a hb ha h (by rw [h1,h2,he])
theorem MK {n:Int} {ch:List UInt8} {clk:Int} {ns ds:List (List UInt8)} {os:List Nat} (hl:ns.length=ds.length) (h1000:ns.length≤1000) (hlg:ns.all bP=true) (hp:os.Perm (List.range ns.length)) (hs:os.Pairwise fun a b=>dm ns a<dm ns b) :
    tbE ns ds.length=0∧TbB n ch clk ns ds (BH n ch clk ns.length++(os.map (jS ns ds)).flatMap rowB):=by
  have h0:tbE ns ds.length=0:=by
    unfold tbE
    rw [if_neg (by simp [hl]),if_neg ag,if_neg (by simp [hlg]),if_pos (GX hp hs)]
  refine ⟨h0,?_⟩
  unfold TbB
  rw [if_pos h0]
  refine ⟨os.map (jS ns ds),?_,List.Pairwise.map _ (fun a b h=>h) hs,rfl⟩
  rw [← DZ hl]
  exact hp.map _
theorem ML {ns:List (List UInt8)} {m:Nat} (hl:ns.length=m) (h1000:ns.length≤1000) (hlg:ns.all bP=true) (hd:¬ ns.Nodup):tbE ns m=92:=by
  unfold tbE
  rw [if_neg (by simp [hl]),if_neg ag,if_neg (by simp [hlg]),if_neg hd]
theorem MM {ns:List (List UInt8)} {m i:Nat} (hl:ns.length=m) (h1000:ns.length≤1000) {q:List UInt8} (hi:ns[i]? = some q) (hq:bP q=false):tbE ns m=34:=by
  have h:ns.all bP=false:=by
    rw [List.all_eq_false]
    exact ⟨q,List.mem_of_getElem? hi,by simp [hq]⟩
  unfold tbE
  rw [if_neg (by simp [hl]),if_neg ag,if_pos h]
theorem Af {ns:List (List UInt8)} {i:Nat} {q:List UInt8} (h:(ns.take i).all bP=true) (hi:ns[i]? = some q) (hq:bP q=true):(ns.take (i+1)).all bP=true:=by
  rw [List.take_add_one,hi,List.all_append,h]
  simp [hq]
def Ce (ns:List (List UInt8)) (os:List Nat):Prop:=os.Pairwise fun a b=>dm ns a<dm ns b
theorem vk {ns:List (List UInt8)} {os:List Nat} {k:Nat} (h:Ce ns os) (hk:∀ a∈os,dm ns a<dm ns k):Ce ns (os++[k]):=by
  refine List.pairwise_append.2 ⟨h,List.pairwise_singleton ..,fun a ha b hb=>?_⟩
  rw [List.mem_singleton.1 hb]
  exact hk a ha
theorem vN {a b:List UInt8} (h:¬ b<a) (hne:a≠b):a<b:=by
  rcases List.not_lt.1 h |> fun (h':a≤b)=>Classical.em (a<b) with h2 | h2
  · exact h2
  · exact absurd (List.le_antisymm (List.not_lt.1 h) (List.not_lt.1 h2)) hne
theorem vw {ns:List (List UInt8)} {os:List Nat} {c k:Nat} (h:Ce ns (os++[c])) (hk:dm ns c<dm ns k):∀ a∈os++[c],dm ns a<dm ns k:=fun a ha=>by
  rcases List.mem_append.1 ha with ha | ha
  · exact List.lt_trans ((List.pairwise_append.1 h).2.2 a ha c (List.mem_singleton.2 rfl)) hk
  · rw [List.mem_singleton.1 ha]; exact hk
theorem ny {os:List Nat} {i c:Nat} (h:os[i]? = some c):os.take (i+1)=os.take i++[c]:=by
  rw [List.take_add_one,h]; rfl
theorem uY {ns ds:List (List UInt8)} {os:List Nat} {i k:Nat} (h:os[i]? = some k):((os.take (i+1)).map (jS ns ds)).flatMap rowB=((os.take i).map (jS ns ds)).flatMap rowB++rowB (jS ns ds k):=by
  rw [ny h,List.map_append,List.flatMap_append]
  simp
theorem Gt {p:Pr} (h1:p.1.length≤64) (h2:p.2.length=32):(rowB p).length≤98:=by
  unfold rowB
  rw [List.length_append,iC,h2]
  omega
theorem sZ {ps:List Pr} (h:∀ p∈ps,p.1.length≤64∧p.2.length=32):(ps.flatMap rowB).length≤ps.length*98:=by
  induction ps with
  | nil=>simp
  | cons p ps ih =>
    rw [List.flatMap_cons,List.length_append,List.length_cons]
    have q1:=Gt (h p (P6 ..)).1 (h p (P6 ..)).2
    have q2:=ih fun q hq=>h q (P7 _ hq)
    omega
end Go.Proofs.YtepbmdlgdaedpaaGreatDoor
namespace Go.Proofs.YtepbmdlgdaedpaaGreatDoor
open Go.RowKit Go.Dk Go.Shelf
theorem vM:bu Tryz.prog 146=true:=af
abbrev oc (os:List Nat):List Value:=os.map fun k=> .int .i64 ((k:Nat):Int)
theorem yL {os:List Nat} {i a:Nat} (h:os[i]? = some a):(oc os)[0+i]? = some (.int .i64 ((a:Nat):Int)):=by
 rw [Nat.zero_add,List.getElem?_map,h]
 rfl
set_option maxRecDepth 100000 in
set_option maxHeartbeats 8000000 in
theorem JL {w0:World} {R:List Seg} {G:List Seg} (g Bo Bt n:Nat) (os:List Nat) (A1:Option Addr) (ns:List (List UInt8)) (c1 i j na nb:Nat) (w:World) (hos:os.length=n) (hia:os[i]? = some na) (hjb:os[j]? = some nb) (ha:na<ns.length) (hb:nb<ns.length) (h1:Rc w0 G A1 (ns.map ak)) (hG:G⊆R) (hA:Hp w0 ([row g 3 (oc os)]::[row Bo 146 [.slice (some ⟨g,0,none⟩) n n]]::[row Bt 23 [.slice A1 ns.length c1]]::R) w):Calls Tryz.prog 94 #[.int .i64 (i:Nat),.int .i64 (j:Nat),.pointer (some ⟨Bt,0,none⟩),.pointer (some ⟨Bo,0,none⟩)] w fun e w'=>e= .returned (.bool (bI .lss (dm ns na) (dm ns nb)))∧w'=w.drew:=by
 obtain ⟨bq,oq,hsA,hc⟩:=h1.ne (i:=na) (by rw [List.length_map]; exact ha)
 subst hsA
 have hi:i<n:=by rw [← hos]; exact (List.getElem?_eq_some_iff.1 hia).1
 have hj:j<n:=by rw [← hos]; exact (List.getElem?_eq_some_iff.1 hjb).1
 refine aQ Tryz.func94 O Tryz.ntmps94 ai (fun a hF=>?_)
 refine wS hF fun K1 hK1=>vX O<|vE hK1<|wQ fun K2 hK2 a hF=>?_
 refine aT 15 [15] [0,1,2,3,4,5,6,7,8,9,10,11,12,13,14,15] _ af af (Hq.drew hA.q) ?_
 have hA1:=Hl.drew hA
 refine pR hF<|pV O O (fun x hx=>bi O hx O 2 O O nH)<|pV O O (fun x hx=>bi O hx O 1 O O vM)<|pX O O<|pW O O (fun _=>bF O Qw jl O O i rfl hi (ad2 _ _ _))<|pV O O (fun x hx=>bi (u:= .int .i64 ((na:Nat):Int)) O hx O 0 O (yL hia) mV)<|pW O O (fun _=>bF O PY wL O O na rfl ha (ad2 _ _ _))<|pV O O (fun x hx=>dL (u:=ak (dm ns na)) O (Hq.sub hx (List.Subset.trans hG (bW (bW (bW (fD)))))) O hc na (by rw [List.length_map]; exact ha) rfl (by rw [List.getElem?_map,bU ha]; rfl) xe) fun a hF=>?_
 refine pR hF<|pV O O (fun x hx=>bi O hx O 2 O O nH)<|pV O O (fun x hx=>bi O hx O 1 O O vM)<|pX O O<|pW O O (fun _=>bF O Qw jl O O j rfl hj (ad2 _ _ _))<|pV O O (fun x hx=>bi (u:= .int .i64 ((nb:Nat):Int)) O hx O 0 O (yL hjb) mV)<|pW O O (fun _=>bF O PY wL O O nb rfl hb (ad2 _ _ _))<|pV O O (fun x hx=>dL (u:=ak (dm ns nb)) O (Hq.sub hx (List.Subset.trans hG (bW (bW (bW (fD)))))) O hc nb (by rw [List.length_map]; exact hb) rfl (by rw [List.getElem?_map,bU hb]; rfl) xe) fun a hF=>?_
 refine pR hF<|pW O O (fun _=>fJ O O O O O) fun a hF=>?_
 refine dZ hF O O O O ae _ (jL O O) (fun h=>absurd h ae) (fun a hF=>?_)
 refine bG ?_
 refine hK2 _ _ ?_
 apply wp_ret
 refine aO hF Tryz.results94 O ?_
 exact ⟨rfl,rfl⟩
theorem wB {α:Type} [Inhabited α] (enc:α→Value) {w:World} {g:Nat} {t:TypeId} {d d':Array α} (m:Nat) (xs:Array Obj) (h:w.heap[g]? = some (.cells (d.toList.map enc).toArray t (0,0))) (hs:d'.size=d.size):At w [(g,t,d'.toList.map enc)] (Sort.grow (Sort.putRow enc (Sort.ahead w m) g 0 d') xs):=by
 have hg:g<w.heap.size:=(Array.getElem?_eq_some_iff.1 h).1
 have hp:Sort.putCells enc 0 d' (d.toList.map enc).toArray=(d'.toList.map enc).toArray:=by
  apply Array.ext
  ·simp [Sort.putCells,hs]
  ·intro i h1 h2
   have h3:i<d'.size:=by simpa using h2
   simp only [Sort.putCells,Array.getElem_mapIdx,PU,Nat.zero_add,true_and,Nat.sub_zero]
   rw [if_pos h3,getElem!_pos d' i h3]
   simp
 refine ⟨rfl,rfl,rfl,by simp [Sort.grow],fun r hr=>?_,by simp,fun k hk hn=>?_⟩
 ·rw [List.mem_singleton.1 hr]
  show (Sort.grow (Sort.putRow enc (Sort.ahead w m) g 0 d') xs).heap[g]? = some (.cells (d'.toList.map enc).toArray t (0,0))
  rw [Sort.heap_grow_old _ _ (by rw [Sort.size_putRow]; exact hg)]
  show ((w.heap.modify g (Sort.onCells (Sort.putCells enc 0 d')))[g]?)=_
  rw [Array.getElem?_modify,if_pos rfl,h,Option.map_some,Sort.onCells,hp]
 ·have hk2:¬ g=k:=fun e=>hn (by simp [e])
  rw [Sort.heap_grow_old _ _ (by rw [Sort.size_putRow]; exact hk)]
  show ((w.heap.modify g (Sort.onCells (Sort.putCells enc 0 d')))[k]?)=_
  rw [Array.getElem?_modify,if_neg hk2]
theorem Jt {w:World} (xs:Array Obj):At w [] (Sort.grow w xs):=⟨rfl,rfl,rfl,by simp [Sort.grow],(fun _ h=>by cases h),List.nodup_nil,fun _ hk _=>Sort.heap_grow_old _ _ hk⟩
noncomputable def siT:TypeInfo:=(Tryz.prog.info? 146).get af
noncomputable def siE:TypeInfo:=(Tryz.prog.info? 3).get af
theorem siK (n:Nat) (h2:2≤n):Lib.swapperK n siE 2=5:=by
 have a:siE.hasPointers=false:=af
 have b:siE.bytes=8:=af
 have c:(n == 0)=false:=by simp; omega
 have d:(n == 1)=false:=by simp; omega
 simp [Lib.swapperK,a,b,c,d]
def ltN (ns:List (List UInt8)) (n:Nat) (a b:Fin n):Bool:=Sort.ltStr (dm ns a.val) (dm ns b.val)
theorem Pm (ns:List (List UInt8)) (n:Nat):Sort.SWO (ltN ns n) where
 irrefl x:=Sort.swo_ltStr.irrefl _
 trans x y z h1 h2:=Sort.swo_ltStr.trans _ _ _ h1 h2
 ntrans x y z h1 h2:=Sort.swo_ltStr.ntrans _ _ _ h1 h2
abbrev BP {n:Nat} (k:Fin n):Value:= .int .i64 ((k.val:Nat):Int)
theorem BO {n:Nat} (d:Array (Fin n)):d.toList.map BP=oc (d.toList.map Fin.val):=by rw [oc,List.map_map]; rfl
def dN (n:Nat):Array (Fin n):=Array.ofFn id
theorem Du (n:Nat):(dN n).toList.map Fin.val=List.range n:=by
 apply List.ext_getElem?
 intro i
 by_cases hi:i<n
 ·rw [List.getElem?_map,List.getElem?_range hi,dN,Array.toList_ofFn,List.getElem?_ofFn,dif_pos hi]
  rfl
 ·rw [List.getElem?_eq_none (by simp [dN]; omega),List.getElem?_eq_none (by simp; omega)]
theorem JQ (args:Array Value) (w:World):(callFunc 177 args).run Tryz.prog w=((Extern.ReflectliteSwapper.swap true args).run Tryz.prog w).andThen fun v w'=> .ok (.value v) w' :=
 run_callFunc_extern Tryz.func177 af af af (e:=Extern.ReflectliteSwapper.swap true) af args w
set_option maxHeartbeats 2000000 in
theorem JK {w0:World} {R:List Seg} {G:List Seg} (g Bo Bt n:Nat) (A1:Option Addr) (ns:List (List UInt8)) (c1:Nat) (w:World) (hn:ns.length=n) (hn2:n<4611686018427387904) (h1:Rc w0 G A1 (ns.map ak)) (hG:G⊆R) (hA:Hp w0 ([row g 3 (oc (List.range n))]::[row Bo 146 [.slice (some ⟨g,0,none⟩) n n]]::[row Bt 23 [.slice A1 ns.length c1]]::R) w) :
  Calls Tryz.prog 93 #[.iface 146 (.slice (some ⟨g,0,none⟩) n n),.func (.func 94) #[] #[.pointer (some ⟨Bt,0,none⟩),.pointer (some ⟨Bo,0,none⟩)]] w fun e w'=>e= .returned (.tuple #[])∧∃ os:List Nat,os.Perm (List.range n)∧(os.Pairwise fun a b=>¬ dm ns b<dm ns a)∧Hp w0 ([row g 3 (oc os)]::[row Bo 146 [.slice (some ⟨g,0,none⟩) n n]]::[row Bt 23 [.slice A1 ns.length c1]]::R) w':=by
 by_cases h2:2≤n
 ·obtain ⟨m,rfl⟩:∃ m,n=m+2:=⟨n-2,ag⟩
  have hrow:w.heap[g]? = some (.cells ((dN (m+2)).toList.map BP).toArray 3 (0,0)):=by rw [BO,Du]; exact hA.rowAt (i:=0) rfl
  have hds:(dN (m+2)).size=m+2:=by simp [dN]
  have hblk:g<w.heap.size:=(Array.getElem?_eq_some_iff.1 hrow).1
  have hH:Sort.Holds BP w g 0 (dN (m+2)):=fun j hj=>by
   refine ⟨?_,?_⟩
   ·unfold World.cell?
    rw [hrow]
    simp [hj]
   ·unfold World.frozen?
    rw [hrow]
    simp
  have hless:LessReads Tryz.prog 94 #[.pointer (some ⟨Bt,0,none⟩),.pointer (some ⟨Bo,0,none⟩)] BP (ltN ns (m+2)) g 0 (dN (m+2)).size w:=by
   intro k xs dk hs i j hi hj
   have hW:=hA.then1 (i:=0) rfl (wB BP k xs hrow hs)
   rw [BO] at hW
   have hi':i<dk.size:=by omega
   have hj':j<dk.size:=by omega
   refine (JL g Bo Bt (m+2) (dk.toList.map Fin.val) A1 ns c1 i j (dk[i]!).val (dk[j]!).val _ (by simp [hs,hds]) (by rw [getElem!_pos dk i hi']; simp [hi']) (by rw [getElem!_pos dk j hj']; simp [hj']) (by rw [hn]; exact (dk[i]!).isLt) (by rw [hn]; exact (dk[j]!).isLt) h1 hG hW).mono ?_
   rintro e w' ⟨rfl,rfl⟩
   exact ⟨by rw [Bz]; rfl,1,rfl⟩
  have hS:=Any.sort_Slice_sorted sl6 146 3 siT siE af af af af 2 (fun _=>by kernel_rfl) af (fun _=>by kernel_rfl) BP (fun _=>rfl) (ltN ns (m+2)) (Pm ns (m+2)) 94 _
   (enters_of Tryz.func94 af rfl) g 0 (m+2) (dN (m+2)) (by rw [hds]; omega) (by rw [hds]; exact hn2) 177 (by rw [hds,siK _ h2]; kernel_rfl) true JQ w hless hH hblk
  rw [hds] at hS
  change Calls Tryz.prog 93 _ _ _ at hS
  refine hS.mono ?_
  rintro e w' ⟨rfl,d',k,xs,⟨hp1,_,hp3⟩,hso,rfl⟩
  have hds':d'.size=m+2:=by rw [hp1,hds]
  refine ⟨rfl,d'.toList.map Fin.val,?_,?_,?_⟩
  ·have e1:∀ (x:Array (Fin (m+2))) (k:Nat),k=x.size→(x.extract 0 k).toList=x.toList:=fun x k e=>by subst e; simp
   rw [e1 d' _ hds'.symm,e1 (dN (m+2)) _ hds.symm] at hp3
   rw [← Du]
   exact hp3.map _
  ·refine List.Pairwise.map _ (R:=fun a b:Fin (m+2)=>¬ dm ns b.val<dm ns a.val) (fun a b h=>h) ?_
   refine List.pairwise_iff_getElem.2 fun i j hi hj hij=>?_
   have hj2:j<d'.size:=by simpa using hj
   have hi2:i<d'.size:=by simpa using hi
   have h9:=hso i j (PU _) hij ag
   rw [getElem!_pos d' i hi2,getElem!_pos d' j hj2] at h9
   simp only [ltN,Sort.ltStr,decide_eq_false_iff_not] at h9
   simpa using h9
  ·have hW:=hA.then1 (i:=0) rfl (wB BP k xs hrow (by rw [hp1]))
   rw [BO] at hW
   exact hW
 ·have hK:Lib.swapperK n siE 2=n+1:=by
   rcases Nat.eq_zero_or_pos n with h | h
   ·subst h; simp [Lib.swapperK]
   ·obtain rfl:n=1:=by omega
    simp [Lib.swapperK]
  have hS:=Any.sort_Slice_tiny sl6 146 3 siT siE af af af af 2 (fun _=>by kernel_rfl) (some ⟨g,0,none⟩) n n ag (173+n) (by
   rw [hK]
   rcases Nat.eq_zero_or_pos n with h | h
   ·subst h; kernel_rfl
   ·obtain rfl:n=1:=by omega
    kernel_rfl) (.func 94) #[] #[.pointer (some ⟨Bt,0,none⟩),.pointer (some ⟨Bo,0,none⟩)] w
  change Calls Tryz.prog 93 _ _ _ at hS
  refine hS.mono ?_
  rintro e w' ⟨rfl,xs,rfl⟩
  refine ⟨rfl,List.range n,List.Perm.refl _,?_,hA.then0 (Jt xs)⟩
  rcases Nat.eq_zero_or_pos n with h | h
  ·subst h; exact List.Pairwise.nil
  ·obtain rfl:n=1:=by omega
   exact List.pairwise_singleton ..
end Go.Proofs.YtepbmdlgdaedpaaGreatDoor
