/- A Table's order: the library's sort over its closure. -/
import Derived.Test.YtepbmdlgdaedpaaGreatDoorEnt
import Derived.Test.YtepbmdlgdaedpaaGreatDoorTbL
/- A Table's order: the library's sort over its closure. -/
namespace Go.Proofs.YtepbmdlgdaedpaaGreatDoor
open Go.RowKit Go.Dk Go.Shelf
theorem pg:bf Tryz.prog 146=true:=af
abbrev oc (os:List Nat):List Value:=os.map fun k=> .int .i64 ((k:Nat):Int)
theorem sH {os:List Nat} {i a:Nat} (h:os[i]? = some a):(oc os)[0+i]? = some (.int .i64 ((a:Nat):Int)):=by
 rw [Nat.zero_add,List.getElem?_map,h]
 rfl
set_option maxRecDepth 100000 in
set_option maxHeartbeats 8000000 in
theorem CG {w0:World} {R:List Seg} {G:List Seg} (g Bo Bt n:Nat) (os:List Nat) (A1:Option Addr) (ns:List (List UInt8)) (c1 i j na nb:Nat) (w:World) (hos:os.length=n) (hia:os[i]? = some na) (hjb:os[j]? = some nb) (ha:na<ns.length) (hb:nb<ns.length) (h1:Rc w0 G A1 (ns.map ak)) (hG:G⊆R) (hA:Hp w0 ([row g 3 (oc os)]::[row Bo 146 [.slice (some ⟨g,0,none⟩) n n]]::[row Bt 23 [.slice A1 ns.length c1]]::R) w):Calls Tryz.prog 94 #[.int .i64 (i:Nat),.int .i64 (j:Nat),.pointer (some ⟨Bt,0,none⟩),.pointer (some ⟨Bo,0,none⟩)] w fun e w'=>e= .returned (.bool (bn .lss (dm ns na) (dm ns nb)))∧w'=w.drew:=by
 obtain ⟨bq,oq,hsA,hc⟩:=h1.ne (i:=na) (by rw [List.length_map]; exact ha)
 subst hsA
 have hi:i<n:=by rw [← hos]; exact (List.getElem?_eq_some_iff.1 hia).1
 have hj:j<n:=by rw [← hos]; exact (List.getElem?_eq_some_iff.1 hjb).1
 refine aP Tryz.func94 O Tryz.ntmps94 ai (fun a hF=>?_)
 refine wS hF fun K1 hK1=>vX O<|vE hK1<|wQ fun K2 hK2 a hF=>?_
 refine bi 15 [15] [0,1,2,3,4,5,6,7,8,9,10,11,12,13,14,15] _ af af (Hq.drew hA.q) ?_
 have hA1:=Hl.drew hA
 refine pR hF<|pV O O (fun x hx=>aX O hx O 2 O O jY)<|pV O O (fun x hx=>aX O hx O 1 O O pg)<|pX O O<|pW O O (fun _=>bD O Iy gu O O i rfl hi (ad2 _ _ _))<|pV O O (fun x hx=>aX (u:= .int .i64 ((na:Nat):Int)) O hx O 0 O (sH hia) jK)<|pW O O (fun _=>bD O Ia qi O O na rfl ha (ad2 _ _ _))<|pV O O (fun x hx=>dG (u:=ak (dm ns na)) O (Hq.sub hx (List.Subset.trans hG (bT (bT (bT (gK)))))) O hc na (by rw [List.length_map]; exact ha) rfl (by rw [List.getElem?_map,bU ha]; rfl) qE) fun a hF=>?_
 refine pR hF<|pV O O (fun x hx=>aX O hx O 2 O O jY)<|pV O O (fun x hx=>aX O hx O 1 O O pg)<|pX O O<|pW O O (fun _=>bD O Iy gu O O j rfl hj (ad2 _ _ _))<|pV O O (fun x hx=>aX (u:= .int .i64 ((nb:Nat):Int)) O hx O 0 O (sH hjb) jK)<|pW O O (fun _=>bD O Ia qi O O nb rfl hb (ad2 _ _ _))<|pV O O (fun x hx=>dG (u:=ak (dm ns nb)) O (Hq.sub hx (List.Subset.trans hG (bT (bT (bT (gK)))))) O hc nb (by rw [List.length_map]; exact hb) rfl (by rw [List.getElem?_map,bU hb]; rfl) qE) fun a hF=>?_
 refine pR hF<|pW O O (fun _=>fP O O O O O) fun a hF=>?_
 refine fF hF O O O O ae _ (jG O O) (fun h=>absurd h ae) (fun a hF=>?_)
 refine df ?_
 refine hK2 _ _ ?_
 apply wp_ret
 refine aK hF Tryz.results94 O ?_
 exact ⟨rfl,rfl⟩
theorem pY {α:Type} [Inhabited α] (enc:α→Value) {w:World} {g:Nat} {t:TypeId} {d d':Array α} (m:Nat) (xs:Array Obj) (h:w.heap[g]? = some (.cells (d.toList.map enc).toArray t (0,0))) (hs:d'.size=d.size):At w [(g,t,d'.toList.map enc)] (Sort.grow (Sort.putRow enc (Sort.ahead w m) g 0 d') xs):=by
 have hg:g<w.heap.size:=(Array.getElem?_eq_some_iff.1 h).1
 have hp:Sort.putCells enc 0 d' (d.toList.map enc).toArray=(d'.toList.map enc).toArray:=by
  apply Array.ext
  ·simp [Sort.putCells,hs]
  ·intro i h1 h2
   have h3:i<d'.size:=by simpa using h2
   simp only [Sort.putCells,Array.getElem_mapIdx,Hy,Nat.zero_add,true_and,Nat.sub_zero]
   rw [if_pos h3,getElem!_pos d' i h3]
   simp
 refine ⟨rfl,rfl,rfl,by simp [Sort.grow],fun r hr=>?_,by simp,fun k hk hn=>?_⟩
 ·rw [List.mem_singleton.1 hr]
  show (Sort.grow (Sort.putRow enc (Sort.ahead w m) g 0 d') xs).heap[g]? = some (.cells (d'.toList.map enc).toArray t (0,0))
  rw [Sort.heap_grow_old _ _ (by rw [Sort.size_putRow]; exact hg)]
  show ((w.heap.modify g (Sort.onCells (Sort.putCells enc 0 d')))[g]?)=_
  rw [Array.getElem?_modify,if_pos rfl,h,Option.map_some,Sort.onCells,hp]
 ·have hk2:¬ g=k:=fun e=>hn (by simp [e])
  rw [Sort.heap_grow_old _ _ (by rw [Sort.size_putRow]; exact hk)]
  show ((w.heap.modify g (Sort.onCells (Sort.putCells enc 0 d')))[k]?)=_
  rw [Array.getElem?_modify,if_neg hk2]
theorem BN {w:World} (xs:Array Obj):At w [] (Sort.grow w xs):=⟨rfl,rfl,rfl,by simp [Sort.grow],(fun _ h=>by cases h),List.nodup_nil,fun _ hk _=>Sort.heap_grow_old _ _ hk⟩
noncomputable def siT:TypeInfo:=(Tryz.prog.info? 146).get af
noncomputable def siE:TypeInfo:=(Tryz.prog.info? 3).get af
theorem siK (n:Nat) (h2:2≤n):Lib.swapperK n siE 2=5:=by
 have a:siE.hasPointers=false:=af
 have b:siE.bytes=8:=af
 have c:(n == 0)=false:=by simp; omega
 have d:(n == 1)=false:=by simp; omega
 simp [Lib.swapperK,a,b,c,d]
def ltN (ns:List (List UInt8)) (n:Nat) (a b:Fin n):Bool:=Sort.ltStr (dm ns a.val) (dm ns b.val)
theorem GL (ns:List (List UInt8)) (n:Nat):Sort.SWO (ltN ns n) where
 irrefl x:=Sort.swo_ltStr.irrefl _
 trans x y z h1 h2:=Sort.swo_ltStr.trans _ _ _ h1 h2
 ntrans x y z h1 h2:=Sort.swo_ltStr.ntrans _ _ _ h1 h2
abbrev vw {n:Nat} (k:Fin n):Value:= .int .i64 ((k.val:Nat):Int)
theorem vk {n:Nat} (d:Array (Fin n)):d.toList.map vw=oc (d.toList.map Fin.val):=by rw [oc,List.map_map]; rfl
def dN (n:Nat):Array (Fin n):=Array.ofFn id
theorem wM (n:Nat):(dN n).toList.map Fin.val=List.range n:=by
 apply List.ext_getElem?
 intro i
 by_cases hi:i<n
 ·rw [List.getElem?_map,List.getElem?_range hi,dN,Array.toList_ofFn,List.getElem?_ofFn,dif_pos hi]
  rfl
 ·rw [List.getElem?_eq_none (by simp [dN]; omega),List.getElem?_eq_none (by simp; omega)]
theorem CO (args:Array Value) (w:World):(callFunc 177 args).run Tryz.prog w=((Extern.ReflectliteSwapper.swap true args).run Tryz.prog w).andThen fun v w'=> .ok (.value v) w' :=
 run_callFunc_extern Tryz.func177 af af af (e:=Extern.ReflectliteSwapper.swap true) af args w
set_option maxHeartbeats 2000000 in
theorem CE {w0:World} {R:List Seg} {G:List Seg} (g Bo Bt n:Nat) (A1:Option Addr) (ns:List (List UInt8)) (c1:Nat) (w:World) (hn:ns.length=n) (hn2:n<4611686018427387904) (h1:Rc w0 G A1 (ns.map ak)) (hG:G⊆R) (hA:Hp w0 ([row g 3 (oc (List.range n))]::[row Bo 146 [.slice (some ⟨g,0,none⟩) n n]]::[row Bt 23 [.slice A1 ns.length c1]]::R) w) :
  Calls Tryz.prog 93 #[.iface 146 (.slice (some ⟨g,0,none⟩) n n),.func (.func 94) #[] #[.pointer (some ⟨Bt,0,none⟩),.pointer (some ⟨Bo,0,none⟩)]] w fun e w'=>e= .returned (.tuple #[])∧∃ os:List Nat,os.Perm (List.range n)∧(os.Pairwise fun a b=>¬ dm ns b<dm ns a)∧Hp w0 ([row g 3 (oc os)]::[row Bo 146 [.slice (some ⟨g,0,none⟩) n n]]::[row Bt 23 [.slice A1 ns.length c1]]::R) w':=by
 by_cases h2:2≤n
 ·obtain ⟨m,rfl⟩:∃ m,n=m+2:=⟨n-2,ag⟩
  have hrow:w.heap[g]? = some (.cells ((dN (m+2)).toList.map vw).toArray 3 (0,0)):=by rw [vk,wM]; exact hA.rowAt (i:=0) rfl
  have hds:(dN (m+2)).size=m+2:=by simp [dN]
  have hblk:g<w.heap.size:=(Array.getElem?_eq_some_iff.1 hrow).1
  have hH:Sort.Holds vw w g 0 (dN (m+2)):=fun j hj=>by
   refine ⟨?_,?_⟩
   ·unfold World.cell?
    rw [hrow]
    simp [hj]
   ·unfold World.frozen?
    rw [hrow]
    simp
  have hless:LessReads Tryz.prog 94 #[.pointer (some ⟨Bt,0,none⟩),.pointer (some ⟨Bo,0,none⟩)] vw (ltN ns (m+2)) g 0 (dN (m+2)).size w:=by
   intro k xs dk hs i j hi hj
   have hW:=hA.then1 (i:=0) rfl (pY vw k xs hrow hs)
   rw [vk] at hW
   have hi':i<dk.size:=by omega
   have hj':j<dk.size:=by omega
   refine (CG g Bo Bt (m+2) (dk.toList.map Fin.val) A1 ns c1 i j (dk[i]!).val (dk[j]!).val _ (by simp [hs,hds]) (by rw [getElem!_pos dk i hi']; simp [hi']) (by rw [getElem!_pos dk j hj']; simp [hj']) (by rw [hn]; exact (dk[i]!).isLt) (by rw [hn]; exact (dk[j]!).isLt) h1 hG hW).mono ?_
   rintro e w' ⟨rfl,rfl⟩
   exact ⟨by rw [Fb]; rfl,1,rfl⟩
  have hS:=Any.sort_Slice_sorted sl6 146 3 siT siE af af af af 2 (fun _=>by kernel_rfl) af (fun _=>by kernel_rfl) vw (fun _=>rfl) (ltN ns (m+2)) (GL ns (m+2)) 94 _
   (enters_of Tryz.func94 af rfl) g 0 (m+2) (dN (m+2)) (by rw [hds]; omega) (by rw [hds]; exact hn2) 177 (by rw [hds,siK _ h2]; kernel_rfl) true CO w hless hH hblk
  rw [hds] at hS
  change Calls Tryz.prog 93 _ _ _ at hS
  refine hS.mono ?_
  rintro e w' ⟨rfl,d',k,xs,⟨hp1,_,hp3⟩,hso,rfl⟩
  have hds':d'.size=m+2:=by rw [hp1,hds]
  refine ⟨rfl,d'.toList.map Fin.val,?_,?_,?_⟩
  ·have e1:∀ (x:Array (Fin (m+2))) (k:Nat),k=x.size→(x.extract 0 k).toList=x.toList:=fun x k e=>by subst e; simp
   rw [e1 d' _ hds'.symm,e1 (dN (m+2)) _ hds.symm] at hp3
   rw [← wM]
   exact hp3.map _
  ·refine List.Pairwise.map _ (R:=fun a b:Fin (m+2)=>¬ dm ns b.val<dm ns a.val) (fun a b h=>h) ?_
   refine List.pairwise_iff_getElem.2 fun i j hi hj hij=>?_
   have hj2:j<d'.size:=by simpa using hj
   have hi2:i<d'.size:=by simpa using hi
   have h9:=hso i j (Hy _) hij ag
   rw [getElem!_pos d' i hi2,getElem!_pos d' j hj2] at h9
   simp only [ltN,Sort.ltStr,decide_eq_false_iff_not] at h9
   simpa using h9
  ·have hW:=hA.then1 (i:=0) rfl (pY vw k xs hrow (by rw [hp1]))
   rw [vk] at hW
   exact hW
 ·have hK:Lib.swapperK n siE 2=n+1:=by
   rcases Nat.eq_zero_or_pos n with h | h
   ·subst h; simp [Lib.swapperK]
   ·obtain rfl:n=1:=by omega
    simp [Lib.swapperK]
  have hS:=Any.sort_Slice_tiny sl6 146 3 siT siE af af af af 2 (fun _=>by kernel_rfl) (some ⟨g,0,none⟩) n n ag (173+n) (by
   rw [hK]
   rcases Nat.eq_zero_or_pos n with h | h
   ·subst h; kernel_rfl
   ·obtain rfl:n=1:=by omega
    kernel_rfl) (.func 94) #[] #[.pointer (some ⟨Bt,0,none⟩),.pointer (some ⟨Bo,0,none⟩)] w
  change Calls Tryz.prog 93 _ _ _ at hS
  refine hS.mono ?_
  rintro e w' ⟨rfl,xs,rfl⟩
  refine ⟨rfl,List.range n,List.Perm.refl _,?_,hA.then0 (BN xs)⟩
  rcases Nat.eq_zero_or_pos n with h | h
  ·subst h; exact List.Pairwise.nil
  ·obtain rfl:n=1:=by omega
   exact List.pairwise_singleton ..
end Go.Proofs.YtepbmdlgdaedpaaGreatDoor
