/- Texts that belong together, one behind the other. -/
import Derived.Test.YtepbmdlgdaedpaaGreatDoorRegion
import Derived.Shelf.GgSortFunc.Whole
import Derived.Shelf.GgSortFunc.Tiny
import Derived.Test.YtepbmdlgdaedpaaGreatDoorProg
import Derived.Test.YtepbmdlgdaedpaaGreatDoorOctetW
import Derived.Test.YtepbmdlgdaedpaaGreatDoorHr
import Derived.Test.YtepbmdlgdaedpaaGreatDoorCs
import Derived.Test.YtepbmdlgdaedpaaGreatDoorTab4
import Derived.Test.YtepbmdlgdaedpaaGreatDoorSt1
import Derived.Test.YtepbmdlgdaedpaaGreatDoorTbO
namespace Go.Proofs.YtepbmdlgdaedpaaGreatDoor
open Go.Shelf Go.Dk
def He:Go.Shelf.Ren:=⟨fun | 6=>93 | 10=>147 | 11=>148 | 12=>149 | 13=>150 | 14=>151 | 24=>182 | 25=>183 | 26=>184 | 27=>185 | 28=>186 | 29=>187 | 30=>188 | 31=>189 | 32=>190 | 33=>191 | 34=>202 | 35=>203 | 36=>204 | 37=>205 | 38=>206 | 39=>209 | n=>n,fun | 20=>20 | 26=>148 | 35=>208 | 0=>0 | 37=>192 | 3=>3 | 41=>38 | 44=>214 | 49=>150 | 51=>135 | 4=>4 | 54=>233 | 53=>232 | 58=>237 | 5=>5 | 9=>9 | 60=>253 | 64=>257 | 66=>261 | 67=>262 | 17=>17 | 32=>205 | 33=>206 | 82=>276 | 12=>12 | 75=>269 | 76=>270 | 77=>271 | 78=>272 | 79=>273 | 80=>274 | n=>n,fun | n=>n⟩
set_option maxRecDepth 100000 in
theorem sl6:Go.Proofs.LaysGg.n6 Tryz.prog He:={
  mixed:=by kernel_rfl,
  f6:=Tryz.func93.trans (congrArg some af),
  f10:=Tryz.func147.trans (congrArg some af),
  f11:=Tryz.func148.trans (congrArg some af),
  f12:=Tryz.func149.trans (congrArg some af),
  f13:=Tryz.func150.trans (congrArg some af),
  f14:=Tryz.func151.trans (congrArg some af),
  f24:=Tryz.func182.trans (congrArg some af),
  f25:=Tryz.func183.trans (congrArg some af),
  f26:=Tryz.func184.trans (congrArg some af),
  f27:=Tryz.func185.trans (congrArg some af),
  f28:=Tryz.func186.trans (congrArg some af),
  f29:=Tryz.func187.trans (congrArg some af),
  f30:=Tryz.func188.trans (congrArg some af),
  f31:=Tryz.func189.trans (congrArg some af),
  f32:=Tryz.func190.trans (congrArg some af),
  f33:=Tryz.func191.trans (congrArg some af),
  f34:=Tryz.func202.trans (congrArg some af),
  f35:=Tryz.func203.trans (congrArg some af),
  f36:=Tryz.func204.trans (congrArg some af),
  f37:=Tryz.func205.trans (congrArg some af),
  f38:=Tryz.func206.trans (congrArg some af),
  f39:=Tryz.func209.trans (congrArg some af),
  t0:=Tryz.underlying0,
  a0:=Tryz.isAgg0,
  z0:=Tryz.sizeOf0,
  v0:=Tryz.zeroValue0,
  i0:=by kernel_rfl,
  t3:=NC,
  a3:=Tryz.isAgg3,
  z3:=Tryz.sizeOf3,
  v3:=Tryz.zeroValue3,
  i3:=by kernel_rfl,
  t4:=Tryz.underlying4,
  a4:=Tryz.isAgg4,
  z4:=Tryz.sizeOf4,
  v4:=Tryz.zeroValue4,
  i4:=by kernel_rfl,
  t5:=NI,
  a5:=Tryz.isAgg5,
  z5:=Tryz.sizeOf5,
  v5:=Tryz.zeroValue5,
  i5:=by kernel_rfl,
  t9:=Nz,
  a9:=Tryz.isAgg9,
  z9:=Tryz.sizeOf9,
  v9:=Tryz.zeroValue9,
  i9:=by kernel_rfl,
  t12:=Tryz.underlying12,
  a12:=Tryz.isAgg12,
  z12:=Tryz.sizeOf12,
  v12:=Tryz.zeroValue12,
  i12:=by kernel_rfl,
  t17:=Tryz.underlying17,
  a17:=Tryz.isAgg17,
  z17:=Tryz.sizeOf17,
  v17:=Tryz.zeroValue17,
  i17:=by kernel_rfl,
  t20:=Tryz.underlying20,
  a20:=Tryz.isAgg20,
  z20:=Tryz.sizeOf20,
  v20:=Tryz.zeroValue20,
  i20:=by kernel_rfl,
  t26:=Tryz.underlying148,
  a26:=Tryz.isAgg148,
  z26:=Tryz.sizeOf148,
  v26:=Tryz.zeroValue148,
  i26:=by kernel_rfl,
  t32:=Tryz.underlying205,
  a32:=Tryz.isAgg205,
  z32:=Tryz.sizeOf205,
  v32:=Tryz.zeroValue205,
  i32:=by kernel_rfl,
  t33:=Tryz.underlying206,
  a33:=Tryz.isAgg206,
  z33:=Tryz.sizeOf206,
  v33:=Tryz.zeroValue206,
  i33:=by kernel_rfl,
  t35:=Tryz.underlying208,
  a35:=Tryz.isAgg208,
  z35:=Tryz.sizeOf208,
  v35:=Tryz.zeroValue208,
  i35:=by kernel_rfl,
  t37:=Tryz.underlying192,
  a37:=Tryz.isAgg192,
  z37:=Tryz.sizeOf192,
  v37:=Tryz.zeroValue192,
  i37:=by kernel_rfl,
  t41:=Tryz.underlying38,
  a41:=Tryz.isAgg38,
  z41:=Tryz.sizeOf38,
  v41:=Tryz.zeroValue38,
  i41:=by kernel_rfl,
  t44:=Tryz.underlying214,
  a44:=Tryz.isAgg214,
  z44:=Tryz.sizeOf214,
  v44:=Tryz.zeroValue214,
  i44:=by kernel_rfl,
  t49:=NZ,
  a49:=Tryz.isAgg150,
  z49:=Tryz.sizeOf150,
  v49:=Tryz.zeroValue150,
  i49:=by kernel_rfl,
  t51:=NJ,
  a51:=Tryz.isAgg135,
  z51:=Tryz.sizeOf135,
  v51:=Tryz.zeroValue135,
  i51:=by kernel_rfl,
  t53:=Tryz.underlying232,
  a53:=Tryz.isAgg232,
  z53:=Tryz.sizeOf232,
  v53:=Tryz.zeroValue232,
  i53:=by kernel_rfl,
  t54:=Tryz.underlying233,
  a54:=Tryz.isAgg233,
  z54:=Tryz.sizeOf233,
  v54:=Tryz.zeroValue233,
  i54:=by kernel_rfl,
  t58:=Tryz.underlying237,
  a58:=Tryz.isAgg237,
  z58:=Tryz.sizeOf237,
  v58:=Tryz.zeroValue237,
  i58:=by kernel_rfl,
  t60:=Tryz.underlying253,
  a60:=Tryz.isAgg253,
  z60:=Tryz.sizeOf253,
  v60:=Tryz.zeroValue253,
  i60:=by kernel_rfl,
  t64:=Tryz.underlying257,
  a64:=Tryz.isAgg257,
  z64:=Tryz.sizeOf257,
  v64:=Tryz.zeroValue257,
  i64:=by kernel_rfl,
  t66:=Tryz.underlying261,
  a66:=Tryz.isAgg261,
  z66:=Tryz.sizeOf261,
  v66:=Tryz.zeroValue261,
  i66:=by kernel_rfl,
  t67:=Tryz.underlying262,
  a67:=Tryz.isAgg262,
  z67:=Tryz.sizeOf262,
  v67:=Tryz.zeroValue262,
  i67:=by kernel_rfl,
  t75:=Tryz.underlying269,
  a75:=Tryz.isAgg269,
  z75:=Tryz.sizeOf269,
  v75:=Tryz.zeroValue269,
  i75:=by kernel_rfl,
  t76:=Tryz.underlying270,
  a76:=Tryz.isAgg270,
  z76:=Tryz.sizeOf270,
  v76:=Tryz.zeroValue270,
  i76:=by kernel_rfl,
  t77:=Tryz.underlying271,
  a77:=Tryz.isAgg271,
  z77:=Tryz.sizeOf271,
  v77:=Tryz.zeroValue271,
  i77:=by kernel_rfl,
  t78:=Tryz.underlying272,
  a78:=Tryz.isAgg272,
  z78:=Tryz.sizeOf272,
  v78:=Tryz.zeroValue272,
  i78:=by kernel_rfl,
  t79:=Tryz.underlying273,
  a79:=Tryz.isAgg273,
  z79:=Tryz.sizeOf273,
  v79:=Tryz.zeroValue273,
  i79:=by kernel_rfl,
  t80:=Tryz.underlying274,
  a80:=Tryz.isAgg274,
  z80:=Tryz.sizeOf274,
  v80:=Tryz.zeroValue274,
  i80:=by kernel_rfl,
  t82:=Tryz.underlying276,
  a82:=Tryz.isAgg276,
  z82:=Tryz.sizeOf276,
  v82:=Tryz.zeroValue276,
  i82:=by kernel_rfl }
end Go.Proofs.YtepbmdlgdaedpaaGreatDoor
namespace Go.Proofs.YtepbmdlgdaedpaaGreatDoor
open Go.RowKit Go.Dk Go.Shelf
theorem tZ:bi Tryz.prog 146=true:=af
abbrev oc (os:List Nat):List Value:=os.map fun k=> .int .i64 ((k:Nat):Int)
theorem xC {os:List Nat} {i a:Nat} (h:os[i]? = some a):(oc os)[0+i]? = some (.int .i64 ((a:Nat):Int)):=by
 rw [Nat.zero_add,List.getElem?_map,h]
 rfl
set_option maxRecDepth 100000 in
set_option maxHeartbeats 8000000 in
theorem G5 {w0:World} {R:List Seg} {G:List Seg} (g Bo Bt n:Nat) (os:List Nat) (A1:Option Addr) (ns:List (List UInt8)) (c1 i j na nb:Nat) (w:World) (hos:os.length=n) (hia:os[i]? = some na) (hjb:os[j]? = some nb) (ha:na<ns.length) (hb:nb<ns.length) (h1:Rc w0 G A1 (ns.map aj)) (hG:G⊆R) (hA:Hp w0 ([row g 3 (oc os)]::[row Bo 146 [.slice (some ⟨g,0,none⟩) n n]]::[row Bt 23 [.slice A1 ns.length c1]]::R) w):Calls Tryz.prog 94 #[.int .i64 (i:Nat),.int .i64 (j:Nat),.pointer (some ⟨Bt,0,none⟩),.pointer (some ⟨Bo,0,none⟩)] w fun e w'=>e= .returned (.bool (bJ .lss (dM ns na) (dM ns nb)))∧w'=w.drew:=by
 obtain ⟨bq,oq,hsA,hc⟩:=h1.ne (i:=na) (by rw [List.length_map]; exact ha)
 subst hsA
 have hi:i<n:=by rw [← hos]; exact (List.getElem?_eq_some_iff.1 hia).1
 have hj:j<n:=by rw [← hos]; exact (List.getElem?_eq_some_iff.1 hjb).1
 refine aP Tryz.func94 O Tryz.ntmps94 ai (fun a hF=>?_)
 refine wS hF fun K1 hK1=>vX O<|vE hK1<|wQ fun K2 hK2 a hF=>?_
 refine aQ 15 [15] [0,1,2,3,4,5,6,7,8,9,10,11,12,13,14,15] _ af af (Hq.drew hA.q) ?_
 have hA1:=Hl.drew hA
 refine pR hF<|pV O O (fun x hx=>aU O hx O 2 O O mi)<|pV O O (fun x hx=>aU O hx O 1 O O tZ)<|pX O O<|pW O O (fun _=>aY O N9 gZ O O i rfl hi (ad2 _ _ _))<|pV O O (fun x hx=>aU (u:= .int .i64 ((na:Nat):Int)) O hx O 0 O (xC hia) jZ)<|pW O O (fun _=>aY O Nk uC O O na rfl ha (ad2 _ _ _))<|pV O O (fun x hx=>bV (u:=aj (dM ns na)) O (Hq.sub hx (List.Subset.trans hG (bM (bM (bM (dR)))))) O hc na (by rw [List.length_map]; exact ha) rfl (by rw [List.getElem?_map,dH ha]; rfl) uV) fun a hF=>?_
 refine pR hF<|pV O O (fun x hx=>aU O hx O 2 O O mi)<|pV O O (fun x hx=>aU O hx O 1 O O tZ)<|pX O O<|pW O O (fun _=>aY O N9 gZ O O j rfl hj (ad2 _ _ _))<|pV O O (fun x hx=>aU (u:= .int .i64 ((nb:Nat):Int)) O hx O 0 O (xC hjb) jZ)<|pW O O (fun _=>aY O Nk uC O O nb rfl hb (ad2 _ _ _))<|pV O O (fun x hx=>bV (u:=aj (dM ns nb)) O (Hq.sub hx (List.Subset.trans hG (bM (bM (bM (dR)))))) O hc nb (by rw [List.length_map]; exact hb) rfl (by rw [List.getElem?_map,dH hb]; rfl) uV) fun a hF=>?_
 refine pR hF<|pW O O (fun _=>fA O O O O O) fun a hF=>?_
 refine dG hF O O O O ae _ (fO O O) (fun h=>absurd h ae) (fun a hF=>?_)
 refine bI ?_
 refine hK2 _ _ ?_
 apply wp_ret
 refine aO hF Tryz.results94 O ?_
 exact ⟨rfl,rfl⟩
theorem uw {α:Type} [Inhabited α] (enc:α→Value) {w:World} {g:Nat} {t:TypeId} {d d':Array α} (m:Nat) (xs:Array Obj) (h:w.heap[g]? = some (.cells (d.toList.map enc).toArray t (0,0))) (hs:d'.size=d.size):At w [(g,t,d'.toList.map enc)] (Sort.grow (Sort.putRow enc (Sort.ahead w m) g 0 d') xs):=by
 have hg:g<w.heap.size:=(Array.getElem?_eq_some_iff.1 h).1
 have hp:Sort.putCells enc 0 d' (d.toList.map enc).toArray=(d'.toList.map enc).toArray:=by
  apply Array.ext
  ·simp [Sort.putCells,hs]
  ·intro i h1 h2
   have h3:i<d'.size:=by simpa using h2
   simp only [Sort.putCells,Array.getElem_mapIdx,Nl,Nat.zero_add,true_and,Nat.sub_zero]
   rw [if_pos h3,getElem!_pos d' i h3]
   simp
 refine ⟨rfl,rfl,rfl,by simp [Sort.grow],fun r hr=>?_,by simp,fun k hk hn=>?_⟩
 ·rw [List.mem_singleton.1 hr]
  show (Sort.grow (Sort.putRow enc (Sort.ahead w m) g 0 d') xs).heap[g]? = some (.cells (d'.toList.map enc).toArray t (0,0))
  rw [Sort.heap_grow_old _ _ (by rw [Sort.size_putRow]; exact hg)]
  show ((w.heap.modify g (Sort.onCells (Sort.putCells enc 0 d')))[g]?)=_
  rw [Array.getElem?_modify,if_pos rfl,h,Option.map_some,Sort.onCells,hp]
 ·have hk2:¬ g=k:=fun e=>hn (by simp [e])
  rw [Sort.heap_grow_old _ _ (by rw [Sort.size_putRow]; exact hk)]
  show ((w.heap.modify g (Sort.onCells (Sort.putCells enc 0 d')))[k]?)=_
  rw [Array.getElem?_modify,if_neg hk2]
theorem Gu {w:World} (xs:Array Obj):At w [] (Sort.grow w xs):=⟨rfl,rfl,rfl,by simp [Sort.grow],(fun _ h=>by cases h),List.nodup_nil,fun _ hk _=>Sort.heap_grow_old _ _ hk⟩
noncomputable def siT:TypeInfo:=(Tryz.prog.info? 146).get af
noncomputable def siE:TypeInfo:=(Tryz.prog.info? 3).get af
theorem siK (n:Nat) (h2:2≤n):Lib.swapperK n siE 2=5:=by
 have a:siE.hasPointers=false:=af
 have b:siE.bytes=8:=af
 have c:(n == 0)=false:=by simp; omega
 have d:(n == 1)=false:=by simp; omega
 simp [Lib.swapperK,a,b,c,d]
def ltN (ns:List (List UInt8)) (n:Nat) (a b:Fin n):Bool:=Sort.ltStr (dM ns a.val) (dM ns b.val)
theorem MF (ns:List (List UInt8)) (n:Nat):Sort.SWO (ltN ns n) where
 irrefl x:=Sort.swo_ltStr.irrefl _
 trans x y z h1 h2:=Sort.swo_ltStr.trans _ _ _ h1 h2
 ntrans x y z h1 h2:=Sort.swo_ltStr.ntrans _ _ _ h1 h2
abbrev zF {n:Nat} (k:Fin n):Value:= .int .i64 ((k.val:Nat):Int)
theorem zD {n:Nat} (d:Array (Fin n)):d.toList.map zF=oc (d.toList.map Fin.val):=by rw [oc,List.map_map]; rfl
def dN (n:Nat):Array (Fin n):=Array.ofFn id
theorem AP (n:Nat):(dN n).toList.map Fin.val=List.range n:=by
 apply List.ext_getElem?
 intro i
 by_cases hi:i<n
 ·rw [List.getElem?_map,List.getElem?_range hi,dN,Array.toList_ofFn,List.getElem?_ofFn,dif_pos hi]
  rfl
 ·rw [List.getElem?_eq_none (by simp [dN]; omega),List.getElem?_eq_none (by simp; omega)]
theorem G8 (args:Array Value) (w:World):(callFunc 177 args).run Tryz.prog w=((Extern.ReflectliteSwapper.swap true args).run Tryz.prog w).andThen fun v w'=> .ok (.value v) w' :=
 run_callFunc_extern Tryz.func177 af af af (e:=Extern.ReflectliteSwapper.swap true) af args w
set_option maxHeartbeats 2000000 in
theorem GZ {w0:World} {R:List Seg} {G:List Seg} (g Bo Bt n:Nat) (A1:Option Addr) (ns:List (List UInt8)) (c1:Nat) (w:World) (hn:ns.length=n) (hn2:n<4611686018427387904) (h1:Rc w0 G A1 (ns.map aj)) (hG:G⊆R) (hA:Hp w0 ([row g 3 (oc (List.range n))]::[row Bo 146 [.slice (some ⟨g,0,none⟩) n n]]::[row Bt 23 [.slice A1 ns.length c1]]::R) w) :
  Calls Tryz.prog 93 #[.iface 146 (.slice (some ⟨g,0,none⟩) n n),.func (.func 94) #[] #[.pointer (some ⟨Bt,0,none⟩),.pointer (some ⟨Bo,0,none⟩)]] w fun e w'=>e= .returned (.tuple #[])∧∃ os:List Nat,os.Perm (List.range n)∧(os.Pairwise fun a b=>¬ dM ns b<dM ns a)∧Hp w0 ([row g 3 (oc os)]::[row Bo 146 [.slice (some ⟨g,0,none⟩) n n]]::[row Bt 23 [.slice A1 ns.length c1]]::R) w':=by
 by_cases h2:2≤n
 ·obtain ⟨m,rfl⟩:∃ m,n=m+2:=⟨n-2,ag⟩
  have hrow:w.heap[g]? = some (.cells ((dN (m+2)).toList.map zF).toArray 3 (0,0)):=by rw [zD,AP]; exact hA.rowAt (i:=0) rfl
  have hds:(dN (m+2)).size=m+2:=by simp [dN]
  have hblk:g<w.heap.size:=(Array.getElem?_eq_some_iff.1 hrow).1
  have hH:Sort.Holds zF w g 0 (dN (m+2)):=fun j hj=>by
   refine ⟨?_,?_⟩
   ·unfold World.cell?
    rw [hrow]
    simp [hj]
   ·unfold World.frozen?
    rw [hrow]
    simp
  have hless:LessReads Tryz.prog 94 #[.pointer (some ⟨Bt,0,none⟩),.pointer (some ⟨Bo,0,none⟩)] zF (ltN ns (m+2)) g 0 (dN (m+2)).size w:=by
   intro k xs dk hs i j hi hj
   have hW:=hA.then1 (i:=0) rfl (uw zF k xs hrow hs)
   rw [zD] at hW
   have hi':i<dk.size:=by omega
   have hj':j<dk.size:=by omega
   refine (G5 g Bo Bt (m+2) (dk.toList.map Fin.val) A1 ns c1 i j (dk[i]!).val (dk[j]!).val _ (by simp [hs,hds]) (by rw [getElem!_pos dk i hi']; simp [hi']) (by rw [getElem!_pos dk j hj']; simp [hj']) (by rw [hn]; exact (dk[i]!).isLt) (by rw [hn]; exact (dk[j]!).isLt) h1 hG hW).mono ?_
   rintro e w' ⟨rfl,rfl⟩
   exact ⟨by rw [J3]; rfl,1,rfl⟩
  have hS:=Any.sort_Slice_sorted sl6 146 3 siT siE af af af af 2 (fun _=>by kernel_rfl) af (fun _=>by kernel_rfl) zF (fun _=>rfl) (ltN ns (m+2)) (MF ns (m+2)) 94 _
   (enters_of Tryz.func94 af rfl) g 0 (m+2) (dN (m+2)) (by rw [hds]; omega) (by rw [hds]; exact hn2) 177 (by rw [hds,siK _ h2]; kernel_rfl) true G8 w hless hH hblk
  rw [hds] at hS
  change Calls Tryz.prog 93 _ _ _ at hS
  refine hS.mono ?_
  rintro e w' ⟨rfl,d',k,xs,⟨hp1,_,hp3⟩,hso,rfl⟩
  have hds':d'.size=m+2:=by rw [hp1,hds]
  refine ⟨rfl,d'.toList.map Fin.val,?_,?_,?_⟩
  ·have e1:∀ (x:Array (Fin (m+2))) (k:Nat),k=x.size→(x.extract 0 k).toList=x.toList:=fun x k e=>by subst e; simp
   rw [e1 d' _ hds'.symm,e1 (dN (m+2)) _ hds.symm] at hp3
   rw [← AP]
   exact hp3.map _
  ·refine List.Pairwise.map _ (R:=fun a b:Fin (m+2)=>¬ dM ns b.val<dM ns a.val) (fun a b h=>h) ?_
   refine List.pairwise_iff_getElem.2 fun i j hi hj hij=>?_
   have hj2:j<d'.size:=by simpa using hj
   have hi2:i<d'.size:=by simpa using hi
   have h9:=hso i j (Nl _) hij ag
   rw [getElem!_pos d' i hi2,getElem!_pos d' j hj2] at h9
   simp only [ltN,Sort.ltStr,decide_eq_false_iff_not] at h9
   simpa using h9
  ·have hW:=hA.then1 (i:=0) rfl (uw zF k xs hrow (by rw [hp1]))
   rw [zD] at hW
   exact hW
 ·have hK:Lib.swapperK n siE 2=n+1:=by
   rcases Nat.eq_zero_or_pos n with h | h
   ·subst h; simp [Lib.swapperK]
   ·obtain rfl:n=1:=by omega
    simp [Lib.swapperK]
  have hS:=Any.sort_Slice_tiny sl6 146 3 siT siE af af af af 2 (fun _=>by kernel_rfl) (some ⟨g,0,none⟩) n n ag (173+n) (by
   rw [hK]
   rcases Nat.eq_zero_or_pos n with h | h
   ·subst h; kernel_rfl
   ·obtain rfl:n=1:=by omega
    kernel_rfl) (.func 94) #[] #[.pointer (some ⟨Bt,0,none⟩),.pointer (some ⟨Bo,0,none⟩)] w
  change Calls Tryz.prog 93 _ _ _ at hS
  refine hS.mono ?_
  rintro e w' ⟨rfl,xs,rfl⟩
  refine ⟨rfl,List.range n,List.Perm.refl _,?_,hA.then0 (Gu xs)⟩
  rcases Nat.eq_zero_or_pos n with h | h
  ·subst h; exact List.Pairwise.nil
  ·obtain rfl:n=1:=by omega
   exact List.pairwise_singleton ..
end Go.Proofs.YtepbmdlgdaedpaaGreatDoor
