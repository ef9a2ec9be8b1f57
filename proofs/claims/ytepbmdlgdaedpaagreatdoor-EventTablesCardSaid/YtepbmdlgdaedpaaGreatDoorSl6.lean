/- Texts that belong together, one behind the other. -/
import Derived.Test.YtepbmdlgdaedpaaGreatDoorTt
import Derived.Test.YtepbmdlgdaedpaaGreatDoorOpenR
import Derived.Test.YtepbmdlgdaedpaaGreatDoorRegion
import Derived.Shelf.GgSortFunc.Whole
import Derived.Shelf.GgSortFunc.Tiny
import Derived.Test.YtepbmdlgdaedpaaGreatDoorProg
namespace Go.Proofs.YtepbmdlgdaedpaaGreatDoor
open Go.RowKit Go.Dk
theorem Fj:aP Tryz.prog 117:=⟨_,Tryz.func117,af,af⟩
theorem Fh:aP Tryz.prog 118:=⟨_,Tryz.func118,af,af⟩
theorem OU {w0:World} {R:List Seg} {pa A:Option Addr} {l:List UInt8} {c:Nat} (h:Rc w0 R pa [.slice A l.length c]) (hc:l.length≤c) (hR:Rd w0 R A l):PcS w0 R pa [(A,c,l)]:=⟨h,fun p hp=>by rw [List.mem_singleton.1 hp]; exact ⟨hc,hR⟩⟩
theorem Jn (A:Option Addr) (n c:Nat) (w:World):(Instr.buildSlice 63 1 #[(0,.slice A n c)]).run Tryz.prog w= .ok (.slice (some ⟨w.heap.size,0,none⟩) 1 1) (w.alloc (.cells #[.slice A n c] 27)):=af
set_option maxRecDepth 100000 in
set_option maxHeartbeats 8000000 in
theorem BL {w0:World} {R:List Seg} {G:List Seg} (X:Option Addr) (l:List UInt8) (c:Nat) (w:World) (hR:Rd w0 G X l) (hc:l.length≤c) (hl:l.length<140737488353000) (hT:Tab w0) (hG:G⊆R) (hA:Hp w0 R w):Calls Tryz.prog 57 #[.slice X l.length c] w fun e w'=>e= .returned (.agg (dc (ofL 32 8 l)).toArray)∧Hp w0 R w':=by
  refine aQ Tryz.func57 O Tryz.ntmps57 ai (fun a hF=>?_)
  refine wp_seq_k fun K1 hK1=>wp_region_lit ?_
  refine az O (fun K hK=>dG hF O ae rfl hA (nU) (fun b1 w2 a hb1 hF hA3=>hK _ _ ?_))
  refine aG<|hK1 _ _ ?_
  refine wS hF fun K2 hK2=>vX O fun a hF=>?_
  refine az O (fun K hK=>xw (u1:= .slice X l.length c) hF O ae rfl hA3 O (Jn _ _ _) (fun b4 w5 a hb4 hF hA6=>hK _ _ ?_))
  refine az O (fun K hK=>ay hF O ae Fj rfl rfl ?_)
  with_reducible refine (OB w0 _ ([row b4 27 [.slice X l.length c]]::[row b1 29 (dc (List.replicate 32 0))]::R) ([row b4 27 [.slice X l.length c]]::[row b1 29 (dc (List.replicate 32 0))]::R) fD 32 8 8 ae (some ⟨b4,0,none⟩) [(X,c,l)] [l] 1 1 O O (OU (Rc.ofRow (i:=0) (off:=0) rfl rfl) hc (hR.mono (List.Subset.trans hG (bW (bW (fD)))))) (by simpa using hl) ae hT hA6).mono ?_
  rintro e' w7 ⟨rfl,hA8⟩
  refine ⟨_,rfl,fun a hF=>hK _ _ ?_⟩
  replace hA8:Hp w0 ([row b4 27 [.slice X l.length c]]::[row b1 29 (dc (List.replicate 32 0))]::R) w7:=hA8
  rw [show ([l]:List (List UInt8)).flatten=l by simp] at hF
  refine az O (fun K hK=>bz (new:=dc (ofL 32 8 l)) hF O O hA8 O O 1 O (by rw [aI,aI,jE]; rfl) (iw _) (by rw [aI]; exact ry) (fun w9 hA10=>hK _ _ ?_))
  replace hA10:Hp w0 ([row b4 27 [.slice X l.length c]]::[row b1 29 (dc (ofL 32 8 l))]::R) w9:=hA10
  refine aG<|hK2 _ _ ?_
  apply wp_ret
  refine wI hF Tryz.results57 hA10.q O 1 O (by rw [aI,jE]; exact rF) ?_
  have hA11:Hp w0 (R) w9:=hpS 2 [] [0,1] hA10 rfl
  exact ⟨rfl,hA11⟩
set_option maxRecDepth 100000 in
set_option maxHeartbeats 8000000 in
theorem AP {w0:World} {R:List Seg} {G:List Seg} (X:Option Addr) (l:List UInt8) (c:Nat) (w:World) (hR:Rd w0 G X l) (hc:l.length≤c) (hl:l.length<140737488353000) (hG:G⊆R) (hA:Hp w0 R w):Calls Tryz.prog 58 #[.slice X l.length c] w fun e w'=>e= .returned (.agg (dc (ofL 32 8 l)).toArray)∧Hp w0 R w':=by
  refine aQ Tryz.func58 O Tryz.ntmps58 ai (fun a hF=>?_)
  refine wp_seq_k fun K1 hK1=>wp_region_lit ?_
  refine az O (fun K hK=>dG hF O ae rfl hA (nU) (fun b1 w2 a hb1 hF hA3=>hK _ _ ?_))
  refine aG<|hK1 _ _ ?_
  refine wS hF fun K2 hK2=>vX O fun a hF=>?_
  refine az O (fun K hK=>xw (u1:= .slice X l.length c) hF O ae rfl hA3 O (Jn _ _ _) (fun b4 w5 a hb4 hF hA6=>hK _ _ ?_))
  refine az O (fun K hK=>ay hF O ae Fh rfl rfl ?_)
  with_reducible refine (Nq w0 _ ([row b4 27 [.slice X l.length c]]::[row b1 29 (dc (List.replicate 32 0))]::R) ([row b4 27 [.slice X l.length c]]::[row b1 29 (dc (List.replicate 32 0))]::R) fD 32 8 8 ae (some ⟨b4,0,none⟩) [(X,c,l)] [l] 1 1 O O (OU (Rc.ofRow (i:=0) (off:=0) rfl rfl) hc (hR.mono (List.Subset.trans hG (bW (bW (fD)))))) (by simpa using hl) ae hA6).mono ?_
  rintro e' w7 ⟨rfl,hA8⟩
  refine ⟨_,rfl,fun a hF=>hK _ _ ?_⟩
  replace hA8:Hp w0 ([row b4 27 [.slice X l.length c]]::[row b1 29 (dc (List.replicate 32 0))]::R) w7:=hA8
  rw [show ([l]:List (List UInt8)).flatten=l by simp] at hF
  refine az O (fun K hK=>bz (new:=dc (ofL 32 8 l)) hF O O hA8 O O 1 O (by rw [aI,aI,jE]; rfl) (iw _) (by rw [aI]; exact ry) (fun w9 hA10=>hK _ _ ?_))
  replace hA10:Hp w0 ([row b4 27 [.slice X l.length c]]::[row b1 29 (dc (ofL 32 8 l))]::R) w9:=hA10
  refine aG<|hK2 _ _ ?_
  apply wp_ret
  refine wI hF Tryz.results58 hA10.q O 1 O (by rw [aI,jE]; exact rF) ?_
  have hA11:Hp w0 (R) w9:=hpS 2 [] [0,1] hA10 rfl
  exact ⟨rfl,hA11⟩
end Go.Proofs.YtepbmdlgdaedpaaGreatDoor
namespace Go.Proofs.YtepbmdlgdaedpaaGreatDoor
open Go.Shelf Go.Dk
def JR:Go.Shelf.Ren:=⟨fun | 6=>93 | 10=>147 | 11=>148 | 12=>149 | 13=>150 | 14=>151 | 24=>182 | 25=>183 | 26=>184 | 27=>185 | 28=>186 | 29=>187 | 30=>188 | 31=>189 | 32=>190 | 33=>191 | 34=>202 | 35=>203 | 36=>204 | 37=>205 | 38=>206 | 39=>209 | n=>n,fun | 20=>20 | 26=>148 | 35=>208 | 0=>0 | 37=>192 | 3=>3 | 41=>38 | 44=>214 | 49=>150 | 51=>135 | 4=>4 | 54=>233 | 53=>232 | 58=>237 | 5=>5 | 9=>9 | 60=>253 | 64=>257 | 66=>261 | 67=>262 | 17=>17 | 32=>205 | 33=>206 | 82=>276 | 12=>12 | 75=>269 | 76=>270 | 77=>271 | 78=>272 | 79=>273 | 80=>274 | n=>n,fun | n=>n⟩
set_option maxRecDepth 100000 in
theorem sl6:Go.Proofs.LaysGg.n6 Tryz.prog JR:={
  mixed:=by kernel_rfl,
  f6:=Tryz.func93.trans (congrArg some af),
  f10:=Tryz.func147.trans (congrArg some af),
  f11:=Tryz.func148.trans (congrArg some af),
  f12:=Tryz.func149.trans (congrArg some af),
  f13:=Tryz.func150.trans (congrArg some af),
  f14:=Tryz.func151.trans (congrArg some af),
  f24:=Tryz.func182.trans (congrArg some af),
  f25:=Tryz.func183.trans (congrArg some af),
  f26:=Tryz.func184.trans (congrArg some af),
  f27:=Tryz.func185.trans (congrArg some af),
  f28:=Tryz.func186.trans (congrArg some af),
  f29:=Tryz.func187.trans (congrArg some af),
  f30:=Tryz.func188.trans (congrArg some af),
  f31:=Tryz.func189.trans (congrArg some af),
  f32:=Tryz.func190.trans (congrArg some af),
  f33:=Tryz.func191.trans (congrArg some af),
  f34:=Tryz.func202.trans (congrArg some af),
  f35:=Tryz.func203.trans (congrArg some af),
  f36:=Tryz.func204.trans (congrArg some af),
  f37:=Tryz.func205.trans (congrArg some af),
  f38:=Tryz.func206.trans (congrArg some af),
  f39:=Tryz.func209.trans (congrArg some af),
  t0:=Tryz.underlying0,
  a0:=Tryz.isAgg0,
  z0:=Tryz.sizeOf0,
  v0:=Tryz.zeroValue0,
  i0:=by kernel_rfl,
  t3:=Qb,
  a3:=Tryz.isAgg3,
  z3:=Tryz.sizeOf3,
  v3:=Tryz.zeroValue3,
  i3:=by kernel_rfl,
  t4:=Tryz.underlying4,
  a4:=Tryz.isAgg4,
  z4:=Tryz.sizeOf4,
  v4:=Tryz.zeroValue4,
  i4:=by kernel_rfl,
  t5:=PW,
  a5:=Tryz.isAgg5,
  z5:=Tryz.sizeOf5,
  v5:=Tryz.zeroValue5,
  i5:=by kernel_rfl,
  t9:=P9,
  a9:=Tryz.isAgg9,
  z9:=Tryz.sizeOf9,
  v9:=Tryz.zeroValue9,
  i9:=by kernel_rfl,
  t12:=Tryz.underlying12,
  a12:=Tryz.isAgg12,
  z12:=Tryz.sizeOf12,
  v12:=Tryz.zeroValue12,
  i12:=by kernel_rfl,
  t17:=Tryz.underlying17,
  a17:=Tryz.isAgg17,
  z17:=Tryz.sizeOf17,
  v17:=Tryz.zeroValue17,
  i17:=by kernel_rfl,
  t20:=Tryz.underlying20,
  a20:=Tryz.isAgg20,
  z20:=Tryz.sizeOf20,
  v20:=Tryz.zeroValue20,
  i20:=by kernel_rfl,
  t26:=Tryz.underlying148,
  a26:=Tryz.isAgg148,
  z26:=Tryz.sizeOf148,
  v26:=Tryz.zeroValue148,
  i26:=by kernel_rfl,
  t32:=Tryz.underlying205,
  a32:=Tryz.isAgg205,
  z32:=Tryz.sizeOf205,
  v32:=Tryz.zeroValue205,
  i32:=by kernel_rfl,
  t33:=Tryz.underlying206,
  a33:=Tryz.isAgg206,
  z33:=Tryz.sizeOf206,
  v33:=Tryz.zeroValue206,
  i33:=by kernel_rfl,
  t35:=Tryz.underlying208,
  a35:=Tryz.isAgg208,
  z35:=Tryz.sizeOf208,
  v35:=Tryz.zeroValue208,
  i35:=by kernel_rfl,
  t37:=Tryz.underlying192,
  a37:=Tryz.isAgg192,
  z37:=Tryz.sizeOf192,
  v37:=Tryz.zeroValue192,
  i37:=by kernel_rfl,
  t41:=Qs,
  a41:=Tryz.isAgg38,
  z41:=Tryz.sizeOf38,
  v41:=Tryz.zeroValue38,
  i41:=by kernel_rfl,
  t44:=Tryz.underlying214,
  a44:=Tryz.isAgg214,
  z44:=Tryz.sizeOf214,
  v44:=Tryz.zeroValue214,
  i44:=by kernel_rfl,
  t49:=Qm,
  a49:=Tryz.isAgg150,
  z49:=Tryz.sizeOf150,
  v49:=Tryz.zeroValue150,
  i49:=by kernel_rfl,
  t51:=Qh,
  a51:=Tryz.isAgg135,
  z51:=Tryz.sizeOf135,
  v51:=Tryz.zeroValue135,
  i51:=by kernel_rfl,
  t53:=Tryz.underlying232,
  a53:=Tryz.isAgg232,
  z53:=Tryz.sizeOf232,
  v53:=Tryz.zeroValue232,
  i53:=by kernel_rfl,
  t54:=Tryz.underlying233,
  a54:=Tryz.isAgg233,
  z54:=Tryz.sizeOf233,
  v54:=Tryz.zeroValue233,
  i54:=by kernel_rfl,
  t58:=Tryz.underlying237,
  a58:=Tryz.isAgg237,
  z58:=Tryz.sizeOf237,
  v58:=Tryz.zeroValue237,
  i58:=by kernel_rfl,
  t60:=Tryz.underlying253,
  a60:=Tryz.isAgg253,
  z60:=Tryz.sizeOf253,
  v60:=Tryz.zeroValue253,
  i60:=by kernel_rfl,
  t64:=Tryz.underlying257,
  a64:=Tryz.isAgg257,
  z64:=Tryz.sizeOf257,
  v64:=Tryz.zeroValue257,
  i64:=by kernel_rfl,
  t66:=Tryz.underlying261,
  a66:=Tryz.isAgg261,
  z66:=Tryz.sizeOf261,
  v66:=Tryz.zeroValue261,
  i66:=by kernel_rfl,
  t67:=Tryz.underlying262,
  a67:=Tryz.isAgg262,
  z67:=Tryz.sizeOf262,
  v67:=Tryz.zeroValue262,
  i67:=by kernel_rfl,
  t75:=Tryz.underlying269,
  a75:=Tryz.isAgg269,
  z75:=Tryz.sizeOf269,
  v75:=Tryz.zeroValue269,
  i75:=by kernel_rfl,
  t76:=Tryz.underlying270,
  a76:=Tryz.isAgg270,
  z76:=Tryz.sizeOf270,
  v76:=Tryz.zeroValue270,
  i76:=by kernel_rfl,
  t77:=Tryz.underlying271,
  a77:=Tryz.isAgg271,
  z77:=Tryz.sizeOf271,
  v77:=Tryz.zeroValue271,
  i77:=by kernel_rfl,
  t78:=Tryz.underlying272,
  a78:=Tryz.isAgg272,
  z78:=Tryz.sizeOf272,
  v78:=Tryz.zeroValue272,
  i78:=by kernel_rfl,
  t79:=Tryz.underlying273,
  a79:=Tryz.isAgg273,
  z79:=Tryz.sizeOf273,
  v79:=Tryz.zeroValue273,
  i79:=by kernel_rfl,
  t80:=Tryz.underlying274,
  a80:=Tryz.isAgg274,
  z80:=Tryz.sizeOf274,
  v80:=Tryz.zeroValue274,
  i80:=by kernel_rfl,
  t82:=Tryz.underlying276,
  a82:=Tryz.isAgg276,
  z82:=Tryz.sizeOf276,
  v82:=Tryz.zeroValue276,
  i82:=by kernel_rfl }
end Go.Proofs.YtepbmdlgdaedpaaGreatDoor
