/- Texts that belong together, one behind the other. -/
import Derived.Test.YtepbmdlgdaedpaaGreatDoorSt1
import Derived.Test.YtepbmdlgdaedpaaGreatDoorBook1
import Derived.Test.YtepbmdlgdaedpaaGreatDoorKr3
namespace Go.Proofs.YtepbmdlgdaedpaaGreatDoor
open Go.RowKit Go.Dk
theorem VA.Ok.mono1 {w0:World} {X Y:Seg} {a:VA} (h:a.Ok w0 [X]) (hs:X⊆Y):a.Ok w0 [Y]:=⟨h.rc.monoF (by simpa using hs),h.n,h.i⟩
theorem DJ (l:List (List UInt8)):∀ v∈l.map aj,v.oneCell'=true:=fun v hv=>by
  obtain ⟨s,_,rfl⟩:=List.mem_map.1 hv
  rfl
theorem Kv (p:List UInt8 × VA) (w:World):(Instr.buildSlice 50 1 #[(0,.agg (oJ p).toArray)]).run Tryz.prog w= .ok (.slice (some ⟨w.heap.size,0,none⟩) 1 1) (w.alloc (.cells (oJ p).toArray 76)):=af
end Go.Proofs.YtepbmdlgdaedpaaGreatDoor
namespace Go.Proofs.YtepbmdlgdaedpaaGreatDoor
open Go.RowKit Go.Dk
theorem Dz {w0:World} {l:List VA} {a:VA} {X Y:Seg} (h:∀ b∈l,b.Ok w0 [Y]) (ha:a.Ok w0 [X]):∀ b∈l++[a],b.Ok w0 [X++Y]:=fun b hb=>by
 rcases List.mem_append.1 hb with hb | hb
 ·exact (h b hb).monoF (fun x hx=>by simp at hx ⊢; simp [hx])
 ·rw [List.mem_singleton.1 hb]; exact ha.monoF (fun x hx=>by simp at hx ⊢; simp [hx])
set_option maxRecDepth 100000 in
set_option maxHeartbeats 8000000 in
theorem ug {w0:World} {R G:List Seg} (A1:Option Addr) (l:List VA) (c1:Nat) (w:World) (hR:Rc w0 G A1 (cel VA.cells l)) (hG:G⊆R) (ho:∀ a∈l,a.Ok w0 G) (hsz:∀ a∈l,a.v.s.length<8796093022000) (hl:l.length≤255) (hA:Hp w0 R w):Calls Tryz.prog 38 #[.slice A1 l.length c1] w fun e w'=>∃ (A2:Option Addr) (m:List VA) (c2:Nat) (Z M:Seg),e= .returned (.slice A2 m.length c2)∧Buf 25 4 Z (.slice A2 m.length c2) m.length (cel VA.cells m)∧(∀ a∈m,a.Ok w0 [M])∧m.map VA.v=l.map VA.v∧Hp w0 (Z::M::R) w':=by
 refine aP Tryz.func38 O Tryz.ntmps38 ai (fun a hF=>?_)
 refine wS hF fun K1 hK1=>vX O<|vE hK1<|wT fun K2 hK2=>vX O<|vE hK2<|wQ fun K3 hK3=>wT fun K4 hK4=>vX O<|vE hK4<|wBk fun a hF=>?_
 have hA1:Hp w0 (([]:Seg)::([]:Seg)::R) w:=Hp.nil (Hp.nil hA)
 refine bH (G:=Nat) (fun i a x=>∃ (ws:List VA) (vL:Value) (M:Seg) (Y:Seg),i≤l.length∧(ws.map VA.v=(l.take i).map VA.v)∧Buf 25 4 Y vL ws.length (cel VA.cells ws)∧(∀ b∈ws,b.Ok w0 [M])∧Fr 25 [(3,vL),(4,.int .i64 ((i:Nat):Int)),(0,.slice A1 l.length c1)] a∧Hp w0 (M::Y::R) x) (fun i=>l.length-i) 0 (⟨[],_,[],[],Nl _,rfl,(Buf.nil _ _),(fun _ h=>absurd h (List.not_mem_nil)),hF.keep [3,4,0] rfl,hA1⟩) ?_
 clear hF
 rintro i a w3 ⟨ws,vL,M,Y,hi,hws,hY,hwo,hF,hA2⟩
 apply wp_seq_k; intro K5 hK5
 refine wS hF fun K6 hK6=>vX O<|vX O<|vV O (aT O NG O O)<|vV O (aF O O O O O)<|vE hK6 fun a hF=>?_
 by_cases hlt:i<l.length
 ·refine aG hF O (dF ag) ?_
  have hwl:ws.length=i:=by have:=congrArg List.length hws; rw [List.length_map,List.length_map,List.length_take] at this; omega
  obtain ⟨va,hpva⟩:∃ q,l[i]? = some q:=⟨_,List.getElem?_eq_getElem hlt⟩
  obtain ⟨htva,hleva⟩:=lW (C:=VA.cells) (sz:=4) (fun _ _=>rfl) hpva
  obtain ⟨bva,ova,hsva,hccva⟩:=hR.ne (i:=i*4) ag
  have hva:=ho _ (List.mem_of_getElem? hpva)
  have hvs:=hsz _ (List.mem_of_getElem? hpva)
  rw [hsva] at hF
  apply wp_skip
  refine hK5 _ _ ?_
  apply wp_seq_k; intro K7 hK7
  apply wp_block
  refine wS hF fun K8 hK8=>vX O<|vX O<|vV O (aY O NG nD O O i rfl hlt rfl)<|vV O (dK (new:=va.cells) rfl (Hq.sub hA2.q (List.Subset.trans hG (bM (bM (dR))))) O hccva (i*4) hleva rfl htva Ho) fun a hF=>?_
  refine ax O (fun K hK=>dC hF O ae rfl hA2 (zQ) (fun b4 w5 a hb4 hF hA6=>hK _ _ ?_))
  refine ax O (fun K hK=>bG (new:=[.int .i64 va.v.k,.int .i64 va.v.n,aj va.v.t,.slice va.sA va.v.s.length va.sC]) hF O O hA6 O O 0 O O (qE va) nD (fun w7 hA8=>hK _ _ ?_))
  replace hA8:Hp w0 ([row b4 25 [.int .i64 va.v.k,.int .i64 va.v.n,aj va.v.t,.slice va.sA va.v.s.length va.sC]]::M::Y::R) w7:=hA8
  refine aH<|hK8 _ _ ?_
  refine wS hF fun K9 hK9=>vV O (yf 3 O ND O mf O)<|vV O (aU O hA8.q O 0 O O mi) fun a hF=>?_
  have hA9:Hp w0 (([]:Seg)::[row b4 25 [.int .i64 va.v.k,.int .i64 va.v.n,aj va.v.t,.slice va.sA va.v.s.length va.sC]]::M::Y::R) w7:=Hp.nil hA8
  refine ax O (fun K hK=>cO hF O ae rfl hA9 0 O (Buf.nil 9 1) Nk rD rfl rfl (Rc.srcC (size:=1) (m:=va.v.s.length) hva.rc (Hq.sub hA9.q (List.Subset.trans hG (bM (bM (bM (bM (dR))))))) Nk ae (by rw [List.length_map,Nat.mul_one]) (DJ _)) ag ae (fun v2 X2 w10 a hO2 hF hA11=>hK _ _ ?_))
  replace hA11:Hp w0 (X2::[row b4 25 [.int .i64 va.v.k,.int .i64 va.v.n,aj va.v.t,.slice va.sA va.v.s.length va.sC]]::M::Y::R) w10:=hA11
  rw [List.nil_append,Nat.zero_add] at hO2
  obtain ⟨A2,c2,rfl,hc2,hR2⟩:=hO2.rc (w0:=w0) (R:=[X2]) (Nu ..)
  refine vR hF<|vV O (yf 3 O ND O mf O) fun a hF=>?_
  refine ax O (fun K hK=>aX hF O O hA11 O O 1 O (by simp) rfl mf (fun w12 hA13=>hK _ _ ?_))
  replace hA13:Hp w0 (X2::[row b4 25 [.int .i64 va.v.k,.int .i64 va.v.n,aj va.v.t,.slice A2 va.v.s.length c2]]::M::Y::R) w12:=hA13
  refine aH<|hK9 _ _ ?_
  obtain ⟨pu,hpu⟩:∃ q:VA,q=⟨va.v,A2,c2⟩:=⟨_,rfl⟩
  have hA14:Hp w0 (X2::[row b4 25 pu.cells]::M::Y::R) w12:=(by rw [hpu]; exact hA13)
  refine wp_region_lit ?_
  refine vR hF<|vX O<|vV O (cZ (new:=pu.cells) rfl hA14.q O 1 O Ho ai rfl) fun a hF=>?_
  refine ax O (fun K hK=>kG (qs := #[(0,.agg pu.cells.toArray)]) (cells:=pu.cells.toArray) hF O ae rfl hA14 O (zC pu) (fun b15 w16 a hb15 hF hA17=>hK _ _ ?_))
  refine ax O (fun K hK=>cO hF O ae rfl hA17 4 O hY NG rP rfl rfl (Rc.srcC (W:=pu.cells) (m:=1) (size:=4) (R:=[row b15 25 pu.cells]::X2::[row b4 25 pu.cells]::M::Y::R) (Rc.ofRow (i:=0) (off:=0) rfl rfl) hA17.q NG ae rfl (qE pu)) ag ae (fun v3 X3 w18 a hY3 hF hA19=>hK _ _ ?_))
  replace hA19:Hp w0 ([row b15 25 pu.cells]::X2::[row b4 25 pu.cells]::M::X3::R) w18:=hA19
  refine vR hF<|vX O fun a hF=>aH<|hK7 _ _ ?_
  refine wp_region_lit ?_
  refine vR hF<|vX O<|vV O (bT O O O (Np _ ag))<|vX O fun a hF=>?_
  refine aH ?_
  rw [← hsva] at hF
  have hA20:Hp w0 (X2::M::[row b15 25 pu.cells]::[row b4 25 pu.cells]::X3::R) w18:=hpO 5 [1,3,0,2,4] hA19 rfl
  have hA21:Hp w0 ((X2++M)::[row b15 25 pu.cells]::[row b4 25 pu.cells]::X3::R) w18:=Hp.join hA20
  have hA22:Hp w0 ((X2++M)::X3::R) w18:=hpS 4 [0,3] [1,2] hA21 rfl
  exact ⟨i+1,ag,ws++[pu],_,_,_,ag,by rw [List.map_append,hws,List.take_add_one,hpva,hpu]; simp,by rw [List.length_append,nz,rY,wz,List.append_nil]; exact hY3,Dz hwo (by rw [hpu]; exact ⟨hR2,hva.n,hva.i⟩),hF.keep [3,4,0] rfl,hA22⟩
 ·refine au hF O (dE ag) ?_
  obtain rfl:i=l.length:=by omega
  rw [List.take_length] at hws
  obtain ⟨vA,vC,rfl,_,hRv⟩:=hY.rc (w0:=w0) (R:=[Y]) (Nu ..)
  apply wp_exit
  refine hK3 _ _ ?_
  refine wS hF fun K10 hK10=>vX O<|vX O<|vE hK10 fun a hF=>?_
  apply wp_ret
  refine aO hF Tryz.results38 O ?_
  have hA23:Hp w0 (Y::M::R) w3:=hpO 2 [1,0] hA2 rfl
  exact ⟨vA,ws,vC,Y,M,rfl,hY,hwo,hws,hA23⟩
end Go.Proofs.YtepbmdlgdaedpaaGreatDoor
