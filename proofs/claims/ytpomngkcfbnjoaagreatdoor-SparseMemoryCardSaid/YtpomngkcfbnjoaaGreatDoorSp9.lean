/- Texts that belong together, one behind the other. -/
import Derived.Test.YtpomngkcfbnjoaaGreatDoorSpL
import Derived.Test.YtpomngkcfbnjoaaGreatDoorSp2
import Derived.Test.YtpomngkcfbnjoaaGreatDoorTab
namespace Go.Dk
open Go Go.RowKit
section
variable {P:Program} {Q:Exit→Act→World→Prop} {w:World} {n:Nat} {F:List (Nat × Value)} {a:Act} {o:Oper} {d:Nat} {K:Act→World→Prop} {x y:Operand} {t t' e:TypeId} {v:Value}
theorem ku {f:FuncId} (ho:o.op= .makeFunc (.func f) #[] #[x]) (hx:ev F x=some v):Yd P n F o w (.func (.func f) #[] #[v]):=fun a hF=>by
  unfold execOp
  simp [ho,Instr.makeFunc,hF.ev hx]
theorem Bg {f:FuncId} {cv:Value} (hF:Fr n F a) (hd:o.dst=some d) (hlt:d<n) (hc:aG P f) {args:Array Operand} {ts:Array TypeId} (ho:o.op= .call { callee:= .value x,args:=args,argTypes:=ts }) (hx:ev F x=some (.func (.func f) #[] #[cv]))
    {vals:List Value} (hv:evs F args.toList=some vals) (h:Calls P f (vals++[cv]).toArray w (fun e w'=>∃ v,e= .returned v∧∀ a',Fr n ((d,v)::F) a'→K a' w')):o.wp P a w K Q:=by
  obtain ⟨fn,hfn,hnm,hbd⟩:=hc
  have hargs:args.map a.eval=vals.toArray:=by
    have h1:∀ (xs:List Operand) (vs:List Value),xs.map (Dk.ev F)=vs.map some→xs.map a.eval=vs:=by
      intro xs
      induction xs with
      | nil=>intro vs h; cases vs <;> simp_all
      | cons x xs ih =>
        intro vs h
        cases vs with
        | nil=>simp at h
        | cons u us =>
          simp only [List.map_cons,List.cons.injEq] at h
          simp only [List.map_cons,hF.ev h.1,ih us h.2]
    have h2:=h1 args.toList vals (sN _ _ hv)
    apply Array.ext'
    rw [Array.toList_map,h2]
  have hcat:(#[]:Array Value)++vals.toArray ++ #[cv]=(vals++[cv]).toArray:=by simp
  have hrun:(execOp a.eval o).run P w= .ok (.enter f (vals++[cv]).toArray) w:=by
    unfold execOp
    simp only [ho,resolve,hargs,hF.ev hx,Deferred.ofValue,invoke,callFunc,Sem.run_bind,Sem.run_pure,Result.andThen_ok,run_program,hfn,hnm,hbd,Bool.false_eq_true,if_false,hcat]
  unfold Oper.wp
  rw [hrun,Oper.upon_enter]
  refine h.mono ?_
  rintro e w' ⟨v,rfl,hK⟩
  rw [hd]
  exact hK _ (hF.put hlt)
end
section
variable {P:Program} {w w0:World} {n:Nat} {F:List (Nat × Value)} {a:Act} {L:List Row} {R S:List Seg}
theorem EN {fn:Func} {t u:Tmp} {ty:TypeId} (h:fn.results = #[.cell u ty,.tmp t]) {tmps:Array Value} (hA:At w0 L w) {g:Nat} (hx:tmps.getD u undef= .pointer (some ⟨g,0,none⟩))
    (k:Nat) {te:TypeId} {cs:List Value} (hk:L[k]? = some (g,te,cs)) (hr:isRow P ty cs.length=true):(results fn tmps).run P w= .ok (.tuple #[.agg cs.toArray,tmps.getD t undef]) w:=by
  obtain ⟨d,hu,hd,hi⟩:=jw hr
  have h1:=run_loadVar_mid (P:=P) w g 0 ty cs d (by simpa using hA.range hk 0 cs.length) hu hd hi
  have hx':tmps[u]?.getD undef= .pointer (some ⟨g,0,none⟩):=by simpa using hx
  simp [results,h,hx',h1,asAddr]
theorem iM {fn:Func} {RR:Ending→World→Prop} {t u:Tmp} {ty te:TypeId} {g:Nat} {cs:List Value} {T:Seg} {v:Value} (hF:Fr n F a) (hr:fn.results = #[.cell u ty,.tmp t]) (hA:Hq w0 R w) (hl2:look F u=some (.pointer (some ⟨g,0,none⟩))) (hl:look F t=some v)
    (k:Nat) (hk:nth R k=some (row g te cs::T)) (hrow:isRow P ty cs.length=true) (h:RR (.returned (.tuple #[.agg cs.toArray,v])) w):bodyPost P fn RR .ret a w :=
  bodyPost_ret (EN hr (At.start1 (hA.rowAt hk)) (hF.at hl2) 0 rfl hrow) hF.defers (by rw [hF.at hl]; exact h)
def Rw (w0:World) (R:List Seg) (g:Nat) (W:List Value):Prop:=∀ x,Hq w0 R x→g<x.heap.size∧∀ i,i<W.length→x.cell? ⟨g,0+i,none⟩=W[i]?
theorem Rw.mono {g:Nat} {W:List Value} (h:Rw w0 R g W) (hs:R⊆S):Rw w0 S g W:=fun x hx=>h x (hx.sub hs)
theorem Rw.ofRow {i g:Nat} {t:TypeId} {cs:List Value} {T:Seg} (hi:nth R i=some (row g t cs::T)):Rw w0 R g cs:=fun x hx =>
  ⟨jB (hx.rowAt hi),fun j hj=>by rw [cell_of_row x g (0+j) _ t (0,0) (hx.rowAt hi),List.getElem?_toArray,Nat.zero_add]⟩
end
end Go.Dk
namespace Go.Proofs.YtpomngkcfbnjoaaGreatDoor
open Go Go.RowKit Go.Dk
structure Itm where
  k:List UInt8
  ct:Int
  ch:List UInt8
abbrev Itm.ent (i:Itm):List Value:= .int .i64 i.ct::dc i.ch
def Itm.cells (i:Itm):List Value:=dc i.k++i.ent
structure Itm.OK (i:Itm):Prop where
  k:i.k.length=32
  ch:i.ch.length=32
theorem Itm.len {i:Itm} (h:i.OK):i.cells.length=65:=by
  unfold Itm.cells Itm.ent
  rw [List.length_append,List.length_cons,aj,aj,h.k,h.ch]
theorem Itm.c_key {i:Itm} (h:i.OK):i.cells.take 32=dc i.k:=by unfold Itm.cells; exact List.take_left' (by rw [aj,h.k])
theorem Itm.c_ent {i:Itm} (h:i.OK):(i.cells.drop 32).take 33=i.ent:=by
  unfold Itm.cells
  rw [List.drop_left' (by rw [aj,h.k]),TJ]
  unfold Itm.ent; rw [List.length_cons,aj,h.ch]; exact TG _
def entryD (width:Int) (i:Itm):List UInt8:=ofL width 3 (i.k++be 8 (c64 i.ct)++i.ch)
theorem jl (width:Int) (i:Itm):(entryD width i).length=32:=dJ _ _ (dH _)
theorem jW (width:Int) (X Y:List UInt8):(ik width X Y).length=32:=dJ _ _ (dH _)
def kW (width:Int) (k d n:List UInt8) (h:Nat):List UInt8:=if bK k (255-h)=0 then ik width d n else ik width n d
theorem rE (width:Int) (k d n:List UInt8) (h:Nat):(kW width k d n h).length=32:=by unfold kW; split <;> exact jW ..
def xG (width:Int) (k d:List UInt8) (h0:Nat):Nat→List UInt8
  | 0=>d
  | m+1=>kW width k (xG width k d h0 m) (aK width (h0+m)) (h0+m)
theorem Au {width:Int} {k d:List UInt8} (hd:d.length=32) (h0 m:Nat):(xG width k d h0 m).length=32:=by
  cases m with
  | zero=>exact hd
  | succ m=>exact rE ..
def iW (j:Nat) (i:Itm):Bool:=decide (bK i.k j=0)
def QZ (width:Int):Nat→List Itm→List UInt8
  | _,[]=>aK width 0
  | 0,i::_=>entryD width i
  | h+1,i::l=>ik width (if ((i::l).takeWhile (iW (255-h)))=[] then aK width h else QZ width h ((i::l).takeWhile (iW (255-h)))) (if ((i::l).dropWhile (iW (255-h)))=[] then aK width h else QZ width h ((i::l).dropWhile (iW (255-h))))
def dQ (width:Int) (h:Nat) (l:List Itm):List UInt8:=if l=[] then aK width h else QZ width h l
theorem iw (width:Int) (h:Nat):dQ width h []=aK width h:=by unfold dQ; rw [if_pos rfl]
theorem lM (width:Int) (i:Itm) (l:List Itm):dQ width 0 (i::l)=entryD width i:=by unfold dQ; rw [if_neg (by simp)]; rfl
theorem lN (width:Int) (h:Nat) (i:Itm) (l:List Itm):dQ width (h+1) (i::l)=ik width (dQ width h ((i::l).takeWhile (iW (255-h)))) (dQ width h ((i::l).dropWhile (iW (255-h)))):=by
  unfold dQ
  rw [if_neg (by simp)]
  rfl
def aU (i:Itm):List Value:=dc i.k++(i.ent++([.int .i64 1,.int .i64 256,.pointer none,.pointer none]++List.replicate 64 (.int .u8 0)))
theorem pO {i:Itm} (h:i.OK):(aU i).length=133:=by
  unfold aU Itm.ent
  simp only [List.length_append,List.length_cons,aj,h.k,h.ch,List.length_nil,List.length_replicate]
theorem IW {i:Itm} (h:i.OK):((aU i).drop 0).take 32=dc i.k:=by unfold aU; rw [List.drop_zero]; exact List.take_left' (by rw [aj,h.k])
theorem zq {i:Itm} (h:i.OK):((aU i).drop 32).take 33=i.ent:=by
  unfold aU
  rw [List.drop_left' (by rw [aj,h.k])]
  exact List.take_left' (by unfold Itm.ent; rw [List.length_cons,aj,h.ch])
theorem MH {i:Itm} (h:i.OK) (j:Nat):(aU i)[65+j]? = ([.int .i64 1,.int .i64 256,.pointer none,.pointer none]++List.replicate 64 (.int .u8 0))[j]? := by
  unfold aU
  have h2:i.ent.length=33:=by unfold Itm.ent; rw [List.length_cons,aj,h.ch]
  rw [List.getElem?_append_right (by rw [aj,h.k]; omega),aj,h.k,List.getElem?_append_right (by rw [h2]; omega),h2]
  congr 1
  omega
theorem IX {i:Itm} (h:i.OK):(aU i)[66]? = some (.int .i64 256):=MH h 1
def Sm (w0:World) (R:List Seg) (f:FuncId) (g:Nat) (width:Int):Prop:=∃ A c wb,Rw w0 R g [.int .i64 width,.slice A 257 c,.func (.func f) #[] #[.pointer (some ⟨wb,0,none⟩)]]∧Rw w0 R wb [.int .i64 width]∧Rc w0 R A (dM (aK width) 257)
theorem Sm.mono {w0:World} {R S:List Seg} {f:FuncId} {g:Nat} {width:Int} (h:Sm w0 R f g width) (hs:R⊆S):Sm w0 S f g width:=by
  obtain ⟨A,c,wb,h1,h2,h3⟩:=h
  exact ⟨A,c,wb,h1.mono hs,h2.mono hs,h3.mono hs⟩
end Go.Proofs.YtpomngkcfbnjoaaGreatDoor
section
set_option maxRecDepth 100000
set_option maxHeartbeats 2000000
namespace Go.Proofs.YtpomngkcfbnjoaaGreatDoor
open Go.RowKit Go.Dk
theorem tK (width:Int) (A:Option Addr) (c wb:Nat) (w:World):(Instr.build 95 #[(0,.int .i64 width),(1,.slice A 257 c),(2,.func (.func 60) #[] #[.pointer (some ⟨wb,0,none⟩)])]).run Tryz.prog w= .ok (.agg ([.int .i64 width,.slice A 257 c,.func (.func 60) #[] #[.pointer (some ⟨wb,0,none⟩)]]:List Value).toArray) w:=af
theorem yV (g:Nat) (A:Option Addr) (c:Nat) (w:World):(Instr.build 37 #[(0,.pointer (some ⟨g,0,none⟩)),(1,.slice A 257 c)]).run Tryz.prog w= .ok (.agg ([.pointer (some ⟨g,0,none⟩),.slice A 257 c]:List Value).toArray) w:=af
theorem KI (f g:Nat→UInt8) (c:Int) (w:World):(Instr.build 117 #[(0,.agg (dc ((List.range 32).map f)).toArray),(1,.agg (.int .i64 c::dc ((List.range 32).map g)).toArray),(2,.int .i64 1),(3,.int .i64 256)]).run Tryz.prog w= .ok (.agg (aU ⟨(List.range 32).map f,c,(List.range 32).map g⟩).toArray) w:=af
theorem rG {i:Itm} (h:i.OK) (w:World):(Instr.build 117 #[(0,.agg (dc i.k).toArray),(1,.agg (.int .i64 i.ct::dc i.ch).toArray),(2,.int .i64 1),(3,.int .i64 256)]).run Tryz.prog w= .ok (.agg (aU i).toArray) w:=by
 have h1:=KI (bAt i.k) (bAt i.ch) i.ct w
 rw [lu h.k,lu h.ch] at h1
 exact h1
theorem Pi:bW Tryz.prog 35=true:=af
theorem L9:bW Tryz.prog 93=true:=af
theorem Oo:(Tryz.prog.info? 35).map (·.size)=some 1:=af
theorem JV:(Tryz.prog.info? 93).map (·.size)=some 1:=af
theorem GV:aG Tryz.prog 63:=⟨_,Tryz.func63,af,af⟩
theorem PG:aG Tryz.prog 60:=⟨_,Tryz.func60,af,af⟩
theorem PE:aG Tryz.prog 61:=⟨_,Tryz.func61,af,af⟩
theorem OJ (w0 w:World) (R G:List Seg) (hG:G⊆R) (i:Itm) (hi:i.OK) (width:Int) (wb:Nat) (hs2:Rw w0 G wb [.int .i64 width]) (hT:Tab w0) (hA:Hp w0 R w):Calls Tryz.prog 60 #[.agg (dc i.k).toArray,.agg (.int .i64 i.ct::dc i.ch).toArray,.pointer (some ⟨wb,0,none⟩)] w fun e w'=>e= .returned (.agg (dc (entryD width i)).toArray)∧Hp w0 R w':=by
 have hdk:(dc i.k).length=32:=by rw [aj,hi.k]
 have hde:(Value.int .i64 i.ct::dc i.ch).length=33:=by rw [List.length_cons,aj,hi.ch]
 refine aJ Tryz.func60 O Tryz.ntmps60 ai (fun a hF=>?_)
 refine wp_seq_k fun K1 hK1=>wp_region_lit ?_
 refine au O (fun K hK=>bC (cs:=dc i.k) hF O ae rfl hA O (fun b1 w2 a hb1 hF hA3=>hK _ _ ?_))
 refine au O (fun K hK=>bC (cs:= .int .i64 i.ct::dc i.ch) hF O ae rfl hA3 O (fun b4 w5 a hb4 hF hA6=>hK _ _ ?_))
 refine au O (fun K hK=>bG hF O ae rfl hA6 (jE) (fun b7 w8 a hb7 hF hA9=>hK _ _ ?_))
 refine az<|hK1 _ _ ?_
 apply wp_seq_k; intro K2 hK2
 have hdd:(dc (entryD width i)).length=32:=by rw [aj,jl]
 refine wp_region_lit ?_
 refine vR hF<|vV O (bD O (Hq.sub hA9.q (List.Subset.trans hG (aA (aA (aA (bu)))))) O hs2 0 (by simp) rfl rfl Bq)<|vV O (yZ (new:=dc i.k) rfl hA9.q O 2 O vw hdk)<|vV O (yZ (new:= .int .i64 i.ct::dc i.ch) rfl hA9.q O 1 O BN hde) fun a hF=>?_
 refine au O (fun K hK=>ax hF O ae PE rfl rfl ?_)
 with_reducible refine (JO w0 _ ([row b7 25 (dc (List.replicate 32 0))]::[row b4 27 (.int .i64 i.ct::dc i.ch)]::[row b1 25 (dc i.k)]::R) width i.ct i.k i.ch hi.k hi.ch hT hA9).mono ?_
 rintro e' w10 ⟨rfl,hA11⟩
 refine ⟨_,rfl,fun a hF=>hK _ _ ?_⟩
 replace hA11:Hp w0 ([row b7 25 (dc (List.replicate 32 0))]::[row b4 27 (.int .i64 i.ct::dc i.ch)]::[row b1 25 (dc i.k)]::R) w10:=hA11
 rw [show ofL width 3 (i.k++be 8 (c64 i.ct)++i.ch)=entryD width i from rfl] at hF
 refine au O (fun K hK=>aI (new:=dc (entryD width i)) hF O O hA11 O O 0 O (by rw [hdd]; rfl) (bz _) uX (fun w12 hA13=>hK _ _ ?_))
 replace hA13:Hp w0 ([row b7 25 (dc (entryD width i))]::[row b4 27 (.int .i64 i.ct::dc i.ch)]::[row b1 25 (dc i.k)]::R) w12:=hA13
 refine az<|hK2 _ _ ?_
 apply wp_ret
 refine fD hF Tryz.results60 hA13.q O 0 O (by rw [hdd]; exact vw) ?_
 have hA14:Hp w0 (R) w12:=hpS 3 [] [0,1,2] hA13 rfl
 exact ⟨rfl,hA14⟩
theorem Rj (w0 w:World) (R G:List Seg) (hG:G⊆R) (i:Itm) (hi:i.OK) (width:Int) (wb:Nat) (hs2:Rw w0 G wb [.int .i64 width]) (hT:Tab w0) (hA:Hp w0 R w):Calls Tryz.prog 60 ([.agg (dc i.k).toArray,.agg (.int .i64 i.ct::dc i.ch).toArray]++[.pointer (some ⟨wb,0,none⟩)]:List Value).toArray w fun e w'=>e= .returned (.agg (dc (entryD width i)).toArray)∧Hp w0 R w' :=
 OJ w0 w R G hG i hi width wb hs2 hT hA
theorem Ri (w0 w:World) (R G:List Seg) (hG:G⊆R) (i:Itm) (hi:i.OK) (gn:Nat) (hN:Rw w0 G gn (aU i)) (gs:Nat) (width:Int) (hSm:Sm w0 G 60 gs width) (hT:Tab w0) (hA:Hp w0 R w):Calls Tryz.prog 77 #[.pointer (some ⟨gs,0,none⟩),.pointer (some ⟨gn,0,none⟩)] w fun e w'=>e= .returned (.agg (dc (entryD width i)).toArray)∧Hp w0 R w':=by
 obtain ⟨AE,cE,wb,hs1,hs2,hs3⟩:=hSm
 refine aJ Tryz.func77 O Tryz.ntmps77 ai (fun a hF=>?_)
 refine wp_seq_k fun K1 hK1=>wp_region_lit ?_
 refine au O (fun K hK=>bG hF O ae rfl hA (jE) (fun b1 w2 a hb1 hF hA3=>hK _ _ ?_))
 refine az<|hK1 _ _ ?_
 apply wp_seq_k; intro K2 hK2
 refine wS hF fun K3 hK3=>vX O<|vX O<|vV O (yf 66 rfl Uj O QY O)<|vV O (bD O (Hq.sub hA3.q (List.Subset.trans hG (aA (bu)))) O hN 66 (by rw [pO hi]; decide) rfl (IX hi) Bq) fun a hF=>?_
 refine vR hF<|vV O (aH O O O O (gJ ag))<|vE hK3<|vT1 O fun a hF=>?_
 have hdd:(dc (entryD width i)).length=32:=by rw [aj,jl]
 apply wp_seq_k; intro K4 hK4
 refine ak 13 [12,13] [0,1,2,3,4,5,6,7,8,9,10,11,12,13] _ af af (Hq.drew hA3.q) ?_
 have hA4:=Hl.drew hA3
 refine pR hF<|pX O O<|pX O O<|pW O O (fun _=>yf 2 O Uk O JV O)<|pV O O (fun x hx=>bD O (Hq.sub hx (List.Subset.trans hG (aA (bu)))) O hs1 2 (by simp) rfl rfl L9)<|pX O O<|pX O O<|pW O O (fun _=>yf 0 O Uj O uX O)<|pV O O (fun x hx=>aQ O (Hq.sub hx (List.Subset.trans hG (aA (bu)))) O hN 0 (by rw [pO hi]; decide) rfl (IW hi) vw) fun a hF=>?_
 refine pR hF<|pX O O<|pX O O<|pW O O (fun _=>yf 32 rfl Uj O Bz O)<|pV O O (fun x hx=>aQ O (Hq.sub hx (List.Subset.trans hG (aA (bu)))) O hN 32 (by rw [pO hi]; decide) rfl (zq hi) BN) fun a hF=>?_
 refine bM O O O (fun K hK=>Bg hF O ae PG rfl rfl rfl ?_)
 with_reducible refine (Rj w0 _ ([row b1 25 (dc (List.replicate 32 0))]::R) G (List.Subset.trans hG (aA (bu))) i hi width wb hs2 hT hA4).mono ?_
 rintro e' w5 ⟨rfl,hA6⟩
 refine ⟨_,rfl,fun a hF=>hK _ _ (fun _=>?_) ?_⟩
 ·exact hA6.q
 refine bM O O O (fun K hK=>aI (new:=dc (entryD width i)) hF O O hA6 O O 0 O (by rw [hdd]; rfl) (bz _) uX (fun w7 hA8=>hK _ _ (fun h=>absurd h ae) ?_))
 replace hA8:Hp w0 ([row b1 25 (dc (entryD width i))]::R) w7:=hA8
 refine aB ?_
 refine hK4 _ _ ?_
 apply wp_ret
 simp only [Exit.then]
 refine fD hF Tryz.results77 hA8.q O 0 O (by rw [hdd]; exact vw) ?_
 have hA9:Hp w0 (R) w7:=hpS 1 [] [0] hA8 rfl
 exact ⟨rfl,hA9⟩
theorem H9 (w0 w:World) (R G:List Seg) (hG:G⊆R) (gs:Nat) (width:Int) (k d n:List UInt8) (h:Nat) (hh:h<256) (hk:k.length=32) (hd:d.length=32) (hn:n.length=32) (hSm:Sm w0 G 60 gs width) (hT:Tab w0) (hA:Hp w0 R w):Calls Tryz.prog 78 #[.pointer (some ⟨gs,0,none⟩),.agg (dc k).toArray,.int .i64 (h:Int),.agg (dc d).toArray,.agg (dc n).toArray] w fun e w'=>e= .returned (.agg (dc (kW width k d n h)).toArray)∧Hp w0 R w':=by
 obtain ⟨AE,cE,wb,hs1,hs2,hs3⟩:=hSm
 have hdk:(dc k).length=32:=by rw [aj,hk]
 have hdd:(dc d).length=32:=by rw [aj,hd]
 have hdn:(dc n).length=32:=by rw [aj,hn]
 have hds:(dc (kW width k d n h)).length=32:=by rw [aj,rE]
 refine aJ Tryz.func78 O Tryz.ntmps78 ai (fun a hF=>?_)
 refine wp_seq_k fun K1 hK1=>wp_region_lit ?_
 refine au O (fun K hK=>bC (cs:=dc k) hF O ae rfl hA O (fun b1 w2 a hb1 hF hA3=>hK _ _ ?_))
 refine au O (fun K hK=>bC (cs:=dc d) hF O ae rfl hA3 O (fun b4 w5 a hb4 hF hA6=>hK _ _ ?_))
 refine au O (fun K hK=>bC (cs:=dc n) hF O ae rfl hA6 O (fun b7 w8 a hb7 hF hA9=>hK _ _ ?_))
 refine au O (fun K hK=>bG hF O ae rfl hA9 (jE) (fun b10 w11 a hb10 hF hA12=>hK _ _ ?_))
 refine az<|hK1 _ _ ?_
 apply wp_seq_k; intro K2 hK2
 apply wp_seq_k; intro K3 hK3
 have hkc:=oH k (255-h)
 by_cases hkb:bK k (255-h)=0
 ·refine wp_region_lit ?_
  refine vR hF<|vV O (yZ (new:=dc k) rfl hA12.q O 3 O vw hdk)<|vX O<|vV O (dm O O O (show IntKind.i64.wrap (255-(h:Int))=((255-h:Nat):Int) by rw [TB _ ag]; omega)) fun a hF=>?_
  refine au O (fun K hK=>ax hF O ae GV rfl rfl ?_)
  with_reducible refine (wI w0 _ ([row b10 25 (dc (List.replicate 32 0))]::[row b7 25 (dc n)]::[row b4 25 (dc d)]::[row b1 25 (dc k)]::R) k (255-h) hk ag hA12).mono ?_
  rintro e' w13 ⟨rfl,hA14⟩
  refine ⟨_,rfl,fun a hF=>hK _ _ ?_⟩
  replace hA14:Hp w0 ([row b10 25 (dc (List.replicate 32 0))]::[row b7 25 (dc n)]::[row b4 25 (dc d)]::[row b1 25 (dc k)]::R) w13:=hA14
  refine vR hF<|vV O (aH O O O O (gJ ag))<|vE hK3<|vT1 O<|wQ fun K4 hK4 a hF=>?_
  refine ak 7 [6,7] [0,1,2,3,4,5,6,7] _ af af (Hq.drew hA14.q) ?_
  have hA15:=Hl.drew hA14
  refine pR hF<|pX O O<|pX O O<|pW O O (fun _=>yf 0 O Uk O QY O)<|pV O O (fun x hx=>bD O (Hq.sub hx (List.Subset.trans hG (aA (aA (aA (aA (bu))))))) O hs1 0 (by simp) rfl rfl Bq)<|pV O O (fun x hx=>yZ (new:=dc d) rfl hx O 2 O vw hdd)<|pV O O (fun x hx=>yZ (new:=dc n) rfl hx O 1 O vw hdn) fun a hF=>?_
  refine bM O O O (fun K hK=>ax hF O ae P9 rfl rfl ?_)
  with_reducible refine (pz w0 _ ([row b10 25 (dc (List.replicate 32 0))]::[row b7 25 (dc n)]::[row b4 25 (dc d)]::[row b1 25 (dc k)]::R) width d n hd hn hT hA15).mono ?_
  rintro e' w16 ⟨rfl,hA17⟩
  refine ⟨_,rfl,fun a hF=>hK _ _ (fun _=>?_) ?_⟩
  ·exact hA17.q
  replace hA17:Hp w0 ([row b10 25 (dc (List.replicate 32 0))]::[row b7 25 (dc n)]::[row b4 25 (dc d)]::[row b1 25 (dc k)]::R) w16:=hA17
  rw [show ofL width 4 (d++n)=kW width k d n h by unfold kW; rw [if_pos hkb]; rfl] at hF
  refine bM O O O (fun K hK=>aI (new:=dc (kW width k d n h)) hF O O hA17 O O 0 O (by rw [hds]; rfl) (bz _) uX (fun w18 hA19=>hK _ _ (fun h=>absurd h ae) ?_))
  replace hA19:Hp w0 ([row b10 25 (dc (kW width k d n h))]::[row b7 25 (dc n)]::[row b4 25 (dc d)]::[row b1 25 (dc k)]::R) w18:=hA19
  refine aB ?_
  refine hK4 _ _ ?_
  apply wp_ret
  simp only [Exit.then]
  refine fD hF Tryz.results78 hA19.q O 0 O (by rw [hds]; exact vw) ?_
  have hA20:Hp w0 (R) w18:=hpS 4 [] [0,1,2,3] hA19 rfl
  exact ⟨rfl,hA20⟩
 ·refine wp_region_lit ?_
  refine vR hF<|vV O (yZ (new:=dc k) rfl hA12.q O 3 O vw hdk)<|vX O<|vV O (dm O O O (show IntKind.i64.wrap (255-(h:Int))=((255-h:Nat):Int) by rw [TB _ ag]; omega)) fun a hF=>?_
  refine au O (fun K hK=>ax hF O ae GV rfl rfl ?_)
  with_reducible refine (wI w0 _ ([row b10 25 (dc (List.replicate 32 0))]::[row b7 25 (dc n)]::[row b4 25 (dc d)]::[row b1 25 (dc k)]::R) k (255-h) hk ag hA12).mono ?_
  rintro e' w21 ⟨rfl,hA22⟩
  refine ⟨_,rfl,fun a hF=>hK _ _ ?_⟩
  replace hA22:Hp w0 ([row b10 25 (dc (List.replicate 32 0))]::[row b7 25 (dc n)]::[row b4 25 (dc d)]::[row b1 25 (dc k)]::R) w21:=hA22
  refine vR hF<|vV O (aH O O O O (fJ ag))<|vE hK3<|vF1 O<|wKp hK2<|wQ fun K5 hK5 a hF=>?_
  refine ak 7 [6,7] [0,1,2,3,4,5,6,7] _ af af (Hq.drew hA22.q) ?_
  have hA23:=Hl.drew hA22
  refine pR hF<|pX O O<|pX O O<|pW O O (fun _=>yf 0 O Uk O QY O)<|pV O O (fun x hx=>bD O (Hq.sub hx (List.Subset.trans hG (aA (aA (aA (aA (bu))))))) O hs1 0 (by simp) rfl rfl Bq)<|pV O O (fun x hx=>yZ (new:=dc n) rfl hx O 1 O vw hdn)<|pV O O (fun x hx=>yZ (new:=dc d) rfl hx O 2 O vw hdd) fun a hF=>?_
  refine bM O O O (fun K hK=>ax hF O ae P9 rfl rfl ?_)
  with_reducible refine (pz w0 _ ([row b10 25 (dc (List.replicate 32 0))]::[row b7 25 (dc n)]::[row b4 25 (dc d)]::[row b1 25 (dc k)]::R) width n d hn hd hT hA23).mono ?_
  rintro e' w24 ⟨rfl,hA25⟩
  refine ⟨_,rfl,fun a hF=>hK _ _ (fun _=>?_) ?_⟩
  ·exact hA25.q
  replace hA25:Hp w0 ([row b10 25 (dc (List.replicate 32 0))]::[row b7 25 (dc n)]::[row b4 25 (dc d)]::[row b1 25 (dc k)]::R) w24:=hA25
  rw [show ofL width 4 (n++d)=kW width k d n h by unfold kW; rw [if_neg hkb]; rfl] at hF
  refine bM O O O (fun K hK=>aI (new:=dc (kW width k d n h)) hF O O hA25 O O 0 O (by rw [hds]; rfl) (bz _) uX (fun w26 hA27=>hK _ _ (fun h=>absurd h ae) ?_))
  replace hA27:Hp w0 ([row b10 25 (dc (kW width k d n h))]::[row b7 25 (dc n)]::[row b4 25 (dc d)]::[row b1 25 (dc k)]::R) w26:=hA27
  refine aB ?_
  refine hK5 _ _ ?_
  apply wp_ret
  refine fD hF Tryz.results78 hA27.q O 0 O (by rw [hds]; exact vw) ?_
  have hA28:Hp w0 (R) w26:=hpS 4 [] [0,1,2,3] hA27 rfl
  exact ⟨rfl,hA28⟩
theorem Gf (w0 w:World) (R:List Seg) (i:Itm) (hi:i.OK) (sv:Value) (hA:Hp w0 R w):Calls Tryz.prog 54 #[.pointer none,.agg (dc i.k).toArray,.agg (.int .i64 i.ct::dc i.ch).toArray,sv] w fun e w'=>∃ g,e= .returned (.pointer (some ⟨g,0,none⟩))∧Hp w0 ([row g 117 (aU i)]::R) w':=by
 have hdk:(dc i.k).length=32:=by rw [aj,hi.k]
 have hde:(Value.int .i64 i.ct::dc i.ch).length=33:=by rw [List.length_cons,aj,hi.ch]
 refine aJ Tryz.func54 O Tryz.ntmps54 ai (fun a hF=>?_)
 refine wp_seq_k fun K1 hK1=>wp_region_lit ?_
 refine au O (fun K hK=>bC (cs:=dc i.k) hF O ae rfl hA O (fun b1 w2 a hb1 hF hA3=>hK _ _ ?_))
 refine au O (fun K hK=>bC (cs:= .int .i64 i.ct::dc i.ch) hF O ae rfl hA3 O (fun b4 w5 a hb4 hF hA6=>hK _ _ ?_))
 refine vR hF<|vX O<|vE hK1<|wT fun K2 hK2=>vV O (yZ (new:=dc i.k) rfl hA6.q O 1 O vw hdk)<|vV O (yZ (new:= .int .i64 i.ct::dc i.ch) rfl hA6.q O 0 O BN hde)<|vV O (dS (v:= .agg (aU i).toArray) (qs := #[(0,.agg (dc i.k).toArray),(1,.agg (.int .i64 i.ct::dc i.ch).toArray),(2,.int .i64 1),(3,.int .i64 256)]) O O (by exact rG hi)) fun a hF=>?_
 refine au O (fun K hK=>bC (cs:=aU i) hF O ae rfl hA6 O (fun b7 w8 a hb7 hF hA9=>hK _ _ ?_))
 refine vR hF<|vX O<|vE hK2<|wQ fun K3 hK3=>wT fun K4 hK4=>vX O<|vV O (lS O af rfl rfl)<|vE hK4<|vT1 O<|wT fun K5 hK5=>vX O<|vX O<|vE hK5 fun a hF=>?_
 apply wp_ret
 simp only [Exit.then]
 refine aO hF Tryz.results54 O ?_
 have hA10:Hp w0 ([row b7 117 (aU i)]::R) w8:=hpS 3 [0] [1,2] hA9 rfl
 exact ⟨b7,rfl,hA10⟩
theorem OI (w0 w:World) (R:List Seg) (hA:Hp w0 R w):Calls Tryz.prog 29 #[.agg ([.pointer none,.slice none 0 0]:List Value).toArray] w fun e w'=>e= .returned (.int .i64 0)∧Hp w0 R w':=by
 refine aJ Tryz.func29 O Tryz.ntmps29 ai (fun a hF=>?_)
 refine wp_seq_k fun K1 hK1=>wp_region_lit ?_
 refine au O (fun K hK=>bC (cs:=[.pointer none,.slice none 0 0]) hF O ae rfl hA O (fun b1 w2 a hb1 hF hA3=>hK _ _ ?_))
 refine vR hF<|vX O<|vE hK1<|wQ fun K2 hK2=>wT fun K3 hK3=>vV O (yf 0 O Ul O Oo O)<|vV O (aX O hA3.q O 0 O O Pi)<|vV O (lS O af rfl rfl)<|vE hK3<|vT1 O<|wT fun K4 hK4=>vX O<|vE hK4 fun a hF=>?_
 apply wp_ret
 simp only [Exit.then]
 refine aO hF Tryz.results29 O ?_
 have hA4:Hp w0 (R) w2:=hpS 1 [] [0] hA3 rfl
 exact ⟨rfl,hA4⟩
end Go.Proofs.YtpomngkcfbnjoaaGreatDoor
end
