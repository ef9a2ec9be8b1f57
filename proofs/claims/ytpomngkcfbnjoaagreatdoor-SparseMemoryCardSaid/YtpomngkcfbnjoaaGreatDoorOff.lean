/- Texts that belong together, one behind the other. -/
import Derived.Test.YtpomngkcfbnjoaaGreatDoorTabR
import Derived.Test.YtpomngkcfbnjoaaGreatDoorTab
import Derived.LaidEqlPtr
namespace Go.Proofs.YtpomngkcfbnjoaaGreatDoor
open Go.RowKit Go.Dk
theorem oh:gK Tryz.prog 25 32 32:=jd (z:= .agg (dc (List.replicate 32 0)).toArray) af af
theorem FW:(Tryz.prog.info? 25).map (·.size)=some 32:=oV
theorem Hr (f:Nat→UInt8) (w:World):(Instr.buildSlice 28 1 #[(0,.agg (dc ((List.range 32).map f)).toArray)]).run Tryz.prog w= .ok (.slice (some ⟨w.heap.size,0,none⟩) 1 1) (w.alloc (.cells (dc ((List.range 32).map f)).toArray 25)):=af
theorem lY {D:List UInt8} (h:D.length=32) (w:World):(Instr.buildSlice 28 1 #[(0,.agg (dc D).toArray)]).run Tryz.prog w= .ok (.slice (some ⟨w.heap.size,0,none⟩) 1 1) (w.alloc (.cells (dc D).toArray 25)):=by
  have h1:=Hr (bAt D) w
  rw [lu h] at h1
  exact h1
theorem Jt {n:Nat} {F:List (Nat × Value)} {a:Act} {o:Oper} {w0 w:World} {L:List Row} {t e:TypeId} {x:Operand} {d:Nat} {D:List UInt8} {K:Act→World→Prop} {Q:Exit→Act→World→Prop} (hF:Fr n F a) (hd:o.dst=some d) (hlt:d<n) (ho:o.op= .buildSlice t 1 #[(0,x)]) (hA:At w0 L w) (hx:ev F x=some (.agg (dc D).toArray))
    (hr:∀ w:World,(Instr.buildSlice t 1 #[(0,.agg (dc D).toArray)]).run Tryz.prog w= .ok (.slice (some ⟨w.heap.size,0,none⟩) 1 1) (w.alloc (.cells (dc D).toArray e)))
    (h:∀ g w' a',w.heap.size≤g→Fr n ((d,.slice (some ⟨g,0,none⟩) 1 1)::F) a'→At w0 ((g,e,dc D)::L) w'→K a' w'):o.wp Tryz.prog a w K Q :=
  yL ho hA (by simpa [hF.ev hx] using hr w) (fun g w' hg hw=>by rw [hd]; exact h g w' _ hg (hF.put hlt) (by simpa using hw))
def dM (f:Nat→List UInt8) (n:Nat):List Value:=(List.range n).flatMap fun i=>dc (f i)
theorem kJ (f:Nat→List UInt8) (n:Nat):dM f (n+1)=dM f n++dc (f n):=by simp [dM,List.range_succ]
theorem kZ {f:Nat→List UInt8} (hf:∀ i,(f i).length=32):∀ n,(dM f n).length=n*32
  | 0=>rfl
  | n+1=>by rw [kJ,List.length_append,kZ hf n,aj,hf]; omega
theorem AU {f:Nat→List UInt8} (hf:∀ i,(f i).length=32) (Z:List Value):∀ n i,i<n→((dM f n++Z).drop (i*32)).take 32=dc (f i)
  | 0,i,h=>absurd h (Nat.not_lt_zero i)
  | n+1,i,h=>by
    rw [kJ,List.append_assoc]
    rcases Nat.lt_or_ge i n with h1 | h1
    · exact AU hf _ n i h1
    · obtain rfl:i=n:=by omega
      rw [List.drop_left' (kZ hf _),List.take_append_of_le_length (by rw [aj,hf]; exact TG _),TJ (by rw [aj,hf]; exact TG _)]
theorem Aj {w0:World} {e:TypeId} {s:Nat} {X:List Row} {v:Value} {n:Nat} {W:List Value} (h:Own w0 e s X v n W) (hn:0<n):∃ g c Z,v= .slice (some ⟨g,0,none⟩) n c∧n≤c∧w0.heap.size≤g∧X=[(g,e,W++Z)]:=by
  rcases h.2 with ⟨_,h2,_⟩ | ⟨g,c,Z,h1,h2,h3,_,h5⟩
  · omega
  · exact ⟨g,c,Z,h1,h2,h3,h5⟩
theorem QX {w0 w:World} {L:List Row} {g k:Nat} {t:TypeId} {D:List UInt8} (hD:D.length=32) (hA:At w0 L w) (hk:L[k]? = some (g,t,dc D)):Src Tryz.prog 32 28 (.slice (some ⟨g,0,none⟩) 1 1) 1 (dc D) w :=
  Src.ofSlice w Tu ⟨g,0,none⟩ 1 1 (dc D) (by rw [aj,hD]) (fun j u hj=>by rw [Addr.add_mid,hA.cell hk,Nat.zero_add]; exact hj) (bz D)
theorem Qy (b j:Nat):(⟨b,0+j*32,none⟩:Addr)=⟨b,j*32,none⟩:=by simp
end Go.Proofs.YtpomngkcfbnjoaaGreatDoor
namespace Go.Proofs.YtpomngkcfbnjoaaGreatDoor
open Go.RowKit Go.Dk
theorem Dx (f:Nat→List UInt8):dM f 1=dc (f 0):=by simp [dM]
theorem P8:aG Tryz.prog 66:=⟨_,Tryz.func66,af,af⟩
set_option maxRecDepth 100000 in
set_option maxHeartbeats 1000000 in
theorem uJ (w:World) (width:Int) :
  Calls Tryz.prog 39 #[.int .i64 width] w fun e w'=>∃ v X,e= .returned v∧Own w 25 32 X v 257 (dM (aK width) 257)∧At w X w':=by
 have hA0:=At.refl w
 have hdl:=bZ width
 refine aJ Tryz.func39 O Tryz.ntmps39 ai (fun a hF=>?_)
 refine wS hF fun K1 hK1=>vX O<|vE hK1<|wT fun K2 hK2=>vX O fun a hF=>?_
 refine au O (fun K hK=>ax hF O ae GY rfl rfl ?_)
 with_reducible refine (Ae w width 5 5 O none [] 0 0 O (Pieces.nil _) ae ae).mono ?_
 rintro e' w1 ⟨rfl,hA1⟩
 refine ⟨_,rfl,fun a hF=>hK _ _ ?_⟩
 rw [show ofL width 5 (flat [])=aK width 0 from rfl] at hF
 refine au O (fun K hK=>Jt hF O ae rfl hA1 O (lY (hdl 0)) (fun g w2 a hg hF hA2=>hK _ _ ?_))
 have hO2:Own w 25 32 [(g,25,dc (aK width 0))] (.slice (some ⟨g,0,none⟩) 1 1) 1 (dM (aK width) 1):=⟨by rw [kZ hdl],.inr ⟨g,1,[],rfl,TG _,Nat.le_trans hA1.size hg,rfl,by rw [Dx,List.append_nil]⟩⟩
 refine vR hF<|vX O<|vE hK2<|wQ fun K3 hK3=>wT fun K4 hK4=>vX O<|vE hK4<|wBk fun a hF=>?_
 refine bQ (G:=Nat) (fun j a x=>1≤j∧j≤257∧∃ (v:Value) (X:List Row),Fr 28 [(4,.int .i64 (j:Int)),(0,.int .i64 width),(3,v)] a∧Own w 25 32 X v j (dM (aK width) j)∧At w X x) (fun j=>257-j) 1 ⟨TG _,ae,_,_,hF.keep [4,0,3] rfl,hO2,hA2⟩ ?_
 clear hF
 rintro j a wr ⟨hj1,hj,v,X,hF,hO,hAr⟩
 by_cases hlt:j≤256
 ·obtain ⟨g5,c5,Z5,rfl,hc5,hg5,rfl⟩:=Aj hO hj1
  obtain ⟨k,rfl⟩:∃ k,j=k+1:=⟨j-1,ag⟩
  apply wp_seq_k; intro K5 hK5
  refine wS hF fun K6 hK6=>vX O<|vV O (aH O O O O O)<|vE hK6 fun a hF=>?_
  refine aZ hF O (Gy ag) ?_
  apply wp_skip
  refine hK5 _ _ ?_
  apply wp_seq_k; intro K7 hK7
  apply wp_block
  refine ak 14 [12,13,14,15] [0,1,2,3,4,5,6,7,8,9,10,11,12,13,14,15] (fun x=>At w [(g5,25,dM (aK width) (k+1)++Z5)] x) af af (hAr.drew) ?_
  refine pR hF<|pX O O<|pX O O<|pX O O<|pX O O<|pW O O (fun _=>dm O O O (show IntKind.i64.wrap (((k+1:Nat):Int)-1)=(k:Int) by rw [TB _ ag]; omega)) fun a hF=>?_
  refine pR hF<|pW O O (fun _=>bi O Tu oV rfl rfl k rfl ag (Qy _ _))<|pV O O (fun x hx=>iR O hx O 0 O Cb (by rw [List.length_append,kZ hdl]; omega) (new:=dc (aK width k)) (AU hdl _ (k+1) k ag)) fun a hF=>?_
  refine pR hF<|pX O O<|pX O O<|pW O O (fun _=>dm O O O (show IntKind.i64.wrap (((k+1:Nat):Int)-1)=(k:Int) by rw [TB _ ag]; omega)) fun a hF=>?_
  refine pR hF<|pW O O (fun _=>bi O Tu oV rfl rfl k rfl ag (Qy _ _))<|pV O O (fun x hx=>iR O hx O 0 O Cb (by rw [List.length_append,kZ hdl]; omega) (new:=dc (aK width k)) (AU hdl _ (k+1) k ag)) fun a hF=>?_
  refine bM O O O (fun K hK=>ax hF O ae P8 rfl rfl ?_)
  with_reducible refine (uC _ width _ _ (hdl k) (hdl k)).mono ?_
  rintro e' w6 ⟨rfl,hc6⟩
  refine ⟨_,rfl,fun a hF=>hK _ _ (fun _=>hAr.drew.then0 hc6) ?_⟩
  have hA6:=hAr.drew.then0 hc6
  rw [show ofL width 4 (aK width k++aK width k)=aK width (k+1) from rfl] at hF
  refine bM O O O (fun K hK=>Jt hF O ae rfl hA6 O (lY (hdl (k+1))) (fun g7 w7 a hg7 hF hA7=>hK _ _ (fun _=>hA7.drop (.cons _ (.refl _)) (fun r hr hlt=>by rcases List.mem_cons.1 hr with e | h; (subst e; have:=hA6.size; simp only at hlt; omega); exact h)) ?_))
  refine bM O O O (fun K hK=>zH hF O ae rfl [(g7,25,dc (aK width (k+1)))] (X:=[(g5,25,dM (aK width) (k+1)++Z5)]) hA7 hO Tu oh rfl rfl (QX (hdl (k+1)) hA7 (k:=0) rfl) ag ae (fun v8 X8 w8 a hO8 hF hA8=>hK _ _ (fun h=>absurd h ae) ?_))
  rw [← kJ] at hO8
  have hA8e:At w X8 w8:=hA8.drop (List.sublist_append_right _ _) (fun r hr hlt=>by
   rcases List.mem_append.1 hr with hr | hr
   ·simp only [List.mem_cons,List.not_mem_nil,or_false] at hr
    subst hr
    have:=hA6.size
    simp only at hlt
    omega
   ·exact hr)
  refine bY hF O O O O ae _ (bJ O O) (fun h=>absurd h ae) (fun a hF=>?_)
  refine aB ?_
  refine hK7 _ _ ?_
  refine wp_region_lit ?_
  refine vR hF<|vX O<|vV O (bH O O O (show IntKind.i64.wrap (((k+1:Nat):Int)+1)=((k+1+1:Nat):Int) by rw [TB _ ag]; omega)) fun a hF=>?_
  refine vR hF<|vX O fun a hF=>?_
  refine az ?_
  exact ⟨k+1+1,ag,ag,ag,v8,X8,hF.keep [4,0,3] rfl,hO8,hA8e⟩
 ·obtain rfl:j=257:=by omega
  apply wp_seq_k; intro K8 hK8
  refine wS hF fun K9 hK9=>vX O<|vV O (aH O O O O O)<|vE hK9 fun a hF=>?_
  refine aS hF O (Gz ag) ?_
  apply wp_exit
  refine hK3 _ _ ?_
  refine wS hF fun K10 hK10=>vX O<|vX O<|vE hK10 fun a hF=>?_
  apply wp_ret
  refine aO hF Tryz.results39 O ?_
  exact ⟨v,X,rfl,hO,hAr⟩
end Go.Proofs.YtpomngkcfbnjoaaGreatDoor
namespace Go.Proofs.YtpomngkcfbnjoaaGreatDoor
open Go.RowKit Go.Dk
section
variable {P:Program} {n:Nat} {F:List (Nat × Value)} {o:Oper} {w:World} {x y:Operand} {ts:Array TypeId} {k k':IntKind} {p q r:Int}
theorem y_max (ho:o.op= .call { callee:= .builtin .max,args := #[x,y],argTypes:=ts }) (hx:ev F x=some (.int k p)) (hy:ev F y=some (.int k' q)) (hr:max p q=r):Yd P n F o w (.int k r):=fun a hF=>by
 have h:(if q>p then q else p)=max p q:=by rw [Int.max_def]; split <;> split <;> omega
 subst hr
 unfold execOp
 simp only [ho,hF.ev hx,hF.ev hy,resolve,invoke,builtin,Builtin.max_,List.map_toArray,List.map_cons,List.map_nil,Sem.run_bind,Sem.run_pure,Result.andThen_ok,List.foldlM_cons,List.foldlM_nil,Builtin.max2,h]
theorem y_min (ho:o.op= .call { callee:= .builtin .min,args := #[x,y],argTypes:=ts }) (hx:ev F x=some (.int k p)) (hy:ev F y=some (.int k' q)) (hr:min p q=r):Yd P n F o w (.int k r):=fun a hF=>by
 have h:(if q<p then q else p)=min p q:=by rw [Int.min_def]; split <;> split <;> omega
 subst hr
 unfold execOp
 simp only [ho,hF.ev hx,hF.ev hy,resolve,invoke,builtin,Builtin.min_,List.map_toArray,List.map_cons,List.map_nil,Sem.run_bind,Sem.run_pure,Result.andThen_ok,List.foldlM_cons,List.foldlM_nil,Builtin.min2,h]
end
theorem P9:aG Tryz.prog 83:=⟨_,Tryz.func83,af,af⟩
set_option maxRecDepth 100000 in
set_option maxHeartbeats 1000000 in
theorem I9 (w:World) (width h:Int) (hT:Tab w) :
  Calls Tryz.prog 82 #[.int .i64 width,.int .i64 h] w fun e w'=>e= .returned (.agg (dc (aK width (min (max h 0) 256).toNat)).toArray)∧At w [] w':=by
 have hA0:=At.refl w
 have hpos:0<w.heap.size:=hT.lt
 have hdl:=bZ width
 obtain ⟨k,hk⟩:∃ k:Nat,min (max h 0) 256=(k:Int):=⟨(min (max h 0) 256).toNat,ag⟩
 rw [hk,Int.toNat_natCast]
 refine aJ Tryz.func82 O Tryz.ntmps82 ai (fun a hF=>?_)
 refine wp_seq_k fun K1 hK1=>wp_region_lit ?_
 refine au O (fun K hK=>fZ hF O ae rfl hA0 jE (fun b4 w1 a hb4 hF hA1=>hK _ _ ?_))
 refine az<|hK1 _ _ ?_
 refine wS hF fun K2 hK2=>vX O fun a hF=>?_
 refine au O (fun K hK=>ax hF O ae PZ rfl rfl ?_)
 with_reducible refine (E5 w1 width 5 5 O none [] 0 0 O (Pieces.nil _) ae ae (hT.at_ hA1 (rU hpos (eQ hb4)))).mono ?_
 rintro e' w2 ⟨rfl,hc2⟩
 refine ⟨_,rfl,fun a hF=>hK _ _ ?_⟩
 have hA2:=hA1.then0 hc2
 rw [show ofL width 5 (flat [])=aK width 0 from rfl] at hF
 refine au O (fun K hK=>fZ hF O ae rfl hA2 jE (fun b5 w3 a hb5 hF hA3=>hK _ _ ?_))
 refine au O (fun K hK=>eu hF O O hA3 O O 0 O (yx (hdl 0)) (bz _) yz (fun w4 hA4=>hK _ _ ?_))
 replace hA4:At w [(b5,25,dc (aK width 0)),(b4,25,dc (List.replicate 32 0))] w4:=hA4
 refine az<|hK2 _ _ ?_
 apply wp_seq_k; intro K3 hK3
 refine wS hF fun K4 hK4=>vX O<|vV O (y_max O O O O)<|vV O (y_min O O O hk)<|vX O<|vE hK4<|wBk fun a hF=>?_
 have hnr:∀ cs,∀ r∈[(b5,25,cs),(b4,25,dc (List.replicate 32 0))],w.heap.size≤(r:Row).1:=fun _=>cZ (by have:=hA2.size; omega) (eQ hb4)
 refine bQ (G:=Nat) (fun i a x=>i≤k∧Fr 19 [(11,.int .i64 (i:Int)),(0,.int .i64 width),(4,.pointer (some ⟨b4,0,none⟩)),(5,.pointer (some ⟨b5,0,none⟩)),(10,.int .i64 (k:Int))] a∧At w [(b5,25,dc (aK width i)),(b4,25,dc (List.replicate 32 0))] x) (fun i=>k-i) 0 ⟨Tv _,hF.keep [11,0,4,5,10] rfl,hA4⟩ ?_
 clear hF
 rintro i a wr ⟨hi,hF,hAr⟩
 by_cases hlt:i<k
 ·refine wS hF fun K5 hK5=>vV O (aH O O O O O)<|vE hK5<|wQ fun K6 hK6 a hF=>?_
  refine aZ hF O (dB ag) ?_
  apply wp_skip
  refine hK6 _ _ ?_
  apply wp_seq_k; intro K7 hK7
  apply wp_block
  refine wp_region_lit ?_
  refine vR hF<|vX O<|vV O (iR O hAr O 0 O Cb (by show 0+32≤(dc (aK width i)).length; rw [aj,hdl]; decide) (new:=dc (aK width i)) (by rw [List.drop_zero]; exact TJ (by rw [aj,hdl]; exact TG _))) fun a hF=>?_
  refine vR hF<|vV O (iR O hAr O 0 O Cb (by show 0+32≤(dc (aK width i)).length; rw [aj,hdl]; decide) (new:=dc (aK width i)) (by rw [List.drop_zero]; exact TJ (by rw [aj,hdl]; exact TG _))) fun a hF=>?_
  refine au O (fun K hK=>ax hF O ae P9 rfl rfl ?_)
  with_reducible refine (x9 wr width _ _ (hdl i) (hdl i) (hT.at_ hAr (rU hpos (hnr _)))).mono ?_
  rintro e' w6 ⟨rfl,hc6⟩
  refine ⟨_,rfl,fun a hF=>hK _ _ ?_⟩
  have hA6:=hAr.then0 hc6
  rw [show ofL width 4 (aK width i++aK width i)=aK width (i+1) from rfl] at hF
  refine au O (fun K hK=>eu hF O O hA6 O O 0 O (by rw [aj,aj,hdl,hdl]) (bz _) (by rw [oV,aj,hdl]) (fun w7 hA7=>hK _ _ ?_))
  replace hA7:At w [(b5,25,dc (aK width (i+1))),(b4,25,dc (List.replicate 32 0))] w7:=hA7
  refine az<|hK7 _ _ ?_
  refine wp_region_lit ?_
  refine vR hF<|vV O (bH O O O (show IntKind.i64.wrap ((i:Int)+1)=((i+1:Nat):Int) by rw [TB _ ag]; omega)) fun a hF=>?_
  refine vR hF<|vX O fun a hF=>?_
  refine az ?_
  exact ⟨i+1,ag,ag,hF.keep [11,0,4,5,10] rfl,hA7⟩
 ·obtain rfl:i=k:=by omega
  refine wS hF fun K8 hK8=>vV O (aH O O O O O)<|vE hK8<|wQ fun K9 hK9 a hF=>?_
  refine aS hF O (dD ag) ?_
  apply wp_exit
  refine hK3 _ _ ?_
  refine wS hF fun K10 hK10=>vV O (iR O hAr O 0 O Cb (by show 0+32≤(dc (aK width i)).length; rw [aj,hdl]; decide) (new:=dc (aK width i)) (by rw [List.drop_zero]; exact TJ (by rw [aj,hdl]; exact TG _))) fun a hF=>?_
  refine au O (fun K hK=>eu hF O O hAr O O 1 O (yx (hdl i)) (bz _) yz (fun w8 hA8=>hK _ _ ?_))
  refine az<|hK10 _ _ ?_
  apply wp_ret
  refine jq hF Tryz.results82 hA8 O 1 O (jK (hdl i)) ?_
  exact ⟨rfl,hA8.clear (cZ (by have:=hA2.size; omega) (eQ hb4))⟩
end Go.Proofs.YtpomngkcfbnjoaaGreatDoor
namespace Go.Dk
open Go Go.RowKit
def OwnP (w0:World) (e:TypeId) (size:Nat) (X:List Row) (v:Value) (n:Nat) (W:List Value):Prop :=
  W.length=n*size∧((v= .slice none 0 0∧n=0∧X=[])∨∃ g c B Z,v= .slice (some ⟨g,B.length,none⟩) n c∧n≤c∧w0.heap.size≤g∧Z.length=(c-n)*size∧X=[(g,e,B++W++Z)])
section
variable {P:Program} {Q:Exit→Act→World→Prop} {w w0:World} {n:Nat} {F:List (Nat × Value)} {a:Act} {o:Oper} {d:Nat} {R X:List Row} {e:TypeId} {size m:Nat} {v:Value} {W:List Value}
theorem OwnP.nil (w0:World) (e:TypeId) (size:Nat):OwnP w0 e size [] (.slice none 0 0) 0 []:=⟨by simp,.inl ⟨rfl,rfl,rfl⟩⟩
theorem OwnP.slice (h:OwnP w0 e size X v m W):∃ A c,v= .slice A m c∧m≤c:=by
  rcases h.2 with ⟨h1,h2,_⟩ | ⟨g,c,_,_,h1,h2,_⟩
  · subst h2; exact ⟨_,_,h1,TG _⟩
  · exact ⟨_,_,h1,h2⟩
theorem OwnP.one (h:OwnP w0 e size X v m W):v.oneCell'=true:=by
  obtain ⟨A,c,rfl,_⟩:=h.slice
  rfl
theorem OwnP.new (h:OwnP w0 e size X v m W):∀ r∈X,w0.heap.size≤(r:Row).1:=by
  rcases h.2 with ⟨_,_,h3⟩ | ⟨g,c,_,_,_,_,h3,_,h5⟩
  · rw [h3]; intro r hr; cases hr
  · rw [h5]; intro r hr; simp only [List.mem_cons,List.not_mem_nil,or_false] at hr; subst hr; exact h3
theorem OwnP.tail {u:Value} (h:OwnP w0 e 1 X v (m+1) (u::W)):∃ g c o,v= .slice (some ⟨g,o,none⟩) (m+1) (c+1)∧OwnP w0 e 1 X (.slice (some ⟨g,o+1,none⟩) m c) m W:=by
  rcases h.2 with ⟨_,h2,_⟩ | ⟨g,c,B,Z,h1,h2,h3,h4,h5⟩
  · omega
  · obtain ⟨c',rfl⟩:∃ c',c=c'+1:=⟨c-1,ag⟩
    refine ⟨g,c',B.length,h1,?_,.inr ⟨g,c',B++[u],Z,by simp,ag,h3,ag,by rw [h5]; simp⟩⟩
    have:=h.1
    simp only [List.length_cons] at this
    omega
end
end Go.Dk
