/- Texts that belong together, one behind the other. -/
import Derived.Test.YtpomngkcfbnjoaaGreatDoorTabR
import Derived.Test.YtpomngkcfbnjoaaGreatDoorOff
import Derived.Test.YtpomngkcfbnjoaaGreatDoorHc
import Derived.Test.YtpomngkcfbnjoaaGreatDoorBk
import Derived.Test.YtpomngkcfbnjoaaGreatDoorHs
namespace Go.Proofs.YtpomngkcfbnjoaaGreatDoor
open Go.RowKit Go.Dk
def BufR (w:World) (Y:List Row) (v:Value) (l:List UInt8):Prop:=Buf 5 1 (its Y) v l.length (dc l)∧∀ r∈Y,w.heap.size≤(r:Row).1
theorem BufR.new {w:World} {Y:List Row} {v:Value} {l:List UInt8} (h:BufR w Y v l):∀ r∈Y,w.heap.size≤(r:Row).1:=h.2
theorem BufR.rows {w w':World} {Z:Seg} {v:Value} {l:List UInt8} (h:Buf 5 1 Z v l.length (dc l)) (hA:Hp w [Z] w'):∃ Y,BufR w Y v l∧At w Y w':=by
  have hA':Hl w Z w':=by
    have h1:Hl w ([Z]:List Seg).flatten w':=hA
    rw [List.flatten_cons,List.flatten_nil,List.append_nil] at h1
    exact h1
  rcases h.2 with ⟨h1,h2,h3⟩ | ⟨g,c,B,Z',h1,h2,h3,h4⟩
  · subst h3
    exact ⟨[],⟨h,fun _ h=>by cases h⟩,hA'.at0⟩
  · refine ⟨[(g,5,B++dc l++Z')],⟨by rw [← show Z=its [(g,5,B++dc l++Z')] from h4]; exact h,fun r hr=>?_⟩,⟨hA'.os,hA'.tape,hA'.output,hA'.size,fun r hr=>?_,by simp,fun k hk _=>hA'.frame k hk⟩⟩
    · rw [List.mem_singleton] at hr
      subst hr
      exact hA'.new (row g 5 (B++dc l++Z')) (by rw [h4]; exact TF ..)
    · rw [List.mem_singleton] at hr
      subst hr
      exact hA'.items (row g 5 (B++dc l++Z')) (by rw [h4]; exact TF ..)
def txL (ts:List (List UInt8)) (i:Nat):List UInt8:=(ts[i]?).getD []
def dgL (width:Int) (ts:List (List UInt8)) (i:Nat):List UInt8:=gZ (sha (txL ts i)) width
def ClRes (width:Int) (ts:List (List UInt8)) (b:Bool) (t1 t2:List UInt8):Prop :=
  (b=false∧t1=[]∧t2=[]∧Bc (dgL width ts) (txL ts) ts.length)∨(b=true∧∃ i j,Qv (dgL width ts) (txL ts) i j∧j<ts.length∧t1=txL ts i∧t2=txL ts j)
theorem ClRes.one {width:Int} {ts:List (List UInt8)} {b b':Bool} {t1 t2 u1 u2:List UInt8} (h:ClRes width ts b t1 t2) (h':ClRes width ts b' u1 u2):b=b'∧t1=u1∧t2=u2:=by
  rcases h with ⟨rfl,rfl,rfl,hn⟩ | ⟨rfl,i,j,hc,hj,rfl,rfl⟩
  · rcases h' with ⟨rfl,rfl,rfl,_⟩ | ⟨rfl,i,j,hc,hj,rfl,rfl⟩
    · exact ⟨rfl,rfl,rfl⟩
    · exact absurd (hn i j (by have:=hc.1; omega) hj hc.2.1) hc.2.2.1
  · rcases h' with ⟨rfl,rfl,rfl,hn⟩ | ⟨rfl,i',j',hc',hj',rfl,rfl⟩
    · exact absurd (hn i j (by have:=hc.1; omega) hj hc.2.1) hc.2.2.1
    · obtain ⟨a1,a2,a3,a4,a5⟩:=hc
      obtain ⟨b1,b2,b3,b4,b5⟩:=hc'
      have ej:j=j':=by
        rcases Nat.lt_trichotomy j j' with h | h | h
        · exact absurd (b4 i j ag h a2) a3
        · exact h
        · exact absurd (a4 i' j' ag h b2) b3
      subst ej
      have ei:i=i':=by
        rcases Nat.lt_trichotomy i i' with h | h | h
        · exact absurd a2 (b5 i h)
        · exact h
        · exact absurd b2 (a5 i' h)
      subst ei
      exact ⟨rfl,rfl,rfl⟩
theorem ES {w0 w:World} {R:List Seg} {pa:Option Addr} {ps:List Piece} (h:PcS w0 R pa ps) (hq:Hq w0 R w):Pieces w pa ps:=by
  refine ⟨fun hne=>?_,fun A c l hm=>⟨(h.2 _ hm).1,(h.2 _ hm).2.bts hq⟩⟩
  obtain ⟨b,o,h1,h2⟩:=h.1 (by simpa using hne)
  refine ⟨b,o,h1,(h2 w hq).1,fun i A c l hi=>?_⟩
  have hlt:=(List.getElem?_eq_some_iff.1 hi).1
  rw [(h2 w hq).2 i (by rw [List.length_map]; exact hlt),List.getElem?_map,hi]
  rfl
end Go.Proofs.YtpomngkcfbnjoaaGreatDoor
namespace Go.Proofs.YtpomngkcfbnjoaaGreatDoor
open Go.RowKit Go.Dk
theorem PM:aG Tryz.prog 90:=⟨_,Tryz.func90,af,af⟩
theorem PL:aG Tryz.prog 91:=⟨_,Tryz.func91,af,af⟩
set_option maxRecDepth 100000 in
set_option maxHeartbeats 1000000 in
theorem JM (w0 w:World) (R G:List Seg) (hG:G⊆R) (dom:UInt8) (di:Int) (hdi:IntKind.u8.wrap di=(dom.toNat:Int)) (pa:Option Addr) (ps:List Piece) (c:Nat) (hP:PcS w0 G pa ps) (hl:(flat ps).length<140737488353000) (hnb:ps.length≤9223372036854775807) (hA:Hp w0 R w):Calls Tryz.prog 70 #[.int .i64 di,.slice pa ps.length c] w fun e w'=>∃ v Z,e= .returned v∧Buf 5 1 Z v (dom::flat ps).length (dc (dom::flat ps))∧Hp w0 (Z::R) w':=by
  refine aJ Tryz.func70 O Tryz.ntmps70 ai (fun a hF=>?_)
  refine wS hF fun K1 hK1=>vX O<|vE hK1 fun a hF=>?_
  refine wp_seq_k fun K2 hK2=>wp_region_lit ?_
  refine au O (fun K hK=>ax hF O ae PS rfl rfl ?_)
  with_reducible refine (RV w0 _ R hA).mono ?_
  rintro e' w1 ⟨g,Y,rfl,hY,hA2⟩
  refine ⟨_,rfl,fun a hF=>hK _ _ ?_⟩
  replace hA2:Hp w0 (Y::R) w1:=hA2
  refine vR hF<|vX O<|vE hK2<|wT fun K3 hK3=>vX O<|vX O<|vV O (fP O TP TA O hdi) fun a hF=>?_
  refine au O (fun K hK=>ax hF O ae PM rfl rfl ?_)
  with_reducible refine (AA w0 _ R g [] Y dom.toNat dom.toNat_lt _ O hY hA2 ae).mono ?_
  rintro e' w3 ⟨Y1,rfl,hY1,hA4⟩
  refine ⟨_,rfl,fun a hF=>hK _ _ ?_⟩
  replace hA4:Hp w0 (Y1::R) w3:=hA4
  replace hY1:WrS g [dom] Y1:=hY1.same (by simp [be])
  refine az<|hK3 _ _ ?_
  refine wS hF fun K4 hK4=>vX O<|vX O fun a hF=>?_
  refine au O (fun K hK=>ax hF O ae PL rfl rfl ?_)
  with_reducible refine (RU w0 _ R g [dom] Y1 pa ps c (hP.mono hG) hY1 hA4 (by have h0:mF ps=flat ps:=rfl; rw [h0]; simp only [List.length_cons,List.length_nil]; omega) hnb).mono ?_
  rintro e' w5 ⟨Y2,rfl,hY2,hA6⟩
  refine ⟨_,rfl,fun a hF=>hK _ _ ?_⟩
  replace hA6:Hp w0 (Y2::R) w5:=hA6
  replace hY2:WrS g (dom::flat ps) Y2:=hY2
  refine az<|hK4 _ _ ?_
  refine wS hF fun K5 hK5=>vX O fun a hF=>?_
  refine au O (fun K hK=>ax hF O ae PQ rfl rfl ?_)
  with_reducible refine (RX w0 _ R g (dom::flat ps) Y2 hY2 hA6 (by simp only [List.length_cons]; omega)).mono ?_
  rintro e' w7 ⟨v4,Z,Y3,rfl,hZ,_,hA8⟩
  refine ⟨_,rfl,fun a hF=>hK _ _ ?_⟩
  replace hA8:Hp w0 (Z::Y3::R) w7:=hA8
  refine vR hF<|vX O<|vE hK5 fun a hF=>?_
  apply wp_ret
  refine aO hF Tryz.results70 O ?_
  have hA9:Hp w0 (Z::R) w7:=hpS 2 [0] [1] hA8 rfl
  exact ⟨v4,Z,rfl,hZ,hA9⟩
theorem FV (ps:List Piece):flat ps=(ps.map (·.2.2)).flatten:=List.flatMap_def ..
theorem pz (w0 w:World) (R:List Seg) (width:Int) (X Y:List UInt8) (hX:X.length=32) (hY:Y.length=32) (hT:Tab w0) (hA:Hp w0 R w):Calls Tryz.prog 83 #[.int .i64 width,.agg (dc X).toArray,.agg (dc Y).toArray] w fun e w'=>e= .returned (.agg (dc (ofL width 4 (X++Y))).toArray)∧Hp w0 R w':=by
  refine (x9 w width X Y hX hY (hT.hp hA)).mono ?_
  rintro e w' ⟨rfl,hw⟩
  exact ⟨rfl,hA.then0 hw⟩
theorem wu (w0 w:World) (R:List Seg) (width:Int) (X Y:List UInt8) (hX:X.length=32) (hY:Y.length=32) (hA:Hp w0 R w):Calls Tryz.prog 66 #[.int .i64 width,.agg (dc X).toArray,.agg (dc Y).toArray] w fun e w'=>e= .returned (.agg (dc (ofL width 4 (X++Y))).toArray)∧Hp w0 R w':=by
  refine (uC w width X Y hX hY).mono ?_
  rintro e w' ⟨rfl,hw⟩
  exact ⟨rfl,hA.then0 hw⟩
theorem JO (w0 w:World) (R:List Seg) (width C:Int) (X Y:List UInt8) (hX:X.length=32) (hY:Y.length=32) (hT:Tab w0) (hA:Hp w0 R w):Calls Tryz.prog 61 #[.int .i64 width,.agg (dc X).toArray,.agg (.int .i64 C::dc Y).toArray] w fun e w'=>e= .returned (.agg (dc (ofL width 3 (X++be 8 (c64 C)++Y))).toArray)∧Hp w0 R w':=by
  refine (I8 w width C X Y hX hY (hT.hp hA)).mono ?_
  rintro e w' ⟨rfl,hw⟩
  exact ⟨rfl,hA.then0 hw⟩
theorem Ho (w0 w:World) (R:List Seg) (width C:Int) (X Y:List UInt8) (hX:X.length=32) (hY:Y.length=32) (hA:Hp w0 R w):Calls Tryz.prog 67 #[.int .i64 width,.agg (dc X).toArray,.agg (.int .i64 C::dc Y).toArray] w fun e w'=>e= .returned (.agg (dc (ofL width 3 (X++be 8 (c64 C)++Y))).toArray)∧Hp w0 R w':=by
  refine (EO w width C X Y hX hY).mono ?_
  rintro e w' ⟨rfl,hw⟩
  exact ⟨rfl,hA.then0 hw⟩
theorem JP (w0 w:World) (R:List Seg) (width h:Int) (hT:Tab w0) (hA:Hp w0 R w):Calls Tryz.prog 82 #[.int .i64 width,.int .i64 h] w fun e w'=>e= .returned (.agg (dc (aK width (min (max h 0) 256).toNat)).toArray)∧Hp w0 R w':=by
  refine (I9 w width h (hT.hp hA)).mono ?_
  rintro e w' ⟨rfl,hw⟩
  exact ⟨rfl,hA.then0 hw⟩
theorem zL (w0 w:World) (R:List Seg) (G:List Seg) (hG:G⊆R) (dom:UInt8) (di:Int) (hdi:IntKind.u8.wrap di=(dom.toNat:Int)) (pa:Option Addr) (ps:List Piece) (TS:List (List UInt8)) (c k:Nat) (hk:k=ps.length) (hTS:ps.map (·.2.2)=TS) (hP:PcS w0 G pa ps) (hl:TS.flatten.length<140737488353000) (hnb:k<9223372036854775807) (hA:Hp w0 R w):Calls Tryz.prog 70 #[.int .i64 di,.slice pa k c] w fun e w'=>∃ v Z,e= .returned v∧Buf 5 1 Z v (dom::TS.flatten).length (dc (dom::TS.flatten))∧Hp w0 (Z::R) w':=by
  subst hTS hk
  rw [← FV] at hl ⊢
  exact JM w0 w R G hG dom di hdi pa ps c hP hl ag hA
theorem wo (w0 w:World) (R:List Seg) (G:List Seg) (hG:G⊆R) (dom:UInt8) (di:Int) (hdi:IntKind.u8.wrap di=(dom.toNat:Int)) (pa:Option Addr) (ps:List Piece) (TS:List (List UInt8)) (c k:Nat) (hk:k=ps.length) (hTS:ps.map (·.2.2)=TS) (hP:PcS w0 G pa ps) (hl:TS.flatten.length<140737488353000) (hnb:k<9223372036854775807) (hA:Hp w0 R w):Calls Tryz.prog 47 #[.int .i64 di,.slice pa k c] w fun e w'=>∃ A2 c2 Z,e= .returned (.slice A2 (dom::TS.flatten).length c2)∧Rd w0 [Z] A2 (dom::TS.flatten)∧Hp w0 (Z::R) w':=by
  subst hTS
  rw [← FV] at hl ⊢
  refine (y5 w dom di hdi pa ps c k hk (ES (hP.mono hG) hA.q) hl hnb).mono ?_
  rintro e w' ⟨v,Y,rfl,hO,hw⟩
  have hm:Hp w0 (its Y::R) w':=hA.thenNew hw (fun r hr=>hO.new r hr)
  rcases hO.2 with ⟨h1,h2,h3⟩ | ⟨g2,c2,Z2,h1,h2,h3,h4,h5⟩
  · exact absurd h2 (Nat.succ_ne_zero _)
  · subst h5
    refine ⟨some ⟨g2,0,none⟩,c2,_,by rw [h1],?_,hm⟩
    exact Rc.ofRow (i:=0) (off:=0) rfl (by rw [List.drop_zero]; exact List.take_left' rfl)
end Go.Proofs.YtpomngkcfbnjoaaGreatDoor
