/- The document's own: an event as bytes. -/
import Derived.Test.YtepbmdlgdaedpaaGreatDoorR2
import Derived.Test.YtepbmdlgdaedpaaGreatDoorSt2
import Derived.Test.YtepbmdlgdaedpaaGreatDoorTwo
/- The document's own: an event as bytes. -/
namespace Go.Proofs.YtepbmdlgdaedpaaGreatDoor
open Go.RowKit Go.Dk
theorem ve:aO Tryz.prog 49:=⟨_,Tryz.func49,af,af⟩
theorem qG:aO Tryz.prog 114:=⟨_,Tryz.func114,af,af⟩
theorem zN:aO Tryz.prog 127:=⟨_,Tryz.func127,af,af⟩
theorem zM:aO Tryz.prog 128:=⟨_,Tryz.func128,af,af⟩
theorem IX {ea:EA} (h:((ay .lss (ea.op) (1)) || (ay .gtr (ea.op) (5)))=true):¬ fH ea.op:=by
 simp only [ay,Bool.or_eq_true,decide_eq_true_eq] at h
 unfold fH
 omega
theorem IW {ea:EA} (h:((ay .lss (ea.op) (1)) || (ay .gtr (ea.op) (5)))=false):fH ea.op:=by
 simp only [ay,Bool.or_eq_false_iff,decide_eq_false_iff_not] at h
 unfold fH
 omega
theorem Gl {ea:EA} {f:Fld} (h:bP ea.ev f=false):(!(bP ea.ev f))=true:=by rw [h]; rfl
theorem iT {ea:EA} {f:Fld} {k:Nat} (h:fH ea.op) (hf:f=dh ea.op) (hr:bV ea.ev f=k) (hk:k≠0):dS ea.ev=k:=by
 rw [xY h hf (by rw [hr]; exact hk),hr]
theorem len0 {α:Type} (l:List α):(ay .gtr (l.length:Int) 0) = !decide (l=[]):=by
 unfold ay
 cases l with
 | nil=>rfl
 | cons x l=>simp
theorem GK (l:List UInt8):aY .neq l [] = !decide (l=[]):=by
 unfold aY
 cases l <;> simp
theorem l7 {op:Int} (h:fH op):op=1∨op=2∨op=3∨op=4∨op=5:=by unfold fH at h; omega
theorem wu {ea:EA} (h:fH ea.op):((((((aY .neq ea.typ []) && (ay .gtr (ea.op) (2))) || ((ay .gtr (ea.src.length) (0)) && (ay .neq (ea.op) (1)))) || ((aY .neq ea.cas []) && ((ay .eql (ea.op) (1)) || (ay .eql (ea.op) (5))))) || (((aY .neq ea.nam []) && (ay .neq (ea.op) (3))) && (ay .neq (ea.op) (4)))) || (((!(ea.v.v.nothing)) && (ay .neq (ea.op) (3))) || ((ay .gtr (ea.args.length) (0)) && (ay .neq (ea.op) (4))))) = !bP ea.ev (dh ea.op):=by
 have e1:ea.ev.typ=ea.typ:=rfl
 have e2:ea.ev.cas=ea.cas:=rfl
 have e3:ea.ev.nam=ea.nam:=rfl
 have e4:ea.ev.v=ea.v.v:=rfl
 have e5:ea.ev.src=ea.src:=rfl
 have e6:decide (ea.ev.args=[])=decide (ea.args=[]):=by
  show decide (ea.args.map VA.v=[])=_
  simp only [List.map_eq_nil_iff]
 unfold bP
 rw [e1,e2,e3,e4,e5,e6]
 rw [GK,GK,GK,len0,len0]
 rcases l7 h with h | h | h | h | h <;> rw [h] <;> simp [ay,dh] <;> cases decide (ea.typ=[]) <;> cases decide (ea.cas=[]) <;> cases decide (ea.nam=[]) <;> cases decide (ea.src=[]) <;> cases decide (ea.args=[]) <;> cases ea.v.v.nothing <;> rfl
theorem Ji {ea:EA} (h:fH ea.op) (h2:(((((aY .neq ea.typ []) && (ay .gtr (ea.op) (2))) || ((ay .gtr (ea.src.length) (0)) && (ay .neq (ea.op) (1)))) || ((aY .neq ea.cas []) && ((ay .eql (ea.op) (1)) || (ay .eql (ea.op) (5))))) || (((aY .neq ea.nam []) && (ay .neq (ea.op) (3))) && (ay .neq (ea.op) (4))))=true):bP ea.ev (dh ea.op)=false:=by
 have:=wu h
 rw [h2,Bool.true_or] at this
 cases hs:bP ea.ev (dh ea.op) with
 | false=>rfl
 | true=>rw [hs] at this; cases this
theorem Jh {ea:EA} (h:fH ea.op) (h3:(((!(ea.v.v.nothing)) && (ay .neq (ea.op) (3))) || ((ay .gtr (ea.args.length) (0)) && (ay .neq (ea.op) (4))))=true):bP ea.ev (dh ea.op)=false:=by
 have:=wu h
 rw [h3,Bool.or_true] at this
 cases hs:bP ea.ev (dh ea.op) with
 | false=>rfl
 | true=>rw [hs] at this; cases this
theorem Jg {ea:EA} (h:fH ea.op) (h2:(((((aY .neq ea.typ []) && (ay .gtr (ea.op) (2))) || ((ay .gtr (ea.src.length) (0)) && (ay .neq (ea.op) (1)))) || ((aY .neq ea.cas []) && ((ay .eql (ea.op) (1)) || (ay .eql (ea.op) (5))))) || (((aY .neq ea.nam []) && (ay .neq (ea.op) (3))) && (ay .neq (ea.op) (4))))=false) (h3:(((!(ea.v.v.nothing)) && (ay .neq (ea.op) (3))) || ((ay .gtr (ea.args.length) (0)) && (ay .neq (ea.op) (4))))=false):bP ea.ev (dh ea.op)=true:=by
 have:=wu h
 rw [h2,h3] at this
 cases hs:bP ea.ev (dh ea.op) with
 | true=>rfl
 | false=>rw [hs] at this; cases this
theorem AB {ea:EA} (h:fH ea.op):((ay .geq (ea.op) (2)) && (ay .leq (ea.op) (4)))=(dh ea.op).cased:=by rcases l7 h with h | h | h | h | h <;> rw [h] <;> rfl
theorem Aw {ea:EA} (h:fH ea.op):(ay .leq (ea.op) (2))=(dh ea.op).typed:=by rcases l7 h with h | h | h | h | h <;> rw [h] <;> rfl
theorem AA {ea:EA} (_:fH ea.op):((ay .eql (ea.op) (3)) || (ay .eql (ea.op) (4)))=(dh ea.op).named:=by
 unfold ay dh
 rw [Bool.eq_iff_iff]
 simp
theorem Az {op:Int}:(ay .eql op 1)=(dh op).source:=by unfold ay dh; rw [Bool.eq_iff_iff]; simp
theorem Au {op:Int}:(ay .eql op 3)=(dh op).valued:=by unfold ay dh; rw [Bool.eq_iff_iff]; simp
theorem AC {op:Int}:(ay .eql op 4)=(dh op).args:=by unfold ay dh; rw [Bool.eq_iff_iff]; simp
theorem Gf {n:Nat} (h:ay .gtr (n:Int) 16=false):n≤16:=by simp [ay] at h; omega
theorem GL {n:Nat} (h:ay .gtr (n:Int) 60000=false):n≤60000:=by simp [ay] at h; omega
theorem II {n:Nat} (h:n≤60000):ay .gtr (n:Int) 60000=false:=fV ag
theorem Am {ea:EA} {f:Fld} (hsp:bP ea.ev f=true) (hb:f.valued=false):ea.v.v.right=0:=by
 unfold bP at hsp
 simp only [Bool.and_eq_true,Bool.or_eq_true,decide_eq_true_eq] at hsp
 obtain ⟨⟨⟨⟨⟨_,_⟩,_⟩,h⟩,_⟩,_⟩:=hsp
 rcases h with h | h
 ·rw [hb] at h; cases h
 ·have e:ea.v.v=fP:=oD h
  rw [e]; rfl
theorem vT {ea:EA} {f:Fld} (hsp:bP ea.ev f=true) (hb:f.args=false):dm (ea.args.map VA.v)=0:=by
 unfold bP at hsp
 simp only [Bool.and_eq_true,Bool.or_eq_true,decide_eq_true_eq] at hsp
 obtain ⟨⟨⟨⟨⟨_,_⟩,_⟩,_⟩,h⟩,_⟩:=hsp
 rcases h with h | h
 ·rw [hb] at h; cases h
 ·have e:ea.args.map VA.v=[]:=h
  rw [e]; rfl
theorem Ec {ea:EA} {f:Fld} (hsp:bP ea.ev f=true) (hs:f.source=true→ea.src.length≤60000):ea.src.length≤60000:=by
 unfold bP at hsp
 simp only [Bool.and_eq_true,Bool.or_eq_true,decide_eq_true_eq] at hsp
 obtain ⟨_,h⟩:=hsp
 rcases h with h | h
 ·exact hs h
 ·have e:ea.src=[]:=h
  rw [e]; exact JE _
theorem rM {ea:EA} {k:Nat} (hv:ea.v.v.right=0) (h:dm (ea.args.map VA.v)=k):dm (ea.v.v::ea.args.map VA.v)=k:=by rw [dm,if_pos hv,h]
theorem ql {ea:EA} {f:Fld} (hf:f=dh ea.op) (hb:f.source=true):f.valued=false∧f.args=false:=by
 subst hf
 have h1:ea.op=1:=by simpa [dh] using hb
 rw [h1]; exact ⟨rfl,rfl⟩
theorem ES {ea:EA} {f:Fld} (hf:f=dh ea.op) (hsp:bP ea.ev f=true) (hb:f.source=true):dm (ea.v.v::ea.args.map VA.v)=0 :=
 rM (Am hsp (ql hf hb).1) (vT hsp (ql hf hb).2)
theorem ER {ea:EA} {f:Fld} (_:f=dh ea.op) (_:bP ea.ev f=true) (_:f.valued=true) (hr:¬ ea.v.v.right=0):dm (ea.v.v::ea.args.map VA.v)=ea.v.v.right:=by rw [dm,if_neg hr]
theorem o5 (K n:Nat) (q:List UInt8):(be K n++q).length=K+q.length:=by rw [List.length_append,bf]
theorem Jn {n:Nat} (h:n≤255):IntKind.u8.wrap (n:Int)=((UInt8.ofNat n).toNat:Int):=by
 rw [IntKind.wrap_u8,UInt8.toNat_ofNat']
 omega
set_option maxRecDepth 100000 in
set_option maxHeartbeats 8000000 in
theorem yQ {w0:World} {R:List Seg} {G:List Seg} (ea:EA) (w:World) (hT:zY w0) (hV:ea.Ok w0 G) (hcas:ea.cas.length≤9223372036854775807) (hG:G⊆R) (hA:Hp w0 R w):Calls Tryz.prog 68 #[.agg ea.cells.toArray] w fun e w'=>∃ v Z,e= .returned (.tuple #[v,.int .i64 (dS ea.ev:Nat)])∧Buf 5 1 Z v (eQ ea.ev).length (dc (eQ ea.ev))∧Hp w0 (Z::R) w':=by
 have he32:ea.eff.length=32:=hV.i.2.2.2.2.2
 have hn:=hV.n
 have hsn:=hV.sn
 refine aN Tryz.func68 O Tryz.ntmps68 ai (fun a hF=>?_)
 refine wp_seq_k fun K1 hK1=>wp_region_lit ?_
 refine aI O (fun K hK=>dE (cs:=ea.cells) hF O ae rfl hA O (fun b1 w2 a hb1 hF hA3=>hK _ _ ?_))
 refine vR hF<|vX O<|vX O<|vE hK1<|wQ fun K2 hK2=>wT fun K3 hK3=>vV O (yf 0 O JQ O gU O)<|vV O (aV O hA3.q O 0 O O jW)<|vV O (aG O O O O O)<|vX O fun a hF=>?_
 refine aX (l2:=?lA1) hF [(17,.bool ((ay .lss (ea.op) (1)) || (ay .gtr (ea.op) (5)))),(0,.agg (ea.cells).toArray),(1,.pointer (some ⟨b1,0,none⟩)),(2,.slice none 0 0),(3,.int .i64 0)] (fun hJ1=>?elA1) (fun a hF=>?flA1)
 case elA1 =>
  rcases tf (ay .lss (ea.op) (1)) with hg1 | hg1
  ·refine aB hF O O O O (aj hg1) ae _ (yf 0 O JQ O gU O) (fun a hF=>?_)
   refine aB hF O O O O (aj hg1) ae _ (aV O hA3.q O 0 O O jW) (fun a hF=>?_)
   refine aB hF O O O O (aj hg1) ae _ (aG O O O O O) (fun a hF=>?_)
   refine vR hF<|vV O (aP hg1 rfl rfl rfl) fun a hF=>?_
   exact hJ1 _ ((hF.keep [17,0,1,2,3] (F':=[(17,_),(0,_),(1,_),(2,_),(3,_)]) O).bool (by rw [hg1]; rfl))
  ·refine au hF O O O O O (ax hg1) ae (fun a hF=>?_)
   refine au hF O O O O O (ax hg1) ae (fun a hF=>?_)
   refine au hF O O O O O (ax hg1) ae (fun a hF=>?_)
   refine vR hF<|vV O (aW hg1 rfl rfl rfl) fun a hF=>?_
   exact hJ1 _ ((hF.keep [17,0,1,2,3] (F':=[(17,_),(0,_),(1,_),(2,_),(3,_)]) O).bool (by rw [hg1]; rfl))
 refine aJ<|hK3 _ _ ?_
 rcases tf ((ay .lss (ea.op) (1)) || (ay .gtr (ea.op) (5))) with h1 | h1
 ·refine az hF O h1 ?_
  have hop:=IW h1
  obtain ⟨f,hf⟩:∃ f,f=dh ea.op:=⟨_,rfl⟩
  apply wp_skip
  refine hK2 _ _ ?_
  apply wp_seq_k; intro K4 hK4
  refine wS hF fun K5 hK5=>vV O (yf 3 O JQ O qQ O)<|vV O (aV O hA3.q O 0 O O rq)<|vV O (dL O O O O O)<|vX O fun a hF=>?_
  refine aX (l2:=?lA2) hF [(25,.bool ((aY .neq ea.typ []) && (ay .gtr (ea.op) (2)))),(0,.agg (ea.cells).toArray),(1,.pointer (some ⟨b1,0,none⟩)),(2,.slice none 0 0),(3,.int .i64 0),(17,.bool ((ay .lss (ea.op) (1)) || (ay .gtr (ea.op) (5))))] (fun hJ2=>?elA2) (fun a hF=>?flA2)
  case elA2 =>
   rcases tf (aY .neq ea.typ []) with hg2 | hg2
   ·refine au hF O O O O O (ax hg2) ae (fun a hF=>?_)
    refine au hF O O O O O (ax hg2) ae (fun a hF=>?_)
    refine au hF O O O O O (ax hg2) ae (fun a hF=>?_)
    refine vR hF<|vV O (aP hg2 rfl rfl rfl) fun a hF=>?_
    exact hJ2 _ ((hF.keep [25,0,1,2,3,17] (F':=[(25,_),(0,_),(1,_),(2,_),(3,_),(17,_)]) O).bool (by rw [hg2]; rfl))
   ·refine aB hF O O O O (aj hg2) ae _ (yf 0 O JQ O gU O) (fun a hF=>?_)
    refine aB hF O O O O (aj hg2) ae _ (aV O hA3.q O 0 O O jW) (fun a hF=>?_)
    refine aB hF O O O O (aj hg2) ae _ (aG O O O O O) (fun a hF=>?_)
    refine vR hF<|vV O (aW hg2 rfl rfl rfl) fun a hF=>?_
    exact hJ2 _ ((hF.keep [25,0,1,2,3,17] (F':=[(25,_),(0,_),(1,_),(2,_),(3,_),(17,_)]) O).bool (by rw [hg2]; rfl))
  refine vR hF<|vX O fun a hF=>?_
  refine aX (l2:=?lA3) hF [(36,.bool (((aY .neq ea.typ []) && (ay .gtr (ea.op) (2))) || ((ay .gtr (ea.src.length) (0)) && (ay .neq (ea.op) (1))))),(0,.agg (ea.cells).toArray),(1,.pointer (some ⟨b1,0,none⟩)),(2,.slice none 0 0),(3,.int .i64 0),(17,.bool ((ay .lss (ea.op) (1)) || (ay .gtr (ea.op) (5))))] (fun hJ3=>?elA3) (fun a hF=>?flA3)
  case elA3 =>
   rcases tf ((aY .neq ea.typ []) && (ay .gtr (ea.op) (2))) with hg3 | hg3
   ·refine aB hF O O O O (aj hg3) ae _ (yf 11 rfl JQ O dF O) (fun a hF=>?_)
    refine aB hF O O O O (aj hg3) ae _ (aV O hA3.q O 0 O O iK) (fun a hF=>?_)
    refine aB hF O O O O (aj hg3) ae _ (aT O JG O O) (fun a hF=>?_)
    refine aB hF O O O O (aj hg3) ae _ (aG O O O O O) (fun a hF=>?_)
    refine aB hF O O O O (aj hg3) ae _ (aZ O O) (fun a hF=>?_)
    refine aX (l2:=?lA4) hF [(35,.bool ((ay .gtr (ea.src.length) (0)) && (ay .neq (ea.op) (1)))),(0,.agg (ea.cells).toArray),(1,.pointer (some ⟨b1,0,none⟩)),(2,.slice none 0 0),(3,.int .i64 0),(17,.bool ((ay .lss (ea.op) (1)) || (ay .gtr (ea.op) (5)))),(26,.bool ((aY .neq ea.typ []) && (ay .gtr (ea.op) (2))))] (fun hJ4=>?elA4) (fun a hF=>?flA4)
    case elA4 =>
     rcases tf (ay .gtr (ea.src.length) (0)) with hg4 | hg4
     ·refine au hF O O O O O (ax hg4) ae (fun a hF=>?_)
      refine au hF O O O O O (ax hg4) ae (fun a hF=>?_)
      refine au hF O O O O O (ax hg4) ae (fun a hF=>?_)
      refine aB hF O O O O (aj hg3) ae _ (aP hg4 rfl rfl rfl) (fun a hF=>?_)
      exact hJ4 _ ((hF.keep [35,0,1,2,3,17,26] (F':=[(35,_),(0,_),(1,_),(2,_),(3,_),(17,_),(26,_)]) O).bool (by rw [hg4]; rfl))
     ·refine aB hF O O O O (aj hg4) ae _ (yf 0 O JQ O gU O) (fun a hF=>?_)
      refine aB hF O O O O (aj hg4) ae _ (aV O hA3.q O 0 O O jW) (fun a hF=>?_)
      refine aB hF O O O O (aj hg4) ae _ (aG O O O O O) (fun a hF=>?_)
      refine aB hF O O O O (aj hg3) ae _ (aW hg4 rfl rfl rfl) (fun a hF=>?_)
      exact hJ4 _ ((hF.keep [35,0,1,2,3,17,26] (F':=[(35,_),(0,_),(1,_),(2,_),(3,_),(17,_),(26,_)]) O).bool (by rw [hg4]; rfl))
    refine vR hF<|vV O (aP hg3 rfl rfl rfl) fun a hF=>?_
    exact hJ3 _ ((hF.keep [36,0,1,2,3,17] (F':=[(36,_),(0,_),(1,_),(2,_),(3,_),(17,_)]) O).bool (by rw [hg3]; rfl))
   ·refine au hF O O O O O (ax hg3) ae (fun a hF=>?_)
    refine au hF O O O O O (ax hg3) ae (fun a hF=>?_)
    refine au hF O O O O O (ax hg3) ae (fun a hF=>?_)
    refine au hF O O O O O (ax hg3) ae (fun a hF=>?_)
    refine au hF O O O O O (ax hg3) ae (fun a hF=>?_)
    refine aU hF O O O O O ae (fun a hF=>?_)
    refine aU hF O O O O O ae (fun a hF=>?_)
    refine aU hF O O O O O ae (fun a hF=>?_)
    refine au hF O O O O O (ax hg3) ae (fun a hF=>?_)
    refine vR hF<|vV O (aW hg3 rfl rfl rfl) fun a hF=>?_
    exact hJ3 _ ((hF.keep [36,0,1,2,3,17] (F':=[(36,_),(0,_),(1,_),(2,_),(3,_),(17,_)]) O).bool (by rw [hg3]; rfl))
  refine vR hF<|vX O fun a hF=>?_
  refine aX (l2:=?lA5) hF [(51,.bool ((((aY .neq ea.typ []) && (ay .gtr (ea.op) (2))) || ((ay .gtr (ea.src.length) (0)) && (ay .neq (ea.op) (1)))) || ((aY .neq ea.cas []) && ((ay .eql (ea.op) (1)) || (ay .eql (ea.op) (5)))))),(0,.agg (ea.cells).toArray),(1,.pointer (some ⟨b1,0,none⟩)),(2,.slice none 0 0),(3,.int .i64 0),(17,.bool ((ay .lss (ea.op) (1)) || (ay .gtr (ea.op) (5))))] (fun hJ5=>?elA5) (fun a hF=>?flA5)
  case elA5 =>
   rcases tf (((aY .neq ea.typ []) && (ay .gtr (ea.op) (2))) || ((ay .gtr (ea.src.length) (0)) && (ay .neq (ea.op) (1)))) with hg5 | hg5
   ·refine aB hF O O O O (aj hg5) ae _ (yf 4 O JQ O qQ O) (fun a hF=>?_)
    refine aB hF O O O O (aj hg5) ae _ (aV O hA3.q O 0 O O rq) (fun a hF=>?_)
    refine aB hF O O O O (aj hg5) ae _ (dL O O O O O) (fun a hF=>?_)
    refine aB hF O O O O (aj hg5) ae _ (aZ O O) (fun a hF=>?_)
    refine aX (l2:=?lA6) hF [(50,.bool ((aY .neq ea.cas []) && ((ay .eql (ea.op) (1)) || (ay .eql (ea.op) (5))))),(0,.agg (ea.cells).toArray),(1,.pointer (some ⟨b1,0,none⟩)),(2,.slice none 0 0),(3,.int .i64 0),(17,.bool ((ay .lss (ea.op) (1)) || (ay .gtr (ea.op) (5)))),(37,.bool (((aY .neq ea.typ []) && (ay .gtr (ea.op) (2))) || ((ay .gtr (ea.src.length) (0)) && (ay .neq (ea.op) (1)))))] (fun hJ6=>?elA6) (fun a hF=>?flA6)
    case elA6 =>
     rcases tf (aY .neq ea.cas []) with hg6 | hg6
     ·refine au hF O O O O O (ax hg6) ae (fun a hF=>?_)
      refine au hF O O O O O (ax hg6) ae (fun a hF=>?_)
      refine au hF O O O O O (ax hg6) ae (fun a hF=>?_)
      refine au hF O O O O O (ax hg6) ae (fun a hF=>?_)
      refine aU hF O O O O O ae (fun a hF=>?_)
      refine aU hF O O O O O ae (fun a hF=>?_)
      refine aU hF O O O O O ae (fun a hF=>?_)
      refine au hF O O O O O (ax hg6) ae (fun a hF=>?_)
      refine aB hF O O O O (aj hg5) ae _ (aP hg6 rfl rfl rfl) (fun a hF=>?_)
      exact hJ6 _ ((hF.keep [50,0,1,2,3,17,37] (F':=[(50,_),(0,_),(1,_),(2,_),(3,_),(17,_),(37,_)]) O).bool (by rw [hg6]; rfl))
     ·refine aB hF O O O O (aj hg6) ae _ (yf 0 O JQ O gU O) (fun a hF=>?_)
      refine aB hF O O O O (aj hg6) ae _ (aV O hA3.q O 0 O O jW) (fun a hF=>?_)
      refine aB hF O O O O (aj hg6) ae _ (aG O O O O O) (fun a hF=>?_)
      refine aB hF O O O O (aj hg6) ae _ (aZ O O) (fun a hF=>?_)
      refine aX (l2:=?lA7) hF [(49,.bool ((ay .eql (ea.op) (1)) || (ay .eql (ea.op) (5)))),(0,.agg (ea.cells).toArray),(1,.pointer (some ⟨b1,0,none⟩)),(2,.slice none 0 0),(3,.int .i64 0),(17,.bool ((ay .lss (ea.op) (1)) || (ay .gtr (ea.op) (5)))),(37,.bool (((aY .neq ea.typ []) && (ay .gtr (ea.op) (2))) || ((ay .gtr (ea.src.length) (0)) && (ay .neq (ea.op) (1))))),(41,.bool (aY .neq ea.cas []))] (fun hJ7=>?elA7) (fun a hF=>?flA7)
      case elA7 =>
       rcases tf (ay .eql (ea.op) (1)) with hg7 | hg7
       ·refine aB hF O O O O (aj hg7) ae _ (yf 0 O JQ O gU O) (fun a hF=>?_)
        refine aB hF O O O O (aj hg7) ae _ (aV O hA3.q O 0 O O jW) (fun a hF=>?_)
        refine aB hF O O O O (aj hg7) ae _ (aG O O O O O) (fun a hF=>?_)
        refine aB hF O O O O (aj hg6) ae _ (aP hg7 rfl rfl rfl) (fun a hF=>?_)
        exact hJ7 _ ((hF.keep [49,0,1,2,3,17,37,41] (F':=[(49,_),(0,_),(1,_),(2,_),(3,_),(17,_),(37,_),(41,_)]) O).bool (by rw [hg7]; rfl))
       ·refine au hF O O O O O (ax hg7) ae (fun a hF=>?_)
        refine au hF O O O O O (ax hg7) ae (fun a hF=>?_)
        refine au hF O O O O O (ax hg7) ae (fun a hF=>?_)
        refine aB hF O O O O (aj hg6) ae _ (aW hg7 rfl rfl rfl) (fun a hF=>?_)
        exact hJ7 _ ((hF.keep [49,0,1,2,3,17,37,41] (F':=[(49,_),(0,_),(1,_),(2,_),(3,_),(17,_),(37,_),(41,_)]) O).bool (by rw [hg7]; rfl))
      refine aB hF O O O O (aj hg5) ae _ (aW hg6 rfl rfl rfl) (fun a hF=>?_)
      exact hJ6 _ ((hF.keep [50,0,1,2,3,17,37] (F':=[(50,_),(0,_),(1,_),(2,_),(3,_),(17,_),(37,_)]) O).bool (by rw [hg6]; rfl))
    refine vR hF<|vV O (aP hg5 rfl rfl rfl) fun a hF=>?_
    exact hJ5 _ ((hF.keep [51,0,1,2,3,17] (F':=[(51,_),(0,_),(1,_),(2,_),(3,_),(17,_)]) O).bool (by rw [hg5]; rfl))
   ·refine au hF O O O O O (ax hg5) ae (fun a hF=>?_)
    refine au hF O O O O O (ax hg5) ae (fun a hF=>?_)
    refine au hF O O O O O (ax hg5) ae (fun a hF=>?_)
    refine au hF O O O O O (ax hg5) ae (fun a hF=>?_)
    refine aU hF O O O O O ae (fun a hF=>?_)
    refine aU hF O O O O O ae (fun a hF=>?_)
    refine aU hF O O O O O ae (fun a hF=>?_)
    refine aU hF O O O O O ae (fun a hF=>?_)
    refine aU hF O O O O O ae (fun a hF=>?_)
    refine aU hF O O O O O ae (fun a hF=>?_)
    refine aU hF O O O O O ae (fun a hF=>?_)
    refine aU hF O O O O O ae (fun a hF=>?_)
    refine au hF O O O O O (ax hg5) ae (fun a hF=>?_)
    refine vR hF<|vV O (aW hg5 rfl rfl rfl) fun a hF=>?_
    exact hJ5 _ ((hF.keep [51,0,1,2,3,17] (F':=[(51,_),(0,_),(1,_),(2,_),(3,_),(17,_)]) O).bool (by rw [hg5]; rfl))
  refine vR hF<|vX O fun a hF=>?_
  refine aX (l2:=?lA8) hF [(66,.bool (((((aY .neq ea.typ []) && (ay .gtr (ea.op) (2))) || ((ay .gtr (ea.src.length) (0)) && (ay .neq (ea.op) (1)))) || ((aY .neq ea.cas []) && ((ay .eql (ea.op) (1)) || (ay .eql (ea.op) (5))))) || (((aY .neq ea.nam []) && (ay .neq (ea.op) (3))) && (ay .neq (ea.op) (4))))),(0,.agg (ea.cells).toArray),(1,.pointer (some ⟨b1,0,none⟩)),(2,.slice none 0 0),(3,.int .i64 0),(17,.bool ((ay .lss (ea.op) (1)) || (ay .gtr (ea.op) (5))))] (fun hJ8=>?elA8) (fun a hF=>?flA8)
  case elA8 =>
   rcases tf ((((aY .neq ea.typ []) && (ay .gtr (ea.op) (2))) || ((ay .gtr (ea.src.length) (0)) && (ay .neq (ea.op) (1)))) || ((aY .neq ea.cas []) && ((ay .eql (ea.op) (1)) || (ay .eql (ea.op) (5))))) with hg8 | hg8
   ·refine aB hF O O O O (aj hg8) ae _ (yf 5 O JQ O qQ O) (fun a hF=>?_)
    refine aB hF O O O O (aj hg8) ae _ (aV O hA3.q O 0 O O rq) (fun a hF=>?_)
    refine aB hF O O O O (aj hg8) ae _ (dL O O O O O) (fun a hF=>?_)
    refine aB hF O O O O (aj hg8) ae _ (aZ O O) (fun a hF=>?_)
    refine aX (l2:=?lA9) hF [(60,.bool ((aY .neq ea.nam []) && (ay .neq (ea.op) (3)))),(0,.agg (ea.cells).toArray),(1,.pointer (some ⟨b1,0,none⟩)),(2,.slice none 0 0),(3,.int .i64 0),(17,.bool ((ay .lss (ea.op) (1)) || (ay .gtr (ea.op) (5)))),(52,.bool ((((aY .neq ea.typ []) && (ay .gtr (ea.op) (2))) || ((ay .gtr (ea.src.length) (0)) && (ay .neq (ea.op) (1)))) || ((aY .neq ea.cas []) && ((ay .eql (ea.op) (1)) || (ay .eql (ea.op) (5))))))] (fun hJ9=>?elA9) (fun a hF=>?flA9)
    case elA9 =>
     rcases tf (aY .neq ea.nam []) with hg9 | hg9
     ·refine au hF O O O O O (ax hg9) ae (fun a hF=>?_)
      refine au hF O O O O O (ax hg9) ae (fun a hF=>?_)
      refine au hF O O O O O (ax hg9) ae (fun a hF=>?_)
      refine aB hF O O O O (aj hg8) ae _ (aP hg9 rfl rfl rfl) (fun a hF=>?_)
      exact hJ9 _ ((hF.keep [60,0,1,2,3,17,52] (F':=[(60,_),(0,_),(1,_),(2,_),(3,_),(17,_),(52,_)]) O).bool (by rw [hg9]; rfl))
     ·refine aB hF O O O O (aj hg9) ae _ (yf 0 O JQ O gU O) (fun a hF=>?_)
      refine aB hF O O O O (aj hg9) ae _ (aV O hA3.q O 0 O O jW) (fun a hF=>?_)
      refine aB hF O O O O (aj hg9) ae _ (aG O O O O O) (fun a hF=>?_)
      refine aB hF O O O O (aj hg8) ae _ (aW hg9 rfl rfl rfl) (fun a hF=>?_)
      exact hJ9 _ ((hF.keep [60,0,1,2,3,17,52] (F':=[(60,_),(0,_),(1,_),(2,_),(3,_),(17,_),(52,_)]) O).bool (by rw [hg9]; rfl))
    refine aB hF O O O O (aj hg8) ae _ (aZ O O) (fun a hF=>?_)
    refine aX (l2:=?lA10) hF [(65,.bool (((aY .neq ea.nam []) && (ay .neq (ea.op) (3))) && (ay .neq (ea.op) (4)))),(0,.agg (ea.cells).toArray),(1,.pointer (some ⟨b1,0,none⟩)),(2,.slice none 0 0),(3,.int .i64 0),(17,.bool ((ay .lss (ea.op) (1)) || (ay .gtr (ea.op) (5)))),(52,.bool ((((aY .neq ea.typ []) && (ay .gtr (ea.op) (2))) || ((ay .gtr (ea.src.length) (0)) && (ay .neq (ea.op) (1)))) || ((aY .neq ea.cas []) && ((ay .eql (ea.op) (1)) || (ay .eql (ea.op) (5))))))] (fun hJ10=>?elA10) (fun a hF=>?flA10)
    case elA10 =>
     rcases tf ((aY .neq ea.nam []) && (ay .neq (ea.op) (3))) with hg10 | hg10
     ·refine au hF O O O O O (ax hg10) ae (fun a hF=>?_)
      refine au hF O O O O O (ax hg10) ae (fun a hF=>?_)
      refine au hF O O O O O (ax hg10) ae (fun a hF=>?_)
      refine aB hF O O O O (aj hg8) ae _ (aP hg10 rfl rfl rfl) (fun a hF=>?_)
      exact hJ10 _ ((hF.keep [65,0,1,2,3,17,52] (F':=[(65,_),(0,_),(1,_),(2,_),(3,_),(17,_),(52,_)]) O).bool (by rw [hg10]; rfl))
     ·refine aB hF O O O O (aj hg10) ae _ (yf 0 O JQ O gU O) (fun a hF=>?_)
      refine aB hF O O O O (aj hg10) ae _ (aV O hA3.q O 0 O O jW) (fun a hF=>?_)
      refine aB hF O O O O (aj hg10) ae _ (aG O O O O O) (fun a hF=>?_)
      refine aB hF O O O O (aj hg8) ae _ (aW hg10 rfl rfl rfl) (fun a hF=>?_)
      exact hJ10 _ ((hF.keep [65,0,1,2,3,17,52] (F':=[(65,_),(0,_),(1,_),(2,_),(3,_),(17,_),(52,_)]) O).bool (by rw [hg10]; rfl))
    refine vR hF<|vV O (aP hg8 rfl rfl rfl) fun a hF=>?_
    exact hJ8 _ ((hF.keep [66,0,1,2,3,17] (F':=[(66,_),(0,_),(1,_),(2,_),(3,_),(17,_)]) O).bool (by rw [hg8]; rfl))
   ·refine au hF O O O O O (ax hg8) ae (fun a hF=>?_)
    refine au hF O O O O O (ax hg8) ae (fun a hF=>?_)
    refine au hF O O O O O (ax hg8) ae (fun a hF=>?_)
    refine au hF O O O O O (ax hg8) ae (fun a hF=>?_)
    refine aU hF O O O O O ae (fun a hF=>?_)
    refine aU hF O O O O O ae (fun a hF=>?_)
    refine aU hF O O O O O ae (fun a hF=>?_)
    refine au hF O O O O O (ax hg8) ae (fun a hF=>?_)
    refine au hF O O O O O (ax hg8) ae (fun a hF=>?_)
    refine aU hF O O O O O ae (fun a hF=>?_)
    refine aU hF O O O O O ae (fun a hF=>?_)
    refine aU hF O O O O O ae (fun a hF=>?_)
    refine au hF O O O O O (ax hg8) ae (fun a hF=>?_)
    refine vR hF<|vV O (aW hg8 rfl rfl rfl) fun a hF=>?_
    exact hJ8 _ ((hF.keep [66,0,1,2,3,17] (F':=[(66,_),(0,_),(1,_),(2,_),(3,_),(17,_)]) O).bool (by rw [hg8]; rfl))
  refine aJ<|hK5 _ _ ?_
  rcases tf (((((aY .neq ea.typ []) && (ay .gtr (ea.op) (2))) || ((ay .gtr (ea.src.length) (0)) && (ay .neq (ea.op) (1)))) || ((aY .neq ea.cas []) && ((ay .eql (ea.op) (1)) || (ay .eql (ea.op) (5))))) || (((aY .neq ea.nam []) && (ay .neq (ea.op) (3))) && (ay .neq (ea.op) (4)))) with h2 | h2
  ·refine az hF O h2 ?_
   apply wp_skip
   refine hK4 _ _ ?_
   apply wp_seq_k; intro K6 hK6
   refine wS hF fun K7 hK7=>vV O (yf 6 O JQ O kZ O)<|vV O (bQ (new:=[.int .i64 ea.v.v.k,.int .i64 ea.v.v.n,ak ea.v.v.t,.slice ea.v.sA ea.v.v.s.length ea.v.sC]) O hA3.q O 0 O Ef (by rw [List.length_append]; exact Nat.le_add_right_of_le ai) rfl) fun a hF=>?_
   refine aI O (fun K hK=>aH hF O ae zN rfl rfl ?_)
   with_reducible refine (ww ea.v _ hV.v hA3).mono ?_
   rintro e' w4 ⟨rfl,hA5⟩
   refine ⟨_,rfl,fun a hF=>hK _ _ ?_⟩
   replace hA5:Hp w0 ([row b1 31 ([.int .i64 ea.op,.int .i64 ea.num,.int .i64 ea.clk,ak ea.typ,ak ea.cas,ak ea.nam,.int .i64 ea.v.v.k,.int .i64 ea.v.v.n,ak ea.v.v.t,.slice ea.v.sA ea.v.v.s.length ea.v.sC,.slice ea.aA ea.args.length ea.aC,.slice ea.bA ea.src.length ea.bC]++dc ea.eff)]::R) w4:=hA5
   refine vR hF<|vV O (cZ O O O)<|vX O fun a hF=>?_
   refine aX (l2:=?lA11) hF [(75,.bool ((!(ea.v.v.nothing)) && (ay .neq (ea.op) (3)))),(0,.agg (ea.cells).toArray),(1,.pointer (some ⟨b1,0,none⟩)),(2,.slice none 0 0),(3,.int .i64 0),(17,.bool ((ay .lss (ea.op) (1)) || (ay .gtr (ea.op) (5)))),(66,.bool (((((aY .neq ea.typ []) && (ay .gtr (ea.op) (2))) || ((ay .gtr (ea.src.length) (0)) && (ay .neq (ea.op) (1)))) || ((aY .neq ea.cas []) && ((ay .eql (ea.op) (1)) || (ay .eql (ea.op) (5))))) || (((aY .neq ea.nam []) && (ay .neq (ea.op) (3))) && (ay .neq (ea.op) (4)))))] (fun hJ11=>?elA11) (fun a hF=>?flA11)
   case elA11 =>
    rcases tf (!(ea.v.v.nothing)) with hg11 | hg11
    ·refine au hF O O O O O (ax hg11) ae (fun a hF=>?_)
     refine au hF O O O O O (ax hg11) ae (fun a hF=>?_)
     refine au hF O O O O O (ax hg11) ae (fun a hF=>?_)
     refine vR hF<|vV O (aP hg11 rfl rfl rfl) fun a hF=>?_
     exact hJ11 _ ((hF.keep [75,0,1,2,3,17,66] (F':=[(75,_),(0,_),(1,_),(2,_),(3,_),(17,_),(66,_)]) O).bool (by rw [hg11]; rfl))
    ·refine aB hF O O O O (aj hg11) ae _ (yf 0 O JQ O gU O) (fun a hF=>?_)
     refine aB hF O O O O (aj hg11) ae _ (aV O hA5.q O 0 O O jW) (fun a hF=>?_)
     refine aB hF O O O O (aj hg11) ae _ (aG O O O O O) (fun a hF=>?_)
     refine vR hF<|vV O (aW hg11 rfl rfl rfl) fun a hF=>?_
     exact hJ11 _ ((hF.keep [75,0,1,2,3,17,66] (F':=[(75,_),(0,_),(1,_),(2,_),(3,_),(17,_),(66,_)]) O).bool (by rw [hg11]; rfl))
   refine vR hF<|vX O fun a hF=>?_
   refine aX (l2:=?lA12) hF [(86,.bool (((!(ea.v.v.nothing)) && (ay .neq (ea.op) (3))) || ((ay .gtr (ea.args.length) (0)) && (ay .neq (ea.op) (4))))),(0,.agg (ea.cells).toArray),(1,.pointer (some ⟨b1,0,none⟩)),(2,.slice none 0 0),(3,.int .i64 0),(17,.bool ((ay .lss (ea.op) (1)) || (ay .gtr (ea.op) (5)))),(66,.bool (((((aY .neq ea.typ []) && (ay .gtr (ea.op) (2))) || ((ay .gtr (ea.src.length) (0)) && (ay .neq (ea.op) (1)))) || ((aY .neq ea.cas []) && ((ay .eql (ea.op) (1)) || (ay .eql (ea.op) (5))))) || (((aY .neq ea.nam []) && (ay .neq (ea.op) (3))) && (ay .neq (ea.op) (4)))))] (fun hJ12=>?elA12) (fun a hF=>?flA12)
   case elA12 =>
    rcases tf ((!(ea.v.v.nothing)) && (ay .neq (ea.op) (3))) with hg12 | hg12
    ·refine aB hF O O O O (aj hg12) ae _ (yf 10 rfl JQ O qU O) (fun a hF=>?_)
     refine aB hF O O O O (aj hg12) ae _ (aV O hA5.q O 0 O O ry) (fun a hF=>?_)
     refine aB hF O O O O (aj hg12) ae _ (aT O JS O O) (fun a hF=>?_)
     refine aB hF O O O O (aj hg12) ae _ (aG O O O O O) (fun a hF=>?_)
     refine aB hF O O O O (aj hg12) ae _ (aZ O O) (fun a hF=>?_)
     refine aX (l2:=?lA13) hF [(85,.bool ((ay .gtr (ea.args.length) (0)) && (ay .neq (ea.op) (4)))),(0,.agg (ea.cells).toArray),(1,.pointer (some ⟨b1,0,none⟩)),(2,.slice none 0 0),(3,.int .i64 0),(17,.bool ((ay .lss (ea.op) (1)) || (ay .gtr (ea.op) (5)))),(66,.bool (((((aY .neq ea.typ []) && (ay .gtr (ea.op) (2))) || ((ay .gtr (ea.src.length) (0)) && (ay .neq (ea.op) (1)))) || ((aY .neq ea.cas []) && ((ay .eql (ea.op) (1)) || (ay .eql (ea.op) (5))))) || (((aY .neq ea.nam []) && (ay .neq (ea.op) (3))) && (ay .neq (ea.op) (4))))),(76,.bool ((!(ea.v.v.nothing)) && (ay .neq (ea.op) (3))))] (fun hJ13=>?elA13) (fun a hF=>?flA13)
     case elA13 =>
      rcases tf (ay .gtr (ea.args.length) (0)) with hg13 | hg13
      ·refine au hF O O O O O (ax hg13) ae (fun a hF=>?_)
       refine au hF O O O O O (ax hg13) ae (fun a hF=>?_)
       refine au hF O O O O O (ax hg13) ae (fun a hF=>?_)
       refine aB hF O O O O (aj hg12) ae _ (aP hg13 rfl rfl rfl) (fun a hF=>?_)
       exact hJ13 _ ((hF.keep [85,0,1,2,3,17,66,76] (F':=[(85,_),(0,_),(1,_),(2,_),(3,_),(17,_),(66,_),(76,_)]) O).bool (by rw [hg13]; rfl))
      ·refine aB hF O O O O (aj hg13) ae _ (yf 0 O JQ O gU O) (fun a hF=>?_)
       refine aB hF O O O O (aj hg13) ae _ (aV O hA5.q O 0 O O jW) (fun a hF=>?_)
       refine aB hF O O O O (aj hg13) ae _ (aG O O O O O) (fun a hF=>?_)
       refine aB hF O O O O (aj hg12) ae _ (aW hg13 rfl rfl rfl) (fun a hF=>?_)
       exact hJ13 _ ((hF.keep [85,0,1,2,3,17,66,76] (F':=[(85,_),(0,_),(1,_),(2,_),(3,_),(17,_),(66,_),(76,_)]) O).bool (by rw [hg13]; rfl))
     refine vR hF<|vV O (aP hg12 rfl rfl rfl) fun a hF=>?_
     exact hJ12 _ ((hF.keep [86,0,1,2,3,17,66] (F':=[(86,_),(0,_),(1,_),(2,_),(3,_),(17,_),(66,_)]) O).bool (by rw [hg12]; rfl))
    ·refine au hF O O O O O (ax hg12) ae (fun a hF=>?_)
     refine au hF O O O O O (ax hg12) ae (fun a hF=>?_)
     refine au hF O O O O O (ax hg12) ae (fun a hF=>?_)
     refine au hF O O O O O (ax hg12) ae (fun a hF=>?_)
     refine au hF O O O O O (ax hg12) ae (fun a hF=>?_)
     refine aU hF O O O O O ae (fun a hF=>?_)
     refine aU hF O O O O O ae (fun a hF=>?_)
     refine aU hF O O O O O ae (fun a hF=>?_)
     refine au hF O O O O O (ax hg12) ae (fun a hF=>?_)
     refine vR hF<|vV O (aW hg12 rfl rfl rfl) fun a hF=>?_
     exact hJ12 _ ((hF.keep [86,0,1,2,3,17,66] (F':=[(86,_),(0,_),(1,_),(2,_),(3,_),(17,_),(66,_)]) O).bool (by rw [hg12]; rfl))
   refine aJ<|hK7 _ _ ?_
   rcases tf (((!(ea.v.v.nothing)) && (ay .neq (ea.op) (3))) || ((ay .gtr (ea.args.length) (0)) && (ay .neq (ea.op) (4)))) with h3 | h3
   ·refine az hF O h3 ?_
    have hsp:bP ea.ev f=true:=by rw [hf]; exact Jg hop h2 h3
    have h0:(!(bP ea.ev f))=false:=by rw [hsp]; rfl
    have hop1:1≤ea.op∧ea.op≤5:=hop
    apply wp_skip
    refine hK6 _ _ ?_
    apply wp_seq_k; intro K8 hK8
    have hJ:∀ (a:Act) (x:World) (v4:Value) (X4:Seg),Buf 5 1 X4 v4 (be 1 ea.op.toNat++be 8 (u64 ea.num)).length (dc (be 1 ea.op.toNat++be 8 (u64 ea.num)))→Fr 237 [(1,.pointer (some ⟨b1,0,none⟩)),(4,v4)] a→Hp w0 (X4::[row b1 31 ([.int .i64 ea.op,.int .i64 ea.num,.int .i64 ea.clk,ak ea.typ,ak ea.cas,ak ea.nam,.int .i64 ea.v.v.k,.int .i64 ea.v.v.n,ak ea.v.v.t,.slice ea.v.sA ea.v.v.s.length ea.v.sC,.slice ea.aA ea.args.length ea.aC,.slice ea.bA ea.src.length ea.bC]++dc ea.eff)]::R) x→K8 a x:=by
     clear hF
     intro a x v4 X4 hB4 hF hA
     refine hK8 _ _ ?_
     refine wS hF fun K9 hK9=>vX O<|vV O (yf 2 O JQ O gU O)<|vV O (aV O hA.q O 1 O O jW) fun a hF=>?_
     refine aI O (fun K hK=>aH hF O ae zQ rfl rfl ?_)
     with_reducible refine (gI ea.clk 8 8 _ O ae hA).mono ?_
     rintro e' w6 ⟨vN2,ZN2,rfl,hN2,hA7⟩
     refine ⟨_,rfl,fun a hF=>hK _ _ ?_⟩
     replace hA7:Hp w0 (ZN2::X4::[row b1 31 ([.int .i64 ea.op,.int .i64 ea.num,.int .i64 ea.clk,ak ea.typ,ak ea.cas,ak ea.nam,.int .i64 ea.v.v.k,.int .i64 ea.v.v.n,ak ea.v.v.t,.slice ea.v.sA ea.v.v.s.length ea.v.sC,.slice ea.aA ea.args.length ea.aC,.slice ea.bA ea.src.length ea.bC]++dc ea.eff)]::R) w6:=hA7
     obtain ⟨_,AN2,cN2,rfl,hcN2,hRN2⟩:=hN2.rd (w0:=w0) (R:=[ZN2]) (JI ..)
     refine aI O (fun K hK=>bF hF O ae rfl hA7 1 O hB4 JG bW rfl rfl (Rc.src hRN2 (Hq.sub hA7.q (List.cons_subset.2 ⟨((JI ..)),List.nil_subset _⟩)) JG) (by simp only [List.length_append,bf]; decide) ae (fun v5 X5 w8 a hB5 hF hA9=>hK _ _ ?_))
     replace hA9:Hp w0 (ZN2::X5::[row b1 31 ([.int .i64 ea.op,.int .i64 ea.num,.int .i64 ea.clk,ak ea.typ,ak ea.cas,ak ea.nam,.int .i64 ea.v.v.k,.int .i64 ea.v.v.n,ak ea.v.v.t,.slice ea.v.sA ea.v.v.s.length ea.v.sC,.slice ea.aA ea.args.length ea.aC,.slice ea.bA ea.src.length ea.bC]++dc ea.eff)]::R) w8:=hA9
     replace hB5:Buf 5 1 X5 v5 ((be 1 ea.op.toNat++be 8 (u64 ea.num))++be 8 (u64 ea.clk)).length (dc ((be 1 ea.op.toNat++be 8 (u64 ea.num))++be 8 (u64 ea.clk))):=by rw [List.length_append,bT]; exact hB5
     refine vR hF<|vX O<|vE hK9<|wQ fun K10 hK10=>wT fun K11 hK11=>vV O (yf 0 O JQ O gU O)<|vV O (aV O hA9.q O 2 O O jW)<|vV O (aG O O O O O)<|vX O fun a hF=>?_
     refine aX (l2:=?lA14) hF [(107,.bool ((ay .geq (ea.op) (2)) && (ay .leq (ea.op) (4)))),(1,.pointer (some ⟨b1,0,none⟩)),(4,v5),(95,v4),(96,.pointer (some ⟨b1,2,none⟩)),(97,.int .i64 ea.clk),(98,.slice AN2 ((be 8 (u64 ea.clk)).length) cN2),(99,v5)] (fun hJ14=>?elA14) (fun a hF=>?flA14)
     case elA14 =>
      rcases tf (ay .geq (ea.op) (2)) with hg14 | hg14
      ·refine au hF O O O O O (ax hg14) ae (fun a hF=>?_)
       refine au hF O O O O O (ax hg14) ae (fun a hF=>?_)
       refine au hF O O O O O (ax hg14) ae (fun a hF=>?_)
       refine vR hF<|vV O (aP hg14 rfl rfl rfl) fun a hF=>?_
       exact hJ14 _ ((hF.keep [107,1,4,95,96,97,98,99] (F':=[(107,_),(1,_),(4,_),(95,_),(96,_),(97,_),(98,_),(99,_)]) O).bool (by rw [hg14]; rfl))
      ·refine aB hF O O O O (aj hg14) ae _ (yf 0 O JQ O gU O) (fun a hF=>?_)
       refine aB hF O O O O (aj hg14) ae _ (aV O hA9.q O 2 O O jW) (fun a hF=>?_)
       refine aB hF O O O O (aj hg14) ae _ (aG O O O O O) (fun a hF=>?_)
       refine vR hF<|vV O (aW hg14 rfl rfl rfl) fun a hF=>?_
       exact hJ14 _ ((hF.keep [107,1,4,95,96,97,98,99] (F':=[(107,_),(1,_),(4,_),(95,_),(96,_),(97,_),(98,_),(99,_)]) O).bool (by rw [hg14]; rfl))
     refine aJ<|hK11 _ _ ?_
     have hl5:(be 1 ea.op.toNat++be 8 (u64 ea.num)++be 8 (u64 ea.clk)).length≤17:=by simp only [List.length_append,bf]; decide
     have hA10:Hp w0 (X5::[row b1 31 ([.int .i64 ea.op,.int .i64 ea.num,.int .i64 ea.clk,ak ea.typ,ak ea.cas,ak ea.nam,.int .i64 ea.v.v.k,.int .i64 ea.v.v.n,ak ea.v.v.t,.slice ea.v.sA ea.v.v.s.length ea.v.sC,.slice ea.aA ea.args.length ea.aC,.slice ea.bA ea.src.length ea.bC]++dc ea.eff)]::R) w8:=hpS 3 [1,2] [0] hA9 rfl
     have hJN0:∀ (a:Act) (x:World) (u0:Value) (Y0:Seg),Buf 5 1 Y0 u0 ((be 1 ea.op.toNat++be 8 (u64 ea.num)++be 8 (u64 ea.clk))++(if f.cased then nameB ea.cas else [])).length (dc ((be 1 ea.op.toNat++be 8 (u64 ea.num)++be 8 (u64 ea.clk))++(if f.cased then nameB ea.cas else [])))→(f.cased=true→di ea.cas 64=true)→((be 1 ea.op.toNat++be 8 (u64 ea.num)++be 8 (u64 ea.clk))++(if f.cased then nameB ea.cas else [])).length≤83→Fr 237 [(1,.pointer (some ⟨b1,0,none⟩)),(4,u0)] a→Hp w0 (Y0::[row b1 31 ([.int .i64 ea.op,.int .i64 ea.num,.int .i64 ea.clk,ak ea.typ,ak ea.cas,ak ea.nam,.int .i64 ea.v.v.k,.int .i64 ea.v.v.n,ak ea.v.v.t,.slice ea.v.sA ea.v.v.s.length ea.v.sC,.slice ea.aA ea.args.length ea.aC,.slice ea.bA ea.src.length ea.bC]++dc ea.eff)]::R) x→K10 a x:=by
      clear hF
      intro a x u0 Y0 hD0 hlg0 hln0 hF hA
      refine hK10 _ _ ?_
      apply wp_seq_k; intro K12 hK12
      refine wS hF fun K13 hK13=>vV O (yf 0 O JQ O gU O)<|vV O (aV O hA.q O 1 O O jW)<|vV O (aG O O O O O)<|vE hK13 fun a hF=>?_
      have hJN1:∀ (a:Act) (x:World) (u1:Value) (Y1:Seg),Buf 5 1 Y1 u1 ((be 1 ea.op.toNat++be 8 (u64 ea.num)++be 8 (u64 ea.clk))++(if f.cased then nameB ea.cas else [])++(if f.typed then nameB ea.typ else [])).length (dc ((be 1 ea.op.toNat++be 8 (u64 ea.num)++be 8 (u64 ea.clk))++(if f.cased then nameB ea.cas else [])++(if f.typed then nameB ea.typ else [])))→(f.typed=true→bU ea.typ=true)→((be 1 ea.op.toNat++be 8 (u64 ea.num)++be 8 (u64 ea.clk))++(if f.cased then nameB ea.cas else [])++(if f.typed then nameB ea.typ else [])).length≤149→Fr 237 [(1,.pointer (some ⟨b1,0,none⟩)),(4,u1)] a→Hp w0 (Y1::[row b1 31 ([.int .i64 ea.op,.int .i64 ea.num,.int .i64 ea.clk,ak ea.typ,ak ea.cas,ak ea.nam,.int .i64 ea.v.v.k,.int .i64 ea.v.v.n,ak ea.v.v.t,.slice ea.v.sA ea.v.v.s.length ea.v.sC,.slice ea.aA ea.args.length ea.aC,.slice ea.bA ea.src.length ea.bC]++dc ea.eff)]::R) x→K12 a x:=by
       clear hF
       intro a x u1 Y1 hD1 hlg1 hln1 hF hA
       refine hK12 _ _ ?_
       apply wp_seq_k; intro K14 hK14
       refine wS hF fun K15 hK15=>vV O (yf 0 O JQ O gU O)<|vV O (aV O hA.q O 1 O O jW)<|vV O (aG O O O O O)<|vX O fun a hF=>?_
       refine aX (l2:=?lA15) hF [(136,.bool ((ay .eql (ea.op) (3)) || (ay .eql (ea.op) (4)))),(1,.pointer (some ⟨b1,0,none⟩)),(4,u1)] (fun hJ15=>?elA15) (fun a hF=>?flA15)
       case elA15 =>
        rcases tf (ay .eql (ea.op) (3)) with hg15 | hg15
        ·refine aB hF O O O O (aj hg15) ae _ (yf 0 O JQ O gU O) (fun a hF=>?_)
         refine aB hF O O O O (aj hg15) ae _ (aV O hA.q O 1 O O jW) (fun a hF=>?_)
         refine aB hF O O O O (aj hg15) ae _ (aG O O O O O) (fun a hF=>?_)
         refine vR hF<|vV O (aP hg15 rfl rfl rfl) fun a hF=>?_
         exact hJ15 _ ((hF.keep [136,1,4] (F':=[(136,_),(1,_),(4,_)]) O).bool (by rw [hg15]; rfl))
        ·refine au hF O O O O O (ax hg15) ae (fun a hF=>?_)
         refine au hF O O O O O (ax hg15) ae (fun a hF=>?_)
         refine au hF O O O O O (ax hg15) ae (fun a hF=>?_)
         refine vR hF<|vV O (aW hg15 rfl rfl rfl) fun a hF=>?_
         exact hJ15 _ ((hF.keep [136,1,4] (F':=[(136,_),(1,_),(4,_)]) O).bool (by rw [hg15]; rfl))
       refine aJ<|hK15 _ _ ?_
       have hJN2:∀ (a:Act) (x:World) (u2:Value) (Y2:Seg),Buf 5 1 Y2 u2 ((be 1 ea.op.toNat++be 8 (u64 ea.num)++be 8 (u64 ea.clk))++(if f.cased then nameB ea.cas else [])++(if f.typed then nameB ea.typ else [])++(if f.named then nameB ea.nam else [])).length (dc ((be 1 ea.op.toNat++be 8 (u64 ea.num)++be 8 (u64 ea.clk))++(if f.cased then nameB ea.cas else [])++(if f.typed then nameB ea.typ else [])++(if f.named then nameB ea.nam else [])))→(f.named=true→bU ea.nam=true)→((be 1 ea.op.toNat++be 8 (u64 ea.num)++be 8 (u64 ea.clk))++(if f.cased then nameB ea.cas else [])++(if f.typed then nameB ea.typ else [])++(if f.named then nameB ea.nam else [])).length≤215→Fr 237 [(1,.pointer (some ⟨b1,0,none⟩)),(4,u2)] a→Hp w0 (Y2::[row b1 31 ([.int .i64 ea.op,.int .i64 ea.num,.int .i64 ea.clk,ak ea.typ,ak ea.cas,ak ea.nam,.int .i64 ea.v.v.k,.int .i64 ea.v.v.n,ak ea.v.v.t,.slice ea.v.sA ea.v.v.s.length ea.v.sC,.slice ea.aA ea.args.length ea.aC,.slice ea.bA ea.src.length ea.bC]++dc ea.eff)]::R) x→K14 a x:=by
        clear hF
        intro a x u2 Y2 hD2 hlg2 hln2 hF hA
        refine hK14 _ _ ?_
        apply wp_seq_k; intro K16 hK16
        refine wS hF fun K17 hK17=>vV O (yf 1 O JQ O gU O)<|vV O (aV O hA.q O 1 O O jW)<|vV O (aG O O O O O)<|vX O fun a hF=>?_
        refine aX (l2:=?lA16) hF [(153,.bool ((ay .lss (ea.num) (0)) || (ay .geq (ea.num) (1099511627776)))),(1,.pointer (some ⟨b1,0,none⟩)),(4,u2)] (fun hJ16=>?elA16) (fun a hF=>?flA16)
        case elA16 =>
         rcases tf (ay .lss (ea.num) (0)) with hg16 | hg16
         ·refine aB hF O O O O (aj hg16) ae _ (yf 1 O JQ O gU O) (fun a hF=>?_)
          refine aB hF O O O O (aj hg16) ae _ (aV O hA.q O 1 O O jW) (fun a hF=>?_)
          refine aB hF O O O O (aj hg16) ae _ (aG O O O O O) (fun a hF=>?_)
          refine vR hF<|vV O (aP hg16 rfl rfl rfl) fun a hF=>?_
          exact hJ16 _ ((hF.keep [153,1,4] (F':=[(153,_),(1,_),(4,_)]) O).bool (by rw [hg16]; rfl))
         ·refine au hF O O O O O (ax hg16) ae (fun a hF=>?_)
          refine au hF O O O O O (ax hg16) ae (fun a hF=>?_)
          refine au hF O O O O O (ax hg16) ae (fun a hF=>?_)
          refine vR hF<|vV O (aW hg16 rfl rfl rfl) fun a hF=>?_
          exact hJ16 _ ((hF.keep [153,1,4] (F':=[(153,_),(1,_),(4,_)]) O).bool (by rw [hg16]; rfl))
        refine aJ<|hK17 _ _ ?_
        have hnm:¬ ((f.cased=true∧di ea.cas 64=false)∨(f.typed=true∧bU ea.typ=false)∨(f.named=true∧bU ea.nam=false)):=by
         rintro (⟨q1,q2⟩ | ⟨q1,q2⟩ | ⟨q1,q2⟩)
         ·rw [hlg0 q1] at q2; cases q2
         ·rw [hlg1 q1] at q2; cases q2
         ·rw [hlg2 q1] at q2; cases q2
        rcases tf ((ay .lss (ea.num) (0)) || (ay .geq (ea.num) (1099511627776))) with h4 | h4
        ·refine az hF O h4 ?_
         apply wp_skip
         refine hK16 _ _ ?_
         apply wp_seq_k; intro K18 hK18
         refine wS hF fun K19 hK19=>vV O (yf 2 O JQ O gU O)<|vV O (aV O hA.q O 1 O O jW)<|vV O (aG O O O O O)<|vX O fun a hF=>?_
         refine aX (l2:=?lA17) hF [(161,.bool ((ay .lss (ea.clk) (0)) || (ay .gtr (ea.clk) (4611686018427387904)))),(1,.pointer (some ⟨b1,0,none⟩)),(4,u2),(153,.bool ((ay .lss (ea.num) (0)) || (ay .geq (ea.num) (1099511627776))))] (fun hJ17=>?elA17) (fun a hF=>?flA17)
         case elA17 =>
          rcases tf (ay .lss (ea.clk) (0)) with hg17 | hg17
          ·refine aB hF O O O O (aj hg17) ae _ (yf 2 O JQ O gU O) (fun a hF=>?_)
           refine aB hF O O O O (aj hg17) ae _ (aV O hA.q O 1 O O jW) (fun a hF=>?_)
           refine aB hF O O O O (aj hg17) ae _ (aG O O O O O) (fun a hF=>?_)
           refine vR hF<|vV O (aP hg17 rfl rfl rfl) fun a hF=>?_
           exact hJ17 _ ((hF.keep [161,1,4,153] (F':=[(161,_),(1,_),(4,_),(153,_)]) O).bool (by rw [hg17]; rfl))
          ·refine au hF O O O O O (ax hg17) ae (fun a hF=>?_)
           refine au hF O O O O O (ax hg17) ae (fun a hF=>?_)
           refine au hF O O O O O (ax hg17) ae (fun a hF=>?_)
           refine vR hF<|vV O (aW hg17 rfl rfl rfl) fun a hF=>?_
           exact hJ17 _ ((hF.keep [161,1,4,153] (F':=[(161,_),(1,_),(4,_),(153,_)]) O).bool (by rw [hg17]; rfl))
         refine aJ<|hK19 _ _ ?_
         rcases tf ((ay .lss (ea.clk) (0)) || (ay .gtr (ea.clk) (4611686018427387904))) with h5 | h5
         ·refine az hF O h5 ?_
          apply wp_skip
          refine hK18 _ _ ?_
          apply wp_seq_k; intro K20 hK20
          refine wS hF fun K21 hK21=>vV O (yf 10 rfl JQ O qU O)<|vV O (aV O hA.q O 1 O O ry)<|vV O (aT O JS O O)<|vV O (aG O O O O O)<|vE hK21 fun a hF=>?_
          rcases tf (ay .gtr (ea.args.length) (16)) with h6 | h6
          ·refine az hF O h6 ?_
           have hal:ea.args.length≤16:=Gf h6
           apply wp_skip
           refine hK20 _ _ ?_
           apply wp_seq_k; intro K22 hK22
           refine wS hF fun K23 hK23=>vV O (yf 0 O JQ O gU O)<|vV O (aV O hA.q O 1 O O jW)<|vV O (aG O O O O O)<|vE hK23 fun a hF=>?_
           have hJN3:∀ (a:Act) (x:World) (u3:Value) (Y3:Seg),Buf 5 1 Y3 u3 ((be 1 ea.op.toNat++be 8 (u64 ea.num)++be 8 (u64 ea.clk))++(if f.cased then nameB ea.cas else [])++(if f.typed then nameB ea.typ else [])++(if f.named then nameB ea.nam else [])++(if f.source then be 4 ea.src.length++ea.src else [])).length (dc ((be 1 ea.op.toNat++be 8 (u64 ea.num)++be 8 (u64 ea.clk))++(if f.cased then nameB ea.cas else [])++(if f.typed then nameB ea.typ else [])++(if f.named then nameB ea.nam else [])++(if f.source then be 4 ea.src.length++ea.src else [])))→(f.source=true→ea.src.length≤60000)→((be 1 ea.op.toNat++be 8 (u64 ea.num)++be 8 (u64 ea.clk))++(if f.cased then nameB ea.cas else [])++(if f.typed then nameB ea.typ else [])++(if f.named then nameB ea.nam else [])++(if f.source then be 4 ea.src.length++ea.src else [])).length≤60219→Fr 237 [(1,.pointer (some ⟨b1,0,none⟩)),(4,u3)] a→Hp w0 (Y3::[row b1 31 ([.int .i64 ea.op,.int .i64 ea.num,.int .i64 ea.clk,ak ea.typ,ak ea.cas,ak ea.nam,.int .i64 ea.v.v.k,.int .i64 ea.v.v.n,ak ea.v.v.t,.slice ea.v.sA ea.v.v.s.length ea.v.sC,.slice ea.aA ea.args.length ea.aC,.slice ea.bA ea.src.length ea.bC]++dc ea.eff)]::R) x→K22 a x:=by
            clear hF
            intro a x u3 Y3 hD3 hlg3 hln3 hF hA
            refine hK22 _ _ ?_
            apply wp_seq_k; intro K24 hK24
            refine wS hF fun K25 hK25=>vV O (yf 0 O JQ O gU O)<|vV O (aV O hA.q O 1 O O jW)<|vV O (aG O O O O O)<|vE hK25 fun a hF=>?_
            have hJN4:∀ (a:Act) (x:World) (u4:Value) (Y4:Seg),Buf 5 1 Y4 u4 ((be 1 ea.op.toNat++be 8 (u64 ea.num)++be 8 (u64 ea.clk))++(if f.cased then nameB ea.cas else [])++(if f.typed then nameB ea.typ else [])++(if f.named then nameB ea.nam else [])++(if f.source then be 4 ea.src.length++ea.src else [])++(if f.valued then ea.v.v.put else [])).length (dc ((be 1 ea.op.toNat++be 8 (u64 ea.num)++be 8 (u64 ea.clk))++(if f.cased then nameB ea.cas else [])++(if f.typed then nameB ea.typ else [])++(if f.named then nameB ea.nam else [])++(if f.source then be 4 ea.src.length++ea.src else [])++(if f.valued then ea.v.v.put else [])))→ea.v.v.right=0→((be 1 ea.op.toNat++be 8 (u64 ea.num)++be 8 (u64 ea.clk))++(if f.cased then nameB ea.cas else [])++(if f.typed then nameB ea.typ else [])++(if f.named then nameB ea.nam else [])++(if f.source then be 4 ea.src.length++ea.src else [])++(if f.valued then ea.v.v.put else [])).length≤125886→Fr 237 [(1,.pointer (some ⟨b1,0,none⟩)),(4,u4)] a→Hp w0 (Y4::[row b1 31 ([.int .i64 ea.op,.int .i64 ea.num,.int .i64 ea.clk,ak ea.typ,ak ea.cas,ak ea.nam,.int .i64 ea.v.v.k,.int .i64 ea.v.v.n,ak ea.v.v.t,.slice ea.v.sA ea.v.v.s.length ea.v.sC,.slice ea.aA ea.args.length ea.aC,.slice ea.bA ea.src.length ea.bC]++dc ea.eff)]::R) x→K24 a x:=by
             clear hF
             intro a x u4 Y4 hD4 hvr hln4 hF hA
             refine hK24 _ _ ?_
             apply wp_seq_k; intro K26 hK26
             refine wS hF fun K27 hK27=>vV O (yf 0 O JQ O gU O)<|vV O (aV O hA.q O 1 O O jW)<|vV O (aG O O O O O)<|vE hK27 fun a hF=>?_
             have hJN5:∀ (a:Act) (x:World) (u5:Value) (Y5:Seg),Buf 5 1 Y5 u5 ((be 1 ea.op.toNat++be 8 (u64 ea.num)++be 8 (u64 ea.clk))++(if f.cased then nameB ea.cas else [])++(if f.typed then nameB ea.typ else [])++(if f.named then nameB ea.nam else [])++(if f.source then be 4 ea.src.length++ea.src else [])++(if f.valued then ea.v.v.put else [])++(if f.args then be 1 ea.args.length++(ea.args.map VA.v).flatMap Val.put else [])).length (dc ((be 1 ea.op.toNat++be 8 (u64 ea.num)++be 8 (u64 ea.clk))++(if f.cased then nameB ea.cas else [])++(if f.typed then nameB ea.typ else [])++(if f.named then nameB ea.nam else [])++(if f.source then be 4 ea.src.length++ea.src else [])++(if f.valued then ea.v.v.put else [])++(if f.args then be 1 ea.args.length++(ea.args.map VA.v).flatMap Val.put else [])))→dm (ea.args.map VA.v)=0→((be 1 ea.op.toNat++be 8 (u64 ea.num)++be 8 (u64 ea.clk))++(if f.cased then nameB ea.cas else [])++(if f.typed then nameB ea.typ else [])++(if f.named then nameB ea.nam else [])++(if f.source then be 4 ea.src.length++ea.src else [])++(if f.valued then ea.v.v.put else [])++(if f.args then be 1 ea.args.length++(ea.args.map VA.v).flatMap Val.put else [])).length≤1176559→Fr 237 [(1,.pointer (some ⟨b1,0,none⟩)),(4,u5)] a→Hp w0 (Y5::[row b1 31 ([.int .i64 ea.op,.int .i64 ea.num,.int .i64 ea.clk,ak ea.typ,ak ea.cas,ak ea.nam,.int .i64 ea.v.v.k,.int .i64 ea.v.v.n,ak ea.v.v.t,.slice ea.v.sA ea.v.v.s.length ea.v.sC,.slice ea.aA ea.args.length ea.aC,.slice ea.bA ea.src.length ea.bC]++dc ea.eff)]::R) x→K26 a x:=by
              clear hF
              intro a x u5 Y5 hD5 hfa hln5 hF hA
              refine hK26 _ _ ?_
              refine wS hF fun K28 hK28=>vX O<|vV O (yf 12 rfl JQ O xq O)<|vV O (kQ O JX qR O (.none 0) (.none 32) (JE _) (JH _) (show Value.slice (sub (some ⟨b1,12,none⟩) 0 32 1) (32-0) (32-0)= .slice (some ⟨b1,12,none⟩) ea.eff.length 32 by rw [he32]; rfl)) fun a hF=>?_
              refine aI O (fun K hK=>bF hF O ae rfl hA 0 O hD5 JG bW rfl rfl (Rc.src (Rc.ofRow (R:=Y5::[row b1 31 ([.int .i64 ea.op,.int .i64 ea.num,.int .i64 ea.clk,ak ea.typ,ak ea.cas,ak ea.nam,.int .i64 ea.v.v.k,.int .i64 ea.v.v.n,ak ea.v.v.t,.slice ea.v.sA ea.v.v.s.length ea.v.sC,.slice ea.aA ea.args.length ea.aC,.slice ea.bA ea.src.length ea.bC]++dc ea.eff)]::R) (i:=1) (off:=12) rfl (by show ((dc ea.eff).take (dc ea.eff).length)=_; exact List.take_length ..)) hA.q JG) (by rw [he32]; omega) ae (fun v9 X9 w11 a hB9 hF hA12=>hK _ _ ?_))
              replace hA12:Hp w0 (X9::[row b1 31 ([.int .i64 ea.op,.int .i64 ea.num,.int .i64 ea.clk,ak ea.typ,ak ea.cas,ak ea.nam,.int .i64 ea.v.v.k,.int .i64 ea.v.v.n,ak ea.v.v.t,.slice ea.v.sA ea.v.v.s.length ea.v.sC,.slice ea.aA ea.args.length ea.aC,.slice ea.bA ea.src.length ea.bC]++dc ea.eff)]::R) w11:=hA12
              replace hB9:Buf 5 1 X9 v9 (((be 1 ea.op.toNat++be 8 (u64 ea.num)++be 8 (u64 ea.clk))++(if f.cased then nameB ea.cas else [])++(if f.typed then nameB ea.typ else [])++(if f.named then nameB ea.nam else [])++(if f.source then be 4 ea.src.length++ea.src else [])++(if f.valued then ea.v.v.put else [])++(if f.args then be 1 ea.args.length++(ea.args.map VA.v).flatMap Val.put else []))++ea.eff).length (dc (((be 1 ea.op.toNat++be 8 (u64 ea.num)++be 8 (u64 ea.clk))++(if f.cased then nameB ea.cas else [])++(if f.typed then nameB ea.typ else [])++(if f.named then nameB ea.nam else [])++(if f.source then be 4 ea.src.length++ea.src else [])++(if f.valued then ea.v.v.put else [])++(if f.args then be 1 ea.args.length++(ea.args.map VA.v).flatMap Val.put else []))++ea.eff)):=by rw [List.length_append,bT]; exact hB9
              obtain ⟨_,A9,c9,rfl,hc9,_⟩:=hB9.rd (w0:=w0) (R:=[X9]) (JI ..)
              refine vR hF<|vX O<|vE hK28<|wQ fun K29 hK29=>wT fun K30 hK30=>vX O<|vV O (aT O JG O O)<|vV O (aG O O O O O)<|vE hK30 fun a hF=>?_
              have hr0:bV ea.ev f=0:=A8 h0 hnm h4 h5 h6 (rM hvr hfa) (II (Ec hsp hlg3))
              have hBe:ea.ev.bytes f=(be 1 ea.op.toNat++be 8 (u64 ea.num)++be 8 (u64 ea.clk))++(if f.cased then nameB ea.cas else [])++(if f.typed then nameB ea.typ else [])++(if f.named then nameB ea.nam else [])++(if f.source then be 4 ea.src.length++ea.src else [])++(if f.valued then ea.v.v.put else [])++(if f.args then be 1 ea.args.length++(ea.args.map VA.v).flatMap Val.put else [])++ea.eff:=uS ea f
              rcases tf (ay .gtr (((be 1 ea.op.toNat++be 8 (u64 ea.num)++be 8 (u64 ea.clk))++(if f.cased then nameB ea.cas else [])++(if f.typed then nameB ea.typ else [])++(if f.named then nameB ea.nam else [])++(if f.source then be 4 ea.src.length++ea.src else [])++(if f.valued then ea.v.v.put else [])++(if f.args then be 1 ea.args.length++(ea.args.map VA.v).flatMap Val.put else [])++ea.eff).length) (65536)) with h8 | h8
              ·refine az hF O h8 ?_
               apply wp_skip
               refine hK29 _ _ ?_
               refine wS hF fun K31 hK31=>vX O<|vX O<|vX O<|vE hK31 fun a hF=>?_
               apply wp_ret
               refine dJ hF Tryz.results68 O O ?_
               have hA13:Hp w0 (X9::R) w11:=hpS 2 [0] [1] hA12 rfl
               obtain ⟨heq,heb⟩:=CG hop hf hr0 (by rw [hBe]; exact BD h8)
               rw [hBe] at heb
               exact ⟨_,X9,by rw [heq]; rfl,by rw [heb]; exact hB9,hA13⟩
              ·refine aF hF O h8 ?_
               refine wS hF fun K32 hK32=>vX O<|vX O<|vE hK32 fun a hF=>?_
               apply wp_ret
               simp only [Exit.then]
               refine dJ hF Tryz.results68 O O ?_
               have hA14:Hp w0 (R) w11:=hpS 2 [] [0,1] hA12 rfl
               have h9:dS ea.ev=6:=uT hop hf hr0 (by rw [hBe]; exact xM h8)
               exact ⟨_,[],by rw [h9] <;> rfl,eX (by rw [h9]; decide),Hp.nil hA14⟩
             rcases tf f.args with hb | hb
             ·refine az hF O (by rw [AC,← hf]; exact hb) ?_
              apply wp_skip
              exact hJN5 _ _ u4 _ (by rw [if_neg (show ¬ f.args=true by rw [hb]; decide),List.append_nil]; exact hD4) (vT hsp hb) (by rw [if_neg (show ¬ f.args=true by rw [hb]; decide),List.append_nil]; omega) (hF.keep [1,4] rfl) hA
             ·refine aF hF O (by rw [AC,← hf]; exact hb) ?_
              refine wS hF fun K33 hK33=>vX O<|vV O (yf 10 rfl JQ O qU O)<|vV O (aV O hA.q O 1 O O ry)<|vV O (aT O JS O O)<|vV O (bM O JM JV O (Jn ag)) fun a hF=>?_
              refine aI O (fun K hK=>gX hF O ae rfl hA (UInt8.ofNat ea.args.length) rfl gV (fun b15 w16 a hb15 hF hA17=>hK _ _ ?_))
              replace hA17:Hp w0 ([row b15 5 (dc [(UInt8.ofNat ea.args.length)])]::Y4::[row b1 31 ([.int .i64 ea.op,.int .i64 ea.num,.int .i64 ea.clk,ak ea.typ,ak ea.cas,ak ea.nam,.int .i64 ea.v.v.k,.int .i64 ea.v.v.n,ak ea.v.v.t,.slice ea.v.sA ea.v.v.s.length ea.v.sC,.slice ea.aA ea.args.length ea.aC,.slice ea.bA ea.src.length ea.bC]++dc ea.eff)]::R) w16:=hA17
              refine aI O (fun K hK=>bF hF O ae rfl hA17 1 O hD4 JG bW rfl rfl (Rc.src (l:=[(UInt8.ofNat ea.args.length)]) (Rc.ofRow (R:=[row b15 5 (dc [(UInt8.ofNat ea.args.length)])]::Y4::[row b1 31 ([.int .i64 ea.op,.int .i64 ea.num,.int .i64 ea.clk,ak ea.typ,ak ea.cas,ak ea.nam,.int .i64 ea.v.v.k,.int .i64 ea.v.v.n,ak ea.v.v.t,.slice ea.v.sA ea.v.v.s.length ea.v.sC,.slice ea.aA ea.args.length ea.aC,.slice ea.bA ea.src.length ea.bC]++dc ea.eff)]::R) (i:=0) (off:=0) rfl rfl) hA17.q JG) (by rw [show [(UInt8.ofNat ea.args.length)].length=1 from rfl]; omega) ae (fun v6 X6 w18 a hB6 hF hA19=>hK _ _ ?_))
              replace hA19:Hp w0 ([row b15 5 (dc [(UInt8.ofNat ea.args.length)])]::X6::[row b1 31 ([.int .i64 ea.op,.int .i64 ea.num,.int .i64 ea.clk,ak ea.typ,ak ea.cas,ak ea.nam,.int .i64 ea.v.v.k,.int .i64 ea.v.v.n,ak ea.v.v.t,.slice ea.v.sA ea.v.v.s.length ea.v.sC,.slice ea.aA ea.args.length ea.aC,.slice ea.bA ea.src.length ea.bC]++dc ea.eff)]::R) w18:=hA19
              replace hB6:Buf 5 1 X6 v6 (((be 1 ea.op.toNat++be 8 (u64 ea.num)++be 8 (u64 ea.clk))++(if f.cased then nameB ea.cas else [])++(if f.typed then nameB ea.typ else [])++(if f.named then nameB ea.nam else [])++(if f.source then be 4 ea.src.length++ea.src else [])++(if f.valued then ea.v.v.put else []))++[(UInt8.ofNat ea.args.length)]).length (dc (((be 1 ea.op.toNat++be 8 (u64 ea.num)++be 8 (u64 ea.clk))++(if f.cased then nameB ea.cas else [])++(if f.typed then nameB ea.typ else [])++(if f.named then nameB ea.nam else [])++(if f.source then be 4 ea.src.length++ea.src else [])++(if f.valued then ea.v.v.put else []))++[(UInt8.ofNat ea.args.length)])):=by rw [List.length_append,bT]; exact hB6
              refine vR hF<|vX O<|vE hK33<|wT fun K34 hK34=>vX O<|vE hK34<|wBk fun a hF=>?_
              rw [← sH] at hB6
              obtain ⟨m0,hm0⟩:∃ m0,m0=(be 1 ea.op.toNat++be 8 (u64 ea.num)++be 8 (u64 ea.clk))++(if f.cased then nameB ea.cas else [])++(if f.typed then nameB ea.typ else [])++(if f.named then nameB ea.nam else [])++(if f.source then be 4 ea.src.length++ea.src else [])++(if f.valued then ea.v.v.put else [])++be 1 ea.args.length:=⟨_,rfl⟩
              rw [← hm0] at hB6
              have hm0l:m0.length≤125887:=by rw [hm0,List.length_append,bf]; omega
              have hA20:Hp w0 (X6::[row b1 31 ([.int .i64 ea.op,.int .i64 ea.num,.int .i64 ea.clk,ak ea.typ,ak ea.cas,ak ea.nam,.int .i64 ea.v.v.k,.int .i64 ea.v.v.n,ak ea.v.v.t,.slice ea.v.sA ea.v.v.s.length ea.v.sC,.slice ea.aA ea.args.length ea.aC,.slice ea.bA ea.src.length ea.bC]++dc ea.eff)]::R) w18:=hpS 3 [1,2] [0] hA19 rfl
              refine bz (G:=Nat) (fun i a x=>∃ (vL:Value) (XL:Seg),i≤ea.args.length∧dm ((ea.args.take i).map VA.v)=0∧Buf 5 1 XL vL (m0++((ea.args.take i).map VA.v).flatMap Val.put).length (dc (m0++((ea.args.take i).map VA.v).flatMap Val.put))∧Fr 237 [(7,.int .i64 (i:Int)),(4,vL),(1,.pointer (some ⟨b1,0,none⟩))] a∧Hp w0 (XL::[row b1 31 ([.int .i64 ea.op,.int .i64 ea.num,.int .i64 ea.clk,ak ea.typ,ak ea.cas,ak ea.nam,.int .i64 ea.v.v.k,.int .i64 ea.v.v.n,ak ea.v.v.t,.slice ea.v.sA ea.v.v.s.length ea.v.sC,.slice ea.aA ea.args.length ea.aC,.slice ea.bA ea.src.length ea.bC]++dc ea.eff)]::R) x) (fun i=>ea.args.length-i) 0 (⟨_,_,JE _,rfl,(by rw [List.take_zero,List.map_nil,List.flatMap_nil,List.append_nil]; exact hB6),hF.keep [7,4,1] rfl,hA20⟩) ?_
              clear hF
              rintro i a w22 ⟨vL,XL,hi,hfr,hB7,hF,hA21⟩
              apply wp_seq_k; intro K35 hK35
              refine wS hF fun K36 hK36=>vX O<|vV O (yf 10 rfl JQ O qU O)<|vV O (aV O hA21.q O 1 O O ry)<|vV O (aT O JS O O)<|vV O (aG O O O O O)<|vE hK36 fun a hF=>?_
              have hpl:(((ea.args.take i).map VA.v).flatMap Val.put).length≤1050672:=by
               have q1:=og (jZ hfr)
               rw [List.length_map,List.length_take] at q1
               omega
              by_cases hlt:i<ea.args.length
              ·refine aF hF O (dB ag) ?_
               obtain ⟨va,hp⟩:∃ q,ea.args[i]? = some q:=⟨_,List.getElem?_eq_getElem hlt⟩
               obtain ⟨hat,hle4⟩:=Go.Dk.flat_at (z:=4) (Ws:=ea.args.map VA.cells) (V:=va.cells) (i:=i) (fun V hV=>by obtain ⟨u,_,rfl⟩:=List.mem_map.1 hV; rfl) (by rw [List.getElem?_map,hp]; rfl)
               obtain ⟨b,o,hsA,hc⟩:=hV.rc.ne (i:=i*4) (by have:=jy ea.args; omega)
               have hva:=hV.args va (List.mem_of_getElem? hp)
               have hvi:(ea.args.map VA.v)[i]? = some va.v:=by rw [List.getElem?_map,hp]; rfl
               have hfr1:dm ((ea.args.map VA.v).take i)=0:=by rw [← List.map_take]; exact hfr
               rw [hsA] at hA21
               apply wp_skip
               refine hK35 _ _ ?_
               apply wp_seq_k; intro K37 hK37
               apply wp_block
               refine wS hF fun K38 hK38=>vV O (yf 10 rfl JQ O qU O)<|vV O (aV O hA21.q O 1 O O ry)<|vX O<|vV O (bI O JS kZ O O i rfl hlt rfl)<|vV O (gQ (new:=va.cells) rfl (Hq.sub hA21.q (List.Subset.trans hG (bD (bD (dD))))) O hc (i*4) hle4 rfl hat Ef) fun a hF=>?_
               refine aI O (fun K hK=>aH hF O ae ve rfl rfl ?_)
               with_reducible refine (tu va _ hva (List.Subset.trans hG (bD (bD (dD)))) hA21).mono ?_
               rintro e' w23 ⟨vv9,ZV,rfl,hZV,hA24⟩
               refine ⟨_,rfl,fun a hF=>hK _ _ ?_⟩
               replace hA24:Hp w0 (ZV::XL::[row b1 31 ([.int .i64 ea.op,.int .i64 ea.num,.int .i64 ea.clk,ak ea.typ,ak ea.cas,ak ea.nam,.int .i64 ea.v.v.k,.int .i64 ea.v.v.n,ak ea.v.v.t,.slice ea.v.sA ea.v.v.s.length ea.v.sC,.slice (some ⟨b,o,none⟩) ea.args.length ea.aC,.slice ea.bA ea.src.length ea.bC]++dc ea.eff)]::R) w23:=hA24
               obtain ⟨_,AV,cV,rfl,hcV,hRV⟩:=hZV.rd (w0:=w0) (R:=[ZV]) (JI ..)
               refine vR hF<|vX O<|vV O (aQ (v:= .slice AV va.v.put.length cV) rfl rfl rfl)<|vV O (aQ (v:= .int .i64 ((va.v.right:Nat):Int)) O O O)<|vX O<|vX O<|vE hK38<|wQ fun K39 hK39=>wT fun K40 hK40=>vX O<|vV O (aG O O O O O)<|vE hK40 fun a hF=>?_
               by_cases hr:va.v.right=0
               ·refine az hF O (dZ ag) ?_
                have hpl2:=nz hr
                apply wp_skip
                refine hK39 _ _ ?_
                refine wp_region_lit ?_
                refine vR hF<|vX O<|vX O fun a hF=>?_
                refine aI O (fun K hK=>bF hF O ae rfl hA24 1 O hB7 JG bW rfl rfl (Rc.src hRV (Hq.sub hA24.q (List.cons_subset.2 ⟨((JI ..)),List.nil_subset _⟩)) JG) (by rw [List.length_append]; omega) ae (fun v8 X8 w25 a hB8 hF hA26=>hK _ _ ?_))
                replace hA26:Hp w0 (ZV::X8::[row b1 31 ([.int .i64 ea.op,.int .i64 ea.num,.int .i64 ea.clk,ak ea.typ,ak ea.cas,ak ea.nam,.int .i64 ea.v.v.k,.int .i64 ea.v.v.n,ak ea.v.v.t,.slice ea.v.sA ea.v.v.s.length ea.v.sC,.slice (some ⟨b,o,none⟩) ea.args.length ea.aC,.slice ea.bA ea.src.length ea.bC]++dc ea.eff)]::R) w25:=hA26
                replace hB8:Buf 5 1 X8 v8 ((m0++((ea.args.take i).map VA.v).flatMap Val.put)++va.v.put).length (dc ((m0++((ea.args.take i).map VA.v).flatMap Val.put)++va.v.put)):=by rw [List.length_append,bT]; exact hB8
                refine vR hF<|vX O fun a hF=>aJ<|hK37 _ _ ?_
                refine wp_region_lit ?_
                refine vR hF<|vX O<|vV O (bK O O O (JF _ ag))<|vX O fun a hF=>?_
                refine aJ ?_
                rw [← hsA] at hA26
                have hA27:Hp w0 (X8::[row b1 31 ([.int .i64 ea.op,.int .i64 ea.num,.int .i64 ea.clk,ak ea.typ,ak ea.cas,ak ea.nam,.int .i64 ea.v.v.k,.int .i64 ea.v.v.n,ak ea.v.v.t,.slice ea.v.sA ea.v.v.s.length ea.v.sC,.slice ea.aA ea.args.length ea.aC,.slice ea.bA ea.src.length ea.bC]++dc ea.eff)]::R) w25:=hpS 3 [1,2] [0] hA26 rfl
                exact ⟨i+1,ag,_,_,ag,by rw [List.map_take]; exact uB hfr1 hvi hr,by rw [qj hp,← List.append_assoc]; exact hB8,hF.keep [7,4,1] rfl,hA27⟩
               ·refine aF hF O (gp ag) ?_
                refine wS hF fun K41 hK41=>vX O<|vX O<|vX O<|vE hK41 fun a hF=>?_
                apply wp_ret
                simp only [Exit.then,Exit.inBlock]
                refine dJ hF Tryz.results68 O O ?_
                have hA28:Hp w0 (R) w23:=hpS 3 [] [0,1,2] hA24 rfl
                have h9:dS ea.ev=va.v.right:=iT hop hf (A7 h0 hnm h4 h5 h6 (rM hvr (zA hfr1 hvi hr)) hr) hr
                exact ⟨_,[],by rw [h9] <;> rfl,eX (by rw [h9]; exact hr),Hp.nil hA28⟩
              ·refine az hF O (dw ag) ?_
               obtain rfl:i=ea.args.length:=by omega
               rw [List.take_length] at hfr hB7 hpl
               apply wp_exit
               rw [hm0] at hB7
               exact hJN5 _ _ _ _ (by rw [if_pos hb,← List.append_assoc]; exact hB7) hfr (by rw [if_pos hb,List.length_append,o5]; omega) (hF.keep [1,4] rfl) hA21
            rcases tf f.valued with hb | hb
            ·refine az hF O (by rw [Au,← hf]; exact hb) ?_
             apply wp_skip
             exact hJN4 _ _ u3 _ (by rw [if_neg (show ¬ f.valued=true by rw [hb]; decide),List.append_nil]; exact hD3) (Am hsp hb) (by rw [if_neg (show ¬ f.valued=true by rw [hb]; decide),List.append_nil]; omega) (hF.keep [1,4] rfl) hA
            ·refine aF hF O (by rw [Au,← hf]; exact hb) ?_
             refine wS hF fun K42 hK42=>vV O (yf 6 O JQ O kZ O)<|vV O (bQ (new:=[.int .i64 ea.v.v.k,.int .i64 ea.v.v.n,ak ea.v.v.t,.slice ea.v.sA ea.v.v.s.length ea.v.sC]) O hA.q O 1 O Ef (by rw [List.length_append]; exact Nat.le_add_right_of_le ai) rfl) fun a hF=>?_
             refine aI O (fun K hK=>aH hF O ae ve rfl rfl ?_)
             with_reducible refine (tu ea.v _ hV.v (List.Subset.trans hG (bD (bD (dD)))) hA).mono ?_
             rintro e' w29 ⟨vv9,ZV,rfl,hZV,hA30⟩
             refine ⟨_,rfl,fun a hF=>hK _ _ ?_⟩
             replace hA30:Hp w0 (ZV::Y3::[row b1 31 ([.int .i64 ea.op,.int .i64 ea.num,.int .i64 ea.clk,ak ea.typ,ak ea.cas,ak ea.nam,.int .i64 ea.v.v.k,.int .i64 ea.v.v.n,ak ea.v.v.t,.slice ea.v.sA ea.v.v.s.length ea.v.sC,.slice ea.aA ea.args.length ea.aC,.slice ea.bA ea.src.length ea.bC]++dc ea.eff)]::R) w29:=hA30
             obtain ⟨_,AV,cV,rfl,hcV,hRV⟩:=hZV.rd (w0:=w0) (R:=[ZV]) (JI ..)
             refine vR hF<|vX O<|vV O (aQ (v:= .slice AV ea.v.v.put.length cV) rfl rfl rfl)<|vV O (aQ (v:= .int .i64 ((ea.v.v.right:Nat):Int)) O O O)<|vX O<|vX O<|vE hK42<|wQ fun K43 hK43=>wT fun K44 hK44=>vX O<|vV O (aG O O O O O)<|vE hK44 fun a hF=>?_
             by_cases hr:ea.v.v.right=0
             ·refine az hF O (dZ ag) ?_
              have hpl:=nz hr
              apply wp_skip
              refine hK43 _ _ ?_
              refine wp_region_lit ?_
              refine vR hF<|vX O<|vX O fun a hF=>?_
              refine aI O (fun K hK=>bF hF O ae rfl hA30 1 O hD3 JG bW rfl rfl (Rc.src hRV (Hq.sub hA30.q (List.cons_subset.2 ⟨((JI ..)),List.nil_subset _⟩)) JG) ag ae (fun v6 X6 w31 a hB6 hF hA32=>hK _ _ ?_))
              replace hA32:Hp w0 (ZV::X6::[row b1 31 ([.int .i64 ea.op,.int .i64 ea.num,.int .i64 ea.clk,ak ea.typ,ak ea.cas,ak ea.nam,.int .i64 ea.v.v.k,.int .i64 ea.v.v.n,ak ea.v.v.t,.slice ea.v.sA ea.v.v.s.length ea.v.sC,.slice ea.aA ea.args.length ea.aC,.slice ea.bA ea.src.length ea.bC]++dc ea.eff)]::R) w31:=hA32
              replace hB6:Buf 5 1 X6 v6 (((be 1 ea.op.toNat++be 8 (u64 ea.num)++be 8 (u64 ea.clk))++(if f.cased then nameB ea.cas else [])++(if f.typed then nameB ea.typ else [])++(if f.named then nameB ea.nam else [])++(if f.source then be 4 ea.src.length++ea.src else []))++ea.v.v.put).length (dc (((be 1 ea.op.toNat++be 8 (u64 ea.num)++be 8 (u64 ea.clk))++(if f.cased then nameB ea.cas else [])++(if f.typed then nameB ea.typ else [])++(if f.named then nameB ea.nam else [])++(if f.source then be 4 ea.src.length++ea.src else []))++ea.v.v.put)):=by rw [List.length_append,bT]; exact hB6
              refine vR hF<|vX O fun a hF=>?_
              refine aJ ?_
              have hA33:Hp w0 (X6::[row b1 31 ([.int .i64 ea.op,.int .i64 ea.num,.int .i64 ea.clk,ak ea.typ,ak ea.cas,ak ea.nam,.int .i64 ea.v.v.k,.int .i64 ea.v.v.n,ak ea.v.v.t,.slice ea.v.sA ea.v.v.s.length ea.v.sC,.slice ea.aA ea.args.length ea.aC,.slice ea.bA ea.src.length ea.bC]++dc ea.eff)]::R) w31:=hpS 3 [1,2] [0] hA32 rfl
              exact hJN4 _ _ _ _ (by rw [if_pos hb]; exact hB6) hr (by rw [if_pos hb,List.length_append]; omega) (hF.keep [1,4] rfl) hA33
             ·refine aF hF O (gp ag) ?_
              refine wS hF fun K45 hK45=>vX O<|vX O<|vX O<|vE hK45 fun a hF=>?_
              apply wp_ret
              simp only [Exit.then]
              refine dJ hF Tryz.results68 O O ?_
              have hA34:Hp w0 (R) w29:=hpS 3 [] [0,1,2] hA30 rfl
              have h9:dS ea.ev=ea.v.v.right:=iT hop hf (A7 h0 hnm h4 h5 h6 (ER hf hsp hb hr) hr) hr
              exact ⟨_,[],by rw [h9] <;> rfl,eX (by rw [h9]; exact hr),Hp.nil hA34⟩
           rcases tf f.source with hb | hb
           ·refine az hF O (by rw [Az,← hf]; exact hb) ?_
            apply wp_skip
            exact hJN3 _ _ u2 _ (by rw [if_neg (show ¬ f.source=true by rw [hb]; decide),List.append_nil]; exact hD2) (fun e=>by rw [hb] at e; cases e) (by rw [if_neg (show ¬ f.source=true by rw [hb]; decide),List.append_nil]; omega) (hF.keep [1,4] rfl) hA
           ·refine aF hF O (by rw [Az,← hf]; exact hb) ?_
            apply wp_seq_k; intro K46 hK46
            refine wS hF fun K47 hK47=>vV O (yf 11 rfl JQ O dF O)<|vV O (aV O hA.q O 1 O O iK)<|vV O (aT O JG O O)<|vV O (aG O O O O O)<|vE hK47 fun a hF=>?_
            rcases tf (ay .gtr (ea.src.length) (60000)) with h7 | h7
            ·refine az hF O h7 ?_
             have hsl:ea.src.length≤60000:=GL h7
             apply wp_skip
             refine hK46 _ _ ?_
             refine bi 9 [4,5,8,9] [0,1,2,3,6,7,4,5,8,9] (fun x=>Hq w0 ([row b1 31 ([.int .i64 ea.op,.int .i64 ea.num,.int .i64 ea.clk,ak ea.typ,ak ea.cas,ak ea.nam,.int .i64 ea.v.v.k,.int .i64 ea.v.v.n,ak ea.v.v.t,.slice ea.v.sA ea.v.v.s.length ea.v.sC,.slice ea.aA ea.args.length ea.aC,.slice ea.bA ea.src.length ea.bC]++dc ea.eff)]::R) x) af af (Hq.drew (qT hA)) ?_
             have hA35:=Hl.drew hA
             refine pR hF<|pX O O<|pW O O (fun _=>yf 11 rfl JQ O dF O)<|pV O O (fun x hx=>aV O hx O 0 O O iK)<|pW O O (fun _=>aT O JG O O)<|pW O O (fun _=>yf 11 rfl JQ O dF O)<|pV O O (fun x hx=>aV O hx O 0 O O iK) fun a hF=>?_
             refine fZ O O O (fun K hK=>aH hF O ae zQ rfl rfl ?_)
             with_reducible refine (gI (ea.src.length:Int) 4 4 _ O ae hA35).mono ?_
             rintro e' w36 ⟨vN1,ZN1,rfl,hN1,hA37⟩
             refine ⟨_,rfl,fun a hF=>hK _ _ (fun _=>?_) ?_⟩
             ·exact Hp.qp [ZN1,Y2,[row b1 31 ([.int .i64 ea.op,.int .i64 ea.num,.int .i64 ea.clk,ak ea.typ,ak ea.cas,ak ea.nam,.int .i64 ea.v.v.k,.int .i64 ea.v.v.n,ak ea.v.v.t,.slice ea.v.sA ea.v.v.s.length ea.v.sC,.slice ea.aA ea.args.length ea.aC,.slice ea.bA ea.src.length ea.bC]++dc ea.eff)]] R [2] hA37
             replace hA37:Hp w0 (ZN1::Y2::[row b1 31 ([.int .i64 ea.op,.int .i64 ea.num,.int .i64 ea.clk,ak ea.typ,ak ea.cas,ak ea.nam,.int .i64 ea.v.v.k,.int .i64 ea.v.v.n,ak ea.v.v.t,.slice ea.v.sA ea.v.v.s.length ea.v.sC,.slice ea.aA ea.args.length ea.aC,.slice ea.bA ea.src.length ea.bC]++dc ea.eff)]::R) w36:=hA37
             obtain ⟨_,AN1,cN1,rfl,hcN1,hRN1⟩:=hN1.rd (w0:=w0) (R:=[ZN1]) (JI ..)
             refine fZ O O O (fun K hK=>bF hF O ae rfl hA37 1 O hD2 JG bW rfl rfl (Rc.src hRN1 (Hq.sub hA37.q (List.cons_subset.2 ⟨((JI ..)),List.nil_subset _⟩)) JG) (by rw [bf]; omega) ae (fun v6 X6 w38 a hB6 hF hA39=>hK _ _ (fun _=>?_) ?_))
             ·exact Hp.qp [ZN1,X6,[row b1 31 ([.int .i64 ea.op,.int .i64 ea.num,.int .i64 ea.clk,ak ea.typ,ak ea.cas,ak ea.nam,.int .i64 ea.v.v.k,.int .i64 ea.v.v.n,ak ea.v.v.t,.slice ea.v.sA ea.v.v.s.length ea.v.sC,.slice ea.aA ea.args.length ea.aC,.slice ea.bA ea.src.length ea.bC]++dc ea.eff)]] R [2] hA39
             replace hA39:Hp w0 (ZN1::X6::[row b1 31 ([.int .i64 ea.op,.int .i64 ea.num,.int .i64 ea.clk,ak ea.typ,ak ea.cas,ak ea.nam,.int .i64 ea.v.v.k,.int .i64 ea.v.v.n,ak ea.v.v.t,.slice ea.v.sA ea.v.v.s.length ea.v.sC,.slice ea.aA ea.args.length ea.aC,.slice ea.bA ea.src.length ea.bC]++dc ea.eff)]::R) w38:=hA39
             replace hB6:Buf 5 1 X6 v6 (((be 1 ea.op.toNat++be 8 (u64 ea.num)++be 8 (u64 ea.clk))++(if f.cased then nameB ea.cas else [])++(if f.typed then nameB ea.typ else [])++(if f.named then nameB ea.nam else []))++be 4 (u64 (ea.src.length:Int))).length (dc (((be 1 ea.op.toNat++be 8 (u64 ea.num)++be 8 (u64 ea.clk))++(if f.cased then nameB ea.cas else [])++(if f.typed then nameB ea.typ else [])++(if f.named then nameB ea.nam else []))++be 4 (u64 (ea.src.length:Int)))):=by rw [List.length_append,bT]; exact hB6
             refine fZ O O O (fun K hK=>bF hF O ae rfl hA39 1 O hB6 JG bW rfl rfl (Rc.src hV.src (Hq.sub hA39.q (List.Subset.trans hG (bD (bD (bD (dD)))))) JG) (by rw [List.length_append,bf]; omega) ae (fun v7 X7 w40 a hB7 hF hA41=>hK _ _ (fun _=>?_) ?_))
             ·exact Hp.qp [ZN1,X7,[row b1 31 ([.int .i64 ea.op,.int .i64 ea.num,.int .i64 ea.clk,ak ea.typ,ak ea.cas,ak ea.nam,.int .i64 ea.v.v.k,.int .i64 ea.v.v.n,ak ea.v.v.t,.slice ea.v.sA ea.v.v.s.length ea.v.sC,.slice ea.aA ea.args.length ea.aC,.slice ea.bA ea.src.length ea.bC]++dc ea.eff)]] R [2] hA41
             replace hA41:Hp w0 (ZN1::X7::[row b1 31 ([.int .i64 ea.op,.int .i64 ea.num,.int .i64 ea.clk,ak ea.typ,ak ea.cas,ak ea.nam,.int .i64 ea.v.v.k,.int .i64 ea.v.v.n,ak ea.v.v.t,.slice ea.v.sA ea.v.v.s.length ea.v.sC,.slice ea.aA ea.args.length ea.aC,.slice ea.bA ea.src.length ea.bC]++dc ea.eff)]::R) w40:=hA41
             replace hB7:Buf 5 1 X7 v7 (((be 1 ea.op.toNat++be 8 (u64 ea.num)++be 8 (u64 ea.clk))++(if f.cased then nameB ea.cas else [])++(if f.typed then nameB ea.typ else [])++(if f.named then nameB ea.nam else [])++be 4 (u64 (ea.src.length:Int)))++ea.src).length (dc (((be 1 ea.op.toNat++be 8 (u64 ea.num)++be 8 (u64 ea.clk))++(if f.cased then nameB ea.cas else [])++(if f.typed then nameB ea.typ else [])++(if f.named then nameB ea.nam else [])++be 4 (u64 (ea.src.length:Int)))++ea.src)):=by rw [List.length_append,bT]; exact hB7
             refine fB hF O O O O ae _ (jk O O) (fun h=>absurd h ae) (fun a hF=>?_)
             refine bY ?_
             have hA42:Hp w0 (X7::[row b1 31 ([.int .i64 ea.op,.int .i64 ea.num,.int .i64 ea.clk,ak ea.typ,ak ea.cas,ak ea.nam,.int .i64 ea.v.v.k,.int .i64 ea.v.v.n,ak ea.v.v.t,.slice ea.v.sA ea.v.v.s.length ea.v.sC,.slice ea.aA ea.args.length ea.aC,.slice ea.bA ea.src.length ea.bC]++dc ea.eff)]::R) w40:=hpS 3 [1,2] [0] hA41 rfl
             rw [qN (show ea.src.length<140737488353900 by omega)] at hB7
             exact hJN3 _ _ _ _ (by rw [if_pos hb,← List.append_assoc]; exact hB7) (fun _=>hsl) (by rw [if_pos hb,List.length_append,o5]; omega) (hF.keep [1,4] rfl) hA42
            ·refine aF hF O h7 ?_
             refine wS hF fun K48 hK48=>vX O<|vX O<|vE hK48 fun a hF=>?_
             apply wp_ret
             simp only [Exit.then]
             refine dJ hF Tryz.results68 O O ?_
             have hA43:Hp w0 (R) x:=hpS 2 [] [0,1] hA rfl
             have h9:dS ea.ev=6:=iT hop hf (Gp h0 hnm h4 h5 h6 (ES hf hsp hb) h7) ae
             exact ⟨_,[],by rw [h9] <;> rfl,eX (by rw [h9]; decide),Hp.nil hA43⟩
          ·refine aF hF O h6 ?_
           refine wS hF fun K49 hK49=>vX O<|vX O<|vE hK49 fun a hF=>?_
           apply wp_ret
           simp only [Exit.then]
           refine dJ hF Tryz.results68 O O ?_
           have hA44:Hp w0 (R) x:=hpS 2 [] [0,1] hA rfl
           have h9:dS ea.ev=7:=iT hop hf (Gn h0 hnm h4 h5 h6) ae
           exact ⟨_,[],by rw [h9] <;> rfl,eX (by rw [h9]; decide),Hp.nil hA44⟩
         ·refine aF hF O h5 ?_
          refine wS hF fun K50 hK50=>vX O<|vX O<|vE hK50 fun a hF=>?_
          apply wp_ret
          simp only [Exit.then]
          refine dJ hF Tryz.results68 O O ?_
          have hA45:Hp w0 (R) x:=hpS 2 [] [0,1] hA rfl
          have h9:dS ea.ev=132:=iT hop hf (xx h0 hnm h4 h5) ae
          exact ⟨_,[],by rw [h9] <;> rfl,eX (by rw [h9]; decide),Hp.nil hA45⟩
        ·refine aF hF O h4 ?_
         refine wS hF fun K51 hK51=>vX O<|vX O<|vE hK51 fun a hF=>?_
         apply wp_ret
         simp only [Exit.then]
         refine dJ hF Tryz.results68 O O ?_
         have hA46:Hp w0 (R) x:=hpS 2 [] [0,1] hA rfl
         have h9:dS ea.ev=5:=iT hop hf (Gq h0 hnm h4) ae
         exact ⟨_,[],by rw [h9] <;> rfl,eX (by rw [h9]; decide),Hp.nil hA46⟩
       rcases tf f.named with hb | hb
       ·refine az hF O (by rw [AA hop,← hf]; exact hb) ?_
        apply wp_skip
        exact hJN2 _ _ u1 _ (by rw [if_neg (show ¬ f.named=true by rw [hb]; decide),List.append_nil]; exact hD1) (fun e=>by rw [hb] at e; cases e) (by rw [if_neg (show ¬ f.named=true by rw [hb]; decide),List.append_nil]; omega) (hF.keep [1,4] rfl) hA
       ·refine aF hF O (by rw [AA hop,← hf]; exact hb) ?_
        apply wp_seq_k; intro K52 hK52
        refine wS hF fun K53 hK53=>vV O (yf 5 O JQ O qQ O)<|vV O (aV O hA.q O 1 O O rq) fun a hF=>?_
        refine aI O (fun K hK=>aH hF O ae qG rfl rfl ?_)
        with_reducible refine (tH ea.nam _ hT hA).mono ?_
        rintro e' w49 ⟨rfl,rfl⟩
        refine ⟨_,rfl,fun a hF=>hK _ _ ?_⟩
        refine vR hF<|vV O (cZ O O O)<|vE hK53 fun a hF=>?_
        rcases tf (bU ea.nam) with hl | hl
        ·refine aF hF O (by rw [hl]; rfl) ?_
         refine wS hF fun K54 hK54=>vX O<|vX O<|vE hK54 fun a hF=>?_
         apply wp_ret
         simp only [Exit.then]
         refine dJ hF Tryz.results68 O O ?_
         have hA50:Hp w0 (R) x:=hpS 2 [] [0,1] hA rfl
         have h9:dS ea.ev=34:=iT hop hf (lT h0 (.inr (.inr ⟨hb,hl⟩))) ae
         exact ⟨_,[],by rw [h9] <;> rfl,eX (by rw [h9]; decide),Hp.nil hA50⟩
        ·refine az hF O (by rw [hl]; rfl) ?_
         have hll:=eP hl
         apply wp_skip
         refine hK52 _ _ ?_
         refine wp_region_lit ?_
         refine vR hF<|vX O<|vV O (yf 5 O JQ O qQ O)<|vV O (aV O hA.q O 1 O O rq) fun a hF=>?_
         refine aI O (fun K hK=>aH hF O ae qH rfl rfl ?_)
         with_reducible refine (lg ea.nam _ ag hA).mono ?_
         rintro e' w51 ⟨vN1,ZN1,rfl,hN1,hA52⟩
         refine ⟨_,rfl,fun a hF=>hK _ _ ?_⟩
         replace hA52:Hp w0 (ZN1::Y1::[row b1 31 ([.int .i64 ea.op,.int .i64 ea.num,.int .i64 ea.clk,ak ea.typ,ak ea.cas,ak ea.nam,.int .i64 ea.v.v.k,.int .i64 ea.v.v.n,ak ea.v.v.t,.slice ea.v.sA ea.v.v.s.length ea.v.sC,.slice ea.aA ea.args.length ea.aC,.slice ea.bA ea.src.length ea.bC]++dc ea.eff)]::R) w51:=hA52
         obtain ⟨_,AN1,cN1,rfl,hcN1,hRN1⟩:=hN1.rd (w0:=w0) (R:=[ZN1]) (JI ..)
         refine aI O (fun K hK=>bF hF O ae rfl hA52 1 O hD1 JG bW rfl rfl (Rc.src hRN1 (Hq.sub hA52.q (List.cons_subset.2 ⟨((JI ..)),List.nil_subset _⟩)) JG) (by rw [eF]; omega) ae (fun v6 X6 w53 a hB6 hF hA54=>hK _ _ ?_))
         replace hA54:Hp w0 (ZN1::X6::[row b1 31 ([.int .i64 ea.op,.int .i64 ea.num,.int .i64 ea.clk,ak ea.typ,ak ea.cas,ak ea.nam,.int .i64 ea.v.v.k,.int .i64 ea.v.v.n,ak ea.v.v.t,.slice ea.v.sA ea.v.v.s.length ea.v.sC,.slice ea.aA ea.args.length ea.aC,.slice ea.bA ea.src.length ea.bC]++dc ea.eff)]::R) w53:=hA54
         replace hB6:Buf 5 1 X6 v6 (((be 1 ea.op.toNat++be 8 (u64 ea.num)++be 8 (u64 ea.clk))++(if f.cased then nameB ea.cas else [])++(if f.typed then nameB ea.typ else []))++nameB ea.nam).length (dc (((be 1 ea.op.toNat++be 8 (u64 ea.num)++be 8 (u64 ea.clk))++(if f.cased then nameB ea.cas else [])++(if f.typed then nameB ea.typ else []))++nameB ea.nam)):=by rw [List.length_append,bT]; exact hB6
         refine vR hF<|vX O fun a hF=>?_
         refine aJ ?_
         have hA55:Hp w0 (X6::[row b1 31 ([.int .i64 ea.op,.int .i64 ea.num,.int .i64 ea.clk,ak ea.typ,ak ea.cas,ak ea.nam,.int .i64 ea.v.v.k,.int .i64 ea.v.v.n,ak ea.v.v.t,.slice ea.v.sA ea.v.v.s.length ea.v.sC,.slice ea.aA ea.args.length ea.aC,.slice ea.bA ea.src.length ea.bC]++dc ea.eff)]::R) w53:=hpS 3 [1,2] [0] hA54 rfl
         exact hJN2 _ _ _ _ (by rw [if_pos hb]; exact hB6) (fun _=>hl) (by rw [if_pos hb,List.length_append,eF]; omega) (hF.keep [1,4] rfl) hA55
      rcases tf f.typed with hb | hb
      ·refine az hF O (by rw [Aw hop,← hf]; exact hb) ?_
       apply wp_skip
       exact hJN1 _ _ u0 _ (by rw [if_neg (show ¬ f.typed=true by rw [hb]; decide),List.append_nil]; exact hD0) (fun e=>by rw [hb] at e; cases e) (by rw [if_neg (show ¬ f.typed=true by rw [hb]; decide),List.append_nil]; omega) (hF.keep [1,4] rfl) hA
      ·refine aF hF O (by rw [Aw hop,← hf]; exact hb) ?_
       apply wp_seq_k; intro K55 hK55
       refine wS hF fun K56 hK56=>vV O (yf 3 O JQ O qQ O)<|vV O (aV O hA.q O 1 O O rq) fun a hF=>?_
       refine aI O (fun K hK=>aH hF O ae qG rfl rfl ?_)
       with_reducible refine (tH ea.typ _ hT hA).mono ?_
       rintro e' w58 ⟨rfl,rfl⟩
       refine ⟨_,rfl,fun a hF=>hK _ _ ?_⟩
       refine vR hF<|vV O (cZ O O O)<|vE hK56 fun a hF=>?_
       rcases tf (bU ea.typ) with hl | hl
       ·refine aF hF O (by rw [hl]; rfl) ?_
        refine wS hF fun K57 hK57=>vX O<|vX O<|vE hK57 fun a hF=>?_
        apply wp_ret
        simp only [Exit.then]
        refine dJ hF Tryz.results68 O O ?_
        have hA59:Hp w0 (R) x:=hpS 2 [] [0,1] hA rfl
        have h9:dS ea.ev=34:=iT hop hf (lT h0 (.inr (.inl ⟨hb,hl⟩))) ae
        exact ⟨_,[],by rw [h9] <;> rfl,eX (by rw [h9]; decide),Hp.nil hA59⟩
       ·refine az hF O (by rw [hl]; rfl) ?_
        have hll:=eP hl
        apply wp_skip
        refine hK55 _ _ ?_
        refine wp_region_lit ?_
        refine vR hF<|vX O<|vV O (yf 3 O JQ O qQ O)<|vV O (aV O hA.q O 1 O O rq) fun a hF=>?_
        refine aI O (fun K hK=>aH hF O ae qH rfl rfl ?_)
        with_reducible refine (lg ea.typ _ ag hA).mono ?_
        rintro e' w60 ⟨vN1,ZN1,rfl,hN1,hA61⟩
        refine ⟨_,rfl,fun a hF=>hK _ _ ?_⟩
        replace hA61:Hp w0 (ZN1::Y0::[row b1 31 ([.int .i64 ea.op,.int .i64 ea.num,.int .i64 ea.clk,ak ea.typ,ak ea.cas,ak ea.nam,.int .i64 ea.v.v.k,.int .i64 ea.v.v.n,ak ea.v.v.t,.slice ea.v.sA ea.v.v.s.length ea.v.sC,.slice ea.aA ea.args.length ea.aC,.slice ea.bA ea.src.length ea.bC]++dc ea.eff)]::R) w60:=hA61
        obtain ⟨_,AN1,cN1,rfl,hcN1,hRN1⟩:=hN1.rd (w0:=w0) (R:=[ZN1]) (JI ..)
        refine aI O (fun K hK=>bF hF O ae rfl hA61 1 O hD0 JG bW rfl rfl (Rc.src hRN1 (Hq.sub hA61.q (List.cons_subset.2 ⟨((JI ..)),List.nil_subset _⟩)) JG) (by rw [eF]; omega) ae (fun v6 X6 w62 a hB6 hF hA63=>hK _ _ ?_))
        replace hA63:Hp w0 (ZN1::X6::[row b1 31 ([.int .i64 ea.op,.int .i64 ea.num,.int .i64 ea.clk,ak ea.typ,ak ea.cas,ak ea.nam,.int .i64 ea.v.v.k,.int .i64 ea.v.v.n,ak ea.v.v.t,.slice ea.v.sA ea.v.v.s.length ea.v.sC,.slice ea.aA ea.args.length ea.aC,.slice ea.bA ea.src.length ea.bC]++dc ea.eff)]::R) w62:=hA63
        replace hB6:Buf 5 1 X6 v6 (((be 1 ea.op.toNat++be 8 (u64 ea.num)++be 8 (u64 ea.clk))++(if f.cased then nameB ea.cas else []))++nameB ea.typ).length (dc (((be 1 ea.op.toNat++be 8 (u64 ea.num)++be 8 (u64 ea.clk))++(if f.cased then nameB ea.cas else []))++nameB ea.typ)):=by rw [List.length_append,bT]; exact hB6
        refine vR hF<|vX O fun a hF=>?_
        refine aJ ?_
        have hA64:Hp w0 (X6::[row b1 31 ([.int .i64 ea.op,.int .i64 ea.num,.int .i64 ea.clk,ak ea.typ,ak ea.cas,ak ea.nam,.int .i64 ea.v.v.k,.int .i64 ea.v.v.n,ak ea.v.v.t,.slice ea.v.sA ea.v.v.s.length ea.v.sC,.slice ea.aA ea.args.length ea.aC,.slice ea.bA ea.src.length ea.bC]++dc ea.eff)]::R) w62:=hpS 3 [1,2] [0] hA63 rfl
        exact hJN1 _ _ _ _ (by rw [if_pos hb]; exact hB6) (fun _=>hl) (by rw [if_pos hb,List.length_append,eF]; omega) (hF.keep [1,4] rfl) hA64
     rcases tf f.cased with hb | hb
     ·refine az hF O (by rw [AB hop,← hf]; exact hb) ?_
      apply wp_skip
      exact hJN0 _ _ v5 _ (by rw [if_neg (show ¬ f.cased=true by rw [hb]; decide),List.append_nil]; exact hB5) (fun e=>by rw [hb] at e; cases e) (by rw [if_neg (show ¬ f.cased=true by rw [hb]; decide),List.append_nil]; omega) (hF.keep [1,4] rfl) hA10
     ·refine aF hF O (by rw [AB hop,← hf]; exact hb) ?_
      apply wp_seq_k; intro K58 hK58
      refine wS hF fun K59 hK59=>vV O (yf 4 O JQ O qQ O)<|vV O (aV O hA10.q O 1 O O rq) fun a hF=>?_
      refine aI O (fun K hK=>aH hF O ae zM rfl rfl ?_)
      with_reducible refine (Eh ea.cas _ hcas hA10).mono ?_
      rintro e' w67 ⟨rfl,rfl⟩
      refine ⟨_,rfl,fun a hF=>hK _ _ ?_⟩
      refine vR hF<|vV O (cZ O O O)<|vE hK59 fun a hF=>?_
      rcases tf (di ea.cas 64) with hl | hl
      ·refine aF hF O (by rw [hl]; rfl) ?_
       refine wS hF fun K60 hK60=>vX O<|vX O<|vE hK60 fun a hF=>?_
       apply wp_ret
       simp only [Exit.then]
       refine dJ hF Tryz.results68 O O ?_
       have hA68:Hp w0 (R) w8:=hpS 2 [] [0,1] hA10 rfl
       have h9:dS ea.ev=34:=iT hop hf (lT h0 (.inl ⟨hb,hl⟩)) ae
       exact ⟨_,[],by rw [h9] <;> rfl,eX (by rw [h9]; decide),Hp.nil hA68⟩
      ·refine az hF O (by rw [hl]; rfl) ?_
       have hll:=iV hl
       apply wp_skip
       refine hK58 _ _ ?_
       refine wp_region_lit ?_
       refine vR hF<|vX O<|vV O (yf 4 O JQ O qQ O)<|vV O (aV O hA10.q O 1 O O rq) fun a hF=>?_
       refine aI O (fun K hK=>aH hF O ae qH rfl rfl ?_)
       with_reducible refine (lg ea.cas _ ag hA10).mono ?_
       rintro e' w69 ⟨vN1,ZN1,rfl,hN1,hA70⟩
       refine ⟨_,rfl,fun a hF=>hK _ _ ?_⟩
       replace hA70:Hp w0 (ZN1::X5::[row b1 31 ([.int .i64 ea.op,.int .i64 ea.num,.int .i64 ea.clk,ak ea.typ,ak ea.cas,ak ea.nam,.int .i64 ea.v.v.k,.int .i64 ea.v.v.n,ak ea.v.v.t,.slice ea.v.sA ea.v.v.s.length ea.v.sC,.slice ea.aA ea.args.length ea.aC,.slice ea.bA ea.src.length ea.bC]++dc ea.eff)]::R) w69:=hA70
       obtain ⟨_,AN1,cN1,rfl,hcN1,hRN1⟩:=hN1.rd (w0:=w0) (R:=[ZN1]) (JI ..)
       refine aI O (fun K hK=>bF hF O ae rfl hA70 1 O hB5 JG bW rfl rfl (Rc.src hRN1 (Hq.sub hA70.q (List.cons_subset.2 ⟨((JI ..)),List.nil_subset _⟩)) JG) (by rw [eF]; omega) ae (fun v6 X6 w71 a hB6 hF hA72=>hK _ _ ?_))
       replace hA72:Hp w0 (ZN1::X6::[row b1 31 ([.int .i64 ea.op,.int .i64 ea.num,.int .i64 ea.clk,ak ea.typ,ak ea.cas,ak ea.nam,.int .i64 ea.v.v.k,.int .i64 ea.v.v.n,ak ea.v.v.t,.slice ea.v.sA ea.v.v.s.length ea.v.sC,.slice ea.aA ea.args.length ea.aC,.slice ea.bA ea.src.length ea.bC]++dc ea.eff)]::R) w71:=hA72
       replace hB6:Buf 5 1 X6 v6 (((be 1 ea.op.toNat++be 8 (u64 ea.num)++be 8 (u64 ea.clk)))++nameB ea.cas).length (dc (((be 1 ea.op.toNat++be 8 (u64 ea.num)++be 8 (u64 ea.clk)))++nameB ea.cas)):=by rw [List.length_append,bT]; exact hB6
       refine vR hF<|vX O fun a hF=>?_
       refine aJ ?_
       have hA73:Hp w0 (X6::[row b1 31 ([.int .i64 ea.op,.int .i64 ea.num,.int .i64 ea.clk,ak ea.typ,ak ea.cas,ak ea.nam,.int .i64 ea.v.v.k,.int .i64 ea.v.v.n,ak ea.v.v.t,.slice ea.v.sA ea.v.v.s.length ea.v.sC,.slice ea.aA ea.args.length ea.aC,.slice ea.bA ea.src.length ea.bC]++dc ea.eff)]::R) w71:=hpS 3 [1,2] [0] hA72 rfl
       exact hJN0 _ _ _ _ (by rw [if_pos hb]; exact hB6) (fun _=>hl) (by rw [if_pos hb,List.length_append,eF]; omega) (hF.keep [1,4] rfl) hA73
    refine nK 8 [3,6,7,8] (.op 0 (.op 1 (.op 2 (.op 4 (.op 5 (.fork 3 6 (.op 6 (.op 7 (.op 8 .done))) (.op 3 (.op 7 (.op 8 .done))))))))) (fun x=>Hq w0 ([row b1 31 ([.int .i64 ea.op,.int .i64 ea.num,.int .i64 ea.clk,ak ea.typ,ak ea.cas,ak ea.nam,.int .i64 ea.v.v.k,.int .i64 ea.v.v.n,ak ea.v.v.t,.slice ea.v.sA ea.v.v.s.length ea.v.sC,.slice ea.aA ea.args.length ea.aC,.slice ea.bA ea.src.length ea.bC]++dc ea.eff)]::R) x) af af (Hq.drew (hA5.q)) ?_
    have hA74:=Hl.drew hA5
    refine Aj hF O O O O ae _ (fun x hx=>yf 0 O JQ O gU O) (fun a hF=>?_)
    refine Aj hF O O O O ae _ (fun x hx=>aV O hx O 0 O O jW) (fun a hF=>?_)
    refine Aj hF O O O O ae _ (fun x hx=>bM O JM JV O (kb8 (k:=ea.op) ag)) (fun a hF=>?_)
    refine Aj hF O O O O ae _ (fun x hx=>yf 1 O JQ O gU O) (fun a hF=>?_)
    refine Aj hF O O O O ae _ (fun x hx=>aV O hx O 0 O O jW) (fun a hF=>?_)
    refine D7 O O O O (fun K hK=>?_) (fun K hK=>?_)
    ·refine gX hF O ae rfl hA74 (UInt8.ofNat ea.op.toNat) rfl gV (fun b75 w76 a hb75 hF hA77=>hK _ _ ?_ ?_)
     ·exact (qT hA77)
     replace hA77:Hp w0 ([row b75 5 (dc [(UInt8.ofNat ea.op.toNat)])]::[row b1 31 ([.int .i64 ea.op,.int .i64 ea.num,.int .i64 ea.clk,ak ea.typ,ak ea.cas,ak ea.nam,.int .i64 ea.v.v.k,.int .i64 ea.v.v.n,ak ea.v.v.t,.slice ea.v.sA ea.v.v.s.length ea.v.sC,.slice ea.aA ea.args.length ea.aC,.slice ea.bA ea.src.length ea.bC]++dc ea.eff)]::R) w76:=hA77
     refine D6 O O O (fun K hK=>aH hF O ae zQ rfl rfl ?_)
     with_reducible refine (gI ea.num 8 8 _ O ae hA77).mono ?_
     rintro e' w78 ⟨vN1,ZN1,rfl,hN1,hA79⟩
     refine ⟨_,rfl,fun a hF=>hK _ _ (fun _=>?_) ?_⟩
     ·exact Hp.qp [ZN1,[row b75 5 (dc [(UInt8.ofNat ea.op.toNat)])],[row b1 31 ([.int .i64 ea.op,.int .i64 ea.num,.int .i64 ea.clk,ak ea.typ,ak ea.cas,ak ea.nam,.int .i64 ea.v.v.k,.int .i64 ea.v.v.n,ak ea.v.v.t,.slice ea.v.sA ea.v.v.s.length ea.v.sC,.slice ea.aA ea.args.length ea.aC,.slice ea.bA ea.src.length ea.bC]++dc ea.eff)]] R [2] hA79
     replace hA79:Hp w0 (ZN1::[row b75 5 (dc [(UInt8.ofNat ea.op.toNat)])]::[row b1 31 ([.int .i64 ea.op,.int .i64 ea.num,.int .i64 ea.clk,ak ea.typ,ak ea.cas,ak ea.nam,.int .i64 ea.v.v.k,.int .i64 ea.v.v.n,ak ea.v.v.t,.slice ea.v.sA ea.v.v.s.length ea.v.sC,.slice ea.aA ea.args.length ea.aC,.slice ea.bA ea.src.length ea.bC]++dc ea.eff)]::R) w78:=hA79
     obtain ⟨_,AN1,cN1,rfl,hcN1,hRN1⟩:=hN1.rd (w0:=w0) (R:=[ZN1]) (JI ..)
     have hB0:Buf 5 1 [row b75 5 (dc [(UInt8.ofNat ea.op.toNat)])] (.slice (some ⟨b75,0,none⟩) 1 1) ([(UInt8.ofNat ea.op.toNat)]).length (dc ([(UInt8.ofNat ea.op.toNat)])):=Buf.full rfl ae
     refine D6 O O O (fun K hK=>bF hF O ae rfl hA79 1 O hB0 JG bW rfl rfl (Rc.src hRN1 (Hq.sub hA79.q (List.cons_subset.2 ⟨((JI ..)),List.nil_subset _⟩)) JG) (by rw [bf,show [(UInt8.ofNat ea.op.toNat)].length=1 from rfl]; decide) ae (fun v3 X3 w80 a hB3 hF hA81=>hK _ _ (fun _=>?_) ?_))
     ·exact Hp.qp [ZN1,X3,[row b1 31 ([.int .i64 ea.op,.int .i64 ea.num,.int .i64 ea.clk,ak ea.typ,ak ea.cas,ak ea.nam,.int .i64 ea.v.v.k,.int .i64 ea.v.v.n,ak ea.v.v.t,.slice ea.v.sA ea.v.v.s.length ea.v.sC,.slice ea.aA ea.args.length ea.aC,.slice ea.bA ea.src.length ea.bC]++dc ea.eff)]] R [2] hA81
     replace hA81:Hp w0 (ZN1::X3::[row b1 31 ([.int .i64 ea.op,.int .i64 ea.num,.int .i64 ea.clk,ak ea.typ,ak ea.cas,ak ea.nam,.int .i64 ea.v.v.k,.int .i64 ea.v.v.n,ak ea.v.v.t,.slice ea.v.sA ea.v.v.s.length ea.v.sC,.slice ea.aA ea.args.length ea.aC,.slice ea.bA ea.src.length ea.bC]++dc ea.eff)]::R) w80:=hA81
     replace hB3:Buf 5 1 X3 v3 ([(UInt8.ofNat ea.op.toNat)]++be 8 (u64 ea.num)).length (dc ([(UInt8.ofNat ea.op.toNat)]++be 8 (u64 ea.num))):=by rw [List.length_append,bT]; exact hB3
     refine Gi hF O O O O ae _ (jk O O) (fun h=>absurd h ae) (fun a hF=>?_)
     refine Be ?_
     have hA82:Hp w0 (X3::[row b1 31 ([.int .i64 ea.op,.int .i64 ea.num,.int .i64 ea.clk,ak ea.typ,ak ea.cas,ak ea.nam,.int .i64 ea.v.v.k,.int .i64 ea.v.v.n,ak ea.v.v.t,.slice ea.v.sA ea.v.v.s.length ea.v.sC,.slice ea.aA ea.args.length ea.aC,.slice ea.bA ea.src.length ea.bC]++dc ea.eff)]::R) w80:=hpS 3 [1,2] [0] hA81 rfl
     rw [← sH] at hB3
     exact hJ _ _ _ _ hB3 (hF.keep [1,4] rfl) hA82
    ·refine aH hF O ae zQ rfl rfl ?_
     with_reducible refine (gI ea.num 8 8 _ O ae hA74).mono ?_
     rintro e' w83 ⟨vN1,ZN1,rfl,hN1,hA84⟩
     refine ⟨_,rfl,fun a hF=>hK _ _ ?_ ?_⟩
     ·exact (qT hA84)
     replace hA84:Hp w0 (ZN1::[row b1 31 ([.int .i64 ea.op,.int .i64 ea.num,.int .i64 ea.clk,ak ea.typ,ak ea.cas,ak ea.nam,.int .i64 ea.v.v.k,.int .i64 ea.v.v.n,ak ea.v.v.t,.slice ea.v.sA ea.v.v.s.length ea.v.sC,.slice ea.aA ea.args.length ea.aC,.slice ea.bA ea.src.length ea.bC]++dc ea.eff)]::R) w83:=hA84
     obtain ⟨_,AN1,cN1,rfl,hcN1,hRN1⟩:=hN1.rd (w0:=w0) (R:=[ZN1]) (JI ..)
     refine D6 O O O (fun K hK=>gX hF O ae rfl hA84 (UInt8.ofNat ea.op.toNat) rfl gV (fun b85 w86 a hb85 hF hA87=>hK _ _ (fun _=>?_) ?_))
     ·exact Hp.qp [[row b85 5 (dc [(UInt8.ofNat ea.op.toNat)])],ZN1,[row b1 31 ([.int .i64 ea.op,.int .i64 ea.num,.int .i64 ea.clk,ak ea.typ,ak ea.cas,ak ea.nam,.int .i64 ea.v.v.k,.int .i64 ea.v.v.n,ak ea.v.v.t,.slice ea.v.sA ea.v.v.s.length ea.v.sC,.slice ea.aA ea.args.length ea.aC,.slice ea.bA ea.src.length ea.bC]++dc ea.eff)]] R [2] hA87
     replace hA87:Hp w0 ([row b85 5 (dc [(UInt8.ofNat ea.op.toNat)])]::ZN1::[row b1 31 ([.int .i64 ea.op,.int .i64 ea.num,.int .i64 ea.clk,ak ea.typ,ak ea.cas,ak ea.nam,.int .i64 ea.v.v.k,.int .i64 ea.v.v.n,ak ea.v.v.t,.slice ea.v.sA ea.v.v.s.length ea.v.sC,.slice ea.aA ea.args.length ea.aC,.slice ea.bA ea.src.length ea.bC]++dc ea.eff)]::R) w86:=hA87
     have hB0:Buf 5 1 [row b85 5 (dc [(UInt8.ofNat ea.op.toNat)])] (.slice (some ⟨b85,0,none⟩) 1 1) ([(UInt8.ofNat ea.op.toNat)]).length (dc ([(UInt8.ofNat ea.op.toNat)])):=Buf.full rfl ae
     refine D6 O O O (fun K hK=>bF hF O ae rfl hA87 0 O hB0 JG bW rfl rfl (Rc.src hRN1 (Hq.sub hA87.q (List.cons_subset.2 ⟨(JJ _ ((JI ..))),List.nil_subset _⟩)) JG) (by rw [bf,show [(UInt8.ofNat ea.op.toNat)].length=1 from rfl]; decide) ae (fun v3 X3 w88 a hB3 hF hA89=>hK _ _ (fun _=>?_) ?_))
     ·exact Hp.qp [X3,ZN1,[row b1 31 ([.int .i64 ea.op,.int .i64 ea.num,.int .i64 ea.clk,ak ea.typ,ak ea.cas,ak ea.nam,.int .i64 ea.v.v.k,.int .i64 ea.v.v.n,ak ea.v.v.t,.slice ea.v.sA ea.v.v.s.length ea.v.sC,.slice ea.aA ea.args.length ea.aC,.slice ea.bA ea.src.length ea.bC]++dc ea.eff)]] R [2] hA89
     replace hA89:Hp w0 (X3::ZN1::[row b1 31 ([.int .i64 ea.op,.int .i64 ea.num,.int .i64 ea.clk,ak ea.typ,ak ea.cas,ak ea.nam,.int .i64 ea.v.v.k,.int .i64 ea.v.v.n,ak ea.v.v.t,.slice ea.v.sA ea.v.v.s.length ea.v.sC,.slice ea.aA ea.args.length ea.aC,.slice ea.bA ea.src.length ea.bC]++dc ea.eff)]::R) w88:=hA89
     replace hB3:Buf 5 1 X3 v3 ([(UInt8.ofNat ea.op.toNat)]++be 8 (u64 ea.num)).length (dc ([(UInt8.ofNat ea.op.toNat)]++be 8 (u64 ea.num))):=by rw [List.length_append,bT]; exact hB3
     refine Gi hF O O O O ae _ (jk O O) (fun h=>absurd h ae) (fun a hF=>?_)
     refine Be ?_
     have hA90:Hp w0 (X3::[row b1 31 ([.int .i64 ea.op,.int .i64 ea.num,.int .i64 ea.clk,ak ea.typ,ak ea.cas,ak ea.nam,.int .i64 ea.v.v.k,.int .i64 ea.v.v.n,ak ea.v.v.t,.slice ea.v.sA ea.v.v.s.length ea.v.sC,.slice ea.aA ea.args.length ea.aC,.slice ea.bA ea.src.length ea.bC]++dc ea.eff)]::R) w88:=hpS 3 [0,2] [1] hA89 rfl
     rw [← sH] at hB3
     exact hJ _ _ _ _ hB3 (hF.keep [1,4] rfl) hA90
   ·refine aF hF O h3 ?_
    refine wS hF fun K61 hK61=>vX O<|vX O<|vE hK61 fun a hF=>?_
    apply wp_ret
    simp only [Exit.then]
    refine dJ hF Tryz.results68 O O ?_
    have hA91:Hp w0 (R) w4:=hpS 1 [] [0] hA5 rfl
    have h9:dS ea.ev=8:=iT hop hf (Ba (Gl (by rw [hf]; exact Jh hop h3))) ae
    exact ⟨_,[],by rw [h9] <;> rfl,eX (by rw [h9]; decide),Hp.nil hA91⟩
  ·refine aF hF O h2 ?_
   refine wS hF fun K62 hK62=>vX O<|vX O<|vE hK62 fun a hF=>?_
   apply wp_ret
   simp only [Exit.then]
   refine dJ hF Tryz.results68 O O ?_
   have hA92:Hp w0 (R) w2:=hpS 1 [] [0] hA3 rfl
   have h9:dS ea.ev=8:=iT hop hf (Ba (Gl (by rw [hf]; exact Ji hop h2))) ae
   exact ⟨_,[],by rw [h9] <;> rfl,eX (by rw [h9]; decide),Hp.nil hA92⟩
 ·refine aF hF O h1 ?_
  refine wS hF fun K63 hK63=>vX O<|vX O<|vE hK63 fun a hF=>?_
  apply wp_ret
  simp only [Exit.then]
  refine dJ hF Tryz.results68 O O ?_
  have hA93:Hp w0 (R) w2:=hpS 1 [] [0] hA3 rfl
  have h9:dS ea.ev=8:=CE (IX h1)
  exact ⟨_,[],by rw [h9] <;> rfl,eX (by rw [h9]; decide),Hp.nil hA93⟩
end Go.Proofs.YtepbmdlgdaedpaaGreatDoor
