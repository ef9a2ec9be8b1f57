/- Readings by place and first refusal; a value is taken: TakeValue. -/
import Derived.Test.YtepbmdlgdaedpaaGreatDoorEv5
/- Readings by place and first refusal; a value is taken: TakeValue. -/
namespace Go.Proofs.YtepbmdlgdaedpaaGreatDoor
open Go.RowKit Go.Dk
theorem Je:aK Tryz.prog 32:=⟨_,Tryz.func32,af,af⟩
theorem oD:aK Tryz.prog 53:=⟨_,Tryz.func53,af,af⟩
theorem AZ:aK Tryz.prog 80:=⟨_,Tryz.func80,af,af⟩
theorem I5:aK Tryz.prog 81:=⟨_,Tryz.func81,af,af⟩
theorem IQ:aK Tryz.prog 99:=⟨_,Tryz.func99,af,af⟩
theorem Gm:aK Tryz.prog 100:=⟨_,Tryz.func100,af,af⟩
def VA.Own (Z:Seg) (a:VA):Prop:=Buf 9 1 Z (.slice a.sA a.v.s.length a.sC) a.v.s.length (a.v.s.map aj)
theorem kU {α:Type} {r:List UInt8→Res α} {d:α} {l:List UInt8} {p y:Nat} (hp:p≤l.length) (h:∀ v k,r (l.drop p)= .ok v k→k≤(l.drop p).length):(got r d l p y).p≤l.length:=by
 unfold got Res.pl
 show (if y=0 then _ else p)≤_
 split
 ·cases hr:r (l.drop p) with
  | ok v k=>have:=h v k hr; rw [List.length_drop] at this; show p+k≤_; omega
  | no e=>exact hp
 ·exact hp
theorem uQ {K k v:Nat} {r:List UInt8} (h:eQ K r= .ok v k):k≤r.length:=by
 unfold eQ at h
 split at h
 ·cases h
 ·injection h with _ h; omega
theorem qW (K:Nat) (l:List UInt8) (p y:Nat):(got (eQ K) 0 l p y).v<256 ^ K:=by
 unfold got Res.val
 show (if y=0 then _ else 0)<_
 have hz:0<256 ^ K:=Nat.pos_of_ne_zero (by simp)
 split
 ·cases hr:eQ K (l.drop p) with
  | ok v k =>
   unfold eQ at hr
   split at hr
   ·cases hr
   ·injection hr with h1 _
    show v<_
    rw [← h1]
    exact Nat.lt_of_lt_of_le (lJ _) (Nat.pow_le_pow_right ae (by rw [List.length_take]; omega))
  | no e=>exact hz
 ·exact hz
theorem ES {k:Nat} {v:Bool} {r:List UInt8} (h:jl r= .ok v k):k≤r.length:=by
 unfold jl at h
 split at h
 ·cases h
 ·injection h with _ h; omega
theorem zY {k:Nat} {n:Int} {v r:List UInt8} (h:eF r n= .ok v k):k≤r.length:=by
 unfold eF at h
 split at h
 ·cases h
 ·injection h with _ h; omega
theorem oO {K e k:Nat} {r v:List UInt8} {b:Int} (h:iE K e r b= .ok v k):k≤r.length:=(xh h).1
theorem yK (each:Int) (k:Nat) (acc:List (List UInt8)) (at_:Nat) (r:List UInt8) {ss:List (List UInt8)} {j:Nat} (h:iH each k acc at_ r= .ok ss j):j≤at_+r.length:=by
 induction k generalizing acc at_ r with
 | zero=>unfold iH at h; injection h with _ h; omega
 | succ k ih =>
  unfold iH at h
  cases ht:eU r each with
  | no e=>rw [ht] at h; cases h
  | ok s m =>
   rw [ht] at h
   simp only at h
   have h2:=oO ht
   split at h
   ·cases h
   ·have:=ih _ _ _ h
    rw [List.length_drop] at this
    omega
theorem BN {k:Nat} {most each:Int} {ss:List (List UInt8)} {r:List UInt8} (h:fZ r most each= .ok ss k):k≤r.length:=by
 unfold fZ at h
 split at h
 ·cases h
 ·split at h
  ·cases h
  ·have:=yK _ _ _ _ _ h
   rw [List.length_drop] at this
   omega
theorem nT (w0 w:World) (R:List Seg) (rb:Nat) (A:Option Addr) (l:List UInt8) (c p y:Nat) (X:Seg) (hO:Buf 5 1 X (.slice A l.length c) l.length (dc l)) (hA:Hp w0 ([row rb 152 [.slice A l.length c,.int .i64 (p:Nat),.int .i64 (y:Nat)]]::X::R) w) (hp:p≤l.length) (hl:l.length<140737488354000):Calls Tryz.prog 32 #[.pointer (some ⟨rb,0,none⟩)] w fun e w'=>∃ k p1 y1,e= .returned (.int .u8 (k:Nat))∧got (eQ 1) 0 l p y=⟨k,p1,y1⟩∧p1≤l.length∧k<256 ^ 1∧Hp w0 ([row rb 152 [.slice A l.length c,.int .i64 (p1:Nat),.int .i64 (y1:Nat)]]::X::R) w' :=
 (sN w0 w R rb A l c p y X hO hA hp hl).mono fun e w' ⟨h1,h2⟩=>⟨_,_,_,h1,rfl,kU (r:=eQ 1) (d:=0) hp fun _ _ h=>uQ h,qW 1 l p y,h2⟩
theorem mr (w0 w:World) (R:List Seg) (rb:Nat) (A:Option Addr) (l:List UInt8) (c p y:Nat) (X:Seg) (hO:Buf 5 1 X (.slice A l.length c) l.length (dc l)) (hA:Hp w0 ([row rb 152 [.slice A l.length c,.int .i64 (p:Nat),.int .i64 (y:Nat)]]::X::R) w) (hp:p≤l.length) (hl:l.length<140737488354000):Calls Tryz.prog 80 #[.pointer (some ⟨rb,0,none⟩)] w fun e w'=>∃ k p1 y1,e= .returned (.int .u64 (k:Nat))∧got (eQ 8) 0 l p y=⟨k,p1,y1⟩∧p1≤l.length∧k<256 ^ 8∧Hp w0 ([row rb 152 [.slice A l.length c,.int .i64 (p1:Nat),.int .i64 (y1:Nat)]]::X::R) w' :=
 (ru w0 w R rb A l c p y X hO hA hp hl).mono fun e w' ⟨h1,h2⟩=>⟨_,_,_,h1,rfl,kU (r:=eQ 8) (d:=0) hp fun _ _ h=>uQ h,qW 8 l p y,h2⟩
theorem Ir (w0 w:World) (R:List Seg) (rb:Nat) (A:Option Addr) (l:List UInt8) (c p y:Nat) (X:Seg) (hO:Buf 5 1 X (.slice A l.length c) l.length (dc l)) (hA:Hp w0 ([row rb 152 [.slice A l.length c,.int .i64 (p:Nat),.int .i64 (y:Nat)]]::X::R) w) (hp:p≤l.length) (hl:l.length<140737488354000):Calls Tryz.prog 99 #[.pointer (some ⟨rb,0,none⟩)] w fun e w'=>∃ b p1 y1,e= .returned (.bool b)∧got jl false l p y=⟨b,p1,y1⟩∧p1≤l.length∧Hp w0 ([row rb 152 [.slice A l.length c,.int .i64 (p1:Nat),.int .i64 (y1:Nat)]]::X::R) w' :=
 (Ip w0 w R rb A l c p y X hO hA hp hl).mono fun e w' ⟨h1,h2⟩=>⟨_,_,_,h1,rfl,kU (r:=jl) (d:=false) hp fun _ _ h=>ES h,h2⟩
theorem qx (w0 w:World) (R:List Seg) (rb:Nat) (A:Option Addr) (l:List UInt8) (c p y:Nat) (X:Seg) (most:Int) (hO:Buf 5 1 X (.slice A l.length c) l.length (dc l)) (hA:Hp w0 ([row rb 152 [.slice A l.length c,.int .i64 (p:Nat),.int .i64 (y:Nat)]]::X::R) w) (hp:p≤l.length) (hl:l.length<140737488354000):Calls Tryz.prog 81 #[.pointer (some ⟨rb,0,none⟩),.int .i64 most] w fun e w'=>∃ s p1 y1,e= .returned (aj s)∧got (eU · most) [] l p y=⟨s,p1,y1⟩∧p1≤l.length∧Hp w0 ([row rb 152 [.slice A l.length c,.int .i64 (p1:Nat),.int .i64 (y1:Nat)]]::X::R) w' :=
 (Io w0 w R rb A l c p y X most hO hA hp hl).mono fun e w' ⟨h1,h2⟩=>⟨_,_,_,h1,rfl,kU (r:=(eU · most)) (d:=[]) hp fun _ _ h=>oO h,h2⟩
theorem EK (w0 w:World) (R:List Seg) (rb:Nat) (A:Option Addr) (l:List UInt8) (c p y:Nat) (X:Seg) (most each:Int) (hO:Buf 5 1 X (.slice A l.length c) l.length (dc l)) (hA:Hp w0 ([row rb 152 [.slice A l.length c,.int .i64 (p:Nat),.int .i64 (y:Nat)]]::X::R) w) (hp:p≤l.length) (hl:l.length<140737488354000):Calls Tryz.prog 100 #[.pointer (some ⟨rb,0,none⟩),.int .i64 most,.int .i64 each] w fun e w'=>∃ (ss:List (List UInt8)) (p1 y1:Nat) (A2:Option Addr) (c2:Nat) (Z:Seg),e= .returned (.slice A2 ss.length c2)∧got (fZ · most each) [] l p y=⟨ss,p1,y1⟩∧p1≤l.length∧(Rc w0 [Z] A2 (ss.map aj)∧Buf 9 1 Z (.slice A2 ss.length c2) ss.length (ss.map aj))∧ss.length≤9223372036854775807∧Hp w0 (Z::[row rb 152 [.slice A l.length c,.int .i64 (p1:Nat),.int .i64 (y1:Nat)]]::X::R) w' :=
 (EI w0 w R rb A l c p y X most each hO hA hp hl).mono fun e w' ⟨v,Z,h1,h2,h3⟩=>by
  obtain ⟨A2,c2,h4,h5,h6⟩:=h2.rc (w0:=w0) (R:=[Z]) (Nu ..)
  obtain ⟨_,_,h7,h8,h9⟩:=h2.cap
  exact ⟨_,_,_,A2,c2,Z,by rw [h1,h4] <;> rfl,rfl,kU (r:=(fZ · most each)) (d:=[]) hp fun _ _ h=>BN h,⟨h6,by rw [← h4]; exact h2⟩,Nat.le_trans h8 h9,h3⟩
theorem EM (w0 w:World) (R:List Seg) (rb:Nat) (A:Option Addr) (l:List UInt8) (c p y:Nat) (X:Seg) (most:Int) (hO:Buf 5 1 X (.slice A l.length c) l.length (dc l)) (hA:Hp w0 ([row rb 152 [.slice A l.length c,.int .i64 (p:Nat),.int .i64 (y:Nat)]]::X::R) w) (hp:p≤l.length) (hl:l.length<140737488354000):Calls Tryz.prog 82 #[.pointer (some ⟨rb,0,none⟩),.int .i64 most] w fun e w'=>∃ (s:List UInt8) (p1 y1:Nat) (A2:Option Addr) (c2:Nat) (Z:Seg),e= .returned (.slice A2 s.length c2)∧got (iK · most) [] l p y=⟨s,p1,y1⟩∧p1≤l.length∧(Rd w0 [Z] A2 s∧Buf 5 1 Z (.slice A2 s.length c2) s.length (dc s))∧s.length≤9223372036854775807∧Hp w0 (Z::[row rb 152 [.slice A l.length c,.int .i64 (p1:Nat),.int .i64 (y1:Nat)]]::X::R) w' :=
 (EJ w0 w R rb A l c p y X most hO hA hp hl).mono fun e w' ⟨v,Z,h1,h2,h3⟩=>by
  obtain ⟨A2,c2,h4,h5,h6⟩:=h2.rc (w0:=w0) (R:=[Z]) (Nu ..)
  obtain ⟨_,_,h7,h8,h9⟩:=h2.cap
  exact ⟨_,_,_,A2,c2,Z,by rw [h1,h4] <;> rfl,rfl,kU (r:=(iK · most)) (d:=[]) hp fun _ _ h=>oO h,⟨h6,by rw [← h4]; exact h2⟩,Nat.le_trans h8 h9,h3⟩
theorem BZ (r:List UInt8) (y:Nat):((eF r 32).val (List.replicate 32 0) y).length=32:=by
 rcases Js r y with ⟨_,h⟩ | ⟨_,h⟩
 ·rw [h]; rfl
 ·exact h
theorem CE (w0 w:World) (R:List Seg) (rb:Nat) (A:Option Addr) (l:List UInt8) (c p y:Nat) (X:Seg) (hO:Buf 5 1 X (.slice A l.length c) l.length (dc l)) (hA:Hp w0 ([row rb 152 [.slice A l.length c,.int .i64 (p:Nat),.int .i64 (y:Nat)]]::X::R) w) (hp:p≤l.length) (hl:l.length<140737488354000):Calls Tryz.prog 83 #[.pointer (some ⟨rb,0,none⟩)] w fun e w'=>∃ (d:List UInt8) (p1 y1:Nat),e= .returned (.agg (dc d).toArray)∧got (eF · 32) (List.replicate 32 0) l p y=⟨d,p1,y1⟩∧p1≤l.length∧d.length=32∧Hp w0 ([row rb 152 [.slice A l.length c,.int .i64 (p1:Nat),.int .i64 (y1:Nat)]]::X::R) w' :=
 (Cm w0 w R rb A l c p y X hO hA hp hl).mono fun e w' ⟨h1,h2⟩=>⟨_,_,_,h1,rfl,kU (r:=(eF · 32)) (d:=List.replicate 32 0) hp fun _ _ h=>zY h,BZ _ _,h2⟩
theorem JB (z:Int) (w:World):(Instr.build 25 #[(0,.int .i64 z)]).run Tryz.prog w= .ok (.agg ([.int .i64 z,.int .i64 0,aj [],.slice none 0 0]:List Value).toArray) w:=af
theorem vO (w:World):(Instr.build 25 #[]).run Tryz.prog w= .ok (.agg ([.int .i64 0,.int .i64 0,aj [],.slice none 0 0]:List Value).toArray) w:=af
theorem nO {n:Nat} (h:n<18446744073709551616):IntKind.i64.wrap ((n:Nat):Int)=i64 n:=by
 rw [IntKind.wrap_i64]
 unfold i64
 split <;> omega
theorem i64_in {n:Nat} (h:n<18446744073709551616) : -9223372036854775808≤i64 n∧i64 n≤9223372036854775807:=by unfold i64; split <;> omega
theorem qC {w0:World} {k:Nat} {n:Int} {t:List UInt8} {G:List Seg} (hk:k<256) (hn : -9223372036854775808≤n∧n≤9223372036854775807):VA.Ok w0 G ⟨⟨((k:Nat):Int),n,t,[]⟩,none,0⟩:=⟨Rc.nil,Nl _,⟨⟨by show (_:Int)≤(k:Int); omega,by show (k:Int)≤_; omega⟩,hn⟩⟩
theorem Ld {w0:World} {k:Nat} {ss:List (List UInt8)} {A2:Option Addr} {c2:Nat} {G:List Seg} (hk:k<256) (hR:Rc w0 G A2 (ss.map aj)) (hs:ss.length≤9223372036854775807):VA.Ok w0 G ⟨⟨((k:Nat):Int),0,[],ss⟩,A2,c2⟩:=⟨hR,hs,⟨⟨by show (_:Int)≤(k:Int); omega,by show (k:Int)≤_; omega⟩,⟨by show (_:Int)≤0; decide,by show (0:Int)≤_; decide⟩⟩⟩
theorem nI {w0:World} {G:List Seg}:VA.Ok w0 G ⟨noVal,none,0⟩:=⟨Rc.nil,Nl _,⟨ ae,ae⟩⟩
theorem uj {k:Nat} {l:List UInt8} {p y n p2 y2:Nat} (h:k=1∨k=4) (hg:got (eQ 8) 0 l p y=⟨n,p2,y2⟩):dX k l p y=⟨⟨k,i64 n,[],[]⟩,p2,y2⟩:=by
 unfold dX
 rw [if_pos h,hg]
theorem ui {k:Nat} {l:List UInt8} {p y p2 y2:Nat} {b:Bool} (h:k=2) (hg:got jl false l p y=⟨b,p2,y2⟩):dX k l p y=⟨⟨k,if b then 1 else 0,[],[]⟩,p2,y2⟩:=by
 unfold dX
 rw [if_neg ag,if_pos h,hg]
theorem CO {k:Nat} {l:List UInt8} {p y p2 y2:Nat} {t:List UInt8} (h:k=3) (hg:got (eU · 1024) [] l p y=⟨t,p2,y2⟩):dX k l p y=⟨⟨k,0,t,[]⟩,p2,y2⟩:=by
 unfold dX
 rw [if_neg ag,if_neg ag,if_pos h,hg]
theorem CJ {k:Nat} {l:List UInt8} {p y p2 y2:Nat} {ss:List (List UInt8)} (h:k=5) (hg:got (fZ · 64 1024) [] l p y=⟨ss,p2,y2⟩):dX k l p y=⟨⟨k,0,[],ss⟩,p2,y2⟩:=by
 unfold dX
 rw [if_neg ag,if_neg ag,if_neg ag,if_pos h,hg]
theorem uk {k:Nat} {l:List UInt8} {p y:Nat} (h:k=0∨(¬ k=1∧¬ k=4∧¬ k=2∧¬ k=3∧¬ k=5)):dX k l p y=⟨⟨k,0,[],[]⟩,p,y⟩:=by
 unfold dX
 rw [if_neg ag,if_neg ag,if_neg ag,if_neg ag]
theorem o9 {l:List UInt8} {p y k p1 y1 p2 y2:Nat} {v:Val} (h1:got (eQ 1) 0 l p y=⟨k,p1,y1⟩) (h2:dX k l p1 y1=⟨v,p2,y2⟩):cu l p y=⟨if (if y2=0∧v.right≠0 then 8 else y2)=0 then v else noVal,p2,if y2=0∧v.right≠0 then 8 else y2⟩:=by
 unfold cu
 rw [h1]
 show (let b:=dX k l p1 y1; let y2:=if b.y=0∧b.v.right≠0 then 8 else b.y; (⟨if y2=0 then b.v else noVal,b.p,y2⟩:Got Val))=_
 rw [h2]
theorem MW {l:List UInt8} {p y k p1 y1 p2:Nat} {v:Val} (h1:got (eQ 1) 0 l p y=⟨k,p1,y1⟩) (h2:dX k l p1 y1=⟨v,p2,0⟩) (hr:v.right=0):cu l p y=⟨v,p2,0⟩:=by
 rw [o9 h1 h2]
 simp [hr]
theorem MV {l:List UInt8} {p y k p1 y1 p2:Nat} {v:Val} (h1:got (eQ 1) 0 l p y=⟨k,p1,y1⟩) (h2:dX k l p1 y1=⟨v,p2,0⟩) (hr:¬ v.right=0):cu l p y=⟨noVal,p2,8⟩:=by
 rw [o9 h1 h2]
 simp [hr]
theorem MS {l:List UInt8} {p y k p1 y1 p2 y2:Nat} {v:Val} (h1:got (eQ 1) 0 l p y=⟨k,p1,y1⟩) (h2:dX k l p1 y1=⟨v,p2,y2⟩) (hy:¬ y2=0):cu l p y=⟨noVal,p2,y2⟩:=by
 rw [o9 h1 h2]
 simp [hy]
theorem BX {r:List UInt8} {p:Nat}:(eF r (-1)).pl p 0=p:=by rw [show eF r (-1)= .no 8 from if_pos (.inl ae)]; rfl
theorem BU {r:List UInt8}:(eF r (-1)).why 0=8:=by rw [show eF r (-1)= .no 8 from if_pos (.inl ae)]; rfl
set_option maxRecDepth 100000 in
set_option maxHeartbeats 4000000 in
theorem rJ (w0 w:World) (R:List Seg) (rb:Nat) (A:Option Addr) (l:List UInt8) (c p y:Nat) (X:Seg) (hO:Buf 5 1 X (.slice A l.length c) l.length (dc l)) (hA:Hp w0 ([row rb 152 [.slice A l.length c,.int .i64 (p:Nat),.int .i64 (y:Nat)]]::X::R) w) (hp:p≤l.length) (hl:l.length<140737488354000):Calls Tryz.prog 35 #[.pointer (some ⟨rb,0,none⟩)] w fun e w'=>∃ (va:VA) (Z:Seg),e= .returned (.tuple #[.agg va.cells.toArray,.int .i64 ((cu l p y).y:Nat)])∧va.v=(cu l p y).v∧(va.Ok w0 [Z]∧va.Own Z)∧(cu l p y).p≤l.length∧Hp w0 (Z::[row rb 152 [.slice A l.length c,.int .i64 ((cu l p y).p:Nat),.int .i64 ((cu l p y).y:Nat)]]::X::R) w':=by
 refine aP Tryz.func35 O Tryz.ntmps35 ai (fun a hF=>?_)
 refine wp_seq_k fun K1 hK1=>wp_region_lit ?_
 refine ax O (fun K hK=>dC hF O ae rfl hA (zQ) (fun b1 w2 a hb1 hF hA3=>hK _ _ ?_))
 refine vR hF<|vX O<|vE hK1<|wQ fun K2 hK2=>wT fun K3 hK3=>vX O<|vV O (gy O af rfl rfl)<|vE hK3<|vF1 O<|wKp hK2<|wT fun K4 hK4=>vX O fun a hF=>?_
 have hA4:Hp w0 ([row rb 152 [.slice A l.length c,.int .i64 (p:Nat),.int .i64 (y:Nat)]]::X::[row b1 25 [.int .i64 0,.int .i64 0,.string (⟨#[]⟩),.slice none 0 0]]::R) w2:=hpO 3 [1,2,0] hA3 rfl
 refine ax O (fun K hK=>ay hF O ae Je rfl rfl ?_)
 with_reducible refine (nT w0 _ ([row b1 25 [.int .i64 0,.int .i64 0,.string (⟨#[]⟩),.slice none 0 0]]::R) rb A l c p y X hO hA4 hp hl).mono ?_
 rintro e' w5 ⟨k,p1,y1,rfl,hg1,hp1,hk,hA6⟩
 refine ⟨_,rfl,fun a hF=>hK _ _ ?_⟩
 replace hA6:Hp w0 ([row rb 152 [.slice A l.length c,.int .i64 (p1:Nat),.int .i64 (y1:Nat)]]::X::[row b1 25 [.int .i64 0,.int .i64 0,.string (⟨#[]⟩),.slice none 0 0]]::R) w5:=hA6
 replace hk:k<256:=hk
 refine vR hF<|vV O (bW O NI NH O (Np _ ag))<|vV O (fM (qs := #[(0,.int .i64 ((k:Nat):Int))]) O O (JB _)) fun a hF=>?_
 refine ax O (fun K hK=>dC hF O ae rfl hA6 (zQ) (fun b7 w8 a hb7 hF hA9=>hK _ _ ?_))
 refine ax O (fun K hK=>bG (new:=[.int .i64 ((k:Nat):Int),.int .i64 0,aj [],.slice none 0 0]) hF O O hA9 O O 0 O O (by simp [Value.oneCell']) nD (fun w10 hA11=>hK _ _ ?_))
 replace hA11:Hp w0 ([row b7 25 [.int .i64 ((k:Nat):Int),.int .i64 0,aj [],.slice none 0 0]]::[row rb 152 [.slice A l.length c,.int .i64 (p1:Nat),.int .i64 (y1:Nat)]]::X::[row b1 25 [.int .i64 0,.int .i64 0,.string (⟨#[]⟩),.slice none 0 0]]::R) w10:=hA11
 refine aH<|hK4 _ _ ?_
 apply wp_seq_k; intro K5 hK5
 refine wS hF fun K6 hK6=>vV O (yf 0 O ND O iZ O)<|vV O (aU O hA11.q O 0 O O ja)<|vE hK6 fun a hF=>?_
 have hJ:∀ (a:Act) (x:World) (vb:VA) (Z:Seg) (p2 y2:Nat),dX k l p1 y1=⟨vb.v,p2,y2⟩→(vb.Ok w0 [Z]∧vb.Own Z)→p2≤l.length→Fr 56 [(0,.pointer (some ⟨rb,0,none⟩)),(2,.pointer (some ⟨b1,0,none⟩)),(4,.pointer (some ⟨b7,0,none⟩))] a→Hp w0 (Z::[row b7 25 [.int .i64 vb.v.k,.int .i64 vb.v.n,aj vb.v.t,.slice vb.sA vb.v.s.length vb.sC]]::[row b1 25 [.int .i64 0,.int .i64 0,.string (⟨#[]⟩),.slice none 0 0]]::[row rb 152 [.slice A l.length c,.int .i64 (p2:Nat),.int .i64 (y2:Nat)]]::X::R) x→K5 a x:=by
  clear hF
  intro a x vb Z p2 y2 hg2 hb hp2 hF hA
  by_cases hy2:y2=0
  ·subst hy2
   refine hK5 _ _ ?_
   apply wp_seq_k; intro K7 hK7
   refine wS hF fun K8 hK8=>vX O fun a hF=>?_
   have hA12:Hp w0 ([row rb 152 [.slice A l.length c,.int .i64 (p2:Nat),.int .i64 (0:Nat)]]::X::Z::[row b7 25 [.int .i64 vb.v.k,.int .i64 vb.v.n,aj vb.v.t,.slice vb.sA vb.v.s.length vb.sC]]::[row b1 25 [.int .i64 0,.int .i64 0,.string (⟨#[]⟩),.slice none 0 0]]::R) x:=hpO 5 [3,4,0,1,2] hA rfl
   refine ax O (fun K hK=>ay hF O ae oD rfl rfl ?_)
   with_reducible refine (o6 w0 _ (Z::[row b7 25 [.int .i64 vb.v.k,.int .i64 vb.v.n,aj vb.v.t,.slice vb.sA vb.v.s.length vb.sC]]::[row b1 25 [.int .i64 0,.int .i64 0,.string (⟨#[]⟩),.slice none 0 0]]::R) rb A l c p2 0 X hO hA12).mono ?_
   rintro e' w13 ⟨rfl,hA14⟩
   refine ⟨_,rfl,fun a hF=>hK _ _ ?_⟩
   replace hA14:Hp w0 ([row rb 152 [.slice A l.length c,.int .i64 (p2:Nat),.int .i64 (0:Nat)]]::X::Z::[row b7 25 [.int .i64 vb.v.k,.int .i64 vb.v.n,aj vb.v.t,.slice vb.sA vb.v.s.length vb.sC]]::[row b1 25 [.int .i64 0,.int .i64 0,.string (⟨#[]⟩),.slice none 0 0]]::R) w13:=hA14
   refine vR hF<|vV O (aF O O O O (rfl))<|vX O fun a hF=>?_
   refine aJ hF O O O O (ak rfl) ae _ (cZ (new:=[.int .i64 vb.v.k,.int .i64 vb.v.n,aj vb.v.t,.slice vb.sA vb.v.s.length vb.sC]) O hA14.q O 3 O Ho ai rfl) (fun a hF=>?_)
   refine gI hF O O O (ak rfl) (fun K hK=>ay hF O ae Gl rfl rfl ?_)
   with_reducible refine (rO vb _ hb.1 (List.cons_subset.2 ⟨(Nw _ (Nw _ ((Nu ..)))),List.nil_subset _⟩) hA14).mono ?_
   rintro e' w15 ⟨rfl,hA16⟩
   refine ⟨_,rfl,fun a hF=>hK _ _ ?_⟩
   replace hA16:Hp w0 ([row rb 152 [.slice A l.length c,.int .i64 (p2:Nat),.int .i64 (0:Nat)]]::X::Z::[row b7 25 [.int .i64 vb.v.k,.int .i64 vb.v.n,aj vb.v.t,.slice vb.sA vb.v.s.length vb.sC]]::[row b1 25 [.int .i64 0,.int .i64 0,.string (⟨#[]⟩),.slice none 0 0]]::R) w15:=hA16
   refine aJ hF O O O O (ak rfl) ae _ (aF O O O O O) (fun a hF=>?_)
   refine vR hF<|vV O (bF O O O O)<|vE hK8 fun a hF=>?_
   rcases tf (aI .neq (((vb.v.right:Nat):Int)) (0)) with hr | hr
   ·refine au hF O hr ?_
    apply wp_skip
    refine hK7 _ _ ?_
    apply wp_seq_k; intro K9 hK9
    refine wS hF fun K10 hK10=>vX O fun a hF=>?_
    refine ax O (fun K hK=>ay hF O ae oD rfl rfl ?_)
    with_reducible refine (o6 w0 _ (Z::[row b7 25 [.int .i64 vb.v.k,.int .i64 vb.v.n,aj vb.v.t,.slice vb.sA vb.v.s.length vb.sC]]::[row b1 25 [.int .i64 0,.int .i64 0,.string (⟨#[]⟩),.slice none 0 0]]::R) rb A l c p2 0 X hO hA16).mono ?_
    rintro e' w17 ⟨rfl,hA18⟩
    refine ⟨_,rfl,fun a hF=>hK _ _ ?_⟩
    replace hA18:Hp w0 ([row rb 152 [.slice A l.length c,.int .i64 (p2:Nat),.int .i64 (0:Nat)]]::X::Z::[row b7 25 [.int .i64 vb.v.k,.int .i64 vb.v.n,aj vb.v.t,.slice vb.sA vb.v.s.length vb.sC]]::[row b1 25 [.int .i64 0,.int .i64 0,.string (⟨#[]⟩),.slice none 0 0]]::R) w17:=hA18
    refine vR hF<|vX O<|vE hK10<|wT fun K11 hK11=>vX O<|vV O (aF O O O O O)<|vE hK11 fun a hF=>?_
    refine au hF O O ?_
    apply wp_skip
    refine hK9 _ _ ?_
    refine wS hF fun K12 hK12=>vV O (cZ (new:=[.int .i64 vb.v.k,.int .i64 vb.v.n,aj vb.v.t,.slice vb.sA vb.v.s.length vb.sC]) O hA18.q O 3 O Ho ai rfl) fun a hF=>?_
    refine ax O (fun K hK=>bG (new:=[.int .i64 vb.v.k,.int .i64 vb.v.n,aj vb.v.t,.slice vb.sA vb.v.s.length vb.sC]) hF O O hA18 O O 4 O O (by simp [Value.oneCell']) nD (fun w19 hA20=>hK _ _ ?_))
    replace hA20:Hp w0 ([row rb 152 [.slice A l.length c,.int .i64 (p2:Nat),.int .i64 (0:Nat)]]::X::Z::[row b7 25 [.int .i64 vb.v.k,.int .i64 vb.v.n,aj vb.v.t,.slice vb.sA vb.v.s.length vb.sC]]::[row b1 25 [.int .i64 vb.v.k,.int .i64 vb.v.n,aj vb.v.t,.slice vb.sA vb.v.s.length vb.sC]]::R) w19:=hA20
    refine vR hF<|vX O<|vE hK12 fun a hF=>?_
    apply wp_ret
    refine fH hF Tryz.results35 hA20.q O O 4 O Ho ?_
    have hA21:Hp w0 (Z::[row rb 152 [.slice A l.length c,.int .i64 (p2:Nat),.int .i64 (0:Nat)]]::X::R) w19:=hpS 5 [2,0,1] [3,4] hA20 rfl
    rw [MW hg1 hg2 (oV hr)]
    exact ⟨vb,Z,rfl,rfl,hb,hp2,hA21⟩
   ·refine aG hF O hr ?_
    refine wp_region_lit ?_
    refine vR hF<|vX O fun a hF=>?_
    refine ax O (fun K hK=>ay hF O ae Bf rfl rfl ?_)
    with_reducible refine (vw w0 _ (Z::[row b7 25 [.int .i64 vb.v.k,.int .i64 vb.v.n,aj vb.v.t,.slice vb.sA vb.v.s.length vb.sC]]::[row b1 25 [.int .i64 0,.int .i64 0,.string (⟨#[]⟩),.slice none 0 0]]::R) rb A l c p2 0 X (-1) hO hA16 hp2 hl ae).mono ?_
    rintro e' w22 ⟨qvR0,ZR,rfl,_,hA23⟩
    refine ⟨_,rfl,fun a hF=>hK _ _ ?_⟩
    replace hA23:Hp w0 (ZR::[row rb 152 [.slice A l.length c,.int .i64 ((eF (l.drop p2) (-1)).pl p2 0:Nat),.int .i64 ((eF (l.drop p2) (-1)).why 0:Nat)]]::X::Z::[row b7 25 [.int .i64 vb.v.k,.int .i64 vb.v.n,aj vb.v.t,.slice vb.sA vb.v.s.length vb.sC]]::[row b1 25 [.int .i64 0,.int .i64 0,.string (⟨#[]⟩),.slice none 0 0]]::R) w22:=hA23
    refine aH<|hK7 _ _ ?_
    apply wp_seq_k; intro K13 hK13
    apply wp_seq_k; intro K14 hK14
    have hA8:Hp w0 (ZR::[row rb 152 [.slice A l.length c,.int .i64 (p2:Nat),.int .i64 (8:Nat)]]::X::Z::[row b7 25 [.int .i64 vb.v.k,.int .i64 vb.v.n,aj vb.v.t,.slice vb.sA vb.v.s.length vb.sC]]::[row b1 25 [.int .i64 0,.int .i64 0,.string (⟨#[]⟩),.slice none 0 0]]::R) w22:=by
     have h8:=hA23
     rw [BX,BU] at h8
     exact h8
    refine wp_region_lit ?_
    refine vR hF<|vX O fun a hF=>?_
    have hA24:Hp w0 ([row rb 152 [.slice A l.length c,.int .i64 (p2:Nat),.int .i64 (8:Nat)]]::X::ZR::Z::[row b7 25 [.int .i64 vb.v.k,.int .i64 vb.v.n,aj vb.v.t,.slice vb.sA vb.v.s.length vb.sC]]::[row b1 25 [.int .i64 0,.int .i64 0,.string (⟨#[]⟩),.slice none 0 0]]::R) w22:=hpO 6 [1,2,0,3,4,5] hA8 rfl
    refine ax O (fun K hK=>ay hF O ae oD rfl rfl ?_)
    with_reducible refine (o6 w0 _ (ZR::Z::[row b7 25 [.int .i64 vb.v.k,.int .i64 vb.v.n,aj vb.v.t,.slice vb.sA vb.v.s.length vb.sC]]::[row b1 25 [.int .i64 0,.int .i64 0,.string (⟨#[]⟩),.slice none 0 0]]::R) rb A l c p2 8 X hO hA24).mono ?_
    rintro e' w25 ⟨rfl,hA26⟩
    refine ⟨_,rfl,fun a hF=>hK _ _ ?_⟩
    replace hA26:Hp w0 ([row rb 152 [.slice A l.length c,.int .i64 (p2:Nat),.int .i64 (8:Nat)]]::X::ZR::Z::[row b7 25 [.int .i64 vb.v.k,.int .i64 vb.v.n,aj vb.v.t,.slice vb.sA vb.v.s.length vb.sC]]::[row b1 25 [.int .i64 0,.int .i64 0,.string (⟨#[]⟩),.slice none 0 0]]::R) w25:=hA26
    refine vR hF<|vX O<|vE hK14<|wT fun K15 hK15=>vX O<|vV O (aF O O O O O)<|vE hK15 fun a hF=>?_
    refine aG hF O O ?_
    refine wS hF fun K16 hK16=>vV O (eX O vO)<|vX O fun a hF=>?_
    refine ax O (fun K hK=>bG (new:=[.int .i64 0,.int .i64 0,aj [],.slice none 0 0]) hF O O hA26 O O 5 O O (by simp [Value.oneCell']) nD (fun w27 hA28=>hK _ _ ?_))
    replace hA28:Hp w0 ([row rb 152 [.slice A l.length c,.int .i64 (p2:Nat),.int .i64 (8:Nat)]]::X::ZR::Z::[row b7 25 [.int .i64 vb.v.k,.int .i64 vb.v.n,aj vb.v.t,.slice vb.sA vb.v.s.length vb.sC]]::[row b1 25 [.int .i64 0,.int .i64 0,aj [],.slice none 0 0]]::R) w27:=hA28
    refine vR hF<|vX O<|vE hK16 fun a hF=>?_
    apply wp_ret
    simp only [Exit.then]
    refine fH hF Tryz.results35 hA28.q O O 5 O Ho ?_
    have hA29:Hp w0 ([row rb 152 [.slice A l.length c,.int .i64 (p2:Nat),.int .i64 (8:Nat)]]::X::R) w27:=hpS 6 [0,1] [2,3,4,5] hA28 rfl
    rw [MV hg1 hg2 (jW hr)]
    exact ⟨⟨noVal,none,0⟩,[],rfl,rfl,⟨nI,Buf.nil _ _⟩,hp2,Hp.nil hA29⟩
  ·refine hK5 _ _ ?_
   apply wp_seq_k; intro K17 hK17
   refine wS hF fun K18 hK18=>vX O fun a hF=>?_
   have hA30:Hp w0 ([row rb 152 [.slice A l.length c,.int .i64 (p2:Nat),.int .i64 (y2:Nat)]]::X::Z::[row b7 25 [.int .i64 vb.v.k,.int .i64 vb.v.n,aj vb.v.t,.slice vb.sA vb.v.s.length vb.sC]]::[row b1 25 [.int .i64 0,.int .i64 0,.string (⟨#[]⟩),.slice none 0 0]]::R) x:=hpO 5 [3,4,0,1,2] hA rfl
   refine ax O (fun K hK=>ay hF O ae oD rfl rfl ?_)
   with_reducible refine (o6 w0 _ (Z::[row b7 25 [.int .i64 vb.v.k,.int .i64 vb.v.n,aj vb.v.t,.slice vb.sA vb.v.s.length vb.sC]]::[row b1 25 [.int .i64 0,.int .i64 0,.string (⟨#[]⟩),.slice none 0 0]]::R) rb A l c p2 y2 X hO hA30).mono ?_
   rintro e' w31 ⟨rfl,hA32⟩
   refine ⟨_,rfl,fun a hF=>hK _ _ ?_⟩
   replace hA32:Hp w0 ([row rb 152 [.slice A l.length c,.int .i64 (p2:Nat),.int .i64 (y2:Nat)]]::X::Z::[row b7 25 [.int .i64 vb.v.k,.int .i64 vb.v.n,aj vb.v.t,.slice vb.sA vb.v.s.length vb.sC]]::[row b1 25 [.int .i64 0,.int .i64 0,.string (⟨#[]⟩),.slice none 0 0]]::R) w31:=hA32
   refine vR hF<|vV O (aF O O O O ((bU ag)))<|vX O fun a hF=>?_
   refine az hF O O O O O (aB rfl) ae (fun a hF=>?_)
   refine az hF O O O O O (aB rfl) ae (fun a hF=>?_)
   refine az hF O O O O O (aB rfl) ae (fun a hF=>?_)
   refine vR hF<|vV O (bu O O O O)<|vE hK18<|vF1 O<|wKp hK17<|wQ fun K19 hK19=>wT fun K20 hK20=>vX O fun a hF=>?_
   refine ax O (fun K hK=>ay hF O ae oD rfl rfl ?_)
   with_reducible refine (o6 w0 _ (Z::[row b7 25 [.int .i64 vb.v.k,.int .i64 vb.v.n,aj vb.v.t,.slice vb.sA vb.v.s.length vb.sC]]::[row b1 25 [.int .i64 0,.int .i64 0,.string (⟨#[]⟩),.slice none 0 0]]::R) rb A l c p2 y2 X hO hA32).mono ?_
   rintro e' w33 ⟨rfl,hA34⟩
   refine ⟨_,rfl,fun a hF=>hK _ _ ?_⟩
   replace hA34:Hp w0 ([row rb 152 [.slice A l.length c,.int .i64 (p2:Nat),.int .i64 (y2:Nat)]]::X::Z::[row b7 25 [.int .i64 vb.v.k,.int .i64 vb.v.n,aj vb.v.t,.slice vb.sA vb.v.s.length vb.sC]]::[row b1 25 [.int .i64 0,.int .i64 0,.string (⟨#[]⟩),.slice none 0 0]]::R) w33:=hA34
   refine vR hF<|vX O<|vE hK20<|wT fun K21 hK21=>vX O<|vV O (aF O O O O O)<|vE hK21 fun a hF=>?_
   refine aG hF O (iF ag) ?_
   refine wS hF fun K22 hK22=>vV O (eX O vO)<|vX O fun a hF=>?_
   refine ax O (fun K hK=>bG (new:=[.int .i64 0,.int .i64 0,aj [],.slice none 0 0]) hF O O hA34 O O 4 O O (by simp [Value.oneCell']) nD (fun w35 hA36=>hK _ _ ?_))
   replace hA36:Hp w0 ([row rb 152 [.slice A l.length c,.int .i64 (p2:Nat),.int .i64 (y2:Nat)]]::X::Z::[row b7 25 [.int .i64 vb.v.k,.int .i64 vb.v.n,aj vb.v.t,.slice vb.sA vb.v.s.length vb.sC]]::[row b1 25 [.int .i64 0,.int .i64 0,aj [],.slice none 0 0]]::R) w35:=hA36
   refine vR hF<|vX O<|vE hK22 fun a hF=>?_
   apply wp_ret
   simp only [Exit.then]
   refine fH hF Tryz.results35 hA36.q O O 4 O Ho ?_
   have hA37:Hp w0 ([row rb 152 [.slice A l.length c,.int .i64 (p2:Nat),.int .i64 (y2:Nat)]]::X::R) w35:=hpS 5 [0,1] [2,3,4] hA36 rfl
   rw [MS hg1 hg2 hy2]
   exact ⟨⟨noVal,none,0⟩,[],rfl,rfl,⟨nI,Buf.nil _ _⟩,hp2,Hp.nil hA37⟩
 apply wp_block
 refine wS hF fun K23 hK23=>vV O (aF O O O O O)<|vX O<|vE hK23 fun a hF=>?_
 by_cases hk0:k=0
 ·refine aG hF O (fF ag) ?_
  apply wp_skip
  have hA38:Hp w0 ([row b7 25 [.int .i64 ((k:Nat):Int),.int .i64 0,aj [],.slice none 0 0]]::[row b1 25 [.int .i64 0,.int .i64 0,.string (⟨#[]⟩),.slice none 0 0]]::[row rb 152 [.slice A l.length c,.int .i64 (p1:Nat),.int .i64 (y1:Nat)]]::X::R) w10:=hpO 4 [0,3,1,2] hA11 rfl
  exact hJ _ _ ⟨⟨((k:Nat):Int),0,[],[]⟩,none,0⟩ [] p1 y1 (uk (.inl hk0)) ⟨qC hk ae,Buf.nil _ _⟩ hp1 (hF.keep [0,2,4] rfl) (Hp.nil hA38)
 ·by_cases hk1:k=1
  ·refine au hF O (bU ag) ?_
   apply wp_seq_k; intro K24 hK24
   refine wS hF fun K25 hK25=>vV O (aF O O O O O)<|vX O<|vE hK25 fun a hF=>?_
   refine aG hF O (fF ag) ?_
   apply wp_skip
   refine hK24 _ _ ?_
   refine aG hF O (fF ag) ?_
   refine wp_region_lit ?_
   refine vR hF<|vX O fun a hF=>?_
   have hA39:Hp w0 ([row rb 152 [.slice A l.length c,.int .i64 (p1:Nat),.int .i64 (y1:Nat)]]::X::[row b7 25 [.int .i64 ((k:Nat):Int),.int .i64 0,aj [],.slice none 0 0]]::[row b1 25 [.int .i64 0,.int .i64 0,.string (⟨#[]⟩),.slice none 0 0]]::R) w10:=hpO 4 [1,2,0,3] hA11 rfl
   refine ax O (fun K hK=>ay hF O ae AZ rfl rfl ?_)
   with_reducible refine (mr w0 _ ([row b7 25 [.int .i64 ((k:Nat):Int),.int .i64 0,aj [],.slice none 0 0]]::[row b1 25 [.int .i64 0,.int .i64 0,.string (⟨#[]⟩),.slice none 0 0]]::R) rb A l c p1 y1 X hO hA39 hp1 hl).mono ?_
   rintro e' w40 ⟨n2,p2,y2,rfl,hg2,hp2,hn2,hA41⟩
   refine ⟨_,rfl,fun a hF=>hK _ _ ?_⟩
   replace hA41:Hp w0 ([row rb 152 [.slice A l.length c,.int .i64 (p2:Nat),.int .i64 (y2:Nat)]]::X::[row b7 25 [.int .i64 ((k:Nat):Int),.int .i64 0,aj [],.slice none 0 0]]::[row b1 25 [.int .i64 0,.int .i64 0,.string (⟨#[]⟩),.slice none 0 0]]::R) w40:=hA41
   replace hn2:n2<18446744073709551616:=hn2
   refine vR hF<|vV O (bW O NJ NC O (nO hn2))<|vV O (yf 1 O ND O gZ O) fun a hF=>?_
   refine ax O (fun K hK=>aX hF O O hA41 O O 2 O (by simp) rfl gZ (fun w42 hA43=>hK _ _ ?_))
   replace hA43:Hp w0 ([row rb 152 [.slice A l.length c,.int .i64 (p2:Nat),.int .i64 (y2:Nat)]]::X::[row b7 25 [.int .i64 ((k:Nat):Int),.int .i64 (i64 n2),aj [],.slice none 0 0]]::[row b1 25 [.int .i64 0,.int .i64 0,.string (⟨#[]⟩),.slice none 0 0]]::R) w42:=hA43
   refine aH ?_
   have hA44:Hp w0 ([row b7 25 [.int .i64 ((k:Nat):Int),.int .i64 (i64 n2),aj [],.slice none 0 0]]::[row b1 25 [.int .i64 0,.int .i64 0,.string (⟨#[]⟩),.slice none 0 0]]::[row rb 152 [.slice A l.length c,.int .i64 (p2:Nat),.int .i64 (y2:Nat)]]::X::R) w42:=hpO 4 [2,3,0,1] hA43 rfl
   exact hJ _ _ ⟨⟨((k:Nat):Int),i64 n2,[],[]⟩,none,0⟩ [] p2 y2 (uj (.inl hk1) hg2) ⟨qC hk (i64_in hn2),Buf.nil _ _⟩ hp2 (hF.keep [0,2,4] rfl) (Hp.nil hA44)
  ·by_cases hk4:k=4
   ·refine au hF O (bU ag) ?_
    apply wp_seq_k; intro K26 hK26
    refine wS hF fun K27 hK27=>vV O (aF O O O O O)<|vX O<|vE hK27 fun a hF=>?_
    refine au hF O (bU ag) ?_
    refine wp_region_lit ?_
    refine vR hF<|vV O (aF O O O O O)<|vX O<|vE hK26 fun a hF=>?_
    refine aG hF O (fF ag) ?_
    refine wp_region_lit ?_
    refine vR hF<|vX O fun a hF=>?_
    have hA45:Hp w0 ([row rb 152 [.slice A l.length c,.int .i64 (p1:Nat),.int .i64 (y1:Nat)]]::X::[row b7 25 [.int .i64 ((k:Nat):Int),.int .i64 0,aj [],.slice none 0 0]]::[row b1 25 [.int .i64 0,.int .i64 0,.string (⟨#[]⟩),.slice none 0 0]]::R) w10:=hpO 4 [1,2,0,3] hA11 rfl
    refine ax O (fun K hK=>ay hF O ae AZ rfl rfl ?_)
    with_reducible refine (mr w0 _ ([row b7 25 [.int .i64 ((k:Nat):Int),.int .i64 0,aj [],.slice none 0 0]]::[row b1 25 [.int .i64 0,.int .i64 0,.string (⟨#[]⟩),.slice none 0 0]]::R) rb A l c p1 y1 X hO hA45 hp1 hl).mono ?_
    rintro e' w46 ⟨n2,p2,y2,rfl,hg2,hp2,hn2,hA47⟩
    refine ⟨_,rfl,fun a hF=>hK _ _ ?_⟩
    replace hA47:Hp w0 ([row rb 152 [.slice A l.length c,.int .i64 (p2:Nat),.int .i64 (y2:Nat)]]::X::[row b7 25 [.int .i64 ((k:Nat):Int),.int .i64 0,aj [],.slice none 0 0]]::[row b1 25 [.int .i64 0,.int .i64 0,.string (⟨#[]⟩),.slice none 0 0]]::R) w46:=hA47
    replace hn2:n2<18446744073709551616:=hn2
    refine vR hF<|vV O (bW O NJ NC O (nO hn2))<|vV O (yf 1 O ND O gZ O) fun a hF=>?_
    refine ax O (fun K hK=>aX hF O O hA47 O O 2 O (by simp) rfl gZ (fun w48 hA49=>hK _ _ ?_))
    replace hA49:Hp w0 ([row rb 152 [.slice A l.length c,.int .i64 (p2:Nat),.int .i64 (y2:Nat)]]::X::[row b7 25 [.int .i64 ((k:Nat):Int),.int .i64 (i64 n2),aj [],.slice none 0 0]]::[row b1 25 [.int .i64 0,.int .i64 0,.string (⟨#[]⟩),.slice none 0 0]]::R) w48:=hA49
    refine aH ?_
    have hA50:Hp w0 ([row b7 25 [.int .i64 ((k:Nat):Int),.int .i64 (i64 n2),aj [],.slice none 0 0]]::[row b1 25 [.int .i64 0,.int .i64 0,.string (⟨#[]⟩),.slice none 0 0]]::[row rb 152 [.slice A l.length c,.int .i64 (p2:Nat),.int .i64 (y2:Nat)]]::X::R) w48:=hpO 4 [2,3,0,1] hA49 rfl
    exact hJ _ _ ⟨⟨((k:Nat):Int),i64 n2,[],[]⟩,none,0⟩ [] p2 y2 (uj (.inr hk4) hg2) ⟨qC hk (i64_in hn2),Buf.nil _ _⟩ hp2 (hF.keep [0,2,4] rfl) (Hp.nil hA50)
   ·by_cases hk2:k=2
    ·refine au hF O (bU ag) ?_
     apply wp_seq_k; intro K28 hK28
     refine wS hF fun K29 hK29=>vV O (aF O O O O O)<|vX O<|vE hK29 fun a hF=>?_
     refine au hF O (bU ag) ?_
     refine wp_region_lit ?_
     refine vR hF<|vV O (aF O O O O O)<|vX O<|vE hK28 fun a hF=>?_
     refine au hF O (bU ag) ?_
     refine wS hF fun K30 hK30=>vV O (aF O O O O O)<|vX O<|vE hK30 fun a hF=>?_
     refine aG hF O (fF ag) ?_
     refine wS hF fun K31 hK31=>vX O fun a hF=>?_
     have hA51:Hp w0 ([row rb 152 [.slice A l.length c,.int .i64 (p1:Nat),.int .i64 (y1:Nat)]]::X::[row b7 25 [.int .i64 ((k:Nat):Int),.int .i64 0,aj [],.slice none 0 0]]::[row b1 25 [.int .i64 0,.int .i64 0,.string (⟨#[]⟩),.slice none 0 0]]::R) w10:=hpO 4 [1,2,0,3] hA11 rfl
     refine ax O (fun K hK=>ay hF O ae IQ rfl rfl ?_)
     with_reducible refine (Ir w0 _ ([row b7 25 [.int .i64 ((k:Nat):Int),.int .i64 0,aj [],.slice none 0 0]]::[row b1 25 [.int .i64 0,.int .i64 0,.string (⟨#[]⟩),.slice none 0 0]]::R) rb A l c p1 y1 X hO hA51 hp1 hl).mono ?_
     rintro e' w52 ⟨fb,p2,y2,rfl,hg2,hp2,hA53⟩
     refine ⟨_,rfl,fun a hF=>hK _ _ ?_⟩
     replace hA53:Hp w0 ([row rb 152 [.slice A l.length c,.int .i64 (p2:Nat),.int .i64 (y2:Nat)]]::X::[row b7 25 [.int .i64 ((k:Nat):Int),.int .i64 0,aj [],.slice none 0 0]]::[row b1 25 [.int .i64 0,.int .i64 0,.string (⟨#[]⟩),.slice none 0 0]]::R) w52:=hA53
     refine aH<|hK31 _ _ ?_
     rcases tf fb with hfb | hfb
     ·refine au hF O hfb ?_
      apply wp_skip
      have hA54:Hp w0 ([row b7 25 [.int .i64 ((k:Nat):Int),.int .i64 0,aj [],.slice none 0 0]]::[row b1 25 [.int .i64 0,.int .i64 0,.string (⟨#[]⟩),.slice none 0 0]]::[row rb 152 [.slice A l.length c,.int .i64 (p2:Nat),.int .i64 (y2:Nat)]]::X::R) w52:=hpO 4 [2,3,0,1] hA53 rfl
      exact hJ _ _ ⟨⟨((k:Nat):Int),0,[],[]⟩,none,0⟩ [] p2 y2 (ui (b:=false) hk2 (by rw [hfb] at hg2; exact hg2)) ⟨qC hk ae,Buf.nil _ _⟩ hp2 (hF.keep [0,2,4] rfl) (Hp.nil hA54)
     ·refine aG hF O hfb ?_
      refine wp_region_lit ?_
      refine vR hF<|vV O (yf 1 O ND O gZ O) fun a hF=>?_
      refine ax O (fun K hK=>aX hF O O hA53 O O 2 O (by simp) rfl gZ (fun w55 hA56=>hK _ _ ?_))
      replace hA56:Hp w0 ([row rb 152 [.slice A l.length c,.int .i64 (p2:Nat),.int .i64 (y2:Nat)]]::X::[row b7 25 [.int .i64 ((k:Nat):Int),.int .i64 1,aj [],.slice none 0 0]]::[row b1 25 [.int .i64 0,.int .i64 0,.string (⟨#[]⟩),.slice none 0 0]]::R) w55:=hA56
      refine aH ?_
      have hA57:Hp w0 ([row b7 25 [.int .i64 ((k:Nat):Int),.int .i64 1,aj [],.slice none 0 0]]::[row b1 25 [.int .i64 0,.int .i64 0,.string (⟨#[]⟩),.slice none 0 0]]::[row rb 152 [.slice A l.length c,.int .i64 (p2:Nat),.int .i64 (y2:Nat)]]::X::R) w55:=hpO 4 [2,3,0,1] hA56 rfl
      exact hJ _ _ ⟨⟨((k:Nat):Int),1,[],[]⟩,none,0⟩ [] p2 y2 (ui (b:=true) hk2 (by rw [hfb] at hg2; exact hg2)) ⟨qC hk ae,Buf.nil _ _⟩ hp2 (hF.keep [0,2,4] rfl) (Hp.nil hA57)
    ·by_cases hk3:k=3
     ·refine au hF O (bU ag) ?_
      apply wp_seq_k; intro K32 hK32
      refine wS hF fun K33 hK33=>vV O (aF O O O O O)<|vX O<|vE hK33 fun a hF=>?_
      refine au hF O (bU ag) ?_
      refine wp_region_lit ?_
      refine vR hF<|vV O (aF O O O O O)<|vX O<|vE hK32 fun a hF=>?_
      refine au hF O (bU ag) ?_
      refine wS hF fun K34 hK34=>vV O (aF O O O O O)<|vX O<|vE hK34 fun a hF=>?_
      refine au hF O (bU ag) ?_
      refine wS hF fun K35 hK35=>vV O (aF O O O O O)<|vX O<|vE hK35 fun a hF=>?_
      refine aG hF O (fF ag) ?_
      refine wp_region_lit ?_
      refine vR hF<|vX O fun a hF=>?_
      have hA58:Hp w0 ([row rb 152 [.slice A l.length c,.int .i64 (p1:Nat),.int .i64 (y1:Nat)]]::X::[row b7 25 [.int .i64 ((k:Nat):Int),.int .i64 0,aj [],.slice none 0 0]]::[row b1 25 [.int .i64 0,.int .i64 0,.string (⟨#[]⟩),.slice none 0 0]]::R) w10:=hpO 4 [1,2,0,3] hA11 rfl
      refine ax O (fun K hK=>ay hF O ae I5 rfl rfl ?_)
      with_reducible refine (qx w0 _ ([row b7 25 [.int .i64 ((k:Nat):Int),.int .i64 0,aj [],.slice none 0 0]]::[row b1 25 [.int .i64 0,.int .i64 0,.string (⟨#[]⟩),.slice none 0 0]]::R) rb A l c p1 y1 X 1024 hO hA58 hp1 hl).mono ?_
      rintro e' w59 ⟨ts,p2,y2,rfl,hg2,hp2,hA60⟩
      refine ⟨_,rfl,fun a hF=>hK _ _ ?_⟩
      refine vR hF<|vV O (yf 2 O ND O uB O) fun a hF=>?_
      refine ax O (fun K hK=>aX hF O O hA60 O O 2 O (by simp) rfl uB (fun w61 hA62=>hK _ _ ?_))
      replace hA62:Hp w0 ([row rb 152 [.slice A l.length c,.int .i64 (p2:Nat),.int .i64 (y2:Nat)]]::X::[row b7 25 [.int .i64 ((k:Nat):Int),.int .i64 0,aj ts,.slice none 0 0]]::[row b1 25 [.int .i64 0,.int .i64 0,.string (⟨#[]⟩),.slice none 0 0]]::R) w61:=hA62
      refine aH ?_
      have hA63:Hp w0 ([row b7 25 [.int .i64 ((k:Nat):Int),.int .i64 0,aj ts,.slice none 0 0]]::[row b1 25 [.int .i64 0,.int .i64 0,.string (⟨#[]⟩),.slice none 0 0]]::[row rb 152 [.slice A l.length c,.int .i64 (p2:Nat),.int .i64 (y2:Nat)]]::X::R) w61:=hpO 4 [2,3,0,1] hA62 rfl
      exact hJ _ _ ⟨⟨((k:Nat):Int),0,ts,[]⟩,none,0⟩ [] p2 y2 (CO hk3 hg2) ⟨qC hk ae,Buf.nil _ _⟩ hp2 (hF.keep [0,2,4] rfl) (Hp.nil hA63)
     ·by_cases hk5:k=5
      ·refine au hF O (bU ag) ?_
       apply wp_seq_k; intro K36 hK36
       refine wS hF fun K37 hK37=>vV O (aF O O O O O)<|vX O<|vE hK37 fun a hF=>?_
       refine au hF O (bU ag) ?_
       refine wp_region_lit ?_
       refine vR hF<|vV O (aF O O O O O)<|vX O<|vE hK36 fun a hF=>?_
       refine au hF O (bU ag) ?_
       refine wS hF fun K38 hK38=>vV O (aF O O O O O)<|vX O<|vE hK38 fun a hF=>?_
       refine au hF O (bU ag) ?_
       refine wS hF fun K39 hK39=>vV O (aF O O O O O)<|vX O<|vE hK39 fun a hF=>?_
       refine au hF O (bU ag) ?_
       refine wS hF fun K40 hK40=>vV O (aF O O O O O)<|vX O<|vE hK40 fun a hF=>?_
       refine aG hF O (fF ag) ?_
       refine wp_region_lit ?_
       refine vR hF<|vX O fun a hF=>?_
       have hA64:Hp w0 ([row rb 152 [.slice A l.length c,.int .i64 (p1:Nat),.int .i64 (y1:Nat)]]::X::[row b7 25 [.int .i64 ((k:Nat):Int),.int .i64 0,aj [],.slice none 0 0]]::[row b1 25 [.int .i64 0,.int .i64 0,.string (⟨#[]⟩),.slice none 0 0]]::R) w10:=hpO 4 [1,2,0,3] hA11 rfl
       refine ax O (fun K hK=>ay hF O ae Gm rfl rfl ?_)
       with_reducible refine (EK w0 _ ([row b7 25 [.int .i64 ((k:Nat):Int),.int .i64 0,aj [],.slice none 0 0]]::[row b1 25 [.int .i64 0,.int .i64 0,.string (⟨#[]⟩),.slice none 0 0]]::R) rb A l c p1 y1 X 64 1024 hO hA64 hp1 hl).mono ?_
       rintro e' w65 ⟨ss,p2,y2,A2,c2,Z1,rfl,hg2,hp2,hR2,hsl,hA66⟩
       refine ⟨_,rfl,fun a hF=>hK _ _ ?_⟩
       refine vR hF<|vV O (yf 3 O ND O mf O) fun a hF=>?_
       refine ax O (fun K hK=>aX hF O O hA66 O O 3 O (by simp) rfl mf (fun w67 hA68=>hK _ _ ?_))
       replace hA68:Hp w0 (Z1::[row rb 152 [.slice A l.length c,.int .i64 (p2:Nat),.int .i64 (y2:Nat)]]::X::[row b7 25 [.int .i64 ((k:Nat):Int),.int .i64 0,aj [],.slice A2 ss.length c2]]::[row b1 25 [.int .i64 0,.int .i64 0,.string (⟨#[]⟩),.slice none 0 0]]::R) w67:=hA68
       refine aH ?_
       have hA69:Hp w0 (Z1::[row b7 25 [.int .i64 ((k:Nat):Int),.int .i64 0,aj [],.slice A2 ss.length c2]]::[row b1 25 [.int .i64 0,.int .i64 0,.string (⟨#[]⟩),.slice none 0 0]]::[row rb 152 [.slice A l.length c,.int .i64 (p2:Nat),.int .i64 (y2:Nat)]]::X::R) w67:=hpO 5 [0,3,4,1,2] hA68 rfl
       exact hJ _ _ ⟨⟨((k:Nat):Int),0,[],ss⟩,A2,c2⟩ Z1 p2 y2 (CJ hk5 hg2) ⟨Ld hk hR2.1 hsl,hR2.2⟩ hp2 (hF.keep [0,2,4] rfl) hA69
      ·refine au hF O (bU ag) ?_
       apply wp_seq_k; intro K41 hK41
       refine wS hF fun K42 hK42=>vV O (aF O O O O O)<|vX O<|vE hK42 fun a hF=>?_
       refine au hF O (bU ag) ?_
       refine wp_region_lit ?_
       refine vR hF<|vV O (aF O O O O O)<|vX O<|vE hK41 fun a hF=>?_
       refine au hF O (bU ag) ?_
       refine wS hF fun K43 hK43=>vV O (aF O O O O O)<|vX O<|vE hK43 fun a hF=>?_
       refine au hF O (bU ag) ?_
       refine wS hF fun K44 hK44=>vV O (aF O O O O O)<|vX O<|vE hK44 fun a hF=>?_
       refine au hF O (bU ag) ?_
       refine wS hF fun K45 hK45=>vV O (aF O O O O O)<|vX O<|vE hK45 fun a hF=>?_
       refine au hF O (bU ag) ?_
       apply wp_skip
       have hA70:Hp w0 ([row b7 25 [.int .i64 ((k:Nat):Int),.int .i64 0,aj [],.slice none 0 0]]::[row b1 25 [.int .i64 0,.int .i64 0,.string (⟨#[]⟩),.slice none 0 0]]::[row rb 152 [.slice A l.length c,.int .i64 (p1:Nat),.int .i64 (y1:Nat)]]::X::R) w10:=hpO 4 [0,3,1,2] hA11 rfl
       exact hJ _ _ ⟨⟨((k:Nat):Int),0,[],[]⟩,none,0⟩ [] p1 y1 (uk (.inr ⟨hk1,hk4,hk2,hk3,hk5⟩)) ⟨qC hk ae,Buf.nil _ _⟩ hp1 (hF.keep [0,2,4] rfl) (Hp.nil hA70)
end Go.Proofs.YtepbmdlgdaedpaaGreatDoor
