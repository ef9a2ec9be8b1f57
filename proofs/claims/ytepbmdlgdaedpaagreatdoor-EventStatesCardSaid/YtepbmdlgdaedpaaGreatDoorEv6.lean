/- Readings by place and first refusal; a value is taken: TakeValue. -/
import Derived.Test.YtepbmdlgdaedpaaGreatDoorEv5
/- Readings by place and first refusal; a value is taken: TakeValue. -/
namespace Go.Proofs.YtepbmdlgdaedpaaGreatDoor
open Go.RowKit Go.Dk
theorem MM:aP Tryz.prog 32:=⟨_,Tryz.func32,af,af⟩
theorem qw:aP Tryz.prog 53:=⟨_,Tryz.func53,af,af⟩
theorem DV:aP Tryz.prog 80:=⟨_,Tryz.func80,af,af⟩
theorem Md:aP Tryz.prog 81:=⟨_,Tryz.func81,af,af⟩
theorem LV:aP Tryz.prog 99:=⟨_,Tryz.func99,af,af⟩
theorem JF:aP Tryz.prog 100:=⟨_,Tryz.func100,af,af⟩
theorem oV {α:Type} {r:List UInt8→Res α} {d:α} {l:List UInt8} {p y:Nat} (hp:p≤l.length) (h:∀ v k,r (l.drop p)= .ok v k→k≤(l.drop p).length):(got r d l p y).p≤l.length:=by
 unfold got Res.pl
 show (if y=0 then _ else p)≤_
 split
 ·cases hr:r (l.drop p) with
  | ok v k=>have:=h v k hr; rw [List.length_drop] at this; show p+k≤_; omega
  | no e=>exact hp
 ·exact hp
theorem Dq {K k v:Nat} {r:List UInt8} (h:gW K r= .ok v k):k≤r.length:=by
 unfold gW at h
 split at h
 ·cases h
 ·injection h with _ h; omega
theorem um (K:Nat) (l:List UInt8) (p y:Nat):(got (gW K) 0 l p y).v<256 ^ K:=by
 unfold got Res.val
 show (if y=0 then _ else 0)<_
 have hz:0<256 ^ K:=Nat.pos_of_ne_zero (by simp)
 split
 ·cases hr:gW K (l.drop p) with
  | ok v k =>
   unfold gW at hr
   split at hr
   ·cases hr
   ·injection hr with h1 _
    show v<_
    rw [← h1]
    exact Nat.lt_of_lt_of_le (nK _) (Nat.pow_le_pow_right ae (by rw [List.length_take]; omega))
  | no e=>exact hz
 ·exact hz
theorem II {k:Nat} {v:Bool} {r:List UInt8} (h:kF r= .ok v k):k≤r.length:=by
 unfold kF at h
 split at h
 ·cases h
 ·injection h with _ h; omega
theorem KL {k:Nat} {n:Int} {v r:List UInt8} (h:fA r n= .ok v k):k≤r.length:=by
 unfold fA at h
 split at h
 ·cases h
 ·injection h with _ h; omega
theorem qG {K e k:Nat} {r v:List UInt8} {b:Int} (h:iO K e r b= .ok v k):k≤r.length:=(yP h).1
theorem AZ (each:Int) (k:Nat) (acc:List (List UInt8)) (at_:Nat) (r:List UInt8) {ss:List (List UInt8)} {j:Nat} (h:jd each k acc at_ r= .ok ss j):j≤at_+r.length:=by
 induction k generalizing acc at_ r with
 | zero=>unfold jd at h; injection h with _ h; omega
 | succ k ih =>
  unfold jd at h
  cases ht:eP r each with
  | no e=>rw [ht] at h; cases h
  | ok s m =>
   rw [ht] at h
   simp only at h
   have h2:=qG ht
   split at h
   ·cases h
   ·have:=ih _ _ _ h
    rw [List.length_drop] at this
    omega
theorem Em {k:Nat} {most each:Int} {ss:List (List UInt8)} {r:List UInt8} (h:gy r most each= .ok ss k):k≤r.length:=by
 unfold gy at h
 split at h
 ·cases h
 ·split at h
  ·cases h
  ·have:=AZ _ _ _ _ _ h
   rw [List.length_drop] at this
   omega
theorem uu (w0 w:World) (R:List Seg) (rb:Nat) (A:Option Addr) (l:List UInt8) (c p y:Nat) (X:Seg) (hO:Buf 5 1 X (.slice A l.length c) l.length (dc l)) (hA:Hp w0 ([row rb 152 [.slice A l.length c,.int .i64 (p:Nat),.int .i64 (y:Nat)]]::X::R) w) (hp:p≤l.length) (hl:l.length<140737488354000):Calls Tryz.prog 32 #[.pointer (some ⟨rb,0,none⟩)] w fun e w'=>∃ k p1 y1,e= .returned (.int .u8 (k:Nat))∧got (gW 1) 0 l p y=⟨k,p1,y1⟩∧p1≤l.length∧k<256 ^ 1∧Hp w0 ([row rb 152 [.slice A l.length c,.int .i64 (p1:Nat),.int .i64 (y1:Nat)]]::X::R) w' :=
 (vz w0 w R rb A l c p y X hO hA hp hl).mono fun e w' ⟨h1,h2⟩=>⟨_,_,_,h1,rfl,oV (r:=gW 1) (d:=0) hp fun _ _ h=>Dq h,um 1 l p y,h2⟩
theorem ou (w0 w:World) (R:List Seg) (rb:Nat) (A:Option Addr) (l:List UInt8) (c p y:Nat) (X:Seg) (hO:Buf 5 1 X (.slice A l.length c) l.length (dc l)) (hA:Hp w0 ([row rb 152 [.slice A l.length c,.int .i64 (p:Nat),.int .i64 (y:Nat)]]::X::R) w) (hp:p≤l.length) (hl:l.length<140737488354000):Calls Tryz.prog 80 #[.pointer (some ⟨rb,0,none⟩)] w fun e w'=>∃ k p1 y1,e= .returned (.int .u64 (k:Nat))∧got (gW 8) 0 l p y=⟨k,p1,y1⟩∧p1≤l.length∧k<256 ^ 8∧Hp w0 ([row rb 152 [.slice A l.length c,.int .i64 (p1:Nat),.int .i64 (y1:Nat)]]::X::R) w' :=
 (ut w0 w R rb A l c p y X hO hA hp hl).mono fun e w' ⟨h1,h2⟩=>⟨_,_,_,h1,rfl,oV (r:=gW 8) (d:=0) hp fun _ _ h=>Dq h,um 8 l p y,h2⟩
theorem Ls (w0 w:World) (R:List Seg) (rb:Nat) (A:Option Addr) (l:List UInt8) (c p y:Nat) (X:Seg) (hO:Buf 5 1 X (.slice A l.length c) l.length (dc l)) (hA:Hp w0 ([row rb 152 [.slice A l.length c,.int .i64 (p:Nat),.int .i64 (y:Nat)]]::X::R) w) (hp:p≤l.length) (hl:l.length<140737488354000):Calls Tryz.prog 99 #[.pointer (some ⟨rb,0,none⟩)] w fun e w'=>∃ b p1 y1,e= .returned (.bool b)∧got kF false l p y=⟨b,p1,y1⟩∧p1≤l.length∧Hp w0 ([row rb 152 [.slice A l.length c,.int .i64 (p1:Nat),.int .i64 (y1:Nat)]]::X::R) w' :=
 (Lp w0 w R rb A l c p y X hO hA hp hl).mono fun e w' ⟨h1,h2⟩=>⟨_,_,_,h1,rfl,oV (r:=kF) (d:=false) hp fun _ _ h=>II h,h2⟩
theorem sG (w0 w:World) (R:List Seg) (rb:Nat) (A:Option Addr) (l:List UInt8) (c p y:Nat) (X:Seg) (most:Int) (hO:Buf 5 1 X (.slice A l.length c) l.length (dc l)) (hA:Hp w0 ([row rb 152 [.slice A l.length c,.int .i64 (p:Nat),.int .i64 (y:Nat)]]::X::R) w) (hp:p≤l.length) (hl:l.length<140737488354000):Calls Tryz.prog 81 #[.pointer (some ⟨rb,0,none⟩),.int .i64 most] w fun e w'=>∃ s p1 y1,e= .returned (ak s)∧got (eP · most) [] l p y=⟨s,p1,y1⟩∧p1≤l.length∧Hp w0 ([row rb 152 [.slice A l.length c,.int .i64 (p1:Nat),.int .i64 (y1:Nat)]]::X::R) w' :=
 (Ll w0 w R rb A l c p y X most hO hA hp hl).mono fun e w' ⟨h1,h2⟩=>⟨_,_,_,h1,rfl,oV (r:=(eP · most)) (d:=[]) hp fun _ _ h=>qG h,h2⟩
theorem Iy (w0 w:World) (R:List Seg) (rb:Nat) (A:Option Addr) (l:List UInt8) (c p y:Nat) (X:Seg) (most each:Int) (hO:Buf 5 1 X (.slice A l.length c) l.length (dc l)) (hA:Hp w0 ([row rb 152 [.slice A l.length c,.int .i64 (p:Nat),.int .i64 (y:Nat)]]::X::R) w) (hp:p≤l.length) (hl:l.length<140737488354000):Calls Tryz.prog 100 #[.pointer (some ⟨rb,0,none⟩),.int .i64 most,.int .i64 each] w fun e w'=>∃ (ss:List (List UInt8)) (p1 y1:Nat) (A2:Option Addr) (c2:Nat) (Z:Seg),e= .returned (.slice A2 ss.length c2)∧got (gy · most each) [] l p y=⟨ss,p1,y1⟩∧p1≤l.length∧Rc w0 [Z] A2 (ss.map ak)∧ss.length≤9223372036854775807∧Hp w0 (Z::[row rb 152 [.slice A l.length c,.int .i64 (p1:Nat),.int .i64 (y1:Nat)]]::X::R) w' :=
 (Ir w0 w R rb A l c p y X most each hO hA hp hl).mono fun e w' ⟨v,Z,h1,h2,h3⟩=>by
  obtain ⟨A2,c2,h4,h5,h6⟩:=h2.rc (w0:=w0) (R:=[Z]) (Qx ..)
  obtain ⟨_,_,h7,h8,h9⟩:=h2.cap
  exact ⟨_,_,_,A2,c2,Z,by rw [h1,h4] <;> rfl,rfl,oV (r:=(gy · most each)) (d:=[]) hp fun _ _ h=>Em h,h6,Nat.le_trans h8 h9,h3⟩
theorem Iz (w0 w:World) (R:List Seg) (rb:Nat) (A:Option Addr) (l:List UInt8) (c p y:Nat) (X:Seg) (most:Int) (hO:Buf 5 1 X (.slice A l.length c) l.length (dc l)) (hA:Hp w0 ([row rb 152 [.slice A l.length c,.int .i64 (p:Nat),.int .i64 (y:Nat)]]::X::R) w) (hp:p≤l.length) (hl:l.length<140737488354000):Calls Tryz.prog 82 #[.pointer (some ⟨rb,0,none⟩),.int .i64 most] w fun e w'=>∃ (s:List UInt8) (p1 y1:Nat) (A2:Option Addr) (c2:Nat) (Z:Seg),e= .returned (.slice A2 s.length c2)∧got (ji · most) [] l p y=⟨s,p1,y1⟩∧p1≤l.length∧Rd w0 [Z] A2 s∧s.length≤9223372036854775807∧Hp w0 (Z::[row rb 152 [.slice A l.length c,.int .i64 (p1:Nat),.int .i64 (y1:Nat)]]::X::R) w' :=
 (Iu w0 w R rb A l c p y X most hO hA hp hl).mono fun e w' ⟨v,Z,h1,h2,h3⟩=>by
  obtain ⟨A2,c2,h4,h5,h6⟩:=h2.rc (w0:=w0) (R:=[Z]) (Qx ..)
  obtain ⟨_,_,h7,h8,h9⟩:=h2.cap
  exact ⟨_,_,_,A2,c2,Z,by rw [h1,h4] <;> rfl,rfl,oV (r:=(ji · most)) (d:=[]) hp fun _ _ h=>qG h,h6,Nat.le_trans h8 h9,h3⟩
theorem EI (r:List UInt8) (y:Nat):((fA r 32).val (List.replicate 32 0) y).length=32:=by
 rcases Nr r y with ⟨_,h⟩ | ⟨_,h⟩
 ·rw [h]; rfl
 ·exact h
theorem EX (w0 w:World) (R:List Seg) (rb:Nat) (A:Option Addr) (l:List UInt8) (c p y:Nat) (X:Seg) (hO:Buf 5 1 X (.slice A l.length c) l.length (dc l)) (hA:Hp w0 ([row rb 152 [.slice A l.length c,.int .i64 (p:Nat),.int .i64 (y:Nat)]]::X::R) w) (hp:p≤l.length) (hl:l.length<140737488354000):Calls Tryz.prog 83 #[.pointer (some ⟨rb,0,none⟩)] w fun e w'=>∃ (d:List UInt8) (p1 y1:Nat),e= .returned (.agg (dc d).toArray)∧got (fA · 32) (List.replicate 32 0) l p y=⟨d,p1,y1⟩∧p1≤l.length∧d.length=32∧Hp w0 ([row rb 152 [.slice A l.length c,.int .i64 (p1:Nat),.int .i64 (y1:Nat)]]::X::R) w' :=
 (EW w0 w R rb A l c p y X hO hA hp hl).mono fun e w' ⟨h1,h2⟩=>⟨_,_,_,h1,rfl,oV (r:=(fA · 32)) (d:=List.replicate 32 0) hp fun _ _ h=>KL h,EI _ _,h2⟩
theorem Nw (z:Int) (w:World):(Instr.build 25 #[(0,.int .i64 z)]).run Tryz.prog w= .ok (.agg ([.int .i64 z,.int .i64 0,ak [],.slice none 0 0]:List Value).toArray) w:=af
theorem uC (w:World):(Instr.build 25 #[]).run Tryz.prog w= .ok (.agg ([.int .i64 0,.int .i64 0,ak [],.slice none 0 0]:List Value).toArray) w:=af
theorem qg {n:Nat} (h:n<18446744073709551616):IntKind.i64.wrap ((n:Nat):Int)=i64 n:=by
 rw [IntKind.wrap_i64]
 unfold i64
 split <;> omega
theorem i64_in {n:Nat} (h:n<18446744073709551616) : -9223372036854775808≤i64 n∧i64 n≤9223372036854775807:=by unfold i64; split <;> omega
theorem sV {w0:World} {k:Nat} {n:Int} {t:List UInt8} {G:List Seg} (hk:k<256) (hn : -9223372036854775808≤n∧n≤9223372036854775807):VA.Ok w0 G ⟨⟨((k:Nat):Int),n,t,[]⟩,none,0⟩:=⟨Rc.nil,Qs _,⟨⟨by show (_:Int)≤(k:Int); omega,by show (k:Int)≤_; omega⟩,hn⟩⟩
theorem Pj {w0:World} {k:Nat} {ss:List (List UInt8)} {A2:Option Addr} {c2:Nat} {G:List Seg} (hk:k<256) (hR:Rc w0 G A2 (ss.map ak)) (hs:ss.length≤9223372036854775807):VA.Ok w0 G ⟨⟨((k:Nat):Int),0,[],ss⟩,A2,c2⟩:=⟨hR,hs,⟨⟨by show (_:Int)≤(k:Int); omega,by show (k:Int)≤_; omega⟩,⟨by show (_:Int)≤0; decide,by show (0:Int)≤_; decide⟩⟩⟩
theorem pY {w0:World} {G:List Seg}:VA.Ok w0 G ⟨noVal,none,0⟩:=⟨Rc.nil,Qs _,⟨ ae,ae⟩⟩
theorem wL {k:Nat} {l:List UInt8} {p y n p2 y2:Nat} (h:k=1∨k=4) (hg:got (gW 8) 0 l p y=⟨n,p2,y2⟩):eG k l p y=⟨⟨k,i64 n,[],[]⟩,p2,y2⟩:=by
 unfold eG
 rw [if_pos h,hg]
theorem wK {k:Nat} {l:List UInt8} {p y p2 y2:Nat} {b:Bool} (h:k=2) (hg:got kF false l p y=⟨b,p2,y2⟩):eG k l p y=⟨⟨k,if b then 1 else 0,[],[]⟩,p2,y2⟩:=by
 unfold eG
 rw [if_neg ag,if_pos h,hg]
theorem EZ {k:Nat} {l:List UInt8} {p y p2 y2:Nat} {t:List UInt8} (h:k=3) (hg:got (eP · 1024) [] l p y=⟨t,p2,y2⟩):eG k l p y=⟨⟨k,0,t,[]⟩,p2,y2⟩:=by
 unfold eG
 rw [if_neg ag,if_neg ag,if_pos h,hg]
theorem EY {k:Nat} {l:List UInt8} {p y p2 y2:Nat} {ss:List (List UInt8)} (h:k=5) (hg:got (gy · 64 1024) [] l p y=⟨ss,p2,y2⟩):eG k l p y=⟨⟨k,0,[],ss⟩,p2,y2⟩:=by
 unfold eG
 rw [if_neg ag,if_neg ag,if_neg ag,if_pos h,hg]
theorem wM {k:Nat} {l:List UInt8} {p y:Nat} (h:k=0∨(¬ k=1∧¬ k=4∧¬ k=2∧¬ k=3∧¬ k=5)):eG k l p y=⟨⟨k,0,[],[]⟩,p,y⟩:=by
 unfold eG
 rw [if_neg ag,if_neg ag,if_neg ag,if_neg ag]
theorem qQ {l:List UInt8} {p y k p1 y1 p2 y2:Nat} {v:Val} (h1:got (gW 1) 0 l p y=⟨k,p1,y1⟩) (h2:eG k l p1 y1=⟨v,p2,y2⟩):dC l p y=⟨if (if y2=0∧v.right≠0 then 8 else y2)=0 then v else noVal,p2,if y2=0∧v.right≠0 then 8 else y2⟩:=by
 unfold dC
 rw [h1]
 show (let b:=eG k l p1 y1; let y2:=if b.y=0∧b.v.right≠0 then 8 else b.y; (⟨if y2=0 then b.v else noVal,b.p,y2⟩:Got Val))=_
 rw [h2]
theorem Qj {l:List UInt8} {p y k p1 y1 p2:Nat} {v:Val} (h1:got (gW 1) 0 l p y=⟨k,p1,y1⟩) (h2:eG k l p1 y1=⟨v,p2,0⟩) (hr:v.right=0):dC l p y=⟨v,p2,0⟩:=by
 rw [qQ h1 h2]
 simp [hr]
theorem Qi {l:List UInt8} {p y k p1 y1 p2:Nat} {v:Val} (h1:got (gW 1) 0 l p y=⟨k,p1,y1⟩) (h2:eG k l p1 y1=⟨v,p2,0⟩) (hr:¬ v.right=0):dC l p y=⟨noVal,p2,8⟩:=by
 rw [qQ h1 h2]
 simp [hr]
theorem Qh {l:List UInt8} {p y k p1 y1 p2 y2:Nat} {v:Val} (h1:got (gW 1) 0 l p y=⟨k,p1,y1⟩) (h2:eG k l p1 y1=⟨v,p2,y2⟩) (hy:¬ y2=0):dC l p y=⟨noVal,p2,y2⟩:=by
 rw [qQ h1 h2]
 simp [hy]
theorem EH {r:List UInt8} {p:Nat}:(fA r (-1)).pl p 0=p:=by rw [show fA r (-1)= .no 8 from if_pos (.inl ae)]; rfl
theorem EG {r:List UInt8}:(fA r (-1)).why 0=8:=by rw [show fA r (-1)= .no 8 from if_pos (.inl ae)]; rfl
set_option maxRecDepth 100000 in
set_option maxHeartbeats 4000000 in
theorem DF (w0 w:World) (R:List Seg) (rb:Nat) (A:Option Addr) (l:List UInt8) (c p y:Nat) (X:Seg) (hO:Buf 5 1 X (.slice A l.length c) l.length (dc l)) (hA:Hp w0 ([row rb 152 [.slice A l.length c,.int .i64 (p:Nat),.int .i64 (y:Nat)]]::X::R) w) (hp:p≤l.length) (hl:l.length<140737488354000):Calls Tryz.prog 35 #[.pointer (some ⟨rb,0,none⟩)] w fun e w'=>∃ (va:VA) (Z:Seg),e= .returned (.tuple #[.agg va.cells.toArray,.int .i64 ((dC l p y).y:Nat)])∧va.v=(dC l p y).v∧va.Ok w0 [Z]∧(dC l p y).p≤l.length∧Hp w0 (Z::[row rb 152 [.slice A l.length c,.int .i64 ((dC l p y).p:Nat),.int .i64 ((dC l p y).y:Nat)]]::X::R) w':=by
 refine aQ Tryz.func35 O Tryz.ntmps35 ai (fun a hF=>?_)
 refine wp_seq_k fun K1 hK1=>wp_region_lit ?_
 refine ax O (fun K hK=>dB hF O ae rfl hA (CQ) (fun b1 w2 a hb1 hF hA3=>hK _ _ ?_))
 refine vR hF<|vX O<|vE hK1<|wQ fun K2 hK2=>wT fun K3 hK3=>vX O<|vV O (jb O af rfl rfl)<|vE hK3<|vF1 O<|wKp hK2<|wT fun K4 hK4=>vX O fun a hF=>?_
 have hA4:Hp w0 ([row rb 152 [.slice A l.length c,.int .i64 (p:Nat),.int .i64 (y:Nat)]]::X::[row b1 25 [.int .i64 0,.int .i64 0,.string (⟨#[]⟩),.slice none 0 0]]::R) w2:=hpO 3 [1,2,0] hA3 rfl
 refine ax O (fun K hK=>ay hF O ae MM rfl rfl ?_)
 with_reducible refine (uu w0 _ ([row b1 25 [.int .i64 0,.int .i64 0,.string (⟨#[]⟩),.slice none 0 0]]::R) rb A l c p y X hO hA4 hp hl).mono ?_
 rintro e' w5 ⟨k,p1,y1,rfl,hg1,hp1,hk,hA6⟩
 refine ⟨_,rfl,fun a hF=>hK _ _ ?_⟩
 replace hA6:Hp w0 ([row rb 152 [.slice A l.length c,.int .i64 (p1:Nat),.int .i64 (y1:Nat)]]::X::[row b1 25 [.int .i64 0,.int .i64 0,.string (⟨#[]⟩),.slice none 0 0]]::R) w5:=hA6
 replace hk:k<256:=hk
 refine vR hF<|vV O (bQ O QJ QI O (Qu _ ag))<|vV O (iK (qs := #[(0,.int .i64 ((k:Nat):Int))]) O O (Nw _)) fun a hF=>?_
 refine ax O (fun K hK=>dB hF O ae rfl hA6 (CQ) (fun b7 w8 a hb7 hF hA9=>hK _ _ ?_))
 refine ax O (fun K hK=>bu (new:=[.int .i64 ((k:Nat):Int),.int .i64 0,ak [],.slice none 0 0]) hF O O hA9 O O 0 O O (by simp [Value.oneCell']) pF (fun w10 hA11=>hK _ _ ?_))
 replace hA11:Hp w0 ([row b7 25 [.int .i64 ((k:Nat):Int),.int .i64 0,ak [],.slice none 0 0]]::[row rb 152 [.slice A l.length c,.int .i64 (p1:Nat),.int .i64 (y1:Nat)]]::X::[row b1 25 [.int .i64 0,.int .i64 0,.string (⟨#[]⟩),.slice none 0 0]]::R) w10:=hA11
 refine aK<|hK4 _ _ ?_
 apply wp_seq_k; intro K5 hK5
 refine wS hF fun K6 hK6=>vV O (yf 0 O QE O jU O)<|vV O (aX O hA11.q O 0 O O jV)<|vE hK6 fun a hF=>?_
 have hJ:∀ (a:Act) (x:World) (vb:VA) (Z:Seg) (p2 y2:Nat),eG k l p1 y1=⟨vb.v,p2,y2⟩→vb.Ok w0 [Z]→p2≤l.length→Fr 56 [(0,.pointer (some ⟨rb,0,none⟩)),(2,.pointer (some ⟨b1,0,none⟩)),(4,.pointer (some ⟨b7,0,none⟩))] a→Hp w0 (Z::[row b7 25 [.int .i64 vb.v.k,.int .i64 vb.v.n,ak vb.v.t,.slice vb.sA vb.v.s.length vb.sC]]::[row b1 25 [.int .i64 0,.int .i64 0,.string (⟨#[]⟩),.slice none 0 0]]::[row rb 152 [.slice A l.length c,.int .i64 (p2:Nat),.int .i64 (y2:Nat)]]::X::R) x→K5 a x:=by
  clear hF
  intro a x vb Z p2 y2 hg2 hb hp2 hF hA
  by_cases hy2:y2=0
  ·subst hy2
   refine hK5 _ _ ?_
   apply wp_seq_k; intro K7 hK7
   refine wS hF fun K8 hK8=>vX O fun a hF=>?_
   have hA12:Hp w0 ([row rb 152 [.slice A l.length c,.int .i64 (p2:Nat),.int .i64 (0:Nat)]]::X::Z::[row b7 25 [.int .i64 vb.v.k,.int .i64 vb.v.n,ak vb.v.t,.slice vb.sA vb.v.s.length vb.sC]]::[row b1 25 [.int .i64 0,.int .i64 0,.string (⟨#[]⟩),.slice none 0 0]]::R) x:=hpO 5 [3,4,0,1,2] hA rfl
   refine ax O (fun K hK=>ay hF O ae qw rfl rfl ?_)
   with_reducible refine (qO w0 _ (Z::[row b7 25 [.int .i64 vb.v.k,.int .i64 vb.v.n,ak vb.v.t,.slice vb.sA vb.v.s.length vb.sC]]::[row b1 25 [.int .i64 0,.int .i64 0,.string (⟨#[]⟩),.slice none 0 0]]::R) rb A l c p2 0 X hO hA12).mono ?_
   rintro e' w13 ⟨rfl,hA14⟩
   refine ⟨_,rfl,fun a hF=>hK _ _ ?_⟩
   replace hA14:Hp w0 ([row rb 152 [.slice A l.length c,.int .i64 (p2:Nat),.int .i64 (0:Nat)]]::X::Z::[row b7 25 [.int .i64 vb.v.k,.int .i64 vb.v.n,ak vb.v.t,.slice vb.sA vb.v.s.length vb.sC]]::[row b1 25 [.int .i64 0,.int .i64 0,.string (⟨#[]⟩),.slice none 0 0]]::R) w13:=hA14
   refine vR hF<|vV O (aJ O O O O (rfl))<|vX O fun a hF=>?_
   refine aI hF O O O O (aj rfl) ae _ (cO (new:=[.int .i64 vb.v.k,.int .i64 vb.v.n,ak vb.v.t,.slice vb.sA vb.v.s.length vb.sC]) O hA14.q O 3 O Ku ai rfl) (fun a hF=>?_)
   refine dG hF O O O (aj rfl) (fun K hK=>ay hF O ae JE rfl rfl ?_)
   with_reducible refine (uA vb _ hb (List.cons_subset.2 ⟨(Qy _ (Qy _ ((Qx ..)))),List.nil_subset _⟩) hA14).mono ?_
   rintro e' w15 ⟨rfl,hA16⟩
   refine ⟨_,rfl,fun a hF=>hK _ _ ?_⟩
   replace hA16:Hp w0 ([row rb 152 [.slice A l.length c,.int .i64 (p2:Nat),.int .i64 (0:Nat)]]::X::Z::[row b7 25 [.int .i64 vb.v.k,.int .i64 vb.v.n,ak vb.v.t,.slice vb.sA vb.v.s.length vb.sC]]::[row b1 25 [.int .i64 0,.int .i64 0,.string (⟨#[]⟩),.slice none 0 0]]::R) w15:=hA16
   refine aI hF O O O O (aj rfl) ae _ (aJ O O O O O) (fun a hF=>?_)
   refine vR hF<|vV O (bg O O O O)<|vE hK8 fun a hF=>?_
   rcases tf (aF .neq (((vb.v.right:Nat):Int)) (0)) with hr | hr
   ·refine au hF O hr ?_
    apply wp_skip
    refine hK7 _ _ ?_
    apply wp_seq_k; intro K9 hK9
    refine wS hF fun K10 hK10=>vX O fun a hF=>?_
    refine ax O (fun K hK=>ay hF O ae qw rfl rfl ?_)
    with_reducible refine (qO w0 _ (Z::[row b7 25 [.int .i64 vb.v.k,.int .i64 vb.v.n,ak vb.v.t,.slice vb.sA vb.v.s.length vb.sC]]::[row b1 25 [.int .i64 0,.int .i64 0,.string (⟨#[]⟩),.slice none 0 0]]::R) rb A l c p2 0 X hO hA16).mono ?_
    rintro e' w17 ⟨rfl,hA18⟩
    refine ⟨_,rfl,fun a hF=>hK _ _ ?_⟩
    replace hA18:Hp w0 ([row rb 152 [.slice A l.length c,.int .i64 (p2:Nat),.int .i64 (0:Nat)]]::X::Z::[row b7 25 [.int .i64 vb.v.k,.int .i64 vb.v.n,ak vb.v.t,.slice vb.sA vb.v.s.length vb.sC]]::[row b1 25 [.int .i64 0,.int .i64 0,.string (⟨#[]⟩),.slice none 0 0]]::R) w17:=hA18
    refine vR hF<|vX O<|vE hK10<|wT fun K11 hK11=>vX O<|vV O (aJ O O O O O)<|vE hK11 fun a hF=>?_
    refine au hF O O ?_
    apply wp_skip
    refine hK9 _ _ ?_
    refine wS hF fun K12 hK12=>vV O (cO (new:=[.int .i64 vb.v.k,.int .i64 vb.v.n,ak vb.v.t,.slice vb.sA vb.v.s.length vb.sC]) O hA18.q O 3 O Ku ai rfl) fun a hF=>?_
    refine ax O (fun K hK=>bu (new:=[.int .i64 vb.v.k,.int .i64 vb.v.n,ak vb.v.t,.slice vb.sA vb.v.s.length vb.sC]) hF O O hA18 O O 4 O O (by simp [Value.oneCell']) pF (fun w19 hA20=>hK _ _ ?_))
    replace hA20:Hp w0 ([row rb 152 [.slice A l.length c,.int .i64 (p2:Nat),.int .i64 (0:Nat)]]::X::Z::[row b7 25 [.int .i64 vb.v.k,.int .i64 vb.v.n,ak vb.v.t,.slice vb.sA vb.v.s.length vb.sC]]::[row b1 25 [.int .i64 vb.v.k,.int .i64 vb.v.n,ak vb.v.t,.slice vb.sA vb.v.s.length vb.sC]]::R) w19:=hA20
    refine vR hF<|vX O<|vE hK12 fun a hF=>?_
    apply wp_ret
    refine fE hF Tryz.results35 hA20.q O O 4 O Ku ?_
    have hA21:Hp w0 (Z::[row rb 152 [.slice A l.length c,.int .i64 (p2:Nat),.int .i64 (0:Nat)]]::X::R) w19:=hpS 5 [2,0,1] [3,4] hA20 rfl
    rw [Qj hg1 hg2 (qM hr)]
    exact ⟨vb,Z,rfl,rfl,hb,hp2,hA21⟩
   ·refine aG hF O hr ?_
    refine wp_region_lit ?_
    refine vR hF<|vX O fun a hF=>?_
    refine ax O (fun K hK=>ay hF O ae D7 rfl rfl ?_)
    with_reducible refine (BU w0 _ (Z::[row b7 25 [.int .i64 vb.v.k,.int .i64 vb.v.n,ak vb.v.t,.slice vb.sA vb.v.s.length vb.sC]]::[row b1 25 [.int .i64 0,.int .i64 0,.string (⟨#[]⟩),.slice none 0 0]]::R) rb A l c p2 0 X (-1) hO hA16 hp2 hl ae).mono ?_
    rintro e' w22 ⟨qvR0,ZR,rfl,_,hA23⟩
    refine ⟨_,rfl,fun a hF=>hK _ _ ?_⟩
    replace hA23:Hp w0 (ZR::[row rb 152 [.slice A l.length c,.int .i64 ((fA (l.drop p2) (-1)).pl p2 0:Nat),.int .i64 ((fA (l.drop p2) (-1)).why 0:Nat)]]::X::Z::[row b7 25 [.int .i64 vb.v.k,.int .i64 vb.v.n,ak vb.v.t,.slice vb.sA vb.v.s.length vb.sC]]::[row b1 25 [.int .i64 0,.int .i64 0,.string (⟨#[]⟩),.slice none 0 0]]::R) w22:=hA23
    refine aK<|hK7 _ _ ?_
    apply wp_seq_k; intro K13 hK13
    apply wp_seq_k; intro K14 hK14
    have hA8:Hp w0 (ZR::[row rb 152 [.slice A l.length c,.int .i64 (p2:Nat),.int .i64 (8:Nat)]]::X::Z::[row b7 25 [.int .i64 vb.v.k,.int .i64 vb.v.n,ak vb.v.t,.slice vb.sA vb.v.s.length vb.sC]]::[row b1 25 [.int .i64 0,.int .i64 0,.string (⟨#[]⟩),.slice none 0 0]]::R) w22:=by
     have h8:=hA23
     rw [EH,EG] at h8
     exact h8
    refine wp_region_lit ?_
    refine vR hF<|vX O fun a hF=>?_
    have hA24:Hp w0 ([row rb 152 [.slice A l.length c,.int .i64 (p2:Nat),.int .i64 (8:Nat)]]::X::ZR::Z::[row b7 25 [.int .i64 vb.v.k,.int .i64 vb.v.n,ak vb.v.t,.slice vb.sA vb.v.s.length vb.sC]]::[row b1 25 [.int .i64 0,.int .i64 0,.string (⟨#[]⟩),.slice none 0 0]]::R) w22:=hpO 6 [1,2,0,3,4,5] hA8 rfl
    refine ax O (fun K hK=>ay hF O ae qw rfl rfl ?_)
    with_reducible refine (qO w0 _ (ZR::Z::[row b7 25 [.int .i64 vb.v.k,.int .i64 vb.v.n,ak vb.v.t,.slice vb.sA vb.v.s.length vb.sC]]::[row b1 25 [.int .i64 0,.int .i64 0,.string (⟨#[]⟩),.slice none 0 0]]::R) rb A l c p2 8 X hO hA24).mono ?_
    rintro e' w25 ⟨rfl,hA26⟩
    refine ⟨_,rfl,fun a hF=>hK _ _ ?_⟩
    replace hA26:Hp w0 ([row rb 152 [.slice A l.length c,.int .i64 (p2:Nat),.int .i64 (8:Nat)]]::X::ZR::Z::[row b7 25 [.int .i64 vb.v.k,.int .i64 vb.v.n,ak vb.v.t,.slice vb.sA vb.v.s.length vb.sC]]::[row b1 25 [.int .i64 0,.int .i64 0,.string (⟨#[]⟩),.slice none 0 0]]::R) w25:=hA26
    refine vR hF<|vX O<|vE hK14<|wT fun K15 hK15=>vX O<|vV O (aJ O O O O O)<|vE hK15 fun a hF=>?_
    refine aG hF O O ?_
    refine wS hF fun K16 hK16=>vV O (fU O uC)<|vX O fun a hF=>?_
    refine ax O (fun K hK=>bu (new:=[.int .i64 0,.int .i64 0,ak [],.slice none 0 0]) hF O O hA26 O O 5 O O (by simp [Value.oneCell']) pF (fun w27 hA28=>hK _ _ ?_))
    replace hA28:Hp w0 ([row rb 152 [.slice A l.length c,.int .i64 (p2:Nat),.int .i64 (8:Nat)]]::X::ZR::Z::[row b7 25 [.int .i64 vb.v.k,.int .i64 vb.v.n,ak vb.v.t,.slice vb.sA vb.v.s.length vb.sC]]::[row b1 25 [.int .i64 0,.int .i64 0,ak [],.slice none 0 0]]::R) w27:=hA28
    refine vR hF<|vX O<|vE hK16 fun a hF=>?_
    apply wp_ret
    simp only [Exit.then]
    refine fE hF Tryz.results35 hA28.q O O 5 O Ku ?_
    have hA29:Hp w0 ([row rb 152 [.slice A l.length c,.int .i64 (p2:Nat),.int .i64 (8:Nat)]]::X::R) w27:=hpS 6 [0,1] [2,3,4,5] hA28 rfl
    rw [Qi hg1 hg2 (lu hr)]
    exact ⟨⟨noVal,none,0⟩,[],rfl,rfl,pY,hp2,Hp.nil hA29⟩
  ·refine hK5 _ _ ?_
   apply wp_seq_k; intro K17 hK17
   refine wS hF fun K18 hK18=>vX O fun a hF=>?_
   have hA30:Hp w0 ([row rb 152 [.slice A l.length c,.int .i64 (p2:Nat),.int .i64 (y2:Nat)]]::X::Z::[row b7 25 [.int .i64 vb.v.k,.int .i64 vb.v.n,ak vb.v.t,.slice vb.sA vb.v.s.length vb.sC]]::[row b1 25 [.int .i64 0,.int .i64 0,.string (⟨#[]⟩),.slice none 0 0]]::R) x:=hpO 5 [3,4,0,1,2] hA rfl
   refine ax O (fun K hK=>ay hF O ae qw rfl rfl ?_)
   with_reducible refine (qO w0 _ (Z::[row b7 25 [.int .i64 vb.v.k,.int .i64 vb.v.n,ak vb.v.t,.slice vb.sA vb.v.s.length vb.sC]]::[row b1 25 [.int .i64 0,.int .i64 0,.string (⟨#[]⟩),.slice none 0 0]]::R) rb A l c p2 y2 X hO hA30).mono ?_
   rintro e' w31 ⟨rfl,hA32⟩
   refine ⟨_,rfl,fun a hF=>hK _ _ ?_⟩
   replace hA32:Hp w0 ([row rb 152 [.slice A l.length c,.int .i64 (p2:Nat),.int .i64 (y2:Nat)]]::X::Z::[row b7 25 [.int .i64 vb.v.k,.int .i64 vb.v.n,ak vb.v.t,.slice vb.sA vb.v.s.length vb.sC]]::[row b1 25 [.int .i64 0,.int .i64 0,.string (⟨#[]⟩),.slice none 0 0]]::R) w31:=hA32
   refine vR hF<|vV O (aJ O O O O ((bU ag)))<|vX O fun a hF=>?_
   refine az hF O O O O O (aB rfl) ae (fun a hF=>?_)
   refine az hF O O O O O (aB rfl) ae (fun a hF=>?_)
   refine az hF O O O O O (aB rfl) ae (fun a hF=>?_)
   refine vR hF<|vV O (aV O O O O)<|vE hK18<|vF1 O<|wKp hK17<|wQ fun K19 hK19=>wT fun K20 hK20=>vX O fun a hF=>?_
   refine ax O (fun K hK=>ay hF O ae qw rfl rfl ?_)
   with_reducible refine (qO w0 _ (Z::[row b7 25 [.int .i64 vb.v.k,.int .i64 vb.v.n,ak vb.v.t,.slice vb.sA vb.v.s.length vb.sC]]::[row b1 25 [.int .i64 0,.int .i64 0,.string (⟨#[]⟩),.slice none 0 0]]::R) rb A l c p2 y2 X hO hA32).mono ?_
   rintro e' w33 ⟨rfl,hA34⟩
   refine ⟨_,rfl,fun a hF=>hK _ _ ?_⟩
   replace hA34:Hp w0 ([row rb 152 [.slice A l.length c,.int .i64 (p2:Nat),.int .i64 (y2:Nat)]]::X::Z::[row b7 25 [.int .i64 vb.v.k,.int .i64 vb.v.n,ak vb.v.t,.slice vb.sA vb.v.s.length vb.sC]]::[row b1 25 [.int .i64 0,.int .i64 0,.string (⟨#[]⟩),.slice none 0 0]]::R) w33:=hA34
   refine vR hF<|vX O<|vE hK20<|wT fun K21 hK21=>vX O<|vV O (aJ O O O O O)<|vE hK21 fun a hF=>?_
   refine aG hF O (iW ag) ?_
   refine wS hF fun K22 hK22=>vV O (fU O uC)<|vX O fun a hF=>?_
   refine ax O (fun K hK=>bu (new:=[.int .i64 0,.int .i64 0,ak [],.slice none 0 0]) hF O O hA34 O O 4 O O (by simp [Value.oneCell']) pF (fun w35 hA36=>hK _ _ ?_))
   replace hA36:Hp w0 ([row rb 152 [.slice A l.length c,.int .i64 (p2:Nat),.int .i64 (y2:Nat)]]::X::Z::[row b7 25 [.int .i64 vb.v.k,.int .i64 vb.v.n,ak vb.v.t,.slice vb.sA vb.v.s.length vb.sC]]::[row b1 25 [.int .i64 0,.int .i64 0,ak [],.slice none 0 0]]::R) w35:=hA36
   refine vR hF<|vX O<|vE hK22 fun a hF=>?_
   apply wp_ret
   simp only [Exit.then]
   refine fE hF Tryz.results35 hA36.q O O 4 O Ku ?_
   have hA37:Hp w0 ([row rb 152 [.slice A l.length c,.int .i64 (p2:Nat),.int .i64 (y2:Nat)]]::X::R) w35:=hpS 5 [0,1] [2,3,4] hA36 rfl
   rw [Qh hg1 hg2 hy2]
   exact ⟨⟨noVal,none,0⟩,[],rfl,rfl,pY,hp2,Hp.nil hA37⟩
 apply wp_block
 refine wS hF fun K23 hK23=>vV O (aJ O O O O O)<|vX O<|vE hK23 fun a hF=>?_
 by_cases hk0:k=0
 ·refine aG hF O (fO ag) ?_
  apply wp_skip
  have hA38:Hp w0 ([row b7 25 [.int .i64 ((k:Nat):Int),.int .i64 0,ak [],.slice none 0 0]]::[row b1 25 [.int .i64 0,.int .i64 0,.string (⟨#[]⟩),.slice none 0 0]]::[row rb 152 [.slice A l.length c,.int .i64 (p1:Nat),.int .i64 (y1:Nat)]]::X::R) w10:=hpO 4 [0,3,1,2] hA11 rfl
  exact hJ _ _ ⟨⟨((k:Nat):Int),0,[],[]⟩,none,0⟩ [] p1 y1 (wM (.inl hk0)) (sV hk ae) hp1 (hF.keep [0,2,4] rfl) (Hp.nil hA38)
 ·by_cases hk1:k=1
  ·refine au hF O (bU ag) ?_
   apply wp_seq_k; intro K24 hK24
   refine wS hF fun K25 hK25=>vV O (aJ O O O O O)<|vX O<|vE hK25 fun a hF=>?_
   refine aG hF O (fO ag) ?_
   apply wp_skip
   refine hK24 _ _ ?_
   refine aG hF O (fO ag) ?_
   refine wp_region_lit ?_
   refine vR hF<|vX O fun a hF=>?_
   have hA39:Hp w0 ([row rb 152 [.slice A l.length c,.int .i64 (p1:Nat),.int .i64 (y1:Nat)]]::X::[row b7 25 [.int .i64 ((k:Nat):Int),.int .i64 0,ak [],.slice none 0 0]]::[row b1 25 [.int .i64 0,.int .i64 0,.string (⟨#[]⟩),.slice none 0 0]]::R) w10:=hpO 4 [1,2,0,3] hA11 rfl
   refine ax O (fun K hK=>ay hF O ae DV rfl rfl ?_)
   with_reducible refine (ou w0 _ ([row b7 25 [.int .i64 ((k:Nat):Int),.int .i64 0,ak [],.slice none 0 0]]::[row b1 25 [.int .i64 0,.int .i64 0,.string (⟨#[]⟩),.slice none 0 0]]::R) rb A l c p1 y1 X hO hA39 hp1 hl).mono ?_
   rintro e' w40 ⟨n2,p2,y2,rfl,hg2,hp2,hn2,hA41⟩
   refine ⟨_,rfl,fun a hF=>hK _ _ ?_⟩
   replace hA41:Hp w0 ([row rb 152 [.slice A l.length c,.int .i64 (p2:Nat),.int .i64 (y2:Nat)]]::X::[row b7 25 [.int .i64 ((k:Nat):Int),.int .i64 0,ak [],.slice none 0 0]]::[row b1 25 [.int .i64 0,.int .i64 0,.string (⟨#[]⟩),.slice none 0 0]]::R) w40:=hA41
   replace hn2:n2<18446744073709551616:=hn2
   refine vR hF<|vV O (bQ O QK QD O (qg hn2))<|vV O (yf 1 O QE O jC O) fun a hF=>?_
   refine ax O (fun K hK=>bW hF O O hA41 O O 2 O (by simp) rfl jC (fun w42 hA43=>hK _ _ ?_))
   replace hA43:Hp w0 ([row rb 152 [.slice A l.length c,.int .i64 (p2:Nat),.int .i64 (y2:Nat)]]::X::[row b7 25 [.int .i64 ((k:Nat):Int),.int .i64 (i64 n2),ak [],.slice none 0 0]]::[row b1 25 [.int .i64 0,.int .i64 0,.string (⟨#[]⟩),.slice none 0 0]]::R) w42:=hA43
   refine aK ?_
   have hA44:Hp w0 ([row b7 25 [.int .i64 ((k:Nat):Int),.int .i64 (i64 n2),ak [],.slice none 0 0]]::[row b1 25 [.int .i64 0,.int .i64 0,.string (⟨#[]⟩),.slice none 0 0]]::[row rb 152 [.slice A l.length c,.int .i64 (p2:Nat),.int .i64 (y2:Nat)]]::X::R) w42:=hpO 4 [2,3,0,1] hA43 rfl
   exact hJ _ _ ⟨⟨((k:Nat):Int),i64 n2,[],[]⟩,none,0⟩ [] p2 y2 (wL (.inl hk1) hg2) (sV hk (i64_in hn2)) hp2 (hF.keep [0,2,4] rfl) (Hp.nil hA44)
  ·by_cases hk4:k=4
   ·refine au hF O (bU ag) ?_
    apply wp_seq_k; intro K26 hK26
    refine wS hF fun K27 hK27=>vV O (aJ O O O O O)<|vX O<|vE hK27 fun a hF=>?_
    refine au hF O (bU ag) ?_
    refine wp_region_lit ?_
    refine vR hF<|vV O (aJ O O O O O)<|vX O<|vE hK26 fun a hF=>?_
    refine aG hF O (fO ag) ?_
    refine wp_region_lit ?_
    refine vR hF<|vX O fun a hF=>?_
    have hA45:Hp w0 ([row rb 152 [.slice A l.length c,.int .i64 (p1:Nat),.int .i64 (y1:Nat)]]::X::[row b7 25 [.int .i64 ((k:Nat):Int),.int .i64 0,ak [],.slice none 0 0]]::[row b1 25 [.int .i64 0,.int .i64 0,.string (⟨#[]⟩),.slice none 0 0]]::R) w10:=hpO 4 [1,2,0,3] hA11 rfl
    refine ax O (fun K hK=>ay hF O ae DV rfl rfl ?_)
    with_reducible refine (ou w0 _ ([row b7 25 [.int .i64 ((k:Nat):Int),.int .i64 0,ak [],.slice none 0 0]]::[row b1 25 [.int .i64 0,.int .i64 0,.string (⟨#[]⟩),.slice none 0 0]]::R) rb A l c p1 y1 X hO hA45 hp1 hl).mono ?_
    rintro e' w46 ⟨n2,p2,y2,rfl,hg2,hp2,hn2,hA47⟩
    refine ⟨_,rfl,fun a hF=>hK _ _ ?_⟩
    replace hA47:Hp w0 ([row rb 152 [.slice A l.length c,.int .i64 (p2:Nat),.int .i64 (y2:Nat)]]::X::[row b7 25 [.int .i64 ((k:Nat):Int),.int .i64 0,ak [],.slice none 0 0]]::[row b1 25 [.int .i64 0,.int .i64 0,.string (⟨#[]⟩),.slice none 0 0]]::R) w46:=hA47
    replace hn2:n2<18446744073709551616:=hn2
    refine vR hF<|vV O (bQ O QK QD O (qg hn2))<|vV O (yf 1 O QE O jC O) fun a hF=>?_
    refine ax O (fun K hK=>bW hF O O hA47 O O 2 O (by simp) rfl jC (fun w48 hA49=>hK _ _ ?_))
    replace hA49:Hp w0 ([row rb 152 [.slice A l.length c,.int .i64 (p2:Nat),.int .i64 (y2:Nat)]]::X::[row b7 25 [.int .i64 ((k:Nat):Int),.int .i64 (i64 n2),ak [],.slice none 0 0]]::[row b1 25 [.int .i64 0,.int .i64 0,.string (⟨#[]⟩),.slice none 0 0]]::R) w48:=hA49
    refine aK ?_
    have hA50:Hp w0 ([row b7 25 [.int .i64 ((k:Nat):Int),.int .i64 (i64 n2),ak [],.slice none 0 0]]::[row b1 25 [.int .i64 0,.int .i64 0,.string (⟨#[]⟩),.slice none 0 0]]::[row rb 152 [.slice A l.length c,.int .i64 (p2:Nat),.int .i64 (y2:Nat)]]::X::R) w48:=hpO 4 [2,3,0,1] hA49 rfl
    exact hJ _ _ ⟨⟨((k:Nat):Int),i64 n2,[],[]⟩,none,0⟩ [] p2 y2 (wL (.inr hk4) hg2) (sV hk (i64_in hn2)) hp2 (hF.keep [0,2,4] rfl) (Hp.nil hA50)
   ·by_cases hk2:k=2
    ·refine au hF O (bU ag) ?_
     apply wp_seq_k; intro K28 hK28
     refine wS hF fun K29 hK29=>vV O (aJ O O O O O)<|vX O<|vE hK29 fun a hF=>?_
     refine au hF O (bU ag) ?_
     refine wp_region_lit ?_
     refine vR hF<|vV O (aJ O O O O O)<|vX O<|vE hK28 fun a hF=>?_
     refine au hF O (bU ag) ?_
     refine wS hF fun K30 hK30=>vV O (aJ O O O O O)<|vX O<|vE hK30 fun a hF=>?_
     refine aG hF O (fO ag) ?_
     refine wS hF fun K31 hK31=>vX O fun a hF=>?_
     have hA51:Hp w0 ([row rb 152 [.slice A l.length c,.int .i64 (p1:Nat),.int .i64 (y1:Nat)]]::X::[row b7 25 [.int .i64 ((k:Nat):Int),.int .i64 0,ak [],.slice none 0 0]]::[row b1 25 [.int .i64 0,.int .i64 0,.string (⟨#[]⟩),.slice none 0 0]]::R) w10:=hpO 4 [1,2,0,3] hA11 rfl
     refine ax O (fun K hK=>ay hF O ae LV rfl rfl ?_)
     with_reducible refine (Ls w0 _ ([row b7 25 [.int .i64 ((k:Nat):Int),.int .i64 0,ak [],.slice none 0 0]]::[row b1 25 [.int .i64 0,.int .i64 0,.string (⟨#[]⟩),.slice none 0 0]]::R) rb A l c p1 y1 X hO hA51 hp1 hl).mono ?_
     rintro e' w52 ⟨fb,p2,y2,rfl,hg2,hp2,hA53⟩
     refine ⟨_,rfl,fun a hF=>hK _ _ ?_⟩
     replace hA53:Hp w0 ([row rb 152 [.slice A l.length c,.int .i64 (p2:Nat),.int .i64 (y2:Nat)]]::X::[row b7 25 [.int .i64 ((k:Nat):Int),.int .i64 0,ak [],.slice none 0 0]]::[row b1 25 [.int .i64 0,.int .i64 0,.string (⟨#[]⟩),.slice none 0 0]]::R) w52:=hA53
     refine aK<|hK31 _ _ ?_
     rcases tf fb with hfb | hfb
     ·refine au hF O hfb ?_
      apply wp_skip
      have hA54:Hp w0 ([row b7 25 [.int .i64 ((k:Nat):Int),.int .i64 0,ak [],.slice none 0 0]]::[row b1 25 [.int .i64 0,.int .i64 0,.string (⟨#[]⟩),.slice none 0 0]]::[row rb 152 [.slice A l.length c,.int .i64 (p2:Nat),.int .i64 (y2:Nat)]]::X::R) w52:=hpO 4 [2,3,0,1] hA53 rfl
      exact hJ _ _ ⟨⟨((k:Nat):Int),0,[],[]⟩,none,0⟩ [] p2 y2 (wK (b:=false) hk2 (by rw [hfb] at hg2; exact hg2)) (sV hk ae) hp2 (hF.keep [0,2,4] rfl) (Hp.nil hA54)
     ·refine aG hF O hfb ?_
      refine wp_region_lit ?_
      refine vR hF<|vV O (yf 1 O QE O jC O) fun a hF=>?_
      refine ax O (fun K hK=>bW hF O O hA53 O O 2 O (by simp) rfl jC (fun w55 hA56=>hK _ _ ?_))
      replace hA56:Hp w0 ([row rb 152 [.slice A l.length c,.int .i64 (p2:Nat),.int .i64 (y2:Nat)]]::X::[row b7 25 [.int .i64 ((k:Nat):Int),.int .i64 1,ak [],.slice none 0 0]]::[row b1 25 [.int .i64 0,.int .i64 0,.string (⟨#[]⟩),.slice none 0 0]]::R) w55:=hA56
      refine aK ?_
      have hA57:Hp w0 ([row b7 25 [.int .i64 ((k:Nat):Int),.int .i64 1,ak [],.slice none 0 0]]::[row b1 25 [.int .i64 0,.int .i64 0,.string (⟨#[]⟩),.slice none 0 0]]::[row rb 152 [.slice A l.length c,.int .i64 (p2:Nat),.int .i64 (y2:Nat)]]::X::R) w55:=hpO 4 [2,3,0,1] hA56 rfl
      exact hJ _ _ ⟨⟨((k:Nat):Int),1,[],[]⟩,none,0⟩ [] p2 y2 (wK (b:=true) hk2 (by rw [hfb] at hg2; exact hg2)) (sV hk ae) hp2 (hF.keep [0,2,4] rfl) (Hp.nil hA57)
    ·by_cases hk3:k=3
     ·refine au hF O (bU ag) ?_
      apply wp_seq_k; intro K32 hK32
      refine wS hF fun K33 hK33=>vV O (aJ O O O O O)<|vX O<|vE hK33 fun a hF=>?_
      refine au hF O (bU ag) ?_
      refine wp_region_lit ?_
      refine vR hF<|vV O (aJ O O O O O)<|vX O<|vE hK32 fun a hF=>?_
      refine au hF O (bU ag) ?_
      refine wS hF fun K34 hK34=>vV O (aJ O O O O O)<|vX O<|vE hK34 fun a hF=>?_
      refine au hF O (bU ag) ?_
      refine wS hF fun K35 hK35=>vV O (aJ O O O O O)<|vX O<|vE hK35 fun a hF=>?_
      refine aG hF O (fO ag) ?_
      refine wp_region_lit ?_
      refine vR hF<|vX O fun a hF=>?_
      have hA58:Hp w0 ([row rb 152 [.slice A l.length c,.int .i64 (p1:Nat),.int .i64 (y1:Nat)]]::X::[row b7 25 [.int .i64 ((k:Nat):Int),.int .i64 0,ak [],.slice none 0 0]]::[row b1 25 [.int .i64 0,.int .i64 0,.string (⟨#[]⟩),.slice none 0 0]]::R) w10:=hpO 4 [1,2,0,3] hA11 rfl
      refine ax O (fun K hK=>ay hF O ae Md rfl rfl ?_)
      with_reducible refine (sG w0 _ ([row b7 25 [.int .i64 ((k:Nat):Int),.int .i64 0,ak [],.slice none 0 0]]::[row b1 25 [.int .i64 0,.int .i64 0,.string (⟨#[]⟩),.slice none 0 0]]::R) rb A l c p1 y1 X 1024 hO hA58 hp1 hl).mono ?_
      rintro e' w59 ⟨ts,p2,y2,rfl,hg2,hp2,hA60⟩
      refine ⟨_,rfl,fun a hF=>hK _ _ ?_⟩
      refine vR hF<|vV O (yf 2 O QE O xn O) fun a hF=>?_
      refine ax O (fun K hK=>bW hF O O hA60 O O 2 O (by simp) rfl xn (fun w61 hA62=>hK _ _ ?_))
      replace hA62:Hp w0 ([row rb 152 [.slice A l.length c,.int .i64 (p2:Nat),.int .i64 (y2:Nat)]]::X::[row b7 25 [.int .i64 ((k:Nat):Int),.int .i64 0,ak ts,.slice none 0 0]]::[row b1 25 [.int .i64 0,.int .i64 0,.string (⟨#[]⟩),.slice none 0 0]]::R) w61:=hA62
      refine aK ?_
      have hA63:Hp w0 ([row b7 25 [.int .i64 ((k:Nat):Int),.int .i64 0,ak ts,.slice none 0 0]]::[row b1 25 [.int .i64 0,.int .i64 0,.string (⟨#[]⟩),.slice none 0 0]]::[row rb 152 [.slice A l.length c,.int .i64 (p2:Nat),.int .i64 (y2:Nat)]]::X::R) w61:=hpO 4 [2,3,0,1] hA62 rfl
      exact hJ _ _ ⟨⟨((k:Nat):Int),0,ts,[]⟩,none,0⟩ [] p2 y2 (EZ hk3 hg2) (sV hk ae) hp2 (hF.keep [0,2,4] rfl) (Hp.nil hA63)
     ·by_cases hk5:k=5
      ·refine au hF O (bU ag) ?_
       apply wp_seq_k; intro K36 hK36
       refine wS hF fun K37 hK37=>vV O (aJ O O O O O)<|vX O<|vE hK37 fun a hF=>?_
       refine au hF O (bU ag) ?_
       refine wp_region_lit ?_
       refine vR hF<|vV O (aJ O O O O O)<|vX O<|vE hK36 fun a hF=>?_
       refine au hF O (bU ag) ?_
       refine wS hF fun K38 hK38=>vV O (aJ O O O O O)<|vX O<|vE hK38 fun a hF=>?_
       refine au hF O (bU ag) ?_
       refine wS hF fun K39 hK39=>vV O (aJ O O O O O)<|vX O<|vE hK39 fun a hF=>?_
       refine au hF O (bU ag) ?_
       refine wS hF fun K40 hK40=>vV O (aJ O O O O O)<|vX O<|vE hK40 fun a hF=>?_
       refine aG hF O (fO ag) ?_
       refine wp_region_lit ?_
       refine vR hF<|vX O fun a hF=>?_
       have hA64:Hp w0 ([row rb 152 [.slice A l.length c,.int .i64 (p1:Nat),.int .i64 (y1:Nat)]]::X::[row b7 25 [.int .i64 ((k:Nat):Int),.int .i64 0,ak [],.slice none 0 0]]::[row b1 25 [.int .i64 0,.int .i64 0,.string (⟨#[]⟩),.slice none 0 0]]::R) w10:=hpO 4 [1,2,0,3] hA11 rfl
       refine ax O (fun K hK=>ay hF O ae JF rfl rfl ?_)
       with_reducible refine (Iy w0 _ ([row b7 25 [.int .i64 ((k:Nat):Int),.int .i64 0,ak [],.slice none 0 0]]::[row b1 25 [.int .i64 0,.int .i64 0,.string (⟨#[]⟩),.slice none 0 0]]::R) rb A l c p1 y1 X 64 1024 hO hA64 hp1 hl).mono ?_
       rintro e' w65 ⟨ss,p2,y2,A2,c2,Z1,rfl,hg2,hp2,hR2,hsl,hA66⟩
       refine ⟨_,rfl,fun a hF=>hK _ _ ?_⟩
       refine vR hF<|vV O (yf 3 O QE O nU O) fun a hF=>?_
       refine ax O (fun K hK=>bW hF O O hA66 O O 3 O (by simp) rfl nU (fun w67 hA68=>hK _ _ ?_))
       replace hA68:Hp w0 (Z1::[row rb 152 [.slice A l.length c,.int .i64 (p2:Nat),.int .i64 (y2:Nat)]]::X::[row b7 25 [.int .i64 ((k:Nat):Int),.int .i64 0,ak [],.slice A2 ss.length c2]]::[row b1 25 [.int .i64 0,.int .i64 0,.string (⟨#[]⟩),.slice none 0 0]]::R) w67:=hA68
       refine aK ?_
       have hA69:Hp w0 (Z1::[row b7 25 [.int .i64 ((k:Nat):Int),.int .i64 0,ak [],.slice A2 ss.length c2]]::[row b1 25 [.int .i64 0,.int .i64 0,.string (⟨#[]⟩),.slice none 0 0]]::[row rb 152 [.slice A l.length c,.int .i64 (p2:Nat),.int .i64 (y2:Nat)]]::X::R) w67:=hpO 5 [0,3,4,1,2] hA68 rfl
       exact hJ _ _ ⟨⟨((k:Nat):Int),0,[],ss⟩,A2,c2⟩ Z1 p2 y2 (EY hk5 hg2) (Pj hk hR2 hsl) hp2 (hF.keep [0,2,4] rfl) hA69
      ·refine au hF O (bU ag) ?_
       apply wp_seq_k; intro K41 hK41
       refine wS hF fun K42 hK42=>vV O (aJ O O O O O)<|vX O<|vE hK42 fun a hF=>?_
       refine au hF O (bU ag) ?_
       refine wp_region_lit ?_
       refine vR hF<|vV O (aJ O O O O O)<|vX O<|vE hK41 fun a hF=>?_
       refine au hF O (bU ag) ?_
       refine wS hF fun K43 hK43=>vV O (aJ O O O O O)<|vX O<|vE hK43 fun a hF=>?_
       refine au hF O (bU ag) ?_
       refine wS hF fun K44 hK44=>vV O (aJ O O O O O)<|vX O<|vE hK44 fun a hF=>?_
       refine au hF O (bU ag) ?_
       refine wS hF fun K45 hK45=>vV O (aJ O O O O O)<|vX O<|vE hK45 fun a hF=>?_
       refine au hF O (bU ag) ?_
       apply wp_skip
       have hA70:Hp w0 ([row b7 25 [.int .i64 ((k:Nat):Int),.int .i64 0,ak [],.slice none 0 0]]::[row b1 25 [.int .i64 0,.int .i64 0,.string (⟨#[]⟩),.slice none 0 0]]::[row rb 152 [.slice A l.length c,.int .i64 (p1:Nat),.int .i64 (y1:Nat)]]::X::R) w10:=hpO 4 [0,3,1,2] hA11 rfl
       exact hJ _ _ ⟨⟨((k:Nat):Int),0,[],[]⟩,none,0⟩ [] p1 y1 (wM (.inr ⟨hk1,hk4,hk2,hk3,hk5⟩)) (sV hk ae) hp1 (hF.keep [0,2,4] rfl) (Hp.nil hA70)
end Go.Proofs.YtepbmdlgdaedpaaGreatDoor
