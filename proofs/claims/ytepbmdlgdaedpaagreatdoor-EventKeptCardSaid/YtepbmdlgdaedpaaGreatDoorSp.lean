/- Texts that belong together, one behind the other. -/
import Derived.Test.YtepbmdlgdaedpaaGreatDoorBook1
import Derived.Test.YtepbmdlgdaedpaaGreatDoorKr
import Derived.Test.YtepbmdlgdaedpaaGreatDoorBook0
import Derived.Laws.StructEq
import Derived.Stop.BytesEq
section
set_option maxRecDepth 100000
set_option maxHeartbeats 4000000
namespace Go.Proofs.YtepbmdlgdaedpaaGreatDoor
open Go.RowKit Go.Dk
def nN (m:Nat):UInt8:=UInt8.ofNat m
def Jz (i j:Nat):UInt8:=nN ((i+1)/2 ^ (8*(j%3)))
def lM (i:Nat):List UInt8:=[nN i,nN (i/2 ^ 8),nN (i/2 ^ 16)]
def Jy (i _j:Nat):List UInt8:=[109,97,114,107,32]++lM i
theorem ve (w0:World) (i j:Nat) (R:List Seg) (w:World) (hi:i<4000) (hj:j<9223372036854775807) (hA:Hp w0 R w):Calls Tryz.prog 42 #[.int .i64 (i:Int),.int .i64 (j:Int)] w fun e w'=>e= .returned (.int .u8 ((Jz i j).toNat:Int))∧Hp w0 R w':=by
 refine aP Tryz.func42 O Tryz.ntmps42 ai (fun a hF=>?_)
 refine wS hF fun K1 hK1=>vX O<|vE hK1<|wT fun K2 hK2=>vX O<|vV O (bT (r:=((i+1:Nat):Int)) O O O (by rw [Np _ ag]; omega)) fun a hF=>?_
 refine vR hF<|vX O<|vV O (KQ (r:=((j%3:Nat):Int)) O O O ae (by rw [Int.tmod_eq_emod_of_nonneg ag]; omega)) fun a hF=>?_
 refine vR hF<|vV O (wJ (r:=((8*(j%3):Nat):Int)) O O O (by rw [Np _ ag]; omega)) fun a hF=>?_
 refine vR hF<|vV O (bW O NC Tryz.underlying38 O (show IntKind.u64.wrap (((8*(j%3):Nat):Int))=((8*(j%3):Nat):Int) by rw [IntKind.wrap_u64]; omega)) fun a hF=>?_
 refine vR hF<|vV O (lC (r:=(((i+1)/2 ^ (8*(j%3)):Nat):Int)) O O O ag (uH _ _ _ O ag))<|vV O (bW (r:=((nN ((i+1)/2 ^ (8*(j%3)))).toNat:Int)) O NC NI O (wH _))<|vX O<|vE hK2 fun a hF=>?_
 apply wp_ret
 refine aO hF Tryz.results42 O ?_
 exact ⟨rfl,hA⟩
theorem Kw (x y z:Int) (w:World):(Instr.buildSlice 27 3 #[(0,.int .u8 x),(1,.int .u8 y),(2,.int .u8 z)]).run Tryz.prog w= .ok (.slice (some ⟨w.heap.size,0,none⟩) 3 3) (w.alloc (.cells #[.int .u8 x,.int .u8 y,.int .u8 z] 5)):=af
theorem qY (w0:World) (i j:Nat) (R:List Seg) (w:World) (_hi:i<4000) (_hj:j<9223372036854775807) (hA:Hp w0 R w):Calls Tryz.prog 44 #[.int .i64 (i:Int),.int .i64 (j:Int)] w fun e w'=>e= .returned (aj (Jy i j))∧Hp w0 R w':=by
 refine aP Tryz.func44 O Tryz.ntmps44 ai (fun a hF=>?_)
 refine wS hF fun K1 hK1=>vX O<|vE hK1<|wT fun K2 hK2=>vX O<|vV O (bW (r:=((nN (i)).toNat:Int)) O NC NI O (wH _))<|vX O<|vV O (lC (r:=((i/2 ^ 8:Nat):Int)) O O O ae (uH i 8 _ O ae))<|vV O (bW (r:=((nN (i/2 ^ 8)).toNat:Int)) O NC NI O (wH _))<|vX O<|vV O (lC (r:=((i/2 ^ 16:Nat):Int)) O O O ae (uH i 16 _ O ae))<|vV O (bW (r:=((nN (i/2 ^ 16)).toNat:Int)) O NC NI O (wH _)) fun a hF=>?_
 refine ax O (fun K hK=>kG (qs := #[(0,.int .u8 ((nN i).toNat:Int)),(1,.int .u8 ((nN (i/2 ^ 8)).toNat:Int)),(2,.int .u8 ((nN (i/2 ^ 16)).toNat:Int))]) (cells := #[.int .u8 ((nN i).toNat:Int),.int .u8 ((nN (i/2 ^ 8)).toNat:Int),.int .u8 ((nN (i/2 ^ 16)).toNat:Int)]) hF O ae rfl hA O (Kw _ _ _) (fun b1 w2 a hb1 hF hA3=>hK _ _ ?_))
 refine vR hF<|vV O (l7 (l:=lM i) rfl Nq NI Nz O O ((show Rd w0 ([row b1 5 (dc (lM i))]::R) (some ⟨b1,0,none⟩) (lM i) from Rc.ofRow (i:=0) (off:=0) rfl rfl).bts hA3.q)) fun a hF=>?_
 refine vR hF<|vV O (JD (s:=[109,97,114,107,32]) (u:=lM i) rfl rfl rfl ai)<|vX O<|vE hK2 fun a hF=>?_
 apply wp_ret
 refine aO hF Tryz.results44 O ?_
 have hA4:Hp w0 (R) w2:=hpS 1 [] [0] hA3 rfl
 exact ⟨rfl,hA4⟩
end Go.Proofs.YtepbmdlgdaedpaaGreatDoor
end
namespace Go.Proofs.YtepbmdlgdaedpaaGreatDoor
open Go.RowKit Go.Dk
def tb (b:UInt8):UInt8:=UInt8.ofNat (b.toNat ^^^ 1)
def GK (n:Int):Int:=bits .xor .i64 n 1
abbrev tA (a:VA):VA:=⟨⟨a.v.k,GK a.v.n,a.v.t,a.v.s⟩,a.sA,a.sC⟩
def KY (u:EA):EA:={ u with args:=u.args.map tA,src:=u.src.map tb }
theorem zU (n:Int) : -9223372036854775808≤GK n∧GK n≤9223372036854775807:=by
  unfold GK bits
  rw [IntKind.wrap_i64]
  omega
theorem WE.turn {w0:World} {gS gA gB:Nat} {M:Seg} {u:EA} (h:WE w0 gS gA gB M u):WE w0 gS gA gB M (KY u):=by
  refine ⟨h.vA,h.vC,h.aA,by show u.aC=(u.args.map tA).length+80; rw [List.length_map]; exact h.aC,h.bA,by show u.bC=(u.src.map tb).length+80; rw [List.length_map]; exact h.bC,fun a ha=>?_,h.nS,by show (u.args.map tA).length≤_; rw [List.length_map]; exact h.nA,by show (u.src.map tb).length≤_; rw [List.length_map]; exact h.nB,h.i.1,h.i.2.1,h.i.2.2.1,h.i.2.2.2.1,fun v hv=>?_,h.i.2.2.2.2.2⟩
  · obtain ⟨b,hb,rfl⟩:=List.mem_map.1 ha
    obtain ⟨h1,h2,h3,h4⟩:=h.m b hb
    exact ⟨h1,h2,h3,h4.1,zU _⟩
  · have hv':v∈(u.args.map tA).map VA.v:=hv
    rw [List.map_map] at hv'
    obtain ⟨b,hb,rfl⟩:=List.mem_map.1 hv'
    exact ⟨(h.m b hb).2.2.2.1,zU _⟩
end Go.Proofs.YtepbmdlgdaedpaaGreatDoor
namespace Go.Dk
open Go Go.RowKit
section
variable {P:Program} {w:World} {n:Nat} {F:List (Nat × Value)} {o:Oper} {t t' e ti:TypeId} {x y:Operand} {v:Value}
end
section
variable {e:TypeId} {X:Seg} {v:Value} {A:Option Addr} {z m n i c k:Nat} {W B Z V:List Value}
theorem Buf.cut (h:Buf e z X (.slice A m c) m W) (hn:n≤m):Buf e z X (.slice A n c) n (W.take (n*z)):=by
  have hW:=h.1
  obtain ⟨d,rfl⟩:∃ d,m=n+d:=⟨m-n,ag⟩
  rw [Nat.add_mul] at hW
  refine ⟨by rw [List.length_take,hW]; omega,?_⟩
  rcases h.2 with ⟨h1,h2,h3⟩ | ⟨g,c',B,Z,h1,h2,h3,h4⟩
  · injection h1 with e1 e2 e3
    subst e1 e3
    exact .inl ⟨by rw [show n=0 by omega],ag,h3⟩
  · injection h1 with e1 e2 e3
    subst e1 e3
    obtain ⟨f,rfl⟩:∃ f,c=n+d+f:=⟨c-(n+d),ag⟩
    refine .inr ⟨g,_,B,W.drop (n*z)++Z,rfl,ag,?_,?_⟩
    · rw [show n+d+f-(n+d)=f by omega] at h3
      rw [List.length_append,List.length_drop,hW,h3,show n+d+f-n=d+f by omega,Nat.add_mul]
      omega
    · rw [h4]
      simp only [List.append_assoc,List.append_cancel_left_eq,List.cons.injEq,and_true]
      congr 2
      rw [← List.append_assoc (W.take _),List.take_append_drop]
theorem BQ (h:k+V.length≤W.length):splice (B++W++Z) (B.length+k) V=B++splice W k V++Z:=by
  unfold splice
  have e1:B.take (B.length+k)=B:=Ny ag
  rw [List.append_assoc B W Z,List.take_append,e1,Nat.add_sub_cancel_left,List.take_append_of_le_length ag,Nat.add_assoc,← List.drop_drop,List.drop_left,List.drop_append_of_le_length h]
  simp [List.append_assoc]
theorem Buf.setRow (h:Buf e z X v m W) (hi:i<m) (hV:V.length=z):∃ g B Z c,v= .slice (some ⟨g,B.length,none⟩) m c∧X=[row g e (B++W++Z)]∧W.length=m*z∧i*z+z≤m*z∧Buf e z [row g e (splice (B++W++Z) (B.length+i*z) V)] v m (splice W (i*z) V):=by
  have hW:=h.1
  have hle:i*z+z≤m*z:=by have:=Nat.mul_le_mul_right z (show i+1≤m by omega); rwa [Nat.add_mul,Nat.one_mul] at this
  rcases h.2 with ⟨_,h2,_⟩ | ⟨g,c,B,Z,h1,h2,h3,h4⟩
  · omega
  · refine ⟨g,B,Z,c,h1,h4,hW,hle,?_,.inr ⟨g,c,B,Z,h1,h2,h3,?_⟩⟩
    · unfold splice
      rw [List.length_append,List.length_append,List.length_take,List.length_drop,hV]
      omega
    · rw [BQ (by rw [hV,hW]; exact hle)]
end
section
variable {P:Program} {w w0:World} {n:Nat} {F:List (Nat × Value)} {a:Act} {L:List Row} {R:List Seg}
end
structure TxX where
  v:Value
  l:List UInt8
  X:Seg
def TxX.Ok (w0:World) (t:TxX):Prop:=∃ A c,t.v= .slice A t.l.length c∧Rd w0 [t.X] A t.l
end Go.Dk
