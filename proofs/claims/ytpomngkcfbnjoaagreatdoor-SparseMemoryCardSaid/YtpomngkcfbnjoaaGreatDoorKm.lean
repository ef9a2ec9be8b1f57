/- The statements' marks. -/
import Derived.Test.YtpomngkcfbnjoaaGreatDoorHc
/- The statements' marks. -/
set_option maxRecDepth 100000
set_option maxHeartbeats 4000000
namespace Go.Proofs.YtpomngkcfbnjoaaGreatDoor
open Go.RowKit Go.Dk
def su (m:Nat):UInt8:=UInt8.ofNat m
def QF (i j:Nat):UInt8:=su ((i+1)/2 ^ (8*(j%3)))
def MI (i:Nat):List UInt8:=[su i,su (i/2 ^ 8),su (i/2 ^ 16)]
def Dh (i _j:Nat):List UInt8:=[211]++MI i++[211]++List.replicate 27 0
theorem NZ:bV Tryz.prog 25 (.agg (dc (List.replicate 32 0)).toArray):=by unfold bV; kernel_rfl
theorem Aw (w0:World) (i j:Nat) (R:List Seg) (w:World) (hi:i<4000) (hj:j<9223372036854775807) (hA:Hp w0 R w):Calls Tryz.prog 15 #[.int .i64 (i:Int),.int .i64 (j:Int)] w fun e w'=>e= .returned (.int .u8 ((QF i j).toNat:Int))∧Hp w0 R w':=by
 refine aJ Tryz.func15 O Tryz.ntmps15 ai (fun a hF=>?_)
 refine wS hF fun K1 hK1=>vX O<|vE hK1<|wT fun K2 hK2=>vX O<|vV O (bH (r:=((i+1:Nat):Int)) O O O (by rw [TB _ ag]; omega)) fun a hF=>?_
 refine vR hF<|vX O<|vV O (fO (r:=((j%3:Nat):Int)) O O O ae (by rw [Int.tmod_eq_emod_of_nonneg ag]; omega)) fun a hF=>?_
 refine vR hF<|vV O (uw (r:=((8*(j%3):Nat):Int)) O O O (by rw [TB _ ag]; omega)) fun a hF=>?_
 refine vR hF<|vV O (fP O TP TQ O (show IntKind.u64.wrap (((8*(j%3):Nat):Int))=((8*(j%3):Nat):Int) by rw [IntKind.wrap_u64]; omega)) fun a hF=>?_
 refine vR hF<|vV O (mP (r:=(((i+1)/2 ^ (8*(j%3)):Nat):Int)) O O O ag (zT _ _ _ O ag))<|vV O (fP (r:=((su ((i+1)/2 ^ (8*(j%3)))).toNat:Int)) O TP TA O (Ba _))<|vX O<|vE hK2 fun a hF=>?_
 apply wp_ret
 refine aO hF Tryz.results15 O ?_
 exact ⟨rfl,hA⟩
theorem RS (i j:Nat) (w:World):(Instr.build 25 #[(0,.int .u8 211),(1,.int .u8 ((su i).toNat:Int)),(2,.int .u8 ((su (i/2 ^ 8)).toNat:Int)),(3,.int .u8 ((su (i/2 ^ 16)).toNat:Int)),(4,.int .u8 211)]).run Tryz.prog w= .ok (.agg (dc (Dh i j)).toArray) w:=af
theorem xH (w0:World) (i j:Nat) (R:List Seg) (w:World) (_hi:i<4000) (_hj:j<9223372036854775807) (hA:Hp w0 R w):Calls Tryz.prog 13 #[.int .i64 (i:Int),.int .i64 (j:Int)] w fun e w'=>e= .returned (.agg (dc (Dh i j)).toArray)∧Hp w0 R w':=by
 refine aJ Tryz.func13 O Tryz.ntmps13 ai (fun a hF=>?_)
 refine wp_seq_k fun K1 hK1=>wp_region_lit ?_
 refine au O (fun K hK=>bG hF O ae rfl hA (NZ) (fun b1 w2 a hb1 hF hA3=>hK _ _ ?_))
 refine az<|hK1 _ _ ?_
 refine wS hF fun K2 hK2=>vX O<|vV O (fP (r:=((su (i)).toNat:Int)) O TP TA O (Ba _))<|vX O<|vV O (mP (r:=((i/2 ^ 8:Nat):Int)) O O O ae (zT i 8 _ O ae))<|vV O (fP (r:=((su (i/2 ^ 8)).toNat:Int)) O TP TA O (Ba _))<|vX O<|vV O (mP (r:=((i/2 ^ 16:Nat):Int)) O O O ae (zT i 16 _ O ae))<|vV O (fP (r:=((su (i/2 ^ 16)).toNat:Int)) O TP TA O (Ba _))<|vV O (dS (qs := #[(0,.int .u8 211),(1,.int .u8 ((su i).toNat:Int)),(2,.int .u8 ((su (i/2 ^ 8)).toNat:Int)),(3,.int .u8 ((su (i/2 ^ 16)).toNat:Int)),(4,.int .u8 211)]) O O (RS i j)) fun a hF=>?_
 refine au O (fun K hK=>aI (new:=dc (Dh i j)) hF O O hA3 O O 0 O O (bz _) uX (fun w4 hA5=>hK _ _ ?_))
 replace hA5:Hp w0 ([row b1 25 (dc (Dh i j))]::R) w4:=hA5
 refine az<|hK2 _ _ ?_
 apply wp_ret
 refine fD hF Tryz.results13 hA5.q O 0 O (by exact vw) ?_
 have hA6:Hp w0 (R) w4:=hpS 1 [] [0] hA5 rfl
 exact ⟨rfl,hA6⟩
end Go.Proofs.YtpomngkcfbnjoaaGreatDoor
