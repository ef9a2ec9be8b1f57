/- EventApart walked: of two events' bytes neither begins the other's. -/
import Derived.Test.YtepbmdlgdaedpaaGreatDoorEv6
import Derived.Test.YtepbmdlgdaedpaaGreatDoorEvW
import Derived.Test.YtepbmdlgdaedpaaGreatDoorEv9
/- EventApart walked: of two events' bytes neither begins the other's. -/
namespace Go.Proofs.YtepbmdlgdaedpaaGreatDoor
open Go.RowKit Go.Dk
def iq (n lo hi:Int):Int:=lo+n.emod (hi-lo+1)
theorem uy (n m:Int) (hm:0<m) : -m<n.tmod m∧n.tmod m<m∧n.emod m=if n.tmod m<0 then n.tmod m+m else n.tmod m:=by
 have h1:=Int.tmod_lt_of_pos n hm
 have h2:=Int.emod_nonneg n (show m≠0 by omega)
 have h3:=Int.emod_lt_of_pos n hm
 have h4:=Int.mul_tdiv_add_tmod n m
 have h5:=Int.mul_ediv_add_emod n m
 have h6 : -m<n.tmod m:=by
  have:=Int.tmod_lt_of_pos (-n) hm
  rw [Int.neg_tmod] at this
  omega
 refine ⟨h6,h1,?_⟩
 have h7:m*(n/m-n.tdiv m)=n.tmod m-n.emod m:=by
  rw [Int.mul_sub]
  have:n.emod m=n%m:=rfl
  rw [this]
  omega
 have h8:n.emod m=n%m:=rfl
 split
 ·have h9:n/m-n.tdiv m = -1:=by
   have a1:m*(n/m-n.tdiv m)<0:=by omega
   have a2 : -(2*m)<m*(n/m-n.tdiv m):=by omega
   have a3:n/m-n.tdiv m<0:=by
    rcases Int.lt_or_le (n/m-n.tdiv m) 0 with h | h
    ·exact h
    ·have:=Int.mul_nonneg (Int.le_of_lt hm) h; omega
   have a4 : -2<n/m-n.tdiv m:=by
    rcases Int.lt_or_le (-2) (n/m-n.tdiv m) with h | h
    ·exact h
    ·have:=Int.mul_le_mul_of_nonneg_left h (Int.le_of_lt hm); omega
   omega
  rw [h9] at h7
  omega
 ·have h9:n/m-n.tdiv m=0:=by
   have a1 : -m<m*(n/m-n.tdiv m):=by omega
   have a2:m*(n/m-n.tdiv m)<m:=by omega
   have a3:n/m-n.tdiv m<1:=by
    rcases Int.lt_or_le (n/m-n.tdiv m) 1 with h | h
    ·exact h
    ·have:=Int.mul_le_mul_of_nonneg_left h (Int.le_of_lt hm); omega
   have a4 : -1<n/m-n.tdiv m:=by
    rcases Int.lt_or_le (-1) (n/m-n.tdiv m) with h | h
    ·exact h
    ·have:=Int.mul_le_mul_of_nonneg_left h (Int.le_of_lt hm); omega
   omega
  rw [h9] at h7
  omega
theorem oZ (n lo hi:Int) (h:lo≤hi):lo≤iq n lo hi∧iq n lo hi≤hi:=by
 have h2:=Int.emod_nonneg n (show hi-lo+1≠0 by omega)
 have h3:=Int.emod_lt_of_pos n (show 0<hi-lo+1 by omega)
 unfold iq
 have h4:n.emod (hi-lo+1)=n%(hi-lo+1):=rfl
 omega
set_option maxRecDepth 100000 in
set_option maxHeartbeats 8000000 in
theorem yK (w:World) (n lo hi:Int) (h0:0≤lo) (h1:lo≤hi) (h2:hi<2305843009213693952):Calls Tryz.prog 19 #[.int .i64 n,.int .i64 lo,.int .i64 hi] w fun e w'=>e= .returned (.int .i64 (iq n lo hi))∧w=w':=by
 obtain ⟨k1,k2,k3⟩:=uy n (hi-lo+1) ag
 have k4:iq n lo hi=lo+n.emod (hi-lo+1):=rfl
 generalize hq:n.tmod (hi-lo+1)=q at *
 refine aP Tryz.func19 O Tryz.ntmps19 ai (fun a hF=>?_)
 refine wS hF fun K1 hK1=>vX O<|vE hK1<|wT fun K2 hK2=>vX O<|vX O<|vX O<|vV O (dL O O O (Hz _ ag))<|vV O (bQ O O O (Hz _ ag))<|vV O (FO O O O ag hq)<|vX O<|vE hK2<|wQ fun K3 hK3=>wT fun K4 hK4=>vX O<|vV O (ax O O O O O)<|vE hK4 fun a hF=>?_
 by_cases hneg:q<0
 ·refine az hF O (eG hneg) ?_
  refine wp_region_lit ?_
  refine vR hF<|vX O<|vX O<|vV O (bQ O O O (Hz _ ag))<|vX O<|vV O (dL O O O (Hz _ ag))<|vV O (bQ O O O (Hz _ ag))<|vX O<|vE hK3<|wT fun K5 hK5=>vX O<|vX O<|vV O (bQ O O O (show IntKind.i64.wrap _=iq n lo hi by rw [Hz _ ag,k4,k3]; first | rw [if_pos hneg]; omega | rw [if_neg hneg])) fun a hF=>?_
  refine vR hF<|vX O<|vE hK5 fun a hF=>?_
  apply wp_ret
  refine aK hF Tryz.results19 O ?_
  exact ⟨rfl,rfl⟩
 ·refine au hF O (dU ag) ?_
  apply wp_skip
  refine hK3 _ _ ?_
  refine wS hF fun K6 hK6=>vX O<|vX O<|vV O (bQ O O O (show IntKind.i64.wrap _=iq n lo hi by rw [Hz _ ag,k4,k3]; first | rw [if_pos hneg]; omega | rw [if_neg hneg])) fun a hF=>?_
  refine vR hF<|vX O<|vE hK6 fun a hF=>?_
  apply wp_ret
  refine aK hF Tryz.results19 O ?_
  exact ⟨rfl,rfl⟩
end Go.Proofs.YtepbmdlgdaedpaaGreatDoor
