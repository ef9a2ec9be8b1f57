/- The walks of Fork, Room. -/
import Derived.Test.YtppmhlkonemebaaDoorSum
namespace Go.Proofs.YtppmhlkonemebaaDoor
open Go.RowKit Go.Dk

set_option maxRecDepth 100000 in
set_option maxHeartbeats 400000 in
/-- Fork: another hasher that has taken the same -/
theorem fork_any (w : World) (hb : Nat) (m : List UInt8) (cs : List Value) (hH : HS m cs) (hrow : w.heap[hb]? = some (.cells cs.toArray 87 (0, 0))) :
    Calls Tryd.prog 24 #[.pointer (some ⟨hb, 0, none⟩)] w (NewH w m) := by
  have hA0 := At.start1 hrow
  obtain ⟨hl, hn72, hone, hst8⟩ := hs_one hH
  have Hl := Lib.hid hl
  have Hone := Lib.hid hone
  have Hs1 : Hid (0 + cs.toArray.size ≤ (hcells (List.replicate 8 0) (List.replicate 64 0) 0).length) := Lib.hid (by rw [List.size_toArray, hl]; exact Nat.le_of_eq (by rfl))
  have Hs2 : Hid ((Tryd.prog.info? 87).map (·.size) = some cs.toArray.size) := Lib.hid (by rw [size87, List.size_toArray, hl])
  have Hspl : Hid (splice (hcells (List.replicate 8 0) (List.replicate 64 0) 0) 0 cs = cs) := Lib.hid (splice_all' _ _ (by rw [hl]; rfl))
  have Htk : Hid ((cs.drop 0).take 73 = cs) := Lib.hid (by rw [List.drop_zero, List.take_of_length_le (by omega)])
  clear hl hn72 hone hst8
  go_enter Tryd.func24, Tryd.ntmps24
  go_wp2_with (first
    | (with_reducible refine at_load rfl ?_
       refine wpList_plain rfl (fun _ hK => wp_loadRow (off := 0) (n := 73) rfl hA0 rfl 0 rfl row87 (by rw [Hl.out]; decide) (hK _ _ ?_)); clear hK
       rw [Htk.out])
    | (with_reducible refine at_alloc rfl ?_
       refine wpList_plain rfl (fun _ hK => wp_alloc rfl (At.refl w) zero87 (fun b3 w2 hb3 hA2 => hK _ _ ?_)); clear hK
       replace hA2 : At w [(b3, 87, (hcells (List.replicate 8 0) (List.replicate 64 0) 0))] w2 := hA2)
    | (with_reducible refine at_store rfl ?_
       refine wpList_plain rfl (fun _ hK => wp_storeRow (off := 0) (new := cs.toArray) rfl hA2 rfl rfl 0 rfl Hs1.out Hone.out Hs2.out (fun w3 hA3 => hK _ _ ?_)); clear hK
       replace hA3 : At w [(b3, 87, splice (hcells (List.replicate 8 0) (List.replicate 64 0) 0) 0 cs)] w3 := hA3
       rw [Hspl.out] at hA3))
  go_ret
  exact ⟨b3, cs, rfl, hb3, hH, hA3⟩
end Go.Proofs.YtppmhlkonemebaaDoor
