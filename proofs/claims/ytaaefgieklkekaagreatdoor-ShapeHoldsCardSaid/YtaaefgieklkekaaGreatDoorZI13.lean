/- Contracts of the functions that put a text, a field behind a box. -/
import Derived.Test.YtaaefgieklkekaaGreatDoorZI5
import Derived.Test.YtaaefgieklkekaaGreatDoorZD5
import Derived.Test.YtaaefgieklkekaaGreatDoorZLaidF
import Derived.Deep.RegionLaw
namespace Go.Proofs.YtaaefgieklkekaaGreatDoor
open Go.RowKit

set_option maxHeartbeats 4000000 in
set_option maxRecDepth 100000 in
theorem fieldPut_any {w0 w : World} {PO : Nat} {A : Option Addr} {c m : Nat} {L : List FieldL} (name val : List UInt8) (hblk : w.heap[PO]? = some (.cells #[.slice A m c] 40 (0, 0))) (hm : m = L.length) (hown : OwnG 78 encFd 2 w w0.heap.size A c L) (hbel : Below w0.heap.size w0 w) (hPO : w0.heap.size ≤ PO) (hl : m ≤ 1000) :
    Calls Tryz.prog 91 #[.string ⟨name.toArray⟩, .string ⟨val.toArray⟩, .pointer (some ⟨PO, 0, none⟩)] w (PutPost 78 40 encFd 2 w0 w PO A c L [(name, val)]) := by
  have HB := Lib.hid hbel
  have HO := Lib.hid hown
  have HK := Lib.hid hblk
  have HM := Lib.hid hm
  have z := blk_cell (i := 0) hblk rfl
  have zf := blk_frozen (i := 0) hblk
  have zz := blk_lt hblk
  have HNT := Lib.hid (hown.ne_ty hblk (by decide))
  clear hblk hown hbel hm
  go_enter Tryz.func91, Tryz.ntmps91
  go_wp2_with (at_builtin; go_must (refine wplG_row (w0 := w0) elemFd rfl (.tmp 5) (.tmp 9) rfl A c m L HM.out #[.string ⟨name.toArray⟩, .string ⟨val.toArray⟩] _ rfl HO.out [(name, val)] 1 rfl rfl rfl Nat.zero_lt_one (m + 1) rfl (by omega) HB.out ?_; intro A2 c2 w2 hown2 hbw2 hg2)
               have B2 := Lib.hid (blk_keepG (blk_skip HK.out) hg2 HNT.out)
               have z2 := blk_cell (i := 0) B2.out rfl
               have zf2 := blk_frozen (i := 0) B2.out
               have zz2 := blk_lt B2.out)
  go_end0
  exact ⟨rfl, A2, c2, m + 1, by rw [List.length_append, HM.out]; rfl, blk_set B2.out, hown2.set_ty B2.out (by decide) _, bel_set hbw2 hPO _, by rw [← HM.out] at hg2 ⊢; exact off_put (fun k o hk => blk_skip hk) hg2⟩
set_option maxHeartbeats 4000000 in
set_option maxRecDepth 100000 in
theorem rangedPut_any {w0 w : World} {PO : Nat} {A : Option Addr} {c m : Nat} {L : List FieldL} (name val : List UInt8) (hblk : w.heap[PO]? = some (.cells #[.slice A m c] 40 (0, 0))) (hm : m = L.length) (hown : OwnG 78 encFd 2 w w0.heap.size A c L) (hbel : Below w0.heap.size w0 w) (hPO : w0.heap.size ≤ PO) (hl : m ≤ 1000) :
    Calls Tryz.prog 99 #[.string ⟨name.toArray⟩, .string ⟨val.toArray⟩, .pointer (some ⟨PO, 0, none⟩)] w (PutPost 78 40 encFd 2 w0 w PO A c L [(name, val)]) := by
  have HB := Lib.hid hbel
  have HO := Lib.hid hown
  have HK := Lib.hid hblk
  have HM := Lib.hid hm
  have z := blk_cell (i := 0) hblk rfl
  have zf := blk_frozen (i := 0) hblk
  have zz := blk_lt hblk
  have HNT := Lib.hid (hown.ne_ty hblk (by decide))
  clear hblk hown hbel hm
  go_enter Tryz.func99, Tryz.ntmps99
  go_wp2_with (at_builtin; go_must (refine wplG_row (w0 := w0) elemFd rfl (.tmp 5) (.tmp 9) rfl A c m L HM.out #[.string ⟨name.toArray⟩, .string ⟨val.toArray⟩] _ rfl HO.out [(name, val)] 1 rfl rfl rfl Nat.zero_lt_one (m + 1) rfl (by omega) HB.out ?_; intro A2 c2 w2 hown2 hbw2 hg2)
               have B2 := Lib.hid (blk_keepG (blk_skip HK.out) hg2 HNT.out)
               have z2 := blk_cell (i := 0) B2.out rfl
               have zf2 := blk_frozen (i := 0) B2.out
               have zz2 := blk_lt B2.out)
  go_end0
  exact ⟨rfl, A2, c2, m + 1, by rw [List.length_append, HM.out]; rfl, blk_set B2.out, hown2.set_ty B2.out (by decide) _, bel_set hbw2 hPO _, by rw [← HM.out] at hg2 ⊢; exact off_put (fun k o hk => blk_skip hk) hg2⟩
end Go.Proofs.YtaaefgieklkekaaGreatDoor
