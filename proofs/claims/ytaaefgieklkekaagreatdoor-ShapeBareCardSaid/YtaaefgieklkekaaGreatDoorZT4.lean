/- The document's example of ranges holds. -/
import Derived.Test.YtaaefgieklkekaaGreatDoorZT1
import Derived.Test.YtaaefgieklkekaaGreatDoorZW3
import Derived.Test.YtaaefgieklkekaaGreatDoorZM1
import Derived.Test.YtaaefgieklkekaaGreatDoorZB11
namespace Go.Proofs.YtaaefgieklkekaaGreatDoor
open Go.RowKit

theorem exRes_any (A : Option Addr) (c : Nat) (w : World) (h : Sp w A c [(0, 4), (7, -1), (-1, 3)]) : Calls Tryz.prog 98 #[.slice A 3 c, .int .i64 10] w fun e w' => ∃ A' c', e = .returned (.tuple #[.slice A' 3 c', .bool true]) ∧ Sp w' A' c' [(0, 5), (7, 10), (7, 10)] ∧ Below w.heap.size w w' := by
  have h := sresolve_any A c [(0, 4), (7, -1), (-1, 3)] 10 w h (by decide) ex_all (by decide) (by decide)
  rw [ex_res] at h
  refine Calls.mono h ?_
  rintro e w' ⟨A', c', he, ho, hb⟩
  exact ⟨A', c', he, (Sp.of_own ho).1, hb⟩
theorem ex_bound : ∀ x ∈ ([(0, 5), (7, 10), (7, 10)] : List (Int × Int)), 0 ≤ x.1 ∧ x.1 < x.2 ∧ x.2 ≤ 4611686018427387904 := by simp
theorem exFold0_any (A : Option Addr) (c : Nat) (w : World) (h : Sp w A c [(0, 5), (7, 10), (7, 10)]) : Calls Tryz.prog 100 #[.slice A 3 c, .int .i64 0] w fun e w' => ∃ A' c', e = .returned (.slice A' 2 c') ∧ Below w.heap.size w w' := by
  refine Calls.mono (sFold_any A c [(0, 5), (7, 10), (7, 10)] 0 w h ex_bound (by decide) (sortsF_few (by decide))) ?_
  rintro e w' ⟨O, hO, A', c', rfl, _, hb⟩
  exact ⟨A', c', by rw [ex_len0 hO], hb⟩
theorem exFold2_any (A : Option Addr) (c : Nat) (w : World) (h : Sp w A c [(0, 5), (7, 10), (7, 10)]) : Calls Tryz.prog 100 #[.slice A 3 c, .int .i64 2] w fun e w' => ∃ A' c', e = .returned (.slice A' 1 c') ∧ Below w.heap.size w w' := by
  refine Calls.mono (sFold_any A c [(0, 5), (7, 10), (7, 10)] 2 w h ex_bound (by decide) (sortsF_few (by decide))) ?_
  rintro e w' ⟨O, hO, A', c', rfl, _, hb⟩
  exact ⟨A', c', by rw [ex_len2 hO], hb⟩
end Go.Proofs.YtaaefgieklkekaaGreatDoor
/- The walk of SpecResolves. -/
namespace Go.Proofs.YtaaefgieklkekaaGreatDoor
open Go.RowKit

end Go.Proofs.YtaaefgieklkekaaGreatDoor
