/- The document's example of ranges holds. -/
import Derived.Test.YtfpfdgljhcpkpaaGreatDoorT2
import Derived.Test.YtfpfdgljhcpkpaaGreatDoorW3
import Derived.Test.YtfpfdgljhcpkpaaGreatDoorN3
import Derived.Test.YtfpfdgljhcpkpaaGreatDoorS3
namespace Go.Proofs.YtfpfdgljhcpkpaaGreatDoor
open Go.RowKit

theorem exParse_any (w : World) : Calls Tryz.prog 44 #[.string ⟨#[98, 121, 116, 101, 115, 61, 48, 45, 52, 44, 32, 55, 45, 44, 44, 45, 51]⟩] w fun e w' => ∃ A c, e = .returned (.tuple #[.slice A 3 c, .int .i64 0]) ∧ Sp w' A c [(0, 4), (7, -1), (-1, 3)] ∧ Below w.heap.size w w' := by
  have h := sParse_any exText w (by decide)
  rw [ex_parse] at h
  exact h
theorem exRes_any (A : Option Addr) (c : Nat) (w : World) (h : Sp w A c [(0, 4), (7, -1), (-1, 3)]) : Calls Tryz.prog 19 #[.slice A 3 c, .int .i64 10] w fun e w' => ∃ A' c', e = .returned (.tuple #[.slice A' 3 c', .bool true]) ∧ Sp w' A' c' [(0, 5), (7, 10), (7, 10)] ∧ Below w.heap.size w w' := by
  have h := sresolve_any A c [(0, 4), (7, -1), (-1, 3)] 10 w h (by decide) ex_all (by decide) (by decide)
  rw [ex_res] at h
  refine Calls.mono h ?_
  rintro e w' ⟨A', c', he, ho, hb⟩
  exact ⟨A', c', he, (Sp.of_own ho).1, hb⟩
theorem ex_bound : ∀ x ∈ ([(0, 5), (7, 10), (7, 10)] : List (Int × Int)), 0 ≤ x.1 ∧ x.1 < x.2 ∧ x.2 ≤ 4611686018427387904 := by simp
theorem exFold0_any (A : Option Addr) (c : Nat) (w : World) (h : Sp w A c [(0, 5), (7, 10), (7, 10)]) : Calls Tryz.prog 45 #[.slice A 3 c, .int .i64 0] w fun e w' => ∃ A' c', e = .returned (.slice A' 2 c') ∧ Below w.heap.size w w' := by
  refine Calls.mono (sFold_any A c [(0, 5), (7, 10), (7, 10)] 0 w h ex_bound (by decide) (sortsF_few (by decide))) ?_
  rintro e w' ⟨O, hO, A', c', rfl, _, hb⟩
  exact ⟨A', c', by rw [ex_len0 hO], hb⟩
theorem exFold2_any (A : Option Addr) (c : Nat) (w : World) (h : Sp w A c [(0, 5), (7, 10), (7, 10)]) : Calls Tryz.prog 45 #[.slice A 3 c, .int .i64 2] w fun e w' => ∃ A' c', e = .returned (.slice A' 1 c') ∧ Below w.heap.size w w' := by
  refine Calls.mono (sFold_any A c [(0, 5), (7, 10), (7, 10)] 2 w h ex_bound (by decide) (sortsF_few (by decide))) ?_
  rintro e w' ⟨O, hO, A', c', rfl, _, hb⟩
  exact ⟨A', c', by rw [ex_len2 hO], hb⟩
set_option maxHeartbeats 4000000 in
set_option maxRecDepth 100000 in
theorem awake04_any (w : World) : Calls Tryz.prog 14 #[] w fun e w' => e = .returned (.bool true) ∧ Below w.heap.size w w' := by
  go_enter Tryz.func14, Tryz.ntmps14
  go_wp2_with fail
  refine (exParse_any _).mono ?_
  rintro e1 w1 ⟨A1, c1, rfl, hs1, hb1⟩
  have HS1 := Lib.hid hs1
  have HB1 := Lib.hid hb1
  clear hs1 hb1
  go_wp2_with fail
  refine (exRes_any A1 c1 _ HS1.out).mono ?_
  rintro e2 w2 ⟨A2, c2, rfl, hs2, hb2⟩
  obtain ⟨b, off, e, hb, k1, k2⟩ := hs2.at_ (k := 2) (by decide)
  have HS2 := Lib.hid hs2
  have HB2 := Lib.hid (bel_chain hb2 HB1.out)
  clear hs2 hb2 HB1 HS1
  subst e
  simp only [List.getElem_cons_succ, List.getElem_cons_zero] at k1 k2
  go_wp2_with fail
  refine (exFold0_any _ c2 _ HS2.out).mono ?_
  rintro e3 w3 ⟨A3, c3, rfl, hb3⟩
  have HS3 := Lib.hid (HS2.out.below hb3)
  have HB3 := Lib.hid (bel_chain hb3 HB2.out)
  clear hb3 HB2 HS2
  go_wp2_with fail
  refine (exFold2_any _ c2 _ HS3.out).mono ?_
  rintro e4 w4 ⟨A4, c4, rfl, hb4⟩
  have HB4 := Lib.hid (bel_chain hb4 HB3.out)
  clear hb4 HB3 HS3
  go_wp2_with fail
  go_ret
  exact ⟨rfl, HB4.out⟩
end Go.Proofs.YtfpfdgljhcpkpaaGreatDoor
/- The walk of SpecResolves. -/
namespace Go.Proofs.YtfpfdgljhcpkpaaGreatDoor
open Go.RowKit

theorem aw04_end (w W : World) (HB : Below w.heap.size w W) : Calls Tryz.prog 14 #[] W fun e w' => e = .returned (.bool true) ∧ Below w.heap.size w w' :=
  Calls.mono (awake04_any W) fun _ _ ⟨h, hb⟩ => ⟨h, bel_chain hb HB⟩
end Go.Proofs.YtfpfdgljhcpkpaaGreatDoor
