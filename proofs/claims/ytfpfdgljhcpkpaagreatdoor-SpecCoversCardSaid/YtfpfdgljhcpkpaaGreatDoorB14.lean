/- The examples hold: wakes. -/
import Derived.Test.YtfpfdgljhcpkpaaGreatDoorB13
namespace Go.Proofs.YtfpfdgljhcpkpaaGreatDoor
open Go.RowKit

theorem spCells_get (L : List (Int × Int)) (i : Nat) (x : Int × Int) (h : L[i]? = some x) : (spCells L)[i * 2]? = some (.int .i64 x.1) ∧ (spCells L)[i * 2 + 1]? = some (.int .i64 x.2) := by
  have := spCells_even L i x h
  rw [Nat.mul_comm] at this
  exact this
/-- A row of spans that was just laid. -/
theorem Sp.built (w : World) (L : List (Int × Int)) (T : TypeId) : Sp (w.alloc (.cells (spCells L).toArray T)) (some ⟨w.heap.size, 0, none⟩) L.length L :=
  ⟨Nat.le_refl _, (fun e => by cases e), fun _ => ⟨w.heap.size, 0, rfl, by simp, fun i x hx => by
    have := spCells_get L i x hx
    have hc : ∀ j, (w.alloc (.cells (spCells L).toArray T)).cell? ⟨w.heap.size, j, none⟩ = (spCells L)[j]? := fun j => by
      rw [Lib.cell_of_heap (heap_alloc_new w _)]; simp
    rw [hc, hc, Nat.zero_add]
    exact this⟩⟩

theorem Sp.built' {w : World} {g : Nat} (L : List (Int × Int)) (T : TypeId) (hg : g = w.heap.size) : Sp (w.alloc (.cells (spCells L).toArray T)) (some ⟨g, 0, none⟩) L.length L := by
  subst hg; exact Sp.built w L T
/-- The texts of small numbers. -/
def ntS (n : Int) : List UInt8 := if 0 ≤ n ∧ n < 100 then Lib.decDigits n.toNat else []
theorem ntS_len (n : Int) : (ntS n).length ≤ 40 := by
  unfold ntS
  split
  · rename_i h
    by_cases h1 : n.toNat < 10
    · rw [Lib.decDigits_one h1]; simp
    · rw [Lib.decDigits_two h1 (by omega)]; simp
  · simp
theorem ntS_fmt (n : Nat) (h : n < 100) (W : World) : Calls Tryz.prog 104 #[.int .i64 n, .int .i64 10] W fun e w' => e = .returned (.string ⟨(ntS n).toArray⟩) ∧ Below W.heap.size W w' := by
  have e1 : ntS n = Lib.decDigits n := by unfold ntS; rw [if_pos (by omega)]; simp
  rw [e1]
  refine (fmt_small n h W).mono ?_
  rintro e w' ⟨rfl, rfl⟩
  exact ⟨rfl, Below.refl _ _⟩

def wakeL : List (Int × Int) := [(0, 6), (9, 4611686018427387904)]
theorem wake_cano : cano [(9, 4611686018427387904), (0, 4), (4, 6)] = wakeL := by decide
theorem wake_text : joinT (spT ntS) wakeL = [48, 45, 54, 44, 57, 45] := by
  simp [joinT, spT, ntS, wakeL, Lib.decDigits_one]

theorem wake_spanText (x : Int × Int) (hx : x ∈ wakeL) (W : World) : Calls Tryz.prog 58 #[.agg #[.int .i64 x.1, .int .i64 x.2]] W fun e w' => e = .returned (.string ⟨(spT ntS x).toArray⟩) ∧ Below W.heap.size W w' := by
  simp [wakeL] at hx
  rcases hx with rfl | rfl
  · exact spanText_any ntS ntS_len 0 6 (by decide) W (fun W' _ => ntS_fmt 0 (by omega) W') (fun _ W' _ => ntS_fmt 6 (by omega) W')
  · exact spanText_any ntS ntS_len 9 4611686018427387904 (by decide) W (fun W' _ => ntS_fmt 9 (by omega) W') (fun h => by omega)
theorem wake_textAny (A : Option Addr) (c : Nat) (w : World) (h : Sp w A c wakeL) : Calls Tryz.prog 27 #[.agg #[.slice A 2 c]] w fun e w' => e = .returned (.string ⟨#[48, 45, 54, 44, 57, 45]⟩) ∧ Below w.heap.size w w' := by
  have := text_any (spT ntS) A c wakeL w h (by decide) (by decide) (fun x hx => by simp [wakeL] at hx; rcases hx with rfl | rfl <;> simp [spT, ntS, Lib.decDigits_one]) (fun x hx W _ => wake_spanText x hx W)
  rw [wake_text] at this
  exact this
theorem wake_first : firstL wakeL 7 = some (9, 4611686018427387904) := by decide

set_option maxHeartbeats 2000000 in
set_option maxRecDepth 100000 in
theorem wakes_any (w : World) : Calls Tryz.prog 23 #[] w fun e w' => e = .returned (.bool true) ∧ Below w.heap.size w w' := by
  have HO := fun W h => Lib.hid (of_any (some ⟨w.heap.size, 0, none⟩) 3 [(9, 4611686018427387904), (0, 4), (4, 6)] W h (by decide))
  rw [wake_cano] at HO
  go_enter Tryz.func23, Tryz.ntmps23
  go_wp2_with fail
  refine (HO _ (Sp.built w [(9, 4611686018427387904), (0, 4), (4, 6)] _)).out.mono ?_
  rintro e w2 ⟨A, c, rfl, hsp, hb2⟩
  have HS := Lib.hid hsp
  have HB2 := Lib.hid (bel_chain hb2 (bel_alloc (Below.refl _ _) _))
  have HF := fun W h => Lib.hid (first_any A c wakeL 7 W h (wake_cano ▸ cano_canon _) (by decide))
  clear hsp hb2 HO
  have ewl : wakeL.length = 2 := rfl
  rw [ewl] at *
  go_wp2_with fail
  refine (HF _ (HS.out.alloc _)).out.mono ?_
  rintro e w3 ⟨rfl, hb3⟩
  rw [wake_first]
  have q1 : w3.cell? ⟨w2.heap.size, 0, none⟩ = some (.slice A 2 c) := cell_keep hb3 (by simp [go_sem])
  have l1 : w2.heap.size < w3.heap.size := World.block_lt_of_cell? w3 ⟨w2.heap.size, 0, none⟩ q1
  have HB3 := Lib.hid (bel_chain hb3 (bel_alloc HB2.out _))
  have HS3 := Lib.hid ((HS.out.alloc _).below hb3)
  clear hb3 HF HS
  simp only [Option.getD_some, Option.isSome_some]
  go_wp2_with fail
  refine (spans_any A c wakeL _ (HS3.out.alloc _) (by decide)).mono ?_
  rintro e w4 ⟨A4, c4, rfl, ho4, hb4⟩
  have q2 : w4.cell? ⟨w2.heap.size, 0, none⟩ = some (.slice A 2 c) := cell_keep hb4 (by simp [go_sem, q1, l1])
  have q3 : w4.cell? ⟨w3.heap.size, 0, none⟩ = some (.int .i64 9) := cell_keep hb4 (by simp [go_sem])
  have l2 : w2.heap.size < w4.heap.size := World.block_lt_of_cell? w4 ⟨w2.heap.size, 0, none⟩ q2
  have l3 : w3.heap.size < w4.heap.size := World.block_lt_of_cell? w4 ⟨w3.heap.size, 0, none⟩ q3
  have HB4 := Lib.hid (bel_chain hb4 (bel_alloc HB3.out _))
  have HS4 := Lib.hid ((HS3.out.alloc _).below hb4)
  have HR4 := Lib.hid (Own.sp ho4)
  clear hb4 ho4 HS3 q1 l1
  rw [show wakeL.length = 2 from rfl]
  go_wp2_with fail
  refine (rlist_any A4 c4 wakeL (some ⟨w4.heap.size, 0, none⟩) 2 wakeL _ (HR4.out.alloc _) (Sp.built w4 wakeL _) (by decide)).mono ?_
  rintro e w5 ⟨rfl, n, rfl⟩
  have ht : decide (wakeL = wakeL) = true := by simp
  rw [ht]
  clear ht HR4
  go_wp2_with fail
  refine (wake_textAny A c _ ((HS4.out.alloc _).drewN _)).mono ?_
  rintro e w6 ⟨rfl, hb6⟩
  have HB6 := Lib.hid (bel_chain hb6 (bel_drewN (bel_alloc HB4.out _) _))
  clear hb6
  go_wp2_with fail
  go_ret
  exact ⟨rfl, HB6.out⟩
end Go.Proofs.YtfpfdgljhcpkpaaGreatDoor
