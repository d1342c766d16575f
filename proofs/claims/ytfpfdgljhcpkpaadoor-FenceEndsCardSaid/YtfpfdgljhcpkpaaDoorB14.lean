/- The examples hold: wakes. -/
import Derived.Test.YtfpfdgljhcpkpaaDoorB13
namespace Go.Proofs.YtfpfdgljhcpkpaaDoor
open Go.RowKit

theorem spCells_get (L : List (Int × Int)) (i : Nat) (x : Int × Int) (h : L[i]? = some x) : (spCells L)[i * 2]? = some (.int .i64 x.1) ∧ (spCells L)[i * 2 + 1]? = some (.int .i64 x.2) := by
  have := spCells_even L i x h
  rw [Nat.mul_comm] at this
  exact this
/-- A row of spans that was just laid. -/
theorem Sp.built (w : World) (L : List (Int × Int)) (T : TypeId) : Sp (w.alloc (.cells (spCells L).toArray T)) (some ⟨w.heap.size, 0, none⟩) L.length L :=
  ⟨Nat.le_refl _, (fun e => by cases e), fun _ => ⟨w.heap.size, 0, rfl, by simp, fun i x hx => by
    have := spCells_get L i x hx
    have hc : ∀ j, (w.alloc (.cells (spCells L).toArray T)).cell? ⟨w.heap.size, j, none⟩ = (spCells L)[j]? := fun j => by
      rw [Lib.cell_of_heap (heap_alloc_new w _)]; simp
    rw [hc, hc, Nat.zero_add]
    exact this⟩⟩

theorem Sp.built' {w : World} {g : Nat} (L : List (Int × Int)) (T : TypeId) (hg : g = w.heap.size) : Sp (w.alloc (.cells (spCells L).toArray T)) (some ⟨g, 0, none⟩) L.length L := by
  subst hg; exact Sp.built w L T
/-- The texts of small numbers. -/
def ntS (n : Int) : List UInt8 := if 0 ≤ n ∧ n < 100 then Lib.decDigits n.toNat else []
theorem ntS_len (n : Int) : (ntS n).length ≤ 40 := by
  unfold ntS
  split
  · rename_i h
    by_cases h1 : n.toNat < 10
    · rw [Lib.decDigits_one h1]; simp
    · rw [Lib.decDigits_two h1 (by omega)]; simp
  · simp
theorem ntS_fmt (n : Nat) (h : n < 100) (W : World) : Calls Tryd.prog 77 #[.int .i64 n, .int .i64 10] W fun e w' => e = .returned (.string ⟨(ntS n).toArray⟩) ∧ Below W.heap.size W w' := by
  have e1 : ntS n = Lib.decDigits n := by unfold ntS; rw [if_pos (by omega)]; simp
  rw [e1]
  refine (fmt_small n h W).mono ?_
  rintro e w' ⟨rfl, rfl⟩
  exact ⟨rfl, Below.refl _ _⟩

def wakeL : List (Int × Int) := [(0, 6), (9, 4611686018427387904)]
theorem wake_cano : cano [(9, 4611686018427387904), (0, 4), (4, 6)] = wakeL := by decide
theorem wake_text : joinT (spT ntS) wakeL = [48, 45, 54, 44, 57, 45] := by
  simp [joinT, spT, ntS, wakeL, Lib.decDigits_one]

theorem wake_spanText (x : Int × Int) (hx : x ∈ wakeL) (W : World) : Calls Tryd.prog 83 #[.agg #[.int .i64 x.1, .int .i64 x.2]] W fun e w' => e = .returned (.string ⟨(spT ntS x).toArray⟩) ∧ Below W.heap.size W w' := by
  simp [wakeL] at hx
  rcases hx with rfl | rfl
  · exact spanText_any ntS ntS_len 0 6 (by decide) W (fun W' _ => ntS_fmt 0 (by omega) W') (fun _ W' _ => ntS_fmt 6 (by omega) W')
  · exact spanText_any ntS ntS_len 9 4611686018427387904 (by decide) W (fun W' _ => ntS_fmt 9 (by omega) W') (fun h => by omega)
theorem wake_textAny (A : Option Addr) (c : Nat) (w : World) (h : Sp w A c wakeL) : Calls Tryd.prog 47 #[.agg #[.slice A 2 c]] w fun e w' => e = .returned (.string ⟨#[48, 45, 54, 44, 57, 45]⟩) ∧ Below w.heap.size w w' := by
  have := text_any (spT ntS) A c wakeL w h (by decide) (by decide) (fun x hx => by simp [wakeL] at hx; rcases hx with rfl | rfl <;> simp [spT, ntS, Lib.decDigits_one]) (fun x hx W _ => wake_spanText x hx W)
  rw [wake_text] at this
  exact this
theorem wake_first : firstL wakeL 7 = some (9, 4611686018427387904) := by decide

end Go.Proofs.YtfpfdgljhcpkpaaDoor
