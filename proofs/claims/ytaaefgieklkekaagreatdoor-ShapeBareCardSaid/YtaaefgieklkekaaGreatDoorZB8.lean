/- Contract of ranges.Of: the least list of the bytes of some spans. Contract of ranges.Of. -/
import Derived.Test.YtaaefgieklkekaaGreatDoorZB7
import Derived.Test.YtaaefgieklkekaaGreatDoorZM1
import Derived.Test.YtaaefgieklkekaaGreatDoorZLaid
namespace Go.Proofs.YtaaefgieklkekaaGreatDoor
open Go.RowKit Go.Shelf Go.Sort

def encSp (x : Int × Int) : List Value := [.int .i64 x.1, .int .i64 x.2]
def cfSp (x y : Int × Int) : Int := Lib.compareInt x.1 y.1
theorem ltSp (x y : Int × Int) : ltOf cfSp x y = decide (x.1 < y.1) := by
  unfold ltOf cfSp Lib.compareInt
  by_cases h1 : x.1 < y.1
  · simp [h1]
  · by_cases h2 : y.1 < x.1 <;> simp [h1, h2]
theorem swoSp : SWO (ltOf cfSp) where
  irrefl x := by rw [ltSp]; simp
  trans x y z h1 h2 := by rw [ltSp] at *; simp at *; omega
  ntrans x y z h1 h2 := by rw [ltSp] at *; simp at *; omega

theorem grownBy_sortedK {w : World} {g n : Nat} {os : Array Obj} (d : Array (Int × Int)) : w.grownBy (sortWorldK encSp 2 w g 0 n d os) (some g) := by
  unfold sortWorldK putRowK
  refine ⟨rfl, rfl, rfl, by simp, fun k hk hne => ?_⟩
  rw [heap_grow_old _ _ (by simpa using hk)]
  have : g ≠ k := fun e => hne (by rw [e])
  simp [putRow, mapBlock, Sort.ahead, Array.getElem?_modify, this]
/-- A row of spans of the call's own, as the sort takes it. -/
theorem Own.holdsK {w : World} {base g c : Nat} {L : List (Int × Int)} (h : Own w base (some ⟨g, 0, none⟩) c L) : HoldsK encSp 2 w g 0 L.toArray := by
  intro j hj
  simp at hj
  have hc := World.ownsRow.cellAt h j (by omega)
  refine ⟨?_, World.ownsRow.frozenAt h _ |> fun hf => by simpa using hf⟩
  rw [Nat.zero_add, hc, get_flatK _ _ _ _ (by simpa using hj)]
  have hi : j / 2 < L.length := by omega
  have he := spCells_even L (j / 2) L[j / 2] (List.getElem?_eq_getElem hi)
  have e1 : (L.toArray)[j / 2]! = L[j / 2] := by simp [hi]
  rw [e1]
  obtain ⟨x, hx⟩ : ∃ x, L[j / 2] = x := ⟨_, rfl⟩
  rw [hx] at he ⊢
  rcases Nat.mod_two_eq_zero_or_one j with hm | hm
  · have e2 : 2 * (j / 2) = j := by omega
    rw [e2] at he
    rw [hm, he.1]; rfl
  · have e2 : 2 * (j / 2) + 1 = j := by omega
    rw [e2] at he
    rw [hm, he.2]; rfl
theorem sp_sorted {w : World} {base g c n : Nat} {L : List (Int × Int)} {d' : Array (Int × Int)} {os : Array Obj} (h : Own w base (some ⟨g, 0, none⟩) c L) (hg : g < w.heap.size) (hs : d'.size = L.length) : Sp (sortWorldK encSp 2 w g 0 n d' os) (some ⟨g, 0, none⟩) c d'.toList := by
  have hK : HoldsK encSp 2 (sortWorldK encSp 2 w g 0 n d' os) g 0 d' := by
    unfold sortWorldK
    refine holdsK_grow _ _ _ _ _ _ _ (by simp [putRowK, Sort.ahead]; exact hg) ?_
    exact holdsK_putRowK _ _ (Sort.ahead w n) g 0 L.toArray d' (holdsK_ahead _ _ _ _ _ _ _ h.holdsK) (by simp [hs])
  have hle := (Own.sp h).le
  refine ⟨by simp; omega, (fun e => by cases e), fun _ => ⟨g, 0, rfl, ?_, fun i x hx => ?_⟩⟩
  · unfold sortWorldK; simp [putRowK, Sort.ahead]; omega
  · have hi : i < d'.size := by
      rcases Nat.lt_or_ge i d'.toList.length with h1 | h1
      · simpa using h1
      · rw [List.getElem?_eq_none h1] at hx; cases hx
    have hx' : d'[i]! = x := by
      rw [List.getElem?_eq_getElem (by simpa using hi)] at hx
      injection hx with hx
      simp only [Array.getElem_toList] at hx
      rw [getElem!_pos _ i hi, hx]
    have a0 := (hK (i * 2) (by simp; omega)).1
    have a1 := (hK (i * 2 + 1) (by simp; omega)).1
    rw [get_flatK _ _ _ _ (by omega)] at a0 a1
    rw [show i * 2 / 2 = i from by omega, show i * 2 % 2 = 0 from by omega, hx'] at a0
    rw [show (i * 2 + 1) / 2 = i from by omega, show (i * 2 + 1) % 2 = 1 from by omega, hx'] at a1
    exact ⟨a0, a1⟩

/-- What the sort leaves: a slice of the same spans that rise by their beginnings. -/
def SortPost (A : Option Addr) (c : Nat) (L : List (Int × Int)) (w0 : World) (e : Ending) (w' : World) : Prop :=
  e = .returned (.tuple #[]) ∧ ∃ M : List (Int × Int), M.Perm L ∧ Rising M ∧ Sp w' A c M ∧ Below w0.heap.size w0 w'
end Go.Proofs.YtaaefgieklkekaaGreatDoor
namespace Go.Proofs.YtaaefgieklkekaaGreatDoor
open Go.RowKit

theorem goodS_split (f t : Int) : goodS (f, t) = (okS (f, t) && decide (f < t)) := rfl

end Go.Proofs.YtaaefgieklkekaaGreatDoor
