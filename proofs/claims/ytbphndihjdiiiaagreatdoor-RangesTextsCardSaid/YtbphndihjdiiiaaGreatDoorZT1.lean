/- Rows of folded spans, and their two sorts. Contract of spec's Fold. -/
import Derived.Test.YtbphndihjdiiiaaGreatDoorZM1
import Derived.Test.YtbphndihjdiiiaaGreatDoorZS10
import Derived.Shelf.Strings.Builder1
import Derived.Shelf.Strings.Trim
import Derived.Shelf.Small.Utf8
import Derived.Shelf.Small.Bits
import Derived.Shelf.Small.Strs
import Derived.Shelf.Strconv.Itoa0
import Derived.Shelf.Strconv.Itoa1
import Derived.Shelf.LaysM
import Derived.Shelf.Strconv.Itoa2
import Derived.Shelf.Strconv.Itoa3
import Derived.Shelf.Strings.Search1
import Derived.Shelf.Strings.Search2
import Derived.Shelf.Strings.Search3
import Derived.Shelf.Strings.Cut
import Derived.Shelf.Strings.Shaped
import Derived.Shelf.Unicode.Decode
import Derived.Shelf.Strings.Runes
import Derived.Shelf.Strings.AsciiSet
import Derived.Shelf.Unicode.DecodeSlow
import Derived.Shelf.Unicode.DecodeAny
import Derived.Shelf.Unicode.DecodeLast
import Derived.Ground.Names2Prog
import Derived.Shelf.Slices.SearchI
import Derived.Ground.SlgcProg
import Derived.Shelf.SlicesG.Cmp
import Derived.Test.YtbphndihjdiiiaaGreatDoorProg
import Derived.Shelf.SlSortCmp.WholeK
import Derived.Shelf.SlSortCmp.NoneTotal
import Derived.Ground.SlsfProg
import Derived.Outline
namespace Go.Proofs.YtbphndihjdiiiaaGreatDoor
open Go.RowKit Go.Shelf Go.Sort

abbrev FE := (Int × Int) × Nat
def encF (x : FE) : List Value := [.int .i64 x.1.1, .int .i64 x.1.2, .int .i64 (x.2 : Int)]
def feCells (L : List FE) : List Value := L.flatMap encF
theorem feCells_cons (x : FE) (r : List FE) : feCells (x :: r) = .int .i64 x.1.1 :: .int .i64 x.1.2 :: .int .i64 (x.2 : Int) :: feCells r := rfl
theorem feCells_at : ∀ (L : List FE) (k : Nat) (x : FE), L[k]? = some x → (feCells L)[k * 3]? = some (.int .i64 x.1.1) ∧ (feCells L)[k * 3 + 1]? = some (.int .i64 x.1.2) ∧ (feCells L)[k * 3 + 2]? = some (.int .i64 (x.2 : Int))
  | [], k, x, h => by simp at h
  | y :: r, 0, x, h => by simp at h; subst h; simp [feCells_cons]
  | y :: r, k + 1, x, h => by
    have := feCells_at r k x (by simpa using h)
    rw [feCells_cons, show (k + 1) * 3 = k * 3 + 3 from by omega]
    simpa using this
theorem feCells_set : ∀ (L : List FE) (k : Nat) (x : FE), feCells (L.set k x) = (((feCells L).set (k * 3) (.int .i64 x.1.1)).set (k * 3 + 1) (.int .i64 x.1.2)).set (k * 3 + 2) (.int .i64 (x.2 : Int))
  | [], k, x => by simp [feCells]
  | y :: r, 0, x => by simp [feCells_cons]
  | y :: r, k + 1, x => by
    rw [List.set_cons_succ, feCells_cons, feCells_cons, feCells_set r k x, show (k + 1) * 3 = k * 3 + 3 from by omega]
    simp
/-- A row of folded spans of the call's own. -/
def OwnF (w : World) (base : Nat) (A : Option Addr) (c : Nat) (L : List FE) : Prop := w.ownsRow base 280 3 (.slice A L.length c) L.length (feCells L)
theorem OwnF.nil (w : World) (base : Nat) : OwnF w base none 0 [] := World.ownsRow_nil w base _ _
theorem OwnF.at_ {w : World} {base : Nat} {A : Option Addr} {c : Nat} {L : List FE} (h : OwnF w base A c L) (hn : 0 < L.length) : ∃ g, A = some ⟨g, 0, none⟩ ∧ base ≤ g ∧ g < w.heap.size := by
  obtain ⟨g, cap, hv, hb, hlt⟩ := World.ownsRow.form h hn
  injection hv with hA
  exact ⟨g, hA, hb, hlt⟩
theorem OwnF.alloc {w : World} {base : Nat} {A : Option Addr} {c : Nat} {L : List FE} (h : OwnF w base A c L) (o : Obj) : OwnF (w.alloc o) base A c L := World.ownsRow.alloc h o
theorem OwnF.below {w w' : World} {base : Nat} {A : Option Addr} {c : Nat} {L : List FE} (h : OwnF w base A c L) (hb : Below w.heap.size w w') : OwnF w' base A c L :=
  World.ownsRow.kept (row := none) h ⟨hb.os, hb.tape, hb.output, hb.size, fun k hk _ => hb.block k hk⟩ (by cases A <;> simp [Value.ownBlock])
theorem OwnF.put {w : World} {base g c : Nat} {L : List FE} (h : OwnF w base (some ⟨g, 0, none⟩) c L) (k : Nat) (x : FE) : OwnF (((w.setCell ⟨g, k * 3, none⟩ (.int .i64 x.1.1)).setCell ⟨g, k * 3 + 1, none⟩ (.int .i64 x.1.2)).setCell ⟨g, k * 3 + 2, none⟩ (.int .i64 (x.2 : Int))) base (some ⟨g, 0, none⟩) c (L.set k x) := by
  have h3 := (World.ownsRow.stored ((World.ownsRow.stored ((World.ownsRow.stored h (k * 3) (.int .i64 x.1.1)).1) (k * 3 + 1) (.int .i64 x.1.2)).1) (k * 3 + 2) (.int .i64 (x.2 : Int))).1
  unfold OwnF
  rw [feCells_set, List.length_set]
  exact h3
/-- A slice that reads as a list of folded spans. -/
structure SpF (w : World) (A : Option Addr) (L : List FE) : Prop where
  at' : ∀ k (h : k < L.length), ∃ b off, A = some ⟨b, off, none⟩ ∧ b < w.heap.size ∧ w.cell? ⟨b, off + k * 3, none⟩ = some (.int .i64 (L[k]).1.1) ∧ w.cell? ⟨b, off + k * 3 + 1, none⟩ = some (.int .i64 (L[k]).1.2) ∧ w.cell? ⟨b, off + k * 3 + 2, none⟩ = some (.int .i64 ((L[k]).2 : Int))
theorem SpF.below {w w' : World} {A : Option Addr} {L : List FE} (h : SpF w A L) (hb : Below w.heap.size w w') : SpF w' A L :=
  ⟨fun k hk => by
    obtain ⟨b, off, e, hl, h1, h2, h3⟩ := h.at' k hk
    exact ⟨b, off, e, Nat.lt_of_lt_of_le hl hb.size, cell_keep hb h1, cell_keep hb h2, cell_keep hb h3⟩⟩
theorem OwnF.cells {w : World} {base g c : Nat} {L : List FE} (h : OwnF w base (some ⟨g, 0, none⟩) c L) {k : Nat} (hk : k < L.length) : w.cell? ⟨g, k * 3, none⟩ = some (.int .i64 (L[k]).1.1) ∧ w.cell? ⟨g, k * 3 + 1, none⟩ = some (.int .i64 (L[k]).1.2) ∧ w.cell? ⟨g, k * 3 + 2, none⟩ = some (.int .i64 ((L[k]).2 : Int)) := by
  obtain ⟨a, b, d⟩ := feCells_at L k L[k] (List.getElem?_eq_getElem hk)
  exact ⟨(World.ownsRow.cellAt h _ (by omega)).trans a, (World.ownsRow.cellAt h _ (by omega)).trans b, (World.ownsRow.cellAt h _ (by omega)).trans d⟩
theorem OwnF.holdsK {w : World} {base g c : Nat} {L : List FE} (h : OwnF w base (some ⟨g, 0, none⟩) c L) : HoldsK encF 3 w g 0 L.toArray := by
  intro j hj
  simp at hj
  refine ⟨?_, World.ownsRow.frozenAt h _ |> fun hf => by simpa using hf⟩
  have hi : j / 3 < L.length := by omega
  rw [Nat.zero_add, get_flatK _ _ _ _ (by simpa using hj)]
  have e1 : (L.toArray)[j / 3]! = L[j / 3] := by simp [hi]
  rw [e1]
  obtain ⟨h1, h2, h3⟩ := h.cells hi
  obtain ⟨x, hx⟩ : ∃ x, L[j / 3] = x := ⟨_, rfl⟩
  rw [hx] at h1 h2 h3 ⊢
  have hm : j % 3 = 0 ∨ j % 3 = 1 ∨ j % 3 = 2 := by omega
  rcases hm with hm | hm | hm
  · rw [show j / 3 * 3 = j from by omega] at h1
    rw [hm, h1]; rfl
  · rw [show j / 3 * 3 + 1 = j from by omega] at h2
    rw [hm, h2]; rfl
  · rw [show j / 3 * 3 + 2 = j from by omega] at h3
    rw [hm, h3]; rfl
end Go.Proofs.YtbphndihjdiiiaaGreatDoor
namespace Go.Proofs.YtbphndihjdiiiaaGreatDoor
open Go.RowKit Go.Shelf Go.Sort

theorem OwnF.drew {w : World} {base : Nat} {A : Option Addr} {c : Nat} {L : List FE} (h : OwnF w base A c L) : OwnF w.drew base A c L := World.ownsRow.drew h
theorem OwnF.drewN {w : World} {base : Nat} {A : Option Addr} {c : Nat} {L : List FE} (h : OwnF w base A c L) (n : Nat) : OwnF (w.drewN n) base A c L := h
end Go.Proofs.YtbphndihjdiiiaaGreatDoor
