/- A range over a function whose iterator keeps its place in cells of its own: a law of the walk. What the iterator owes is asked of one pair of invariants, not of all; the round's word on the iterator's cells is a relation of one's own choosing. -/
import Derived.RangeFuncNested
import Derived.RangeFuncBound
import Derived.RangeFuncCalls
import Derived.RangeFuncLeaves
import Derived.Shelf.Abstract
import Derived.Shelf.RegionOpen
import Derived.WalkKit
import Derived.OwnWalkIn
import Derived.TacticsInMore
import Derived.LoopNIn
import Derived.LoopIn
import Derived.Test.YtaaefgieklkekaaGreatDoorZLaid2
namespace Go.Proofs.YtaaefgieklkekaaGreatDoor
open Go Go.RowKit

/-- The loop's record and the block for the rounds' deferred calls lie where they were laid. -/
structure Books (D l : Nat) (r : Loop) (W : World) : Prop where
  rec_ : W.heap[l]? = some (.loop r)
  def_ : W.heap[D]? = some (.deferred (some []))
theorem Books.keep {D l : Nat} {r : Loop} {W W' : World} (h : Books D l r W) (k : KeepsOthers W W') : Books D l r W' := ⟨k.same _ _ h.rec_ rfl, k.same _ _ h.def_ rfl⟩
variable {F : Fence} {n : Nat} {P : Program}
end Go.Proofs.YtaaefgieklkekaaGreatDoor
/- The iterator of strings.SplitSeq at ",": what it serves. -/
namespace Go.Proofs.YtaaefgieklkekaaGreatDoor
open Go Go.RowKit
attribute [local go_sem] Oper.semAt_some

/-- The three boxes that the iterator has captured lie as they lay. -/
def KeepsBoxes (bs : Nat) (W W' : World) : Prop := ∀ b, bs ≤ b → b < bs + 3 → W'.heap[b]? = W.heap[b]?
theorem KeepsBoxes.refl (bs : Nat) (W : World) : KeepsBoxes bs W W := fun _ _ _ => rfl
theorem KeepsBoxes.trans {bs : Nat} {A B C : World} (h : KeepsBoxes bs A B) (k : KeepsBoxes bs B C) : KeepsBoxes bs A C := fun b h1 h2 => (k b h1 h2).trans (h b h1 h2)
theorem KeepsBoxes.put {bs : Nat} {W : World} {l : Nat} (hl : bs + 3 ≤ l) (o : Obj) : KeepsBoxes bs W (W.putObj l o) := fun b _ h2 => World.putObj_heap_other (by omega)
/-- The boxes: the rest of the text, the comma, how much of the comma is told. -/
structure SplitAt (bs : Nat) (rest : List UInt8) (W : World) : Prop where
  s : W.heap[bs]? = some (.cells #[.string ⟨rest.toArray⟩] 9 (0, 0))
  sep : W.heap[bs + 1]? = some (.cells #[.string ⟨#[44]⟩] 9 (0, 0))
  save : W.heap[bs + 2]? = some (.cells #[.int .i64 0] 3 (0, 0))
theorem SplitAt.keep {bs : Nat} {rest : List UInt8} {W W' : World} (h : SplitAt bs rest W) (k : KeepsBoxes bs W W') : SplitAt bs rest W' :=
  ⟨(k _ (by omega) (by omega)).trans h.s, (k _ (by omega) (by omega)).trans h.sep, (k _ (by omega) (by omega)).trans h.save⟩
def restLen (bs : Nat) (W : World) : Nat := match W.cell? ⟨bs, 0, none⟩ with
  | some (Value.string s) => s.size
  | _ => 0
theorem SplitAt.cell {bs : Nat} {rest : List UInt8} {W : World} (h : SplitAt bs rest W) : W.cell? ⟨bs, 0, none⟩ = some (.string ⟨rest.toArray⟩) := Lib.cell_of_heap h.s 0
theorem SplitAt.len {bs : Nat} {rest : List UInt8} {W : World} (h : SplitAt bs rest W) : restLen bs W = rest.length := by
  unfold restLen; rw [h.cell]; exact ba_size rest
end Go.Proofs.YtaaefgieklkekaaGreatDoor
