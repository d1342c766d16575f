/- Rows of ranges that are asked, of a call's own; append to them. -/
import Derived.Test.YtbphndihjdiiiaaGreatDoorZS7
import Derived.Outline
namespace Go.Proofs.YtbphndihjdiiiaaGreatDoor
open Go.RowKit

/-- A row of spans of the call's own. -/
def OwnQ (w : World) (base : Nat) (A : Option Addr) (c : Nat) (L : List (Int × Int)) : Prop := w.ownsRow base 123 2 (.slice A L.length c) L.length (spCells L)
theorem OwnQ.nil (w : World) (base : Nat) : OwnQ w base none 0 [] := World.ownsRow_nil w base _ _
theorem OwnQ.sp {w : World} {base : Nat} {A : Option Addr} {c : Nat} {L : List (Int × Int)} (h : OwnQ w base A c L) : Sp w A c L := (Sp.of_own h).1
theorem OwnQ.at_ {w : World} {base : Nat} {A : Option Addr} {c : Nat} {L : List (Int × Int)} (h : OwnQ w base A c L) (hn : 0 < L.length) : ∃ g, A = some ⟨g, 0, none⟩ ∧ base ≤ g ∧ g < w.heap.size := by
  obtain ⟨g, cap, hv, hb, hlt⟩ := World.ownsRow.form h hn
  injection hv with hA
  exact ⟨g, hA, hb, hlt⟩
theorem OwnQ.alloc {w : World} {base : Nat} {A : Option Addr} {c : Nat} {L : List (Int × Int)} (h : OwnQ w base A c L) (o : Obj) : OwnQ (w.alloc o) base A c L := World.ownsRow.alloc h o
theorem OwnQ.drew {w : World} {base : Nat} {A : Option Addr} {c : Nat} {L : List (Int × Int)} (h : OwnQ w base A c L) : OwnQ w.drew base A c L := World.ownsRow.drew h
theorem OwnQ.drewN {w : World} {base : Nat} {A : Option Addr} {c : Nat} {L : List (Int × Int)} (h : OwnQ w base A c L) (n : Nat) : OwnQ (w.drewN n) base A c L := h
theorem OwnQ.below {w w' : World} {base : Nat} {A : Option Addr} {c : Nat} {L : List (Int × Int)} (h : OwnQ w base A c L) (hb : Below w.heap.size w w') : OwnQ w' base A c L :=
  World.ownsRow.kept (row := none) h ⟨hb.os, hb.tape, hb.output, hb.size, fun k hk _ => hb.block k hk⟩ (by cases A <;> simp [Value.ownBlock])
theorem OwnQ.base_le {w : World} {base base' : Nat} {A : Option Addr} {c : Nat} {L : List (Int × Int)} (h : OwnQ w base A c L) (hb : base' ≤ base) : OwnQ w base' A c L := by
  refine ⟨h.1, ?_⟩
  rcases h.2 with h2 | ⟨g, cap, cur, hv, hg, r⟩
  · exact .inl h2
  · exact .inr ⟨g, cap, cur, hv, by omega, r⟩

end Go.Proofs.YtbphndihjdiiiaaGreatDoor
