/- Plain laws of a fence's states, and small laws on blocks known whole. -/
import Derived.Test.YtbphndihjdiiiaaGreatDoorZD1
import Derived.Test.YtbphndihjdiiiaaGreatDoorZB11
import Derived.IntWalk
namespace Go.Proofs.YtbphndihjdiiiaaGreatDoor
open Go.RowKit

theorem cell_grown {w w' : World} {po b o : Nat} (h : w.grownBy w' (some po)) (hb : b < w.heap.size) (hne : b ≠ po) : w'.cell? ⟨b, o, none⟩ = w.cell? ⟨b, o, none⟩ :=
  World.cell?_of_block (w := w) (w' := w') (a := ⟨b, o, none⟩) (h.block b hb (by intro e; injection e with e; exact hne e))
theorem Sp.grown {w w' : World} {A : Option Addr} {c : Nat} {L : List (Int × Int)} {po : Nat} (h : Sp w A c L) (hne : OffB A po) (hg : w.grownBy w' (some po)) : Sp w' A c L :=
  ⟨h.le, h.nil_, fun hn => by
    obtain ⟨b, off, e, hb, hc⟩ := h.at' hn
    have hs := hg.size
    have hb' : b ≠ po := hne _ e
    exact ⟨b, off, e, by omega, fun i x hx => by rw [cell_grown hg hb hb', cell_grown hg hb hb']; exact hc i x hx⟩⟩
theorem blk_keep {W w' : World} {g : Nat} {o : Obj} (hb : Below W.heap.size W w') (h : W.heap[g]? = some o) : w'.heap[g]? = some o := (hb.block g (Array.getElem?_eq_some_iff.1 h).1).trans h
theorem blk_cell {w : World} {g i : Nat} {cs : Array Value} {t : TypeId} {f : Nat × Nat} {v : Value} (h : w.heap[g]? = some (.cells cs t f)) (hv : cs[i]? = some v) : w.cell? ⟨g, i, none⟩ = some v := (Lib.cell_of_heap h i).trans hv
theorem blk_frozen {w : World} {g i : Nat} {cs : Array Value} {t : TypeId} (h : w.heap[g]? = some (.cells cs t (0, 0))) : w.frozen? ⟨g, i, none⟩ = false := Lib.frozen_of_heap h i
theorem blk_lt {w : World} {g : Nat} {o : Obj} (h : w.heap[g]? = some o) : g < w.heap.size := (Array.getElem?_eq_some_iff.1 h).1
theorem blk_new {w : World} {o : Obj} {g : Nat} (hg : g = w.heap.size) : (w.alloc o).heap[g]? = some o := by subst hg; exact heap_alloc_new w o
theorem blk_skip {w : World} {o o' : Obj} {g : Nat} (h : w.heap[g]? = some o) : (w.alloc o').heap[g]? = some o := (Below.heap_alloc w o' g (blk_lt h)).trans h
theorem blk_drewN {w : World} {o : Obj} {g n : Nat} (h : w.heap[g]? = some o) : (w.drewN n).heap[g]? = some o := h

theorem blk_set_ne {w : World} {o : Obj} {g : Nat} {p : Addr} {v : Value} (hne : g ≠ p.block) (h : w.heap[g]? = some o) : (w.setCell p v).heap[g]? = some o := (Below.heap_setCell w p v g hne).trans h
theorem blk_set {w : World} {g i : Nat} {cs : Array Value} {t : TypeId} {f : Nat × Nat} {v : Value} (h : w.heap[g]? = some (.cells cs t f)) : (w.setCell ⟨g, i, none⟩ v).heap[g]? = some (.cells (cs.setIfInBounds i v) t f) := by
  simp [World.setCell, Array.getElem?_modify, h]
end Go.Proofs.YtbphndihjdiiiaaGreatDoor
