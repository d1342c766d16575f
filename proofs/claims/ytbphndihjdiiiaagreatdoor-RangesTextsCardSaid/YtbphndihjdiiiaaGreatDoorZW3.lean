/- Contract of spec's Parse. -/
import Derived.Test.YtbphndihjdiiiaaGreatDoorZW2
import Derived.Test.YtbphndihjdiiiaaGreatDoorZS10
namespace Go.Proofs.YtbphndihjdiiiaaGreatDoor
open Go Go.RowKit
attribute [local go_sem] Oper.semAt_some

theorem qb_lt {w : World} {g : Nat} {o : Obj} (h : w.heap[g]? = some o) : g < w.heap.size := (Array.getElem?_eq_some_iff.1 h).1
theorem qb_new {w : World} {o : Obj} {g : Nat} (hg : g = w.heap.size) : (w.alloc o).heap[g]? = some o := by subst hg; exact heap_alloc_new w o
theorem qb_skip {w : World} {o o' : Obj} {g : Nat} (h : w.heap[g]? = some o) : (w.alloc o').heap[g]? = some o := (Below.heap_alloc w o' g (qb_lt h)).trans h
theorem qb_keep {B : Nat} {W w' : World} {g : Nat} {o : Obj} (hb : Below B W w') (hB : W.heap.size ≤ B) (h : W.heap[g]? = some o) : w'.heap[g]? = some o := (hb.block g (Nat.lt_of_lt_of_le (qb_lt h) hB)).trans h
theorem qb_set (W : World) (p : Addr) (v : Value) : W.grownBy (W.setCell p v) (some p.block) := by
  have h := Below.setCell (Below.refl 0 W) (p := p) (Nat.zero_le _) v
  exact ⟨h.os, h.tape, h.output, h.size, fun k _ hne => Below.heap_setCell W p v k (by intro e; exact hne (by rw [e]))⟩
theorem qb_put {W : World} {k D : Nat} {cs : Array Value} {t : TypeId} {f : Nat × Nat} {o o' : Obj} (h : W.heap[k]? = some (.cells cs t f)) (hD : W.heap[D]? = some o) (ho : o.isCells = false) : (W.putObj D o').heap[k]? = some (.cells cs t f) := by
  refine (World.putObj_heap_other ?_).trans h
  rintro rfl
  rw [h] at hD
  injection hD with hD
  rw [← hD] at ho
  cases ho
theorem OwnQ.off {W W' : World} {base k : Nat} {A : Option Addr} {c : Nat} {L : List (Int × Int)} (h : OwnQ W base A c L) (hg : W.grownBy W' (some k)) (hk : k < base) : OwnQ W' base A c L :=
  World.ownsRow.kept h hg (.inr fun e => by have := (World.ownsRow.lt h _ e).1; omega)
theorem OwnQ.turned {W : World} {base k : Nat} {A : Option Addr} {c : Nat} {L : List (Int × Int)} {o : Obj} (h : OwnQ W base A c L) (ho : W.heap[k]? = some o) (hc : o.isCells = false) (o' : Obj) : OwnQ (W.putObj k o') base A c L := by
  refine World.ownsRow.kept h (grownBy_putObj' _ _ _) (.inr ?_)
  rcases h.2 with ⟨hv, _⟩ | ⟨g, cap, cur, hv, _, hg, _⟩
  · rw [hv]; simp [Value.ownBlock]
  · rw [hv]
    intro e
    simp [Value.ownBlock] at e
    subst e
    rw [ho] at hg
    injection hg with hg
    rw [hg] at hc
    cases hc
/-- What holds between two rounds of Parse's loop. -/
structure ParseInv (w : World) (b1 : Nat) (pre : List (List UInt8)) (W : World) : Prop where
  ex : ∃ ys A c, rangesL (itemsL pre) = some ys ∧ W.heap[b1]? = some (.cells #[.slice A (ys.take 64).length c] 40 (0, 0)) ∧ W.heap[b1 + 1]? = some (.cells #[.bool (decide (64 < ys.length))] 4 (0, 0)) ∧ OwnQ W (b1 + 5) A c (ys.take 64)
  r2 : W.heap[w.heap.size]? = some (.cells #[.slice none 0 0] 40 (0, 0))
  r3 : W.heap[w.heap.size + 1]? = some (.cells #[.int .i64 0] 28 (0, 0))
  bel : Below w.heap.size w W
  sz : b1 + 5 ≤ W.heap.size
theorem ParseInv.grown {w W W' : World} {b1 k : Nat} {pre : List (List UInt8)} (h : ParseInv w b1 pre W) (hg : W.grownBy W' (some k)) (hlo : w.heap.size + 2 ≤ b1) (hk : b1 + 2 ≤ k) (hrow : ∀ A c L, OwnQ W (b1 + 5) A c L → (Value.slice A (List.length L) c).ownBlock ≠ some k) : ParseInv w b1 pre W' := by
  obtain ⟨ys, A, c, h1, h2, h3, h4⟩ := h.ex
  have blk : ∀ j o, j ≠ k → W.heap[j]? = some o → W'.heap[j]? = some o := fun j o hj ho => (hg.block j (Array.getElem?_eq_some_iff.1 ho).1 (by intro e; injection e with e; exact hj e)).trans ho
  refine ⟨⟨ys, A, c, h1, blk _ _ (by omega) h2, blk _ _ (by omega) h3, World.ownsRow.kept h4 hg (.inr (hrow _ _ _ h4))⟩, blk _ _ (by omega) h.r2, blk _ _ (by omega) h.r3, h.bel.grown hg h.bel.size (fun j hj => by injection hj with hj; omega), Nat.le_trans h.sz hg.size⟩
theorem ParseInv.below {w W W' : World} {b1 : Nat} {pre : List (List UInt8)} (h : ParseInv w b1 pre W) (hb : Below W.heap.size W W') : ParseInv w b1 pre W' := by
  obtain ⟨ys, A, c, h1, h2, h3, h4⟩ := h.ex
  exact ⟨⟨ys, A, c, h1, qb_keep hb (Nat.le_refl _) h2, qb_keep hb (Nat.le_refl _) h3, h4.below hb⟩, qb_keep hb (Nat.le_refl _) h.r2, qb_keep hb (Nat.le_refl _) h.r3, bel_chain hb h.bel, Nat.le_trans h.sz hb.size⟩
theorem qb_others {W W' : World} (hb : Below W.heap.size W W') : KeepsOthers W W' := ⟨hb.size, fun _ _ h _ => qb_keep hb (Nat.le_refl _) h⟩
theorem ParseInv.turn {w W : World} {b1 k : Nat} {pre : List (List UInt8)} {o : Obj} (h : ParseInv w b1 pre W) (hlo : w.heap.size + 1 + 1 ≤ b1) (hk : b1 + 5 ≤ k) (ho : W.heap[k]? = some o) (hc : o.isCells = false) (o' : Obj) : ParseInv w b1 pre (W.putObj k o') := by
  refine h.grown (grownBy_putObj' _ _ _) (by omega) (by omega) fun A c L h4 => ?_
  rcases h4.2 with ⟨hv, _⟩ | ⟨g, cap, cur, hv, _, hg, _⟩
  · rw [hv]; simp [Value.ownBlock]
  · rw [hv]
    intro e
    simp [Value.ownBlock] at e
    subst e
    rw [ho] at hg
    injection hg with hg
    rw [hg] at hc
    cases hc
theorem ParseInv.box {w W : World} {b1 : Nat} {pre : List (List UInt8)} (h : ParseInv w b1 pre W) (hlo : w.heap.size + 1 + 1 ≤ b1) (v : Value) : ParseInv w b1 pre (W.setCell ⟨b1 + 2, 0, none⟩ v) := by
  refine h.grown (k := b1 + 2) (qb_set W ⟨b1 + 2, 0, none⟩ v) (by omega) (by omega) fun A c L h4 e => ?_
  have := (World.ownsRow.lt h4 _ e).1
  omega
theorem OwnQ.notblk {W : World} {base k : Nat} {A : Option Addr} {c : Nat} {L : List (Int × Int)} (h : OwnQ W base A c L) (hk : k < base) : some k ≠ (Value.slice A L.length c).ownBlock := fun e => by have := (World.ownsRow.lt h _ e.symm).1; omega
theorem OwnQ.others {W W' : World} {base : Nat} {A : Option Addr} {c : Nat} {L : List (Int × Int)} (h : OwnQ W base A c L) (hg : W.grownBy W' (Value.slice A L.length c).ownBlock) : KeepsOthers W W' := by
  refine ⟨hg.size, fun k o hk ho => (hg.block k (qb_lt hk) fun e => ?_).trans hk⟩
  rcases h.2 with ⟨hv, _⟩ | ⟨g, cap, cur, hv, _, hgb, _⟩
  · rw [hv] at e; simp [Value.ownBlock] at e
  · rw [hv] at e
    simp [Value.ownBlock] at e
    subst e
    rw [hk] at hgb
    injection hgb with hgb
    rw [hgb] at ho
    cases ho
theorem qb_other {W : World} {p : Addr} {v : Value} {k : Nat} {o : Obj} (hk : k ≠ p.block) (ho : W.heap[k]? = some o) : (W.setCell p v).heap[k]? = some o := (Below.heap_setCell W p v k hk).trans ho
theorem qb_one {W : World} {k : Nat} {u : Value} {t : TypeId} {f : Nat × Nat} (v : Value) (ho : W.heap[k]? = some (.cells #[u] t f)) : (W.setCell ⟨k, 0, none⟩ v).heap[k]? = some (.cells #[v] t f) := by
  simp [World.setCell, Array.getElem?_modify, ho]
theorem bel_setw {w W : World} (h : Below w.heap.size w W) {p : Addr} (hp : w.heap.size ≤ p.block) (v : Value) : Below w.heap.size w (W.setCell p v) := h.setCell hp v
end Go.Proofs.YtbphndihjdiiiaaGreatDoor
