/- Contract of ranges.gather. -/
import Derived.Test.YtnlamjebgkgbaaaDoorJTierDeals6
import Derived.Test.YtnlamjebgkgbaaaDoorJTierDeals1
import Derived.Deep.AppendLies
import Derived.Laws.AppendOwnNone
namespace Go.Proofs.YtnlamjebgkgbaaaDoor
open Go.RowKit

theorem Tryd.spanInfo : (Tryd.prog.info? 54).map (fun i => (i.zero, i.size, i.bytes)) = some (some (.agg #[.int .i64 0, .int .i64 0]), 2, 16) := by kernel_rfl

/-- A row of spans of the call's own. -/
def Own (w : World) (base : Nat) (A : Option Addr) (c : Nat) (L : List (Int × Int)) : Prop := w.ownsRow base 54 2 (.slice A L.length c) L.length (spCells L)
theorem Own.nil (w : World) (base : Nat) : Own w base none 0 [] := World.ownsRow_nil w base _ _
theorem Own.sp {w : World} {base : Nat} {A : Option Addr} {c : Nat} {L : List (Int × Int)} (h : Own w base A c L) : Sp w A c L := (Sp.of_own h).1
theorem Own.at_ {w : World} {base : Nat} {A : Option Addr} {c : Nat} {L : List (Int × Int)} (h : Own w base A c L) (hn : 0 < L.length) : ∃ g, A = some ⟨g, 0, none⟩ ∧ base ≤ g ∧ g < w.heap.size := by
  obtain ⟨g, cap, hv, hb, hlt⟩ := World.ownsRow.form h hn
  injection hv with hA
  exact ⟨g, hA, hb, hlt⟩
theorem spCells_set {i : List (Int × Int)} {l : Int × Int} {t : Int} : (spCells (i ++ [l])).set (i.length * 2 + 1) (.int .i64 t) = spCells (i ++ [(l.1, t)]) := by
  rw [spCells_append, spCells_append, List.set_append, if_neg (by rw [spCells_length]; omega), spCells_length, show i.length * 2 + 1 - i.length * 2 = 1 from by omega]
  rfl

/-- It hands back a row of spans of its own. -/
def RetSp (L : List (Int × Int)) (w : World) (e : Ending) (w' : World) : Prop := ∃ A c, e = .returned (.slice A L.length c) ∧ Own w' w.heap.size A c L ∧ Below w.heap.size w w'
/-- It hands back a set. -/
def RetSet (L : List (Int × Int)) (w : World) (e : Ending) (w' : World) : Prop := ∃ A c, e = .returned (.agg #[.slice A L.length c]) ∧ Sp w' A c L ∧ Below w.heap.size w w'
theorem Own.alloc {w : World} {base : Nat} {A : Option Addr} {c : Nat} {L : List (Int × Int)} (h : Own w base A c L) (o : Obj) : Own (w.alloc o) base A c L := World.ownsRow.alloc h o
theorem Own.drew {w : World} {base : Nat} {A : Option Addr} {c : Nat} {L : List (Int × Int)} (h : Own w base A c L) : Own w.drew base A c L := World.ownsRow.drew h
theorem Own.drewN {w : World} {base : Nat} {A : Option Addr} {c : Nat} {L : List (Int × Int)} (h : Own w base A c L) (n : Nat) : Own (w.drewN n) base A c L := h
theorem Own.below {w w' : World} {base : Nat} {A : Option Addr} {c : Nat} {L : List (Int × Int)} (h : Own w base A c L) (hb : Below w.heap.size w w') : Own w' base A c L :=
  World.ownsRow.kept (row := none) h ⟨hb.os, hb.tape, hb.output, hb.size, fun k hk _ => hb.block k hk⟩ (by cases A <;> simp [Value.ownBlock])
theorem Own.base_le {w : World} {base base' : Nat} {A : Option Addr} {c : Nat} {L : List (Int × Int)} (h : Own w base A c L) (hb : base' ≤ base) : Own w base' A c L := by
  refine ⟨h.1, ?_⟩
  rcases h.2 with h2 | ⟨g, cap, cur, hv, hg, r⟩
  · exact .inl h2
  · exact .inr ⟨g, cap, cur, hv, by omega, r⟩

theorem Own.setTo {w : World} {base g c : Nat} {i : List (Int × Int)} {l : Int × Int} (t : Int) (h : Own w base (some ⟨g, 0, none⟩) c (i ++ [l])) : Own (w.setCell ⟨g, i.length * 2 + 1, none⟩ (.int .i64 t)) base (some ⟨g, 0, none⟩) c (i ++ [(l.1, t)]) := by
  have h1 := (World.ownsRow.stored h (i.length * 2 + 1) (.int .i64 t)).1
  rw [spCells_set] at h1
  have e1 : (i ++ [l]).length = (i ++ [(l.1, t)]).length := by simp
  unfold Own
  rw [← e1]
  exact h1
theorem max_ite (a b : Int) : (if a < b then b else a) = max a b := by split <;> omega

theorem cell_new0 (W : World) (x y : Value) (t : TypeId) : (W.alloc (.cells #[x, y] t)).cell? ⟨W.heap.size, 0, none⟩ = some x := by simp [go_sem]
theorem cell_new1 (W : World) (x y : Value) (t : TypeId) : (W.alloc (.cells #[x, y] t)).cell? ⟨W.heap.size, 1, none⟩ = some y := by simp [go_sem]
end Go.Proofs.YtnlamjebgkgbaaaDoor
