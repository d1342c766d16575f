/- Contracts of the reference's insert, ends and of: the pieces between all ends that are in a set. Contracts of the reference's ends and of. -/
import Derived.Test.YtnlamjebgkgbaaaDoorJTierDeals8
import Derived.Test.YtnlamjebgkgbaaaDoorJTierDeals1
import Derived.Maps.AppendAt
import Derived.RegionTactic
import Derived.OwnWalk
namespace Go.Proofs.YtnlamjebgkgbaaaDoor
open Go.RowKit

/-- A slice of numbers that reads as a list. -/
def SpI (w : World) (A : Option Addr) (c : Nat) (l : List Int) : Prop :=
  l.length ≤ c ∧ (0 < l.length → ∃ b off, A = some ⟨b, off, none⟩ ∧ b < w.heap.size ∧ ∀ i x, l[i]? = some x → w.cell? ⟨b, off + i, none⟩ = some (.int .i64 x))
theorem SpI.below {w w' : World} {A : Option Addr} {c : Nat} {l : List Int} (h : SpI w A c l) (hb : Below w.heap.size w w') : SpI w' A c l :=
  ⟨h.1, fun hn => by
    obtain ⟨b, off, e, hlt, hc⟩ := h.2 hn
    exact ⟨b, off, e, Nat.lt_of_lt_of_le hlt hb.size, fun i x hx => (hb.cell (p := ⟨b, off + i, none⟩) hlt).trans (hc i x hx)⟩⟩
theorem SpI.at_ {w : World} {A : Option Addr} {c : Nat} {l : List Int} (h : SpI w A c l) {k : Nat} (hk : k < l.length) : ∃ b off, A = some ⟨b, off, none⟩ ∧ b < w.heap.size ∧ w.cell? ⟨b, off + k, none⟩ = some (.int .i64 l[k]) := by
  obtain ⟨b, off, e, hb, hc⟩ := h.2 (by omega)
  exact ⟨b, off, e, hb, hc k _ (List.getElem?_eq_getElem hk)⟩
/-- A row of numbers of the call's own. -/
def OwnI (w : World) (base : Nat) (A : Option Addr) (c : Nat) (l : List Int) : Prop := w.ownsRow base 2 1 (.slice A l.length c) l.length (l.map (Value.int .i64))
theorem OwnI.nil (w : World) (base : Nat) : OwnI w base none 0 [] := World.ownsRow_nil w base _ _
theorem OwnI.alloc {w : World} {base : Nat} {A : Option Addr} {c : Nat} {l : List Int} (h : OwnI w base A c l) (o : Obj) : OwnI (w.alloc o) base A c l := World.ownsRow.alloc h o
theorem OwnI.drewN {w : World} {base : Nat} {A : Option Addr} {c : Nat} {l : List Int} (h : OwnI w base A c l) (n : Nat) : OwnI (w.drewN n) base A c l := h
theorem OwnI.drew {w : World} {base : Nat} {A : Option Addr} {c : Nat} {l : List Int} (h : OwnI w base A c l) : OwnI w.drew base A c l := World.ownsRow.drew h
theorem OwnI.below {w w' : World} {base : Nat} {A : Option Addr} {c : Nat} {l : List Int} (h : OwnI w base A c l) (hb : Below w.heap.size w w') : OwnI w' base A c l :=
  World.ownsRow.kept (row := none) h ⟨hb.os, hb.tape, hb.output, hb.size, fun k hk _ => hb.block k hk⟩ (by cases A <;> simp [Value.ownBlock])
theorem OwnI.base_le {w : World} {base base' : Nat} {A : Option Addr} {c : Nat} {l : List Int} (h : OwnI w base A c l) (hb : base' ≤ base) : OwnI w base' A c l := by
  refine ⟨h.1, ?_⟩
  rcases h.2 with h2 | ⟨g, cap, cur, hv, hg, r⟩
  · exact .inl h2
  · exact .inr ⟨g, cap, cur, hv, by omega, r⟩
theorem OwnI.spi {w : World} {base : Nat} {A : Option Addr} {c : Nat} {l : List Int} (h : OwnI w base A c l) : SpI w A c l := by
  rcases h.2 with ⟨hv, h0⟩ | ⟨g, cap, cur, hv, hb, hg, hnc, hcm, hcs, htake⟩
  · exact ⟨by omega, fun h => by omega⟩
  · have hA : A = some ⟨g, 0, none⟩ := by injection hv
    have hc : c = cap := by injection hv
    subst hA hc
    refine ⟨hnc, fun _ => ⟨g, 0, rfl, (Array.getElem?_eq_some_iff.1 hg).1, fun i x hx => ?_⟩⟩
    have := World.ownsRow.cells h (g := g) rfl i (.int .i64 x) (by simp [hx])
    have hadd : ∀ j, (⟨g, 0, none⟩ : Addr).add j = ⟨g, j, none⟩ := fun j => by unfold Addr.add; split <;> simp_all
    rw [hadd] at this
    simpa using this
theorem OwnI.at_ {w : World} {base : Nat} {A : Option Addr} {c : Nat} {l : List Int} (h : OwnI w base A c l) (hn : 0 < l.length) : ∃ g, A = some ⟨g, 0, none⟩ ∧ base ≤ g ∧ g < w.heap.size := by
  obtain ⟨g, cap, hv, hb, hlt⟩ := World.ownsRow.form h hn
  injection hv with hA
  exact ⟨g, hA, hb, hlt⟩
theorem OwnI.cell {w : World} {base g c : Nat} {l : List Int} (h : OwnI w base (some ⟨g, 0, none⟩) c l) {k : Nat} (hk : k < l.length) : w.cell? ⟨g, k, none⟩ = some (.int .i64 l[k]) := by
  rw [World.ownsRow.cellAt h k (by omega)]
  simp [hk]
/-- Rows of spans and rows of numbers lie in different blocks. -/
theorem own_ne {w : World} {base base' c c' g' : Nat} {A : Option Addr} {L : List (Int × Int)} {l : List Int} (h : Own w base A c L) (h' : OwnI w base' (some ⟨g', 0, none⟩) c' l) : (Value.slice A L.length c).ownBlock ≠ some g' := by
  rcases h.2 with ⟨hv, _⟩ | ⟨g, cap, cur, hv, _, hg, _⟩
  · injection hv with hA
    subst hA
    simp [Value.ownBlock]
  · injection hv with hA
    subst hA
    intro e
    have hgg : g = g' := by simpa [Value.ownBlock] using e
    subst hgg
    rcases h'.2 with ⟨hv', _⟩ | ⟨g2, cap2, cur2, hv', _, hg2, _⟩
    · cases hv'
    · injection hv' with hA'
      injection hA' with hA'
      injection hA' with hA'
      subst hA'
      rw [hg] at hg2
      injection hg2 with hg2
      injection hg2 with _ ht
      exact absurd ht (by decide)
theorem OwnI.kept {w w' : World} {base g c : Nat} {l : List Int} {row : Option Nat} (h : OwnI w base (some ⟨g, 0, none⟩) c l) (hg : w.grownBy w' row) (hne : row ≠ some g) : OwnI w' base (some ⟨g, 0, none⟩) c l :=
  World.ownsRow.kept h hg (.inr (fun e => hne (by rw [← e]; rfl)))
theorem OwnI.set {w : World} {base g c b o : Nat} {l : List Int} (h : OwnI w base (some ⟨g, 0, none⟩) c l) (hne : b ≠ g) (u : Value) : OwnI (w.setCell ⟨b, o, none⟩ u) base (some ⟨g, 0, none⟩) c l :=
  h.kept (row := some b) ⟨rfl, rfl, rfl, by simp, fun k _ hk => heap_setCell_other w ⟨b, o, none⟩ k u (fun e => hk (by simp [e]))⟩ (fun e => hne (by injection e))
/-- It hands back a row of numbers of its own. -/
def RetI (l : List Int) (w : World) (e : Ending) (w' : World) : Prop := ∃ A c, e = .returned (.slice A l.length c) ∧ OwnI w' w.heap.size A c l ∧ Below w.heap.size w w'

theorem Tryd.intInfo : (Tryd.prog.info? 2).map (fun i => (i.zero, i.size, i.bytes)) = some (some (.int .i64 0), 1, 8) := by kernel_rfl

/-- How far the insertion has come: what is out, and what is still to come. -/
def insRest (put : Bool) (r : List Int) (n : Int) : List Int := if put = true then r else insertL r n
theorem drop_cons {l : List Int} {k : Nat} (h : k < l.length) : l.drop k = l[k] :: l.drop (k + 1) := List.drop_eq_getElem_cons h

end Go.Proofs.YtnlamjebgkgbaaaDoor
namespace Go.Proofs.YtnlamjebgkgbaaaDoor
open Go.RowKit

theorem estep_yes {out : List Int} {x : Int × Int} (h : okS x = true) : estep out x = insertL (insertL out x.1) x.2 := by simp [estep, h]
theorem estep_no {out : List Int} {x : Int × Int} (h : okS x = false) : estep out x = out := by simp [estep, h]

theorem opB1 (x y : Bool) : opB 1 x y = (x || y) := by simp [opB]
theorem opB2 (x y : Bool) : opB 2 x y = (x && y) := by simp [opB]
theorem opB3 (x y : Bool) : opB 3 x y = (x && !y) := by simp [opB]
theorem getD_at {E : List Int} {k : Nat} (h : k < E.length) : E.getD k 0 = E[k] := by rw [List.getD_eq_getElem?_getD, List.getElem?_eq_getElem h]; rfl

end Go.Proofs.YtnlamjebgkgbaaaDoor
