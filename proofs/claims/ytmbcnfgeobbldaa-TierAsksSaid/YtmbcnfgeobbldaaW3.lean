/- The words for the requests of TierAsks: what a slice of at most one element reads as. -/
import Derived.Test.YtmbcnfgeobbldaaW2
import Derived.Deep.RegionHeld3
import Derived.Deep.DeepCutAuto
namespace Go.Proofs.Ytmbcnfgeobbldaa
open Go.RowKit

theorem heap_drew' (w : World) : w.drew.heap = w.heap := rfl
theorem cell_drew' (w : World) (a : Addr) : w.drew.cell? a = w.cell? a := rfl

theorem frozen_drew' (w : World) (a : Addr) : w.drew.frozen? a = w.frozen? a := rfl

def askB (o m n : ByteArray) (f t : Int) (mw nw : Bool) : Bool :=
      objB o.data.toList && decide (0 ≤ f) && decide (f < t) && decide (f < 1000000000000000000) && (decide (t ≤ 1000000000000000000) || (t == 4611686018427387904))
      && (zeroB m mw || tagB m.data.toList) && (zeroB n nw || tagB n.data.toList)

/-- A slice of at most one element of two cells. -/
def SL2 (w : World) (v : Value) (o : Option (Value × Value)) : Prop :=
  match o with
  | none => v = .slice none 0 0
  | some (x, y) => ∃ b, v = .slice (some ⟨b, 0, none⟩) 1 1 ∧ b < w.heap.size ∧ w.cell? ⟨b, 0, none⟩ = some x ∧ w.cell? ⟨b, 1, none⟩ = some y
def specO (f t : Int) : Option (Value × Value) :=
  if t = 4611686018427387904 then (if 0 < f then some (.int .i64 f, .int .i64 (-1)) else none) else some (.int .i64 f, .int .i64 (t - 1))
def tagO (m : ByteArray) (mw : Bool) : Option (Value × Value) := if m.toList = [] then none else some (.string m, .bool mw)
abbrev reqV (o : ByteArray) (S M N : Value) : Value := .agg #[.bool false, .string o, S, M, N, .bool false, .bool false, .int .i64 (-1), .int .i64 (-1), .string ⟨#[]⟩, .bool false]
def AskPost (o m n : ByteArray) (f t : Int) (mw nw : Bool) (w : World) (e : Ending) (w' : World) : Prop :=
  ∃ S M N, e = .returned (.tuple #[reqV o S M N, .int .i64 0]) ∧ SL2 w' S (specO f t) ∧ SL2 w' M (tagO m mw) ∧ SL2 w' N (tagO n nw) ∧ Below w.heap.size w w'

theorem SL2_some {w : World} {v x y : Value} (b : Nat) (hv : v = .slice (some ⟨b, 0, none⟩) 1 1) (hb : b < w.heap.size) (hx : w.cell? ⟨b, 0, none⟩ = some x) (hy : w.cell? ⟨b, 1, none⟩ = some y) : SL2 w v (some (x, y)) := ⟨b, hv, hb, hx, hy⟩
theorem SL2_none {w : World} : SL2 w (.slice none 0 0) none := rfl

end Go.Proofs.Ytmbcnfgeobbldaa
