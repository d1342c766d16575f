/- Contracts of the document's texts of spans: Num, Number, Text, Parse. -/
import Derived.Test.YtaaefgieklkekaaGreatDoorZE1
import Derived.Test.YtaaefgieklkekaaGreatDoorZT12D
namespace Go.Proofs.YtaaefgieklkekaaGreatDoor
open Go.RowKit

theorem catE {a b : List UInt8} (h : a.length + b.length ≤ 1000000) : ∀ W, (Op.stringOp .add ⟨a.toArray⟩ ⟨b.toArray⟩).run Tryz.prog W = .ok (.string ⟨(a ++ b).toArray⟩) W := fun W => by
  have := run_string_add_sum (P := Tryz.prog) W ⟨a.toArray⟩ ⟨b.toArray⟩ (by simp [ByteArray.size]; omega)
  rw [str_app] at this
  exact this
theorem numRF_step {acc : Int} {l : List UInt8} {k : Nat} (h : k < l.length) : numRF acc (l.drop k) = if (l[k].toNat : Int) - 48 < 0 ∨ 9 < (l[k].toNat : Int) - 48 ∨ (4611686018427387904 - ((l[k].toNat : Int) - 48)) / 10 < acc then none else numRF (10 * acc + ((l[k].toNat : Int) - 48)) (l.drop (k + 1)) := by
  rw [List.drop_eq_getElem_cons h, numRF]
theorem numR_at {l : List UInt8} (h1 : l.length ≠ 0) (h2 : ¬ 19 < l.length) (h3 : ¬ (l.headD 0 = 48 ∧ 1 < l.length)) : numR l = (numRF 0 l).getD (-1) := by
  unfold numR; rw [if_neg (by intro h; rcases h with h | h | h; exact h1 h; exact h2 h; exact h3 h)]
/-- A span's text; empty: it may not be. -/
def tX (x : Int × Int) : List UInt8 := if okS x = true then tS x else []
/-- What a parsed span comes to. -/
def SpanPost (v : Option (Int × Int)) (w : World) (e : Ending) (w' : World) : Prop := (match v with | some x => e = .returned (.tuple #[.agg #[.int .i64 x.1, .int .i64 x.2], .int .i64 0]) | none => e = .returned (.tuple #[.agg #[.int .i64 0, .int .i64 0], .int .i64 2])) ∧ Below w.heap.size w w'
theorem span_no {v : Option (Int × Int)} {w w' : World} (h : v = none) (hb : Below w.heap.size w w') : SpanPost v w (.returned (.tuple #[.agg #[.int .i64 0, .int .i64 0], .int .i64 2])) w' := by
  subst h; exact ⟨rfl, hb⟩
theorem span_yes {v : Option (Int × Int)} {w w' : World} {a b : Int} (h : v = some (a, b)) (hb : Below w.heap.size w w') : SpanPost v w (.returned (.tuple #[.agg #[.int .i64 a, .int .i64 b], .int .i64 0])) w' := by
  subst h; exact ⟨rfl, hb⟩
theorem tX_len (x : Int × Int) : (tX x).length ≤ 39 := by
  unfold tX
  cases h : okS x
  · simp
  · exact (tS_len h).2
theorem spanQ_at {l : List UInt8} {f t : Int} : spanQ l (some f) (some t) = if okS (f, t) = true ∧ l = tX (f, t) then some (f, t) else none := by
  unfold spanQ tX
  by_cases h : okS (f, t) = true
  · simp [h]
  · simp [h]
theorem cutD_at {l : List UInt8} {k : Nat} (hk : k < l.length) (h : ∀ c ∈ l.take k, c ≠ 45) (hd : l[k] = 45) : cutD l = some (l.take k, l.drop (k + 1)) := by
  conv => lhs; rw [cut_at hk hd]
  exact cutD_some h
end Go.Proofs.YtaaefgieklkekaaGreatDoor
