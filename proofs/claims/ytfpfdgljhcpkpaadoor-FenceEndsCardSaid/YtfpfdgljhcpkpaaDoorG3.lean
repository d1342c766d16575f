/- What the walk of FenceSure asks. -/
import Derived.Test.YtfpfdgljhcpkpaaDoorF6
import Derived.Test.YtfpfdgljhcpkpaaDoorG0
namespace Go.Proofs.YtfpfdgljhcpkpaaDoor
open Go.RowKit

theorem lost_sure {tu fa jo : Bool} {R H F : List (Int × Int)} (h : (wantL R H F).isEmpty = true) : lostL tu fa jo R H F = [] := by
  cases hl : (!tu && !fa && jo)
  · rw [lostL_yes hl]; exact isEmpty_eq h
  · exact lostL_no hl
theorem sure_decide (he tu fa jo : Bool) (ag : Int) {R H F : List (Int × Int)} (hc : Canon R) (h : (wantL R H F).isEmpty = true) : decideL he tu fa jo ag R H F = 1 ∨ decideL he tu fa jo ag R H F = 2 ∨ decideL he tu fa jo ag R H F = 6 := by
  rcases nil_or R with hR | ⟨x1, x2, r, hR⟩
  · rw [decideL_nil hR]; exact .inr (.inr rfl)
  · rw [decideL_cons hR, lost_sure h]
    cases h1 : inB H x1
    · cases h2 : inB F x1
      · rw [want_first hR hc h1 h2] at h; cases h
      · simp
    · simp
/-- What stands at each round: the state, whatever has been set in it, the two Bools, the slices that came in. -/
structure SureAt (w wr : World) (g : Nat) (he : Bool) (A1 : Option Addr) (c1 : Nat) (R : List (Int × Int)) (A2 : Option Addr) (c2 : Nat) (H : List (Int × Int)) (A3 : Option Addr) (c3 : Nat) (F : List (Int × Int)) (t f : Bool) (ag : Int) (jo : Bool) : Prop where
  st : wr.heap[w.heap.size]? = some (.cells #[.bool he, .slice A1 R.length c1, .slice A2 H.length c2, .slice A3 F.length c3, .bool t, .bool f, .int .i64 ag, .bool jo] 24 (0, 0))
  bs : wr.heap[g]? = some (.cells #[.bool false, .bool true] 4 (0, 0))
  s1 : Sp wr A1 c1 R
  s2 : Sp wr A2 c2 H
  s3 : Sp wr A3 c3 F
  bel : Below w.heap.size w wr

theorem len_nil (A : Option Addr) (c : Nat) (w : World) (h : Sp w A c []) :
    Calls Tryd.prog 12 #[.agg #[.slice A 0 c]] w fun e w' => e = .returned (.int .i64 0) ∧ Below w.heap.size w w' := len_any A c [] w h Canon.nil (by simp)
end Go.Proofs.YtfpfdgljhcpkpaaDoor
