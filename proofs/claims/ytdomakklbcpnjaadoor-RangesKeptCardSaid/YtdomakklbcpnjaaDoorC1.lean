/- The walk of RangesAt. -/
import Derived.Test.YtdomakklbcpnjaaDoorB14
import Derived.Test.YtdomakklbcpnjaaDoorM7
namespace Go.Proofs.YtdomakklbcpnjaaDoor
open Go.RowKit

theorem great1_any (A : Option Addr) (n c g : Nat) (w : World) (h : w.cell? ⟨g, 0, none⟩ = some (.slice A n c)) (hn : n ≤ 9223372036854775807) :
    Calls Tryd.prog 15 #[.slice (some ⟨g, 0, none⟩) 1 1] w fun e w' => e = .returned (.bool (decide (20 < n))) ∧ w' = w := by
  have := great_any g [(A, n, c)] w (fun i x hx => by
    cases i with
    | zero => simp at hx; subst hx; exact h
    | succ i => simp at hx) (by simp) (fun x hx => by simp at hx; subst hx; exact hn)
  simpa [greatL] using this


end Go.Proofs.YtdomakklbcpnjaaDoor
