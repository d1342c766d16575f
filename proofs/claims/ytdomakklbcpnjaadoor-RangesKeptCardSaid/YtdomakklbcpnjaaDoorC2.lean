/- The walk of RangesHolds. -/
import Derived.Test.YtdomakklbcpnjaaDoorC1
import Derived.Test.YtdomakklbcpnjaaDoorD5
namespace Go.Proofs.YtdomakklbcpnjaaDoor
open Go.RowKit

theorem great1_b (A : Option Addr) (n c g : Nat) (w : World) (h : w.cell? ⟨g, 0, none⟩ = some (.slice A n c)) (hn : n ≤ 9223372036854775807) :
    Calls Tryd.prog 15 #[.slice (some ⟨g, 0, none⟩) 1 1] w fun e w' => e = .returned (.bool (decide (20 < n))) ∧ Below w.heap.size w w' :=
  (great1_any A n c g w h hn).mono fun _ _ ⟨he, hw⟩ => ⟨he, by rw [hw]; exact Below.refl _ _⟩
theorem great2_b (A : Option Addr) (n c : Nat) (B : Option Addr) (m d g : Nat) (w : World) (h : w.cell? ⟨g, 0, none⟩ = some (.slice A n c)) (h' : w.cell? ⟨g, 1, none⟩ = some (.slice B m d)) (hn : n ≤ 9223372036854775807) (hm : m ≤ 9223372036854775807) :
    Calls Tryd.prog 15 #[.slice (some ⟨g, 0, none⟩) 2 2] w fun e w' => e = .returned (.bool (decide (20 < n) || decide (20 < m))) ∧ Below w.heap.size w w' := by
  have := great_any g [(A, n, c), (B, m, d)] w (fun i x hx => by
    match i, hx with
    | 0, hx => simp at hx; subst hx; exact h
    | 1, hx => simp at hx; subst hx; exact h'
    | i + 2, hx => simp at hx) (by simp) (fun x hx => by simp at hx; rcases hx with rfl | rfl <;> assumption)
  refine Calls.mono this ?_
  rintro e w' ⟨rfl, rfl⟩
  exact ⟨by simp [greatL], Below.refl _ _⟩
theorem great3_b (A : Option Addr) (n c : Nat) (B : Option Addr) (m d : Nat) (C : Option Addr) (k e g : Nat) (w : World) (h : w.cell? ⟨g, 0, none⟩ = some (.slice A n c)) (h' : w.cell? ⟨g, 1, none⟩ = some (.slice B m d)) (h2 : w.cell? ⟨g, 2, none⟩ = some (.slice C k e)) (hn : n ≤ 9223372036854775807) (hm : m ≤ 9223372036854775807) (hk : k ≤ 9223372036854775807) :
    Calls Tryd.prog 15 #[.slice (some ⟨g, 0, none⟩) 3 3] w fun r w' => r = .returned (.bool (decide (20 < n) || (decide (20 < m) || decide (20 < k)))) ∧ Below w.heap.size w w' := by
  have := great_any g [(A, n, c), (B, m, d), (C, k, e)] w (fun i x hx => by
    match i, hx with
    | 0, hx => simp at hx; subst hx; exact h
    | 1, hx => simp at hx; subst hx; exact h'
    | 2, hx => simp at hx; subst hx; exact h2
    | i + 3, hx => simp at hx) (by simp) (fun x hx => by simp at hx; rcases hx with rfl | rfl | rfl <;> assumption)
  refine Calls.mono this ?_
  rintro r w' ⟨rfl, rfl⟩
  exact ⟨by simp [greatL], Below.refl _ _⟩

end Go.Proofs.YtdomakklbcpnjaaDoor
