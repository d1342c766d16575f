/- Contract of a set's Less. -/
import Derived.Test.YtfpfdgljhcpkpaaGreatDoorD1
namespace Go.Proofs.YtfpfdgljhcpkpaaGreatDoor
open Go.RowKit

section
variable {L M T R done : List (Int × Int)} {i j k : Nat} {x y : Int × Int} {t f : Int}
theorem le_start (hi : i < L.length) (hx : L[i] = x) (hs : skipL x.1 (M.drop j) = M.drop k) (he : done ++ lessL (L.drop i) (M.drop j) = T) : done ++ (cutL x.2 x.1 (M.drop k) ++ lessL (L.drop (i + 1)) (M.drop k)) = T := by
  rw [drop_at hi, hx, lessL_cons, hs] at he
  exact he
theorem le_end (hi : ¬ i < L.length) (he : done ++ lessL (L.drop i) (M.drop j) = T) : done = T := by
  rw [drop_end hi, lessL_nil] at he
  simpa using he
theorem cut_step (hk : k < M.length) (hy : M[k] = y) (h : y.1 < t) (he : done ++ (cutL t f (M.drop k) ++ R) = T) : (done ++ pieceL f y.1) ++ (cutL t (max f y.2) (M.drop (k + 1)) ++ R) = T := by
  rw [drop_at hk, hy, cutL_in h] at he
  rw [← he]; simp
theorem cut_end (h : ∀ hk : k < M.length, ¬ (M[k]).1 < t) (he : done ++ (cutL t f (M.drop k) ++ R) = T) : (done ++ pieceL f t) ++ R = T := by
  by_cases hk : k < M.length
  · rw [drop_at hk, cutL_out (h hk)] at he
    rw [← he]; simp
  · rw [drop_end hk, cutL_nil] at he
    rw [← he]; simp
theorem skip_step (hj : j < M.length) (hy : M[j] = y) (h : y.2 ≤ f) : skipL f (M.drop (j + 1)) = skipL f (M.drop j) := by
  rw [drop_at hj, hy, skipL_yes h]
theorem skip_end (h : ∀ hj : j < M.length, ¬ (M[j]).2 ≤ f) : skipL f (M.drop j) = M.drop j := by
  by_cases hj : j < M.length
  · rw [drop_at hj, skipL_no (h hj)]
  · rw [drop_end hj, skipL_nil]
end
theorem piece_yes {f t : Int} (h : f < t) : pieceL f t = [(f, t)] := if_pos h
theorem piece_no {f t : Int} (h : ¬ f < t) : pieceL f t = [] := if_neg h
theorem Own.offNew {w : World} {base : Nat} {A : Option Addr} {c : Nat} {L : List (Int × Int)} (h : Own w base A c L) : OffB A w.heap.size := by
  intro a ha
  subst ha
  have := (World.ownsRow.lt h a.block rfl).2
  omega

end Go.Proofs.YtfpfdgljhcpkpaaGreatDoor
