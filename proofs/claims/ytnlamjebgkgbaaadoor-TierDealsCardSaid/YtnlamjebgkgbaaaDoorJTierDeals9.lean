/- Contract of a set's Or. Contract of a set's Less. -/
import Derived.Test.YtnlamjebgkgbaaaDoorJTierDeals8
import Derived.Test.YtnlamjebgkgbaaaDoorJTierDeals1
import Derived.Laws.MakeOwn
import Derived.Maps.AppendAt
namespace Go.Proofs.YtnlamjebgkgbaaaDoor
open Go.RowKit

theorem Own.made {W : World} {C : Array Value} {n : Nat} {base : Nat} (hb : base ≤ W.heap.size) (hn : n ≤ 2000000) (hC : C.size = n * 2) : Own (W.alloc (.cells C 54)) base (some ⟨W.heap.size, 0, none⟩) n [] :=
  World.ownsRow_made W C n hb (by simp only [maxLen]; omega) hC

theorem lt_alloc {W : World} {n : Nat} (h : n < W.heap.size) (o : Obj) : n < (W.alloc o).heap.size := by simp; omega
theorem kept_new {W w' : World} {x y : Value} {t : TypeId} (hb : Below (W.alloc (.cells #[x, y] t)).heap.size (W.alloc (.cells #[x, y] t)) w') :
    w'.cell? ⟨W.heap.size, 0, none⟩ = some x ∧ w'.cell? ⟨W.heap.size, 1, none⟩ = some y ∧ w'.frozen? ⟨W.heap.size, 0, none⟩ = false ∧ w'.frozen? ⟨W.heap.size, 1, none⟩ = false :=
  ⟨cell_keep hb (cell_new0 _ _ _ _), cell_keep hb (cell_new1 _ _ _ _), (hb.frozen (p := ⟨W.heap.size, 0, none⟩) (by simp)).trans (by simp [go_sem]), (hb.frozen (p := ⟨W.heap.size, 1, none⟩) (by simp)).trans (by simp [go_sem])⟩
/-- The row's block isn't this one. -/
def OffB (A : Option Addr) (X : Nat) : Prop := ∀ a, A = some a → a.block ≠ X
section
variable {L M T done : List (Int × Int)} {i j : Nat} {x y : Int × Int}
theorem mg_left (hi : i < L.length) (hx : L[i] = x) (hj : j < M.length) (hy : M[j] = y) (h : x.1 ≤ y.1) (he : done ++ mgL (L.drop i) (M.drop j) = T) : (done ++ [x]) ++ mgL (L.drop (i + 1)) (M.drop j) = T := by
  rw [drop_at hi, hx, drop_at hj, hy, mgL_le h, ← hy, ← drop_at hj] at he
  rw [← he]; simp
theorem mg_left' (hi : i < L.length) (hx : L[i] = x) (hj : ¬ j < M.length) (he : done ++ mgL (L.drop i) (M.drop j) = T) : (done ++ [x]) ++ mgL (L.drop (i + 1)) (M.drop j) = T := by
  rw [drop_at hi, hx, drop_end hj, mgL_nil'] at he
  rw [drop_end hj, mgL_nil', ← he]; simp
theorem mg_right (hi : i < L.length) (hx : L[i] = x) (hj : j < M.length) (hy : M[j] = y) (h : ¬ x.1 ≤ y.1) (he : done ++ mgL (L.drop i) (M.drop j) = T) : (done ++ [y]) ++ mgL (L.drop i) (M.drop (j + 1)) = T := by
  rw [drop_at hi, hx, drop_at hj, hy, mgL_gt h, ← hx, ← drop_at hi] at he
  rw [← he]; simp
theorem mg_right' (hi : ¬ i < L.length) (hj : j < M.length) (hy : M[j] = y) (he : done ++ mgL (L.drop i) (M.drop j) = T) : (done ++ [y]) ++ mgL (L.drop i) (M.drop (j + 1)) = T := by
  rw [drop_end hi, mgL_nil, drop_at hj, hy] at he
  rw [drop_end hi, mgL_nil, ← he]; simp
theorem mg_end (hi : ¬ i < L.length) (hj : ¬ j < M.length) (he : done ++ mgL (L.drop i) (M.drop j) = T) : done = T := by
  rw [drop_end hi, drop_end hj, mgL_nil] at he
  simpa using he
end

end Go.Proofs.YtnlamjebgkgbaaaDoor
namespace Go.Proofs.YtnlamjebgkgbaaaDoor
open Go.RowKit

section
variable {L M T R done : List (Int × Int)} {i j k : Nat} {x y : Int × Int} {t f : Int}
theorem le_start (hi : i < L.length) (hx : L[i] = x) (hs : skipL x.1 (M.drop j) = M.drop k) (he : done ++ lessL (L.drop i) (M.drop j) = T) : done ++ (cutL x.2 x.1 (M.drop k) ++ lessL (L.drop (i + 1)) (M.drop k)) = T := by
  rw [drop_at hi, hx, lessL_cons, hs] at he
  exact he
theorem le_end (hi : ¬ i < L.length) (he : done ++ lessL (L.drop i) (M.drop j) = T) : done = T := by
  rw [drop_end hi, lessL_nil] at he
  simpa using he
theorem cut_step (hk : k < M.length) (hy : M[k] = y) (h : y.1 < t) (he : done ++ (cutL t f (M.drop k) ++ R) = T) : (done ++ pieceL f y.1) ++ (cutL t (max f y.2) (M.drop (k + 1)) ++ R) = T := by
  rw [drop_at hk, hy, cutL_in h] at he
  rw [← he]; simp
theorem cut_end (h : ∀ hk : k < M.length, ¬ (M[k]).1 < t) (he : done ++ (cutL t f (M.drop k) ++ R) = T) : (done ++ pieceL f t) ++ R = T := by
  by_cases hk : k < M.length
  · rw [drop_at hk, cutL_out (h hk)] at he
    rw [← he]; simp
  · rw [drop_end hk, cutL_nil] at he
    rw [← he]; simp
theorem skip_step (hj : j < M.length) (hy : M[j] = y) (h : y.2 ≤ f) : skipL f (M.drop (j + 1)) = skipL f (M.drop j) := by
  rw [drop_at hj, hy, skipL_yes h]
theorem skip_end (h : ∀ hj : j < M.length, ¬ (M[j]).2 ≤ f) : skipL f (M.drop j) = M.drop j := by
  by_cases hj : j < M.length
  · rw [drop_at hj, skipL_no (h hj)]
  · rw [drop_end hj, skipL_nil]
end
theorem piece_yes {f t : Int} (h : f < t) : pieceL f t = [(f, t)] := if_pos h
theorem piece_no {f t : Int} (h : ¬ f < t) : pieceL f t = [] := if_neg h
theorem Own.offNew {w : World} {base : Nat} {A : Option Addr} {c : Nat} {L : List (Int × Int)} (h : Own w base A c L) : OffB A w.heap.size := by
  intro a ha
  subst ha
  have := (World.ownsRow.lt h a.block rfl).2
  omega

end Go.Proofs.YtnlamjebgkgbaaaDoor
