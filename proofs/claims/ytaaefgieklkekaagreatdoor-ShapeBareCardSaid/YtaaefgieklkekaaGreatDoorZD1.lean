/- Contract of a set's Or. Contract of a set's Less. -/
import Derived.Test.YtaaefgieklkekaaGreatDoorZB4
import Derived.Test.YtaaefgieklkekaaGreatDoorZM1
import Derived.Laws.MakeOwn
import Derived.Maps.AppendAt
namespace Go.Proofs.YtaaefgieklkekaaGreatDoor
open Go.RowKit

/-- A make of no spans, with room for some. -/
theorem made_spans (a b : Nat) (h : a + b ≤ 1000000) : ∃ C : Array Value, C.size = (a + b) * 2 ∧ ∀ W : World, (Instr.makeSlice 47 (.int .i64 0) (.int .i64 ((a : Int) + (b : Int)))).run Tryz.prog W = .ok (.slice (some ⟨W.heap.size, 0, none⟩) 0 (a + b)) (W.alloc (.cells C 55)) := by
  obtain ⟨i0, hi, hz0, hz1, hz2⟩ := info_parts Tryz.spanInfo
  refine ⟨madeCells (Value.agg #[.int .i64 0, .int .i64 0]).cells ((a + b) * 2), size_madeCells _ _, fun W => ?_⟩
  have := run_make (P := Tryz.prog) W 47 55 i0 _ Tryz.underlying47 hi hz0 .i64 .i64 0 ((a : Int) + (b : Int)) (by omega) (by omega) (by rw [hz2]; omega) (by omega)
  rw [hz1] at this
  have e : ((a : Int) + (b : Int)).toNat = a + b := by omega
  rw [e] at this
  exact this
theorem Own.made {W : World} {C : Array Value} {n : Nat} {base : Nat} (hb : base ≤ W.heap.size) (hn : n ≤ 2000000) (hC : C.size = n * 2) : Own (W.alloc (.cells C 55)) base (some ⟨W.heap.size, 0, none⟩) n [] :=
  World.ownsRow_made W C n hb (by simp only [maxLen]; omega) hC

theorem lt_alloc {W : World} {n : Nat} (h : n < W.heap.size) (o : Obj) : n < (W.alloc o).heap.size := by simp; omega
theorem kept_new {W w' : World} {x y : Value} {t : TypeId} (hb : Below (W.alloc (.cells #[x, y] t)).heap.size (W.alloc (.cells #[x, y] t)) w') :
    w'.cell? ⟨W.heap.size, 0, none⟩ = some x ∧ w'.cell? ⟨W.heap.size, 1, none⟩ = some y ∧ w'.frozen? ⟨W.heap.size, 0, none⟩ = false ∧ w'.frozen? ⟨W.heap.size, 1, none⟩ = false :=
  ⟨cell_keep hb (cell_new0 _ _ _ _), cell_keep hb (cell_new1 _ _ _ _), (hb.frozen (p := ⟨W.heap.size, 0, none⟩) (by simp)).trans (by simp [go_sem]), (hb.frozen (p := ⟨W.heap.size, 1, none⟩) (by simp)).trans (by simp [go_sem])⟩
/-- The row's block isn't this one. -/
def OffB (A : Option Addr) (X : Nat) : Prop := ∀ a, A = some a → a.block ≠ X
/-- append of one span to a row of the call's own; where the row lies then. -/
theorem wpl_append_at {w0 w : World} {ops : Array Oper} {rest : List Oper} {o : Oper} {a : Act} {Q : Exit → Act → World → Prop} (hgd : o.guard = none) (s x : Operand)
    (ho : o.op = .call { callee := .builtin .append, args := #[s, x], argTypes := #[47, 47] })
    (A : Option Addr) (c : Nat) (L : List (Int × Int)) (hs : a.eval s = .slice A L.length c) (hown : Own w w0.heap.size A c L)
    (g : Nat) (x1 x2 : Int) (hx : a.eval x = .slice (some ⟨g, 0, none⟩) 1 1) (hc : w.cell? ⟨g, 0, none⟩ = some (.int .i64 x1)) (hc' : w.cell? ⟨g, 1, none⟩ = some (.int .i64 x2))
    (hl : L.length ≤ 2000000) (hbel : Below w0.heap.size w0 w) (X : Nat) (hX : OffB A X) (hXl : X < w.heap.size)
    (h : ∀ A' c' w', Own w' w0.heap.size A' c' (L ++ [(x1, x2)]) → Below w0.heap.size w0 w' → OffB A' X → (∀ o, w'.cell? ⟨X, o, none⟩ = w.cell? ⟨X, o, none⟩) → X < w'.heap.size → wpList Tryz.prog ops Q rest (a.put o.dst (.slice A' (L.length + 1) c')) w') : wpList Tryz.prog ops Q (o :: rest) a w := by
  obtain ⟨i0, hi, hz0, hz1, hz2⟩ := info_parts Tryz.spanInfo
  refine wpList_append_own_at w hgd s x _ ho w0.heap.size 55 i0 _ 2 16 Tryz.underlying47 hi hz0 hz1 hz2 rfl (by decide) _ _ _ hs hown ⟨g, 0, none⟩ 1 1 [.int .i64 x1, .int .i64 x2] hx rfl ?_ ?_ (by simp only [maxLen]; omega) (by omega) hbel.size ?_
  · intro j u hj
    have hadd : ∀ j, (⟨g, 0, none⟩ : Addr).add j = ⟨g, j, none⟩ := fun j => by unfold Addr.add; split <;> simp_all
    rw [hadd]
    match j, hj with
    | 0, hj => simp at hj; rw [← hj]; exact hc
    | 1, hj => simp at hj; rw [← hj]; exact hc'
    | j + 2, hj => simp at hj
  · intro u hu
    simp at hu
    rcases hu with rfl | rfl <;> rfl
  · intro v' w' h1 h2 _ h4
    have hlt := World.ownsRow.lt hown
    have hbel' : Below w0.heap.size w0 w' := hbel.grown h2 hbel.size (fun k hk => (hlt k hk).1)
    have hlen : (L ++ [(x1, x2)]).length = L.length + 1 := by simp
    have hsp : spCells L ++ [.int .i64 x1, .int .i64 x2] = spCells (L ++ [(x1, x2)]) := by rw [spCells_append]; rfl
    rw [hsp] at h1
    have hform : ∃ A' c', v' = .slice A' (L.length + 1) c' := by
      rcases h1.2 with ⟨_, hn⟩ | ⟨g', cap, cur, hv, _⟩
      · omega
      · exact ⟨_, _, hv⟩
    obtain ⟨A', c', rfl⟩ := hform
    have hne : (Value.slice A L.length c).ownBlock ≠ some X := by
      cases A with
      | none => intro e; cases e
      | some a => intro e; injection e with e; exact hX a rfl e
    refine h A' c' w' (by unfold Own; rw [hlen]; exact h1) hbel' ?_ ?_ ?_
    · intro a' ha' e
      subst ha'
      have e1 : (Value.slice (some a') (L.length + 1) c').ownBlock = some a'.block := rfl
      rw [e1, e] at h4
      rcases h4 with h4 | h4
      · exact hne h4.symm
      · injection h4 with h4; omega
    · intro o
      have := h2.block X hXl (fun e => hne e.symm)
      unfold World.cell?
      rw [this]
    · have := h2.size
      omega

section
variable {L M T done : List (Int × Int)} {i j : Nat} {x y : Int × Int}
theorem mg_left (hi : i < L.length) (hx : L[i] = x) (hj : j < M.length) (hy : M[j] = y) (h : x.1 ≤ y.1) (he : done ++ mgL (L.drop i) (M.drop j) = T) : (done ++ [x]) ++ mgL (L.drop (i + 1)) (M.drop j) = T := by
  rw [drop_at hi, hx, drop_at hj, hy, mgL_le h, ← hy, ← drop_at hj] at he
  rw [← he]; simp
theorem mg_left' (hi : i < L.length) (hx : L[i] = x) (hj : ¬ j < M.length) (he : done ++ mgL (L.drop i) (M.drop j) = T) : (done ++ [x]) ++ mgL (L.drop (i + 1)) (M.drop j) = T := by
  rw [drop_at hi, hx, drop_end hj, mgL_nil'] at he
  rw [drop_end hj, mgL_nil', ← he]; simp
theorem mg_right (hi : i < L.length) (hx : L[i] = x) (hj : j < M.length) (hy : M[j] = y) (h : ¬ x.1 ≤ y.1) (he : done ++ mgL (L.drop i) (M.drop j) = T) : (done ++ [y]) ++ mgL (L.drop i) (M.drop (j + 1)) = T := by
  rw [drop_at hi, hx, drop_at hj, hy, mgL_gt h, ← hx, ← drop_at hi] at he
  rw [← he]; simp
theorem mg_right' (hi : ¬ i < L.length) (hj : j < M.length) (hy : M[j] = y) (he : done ++ mgL (L.drop i) (M.drop j) = T) : (done ++ [y]) ++ mgL (L.drop i) (M.drop (j + 1)) = T := by
  rw [drop_end hi, mgL_nil, drop_at hj, hy] at he
  rw [drop_end hi, mgL_nil, ← he]; simp
theorem mg_end (hi : ¬ i < L.length) (hj : ¬ j < M.length) (he : done ++ mgL (L.drop i) (M.drop j) = T) : done = T := by
  rw [drop_end hi, drop_end hj, mgL_nil] at he
  simpa using he
end

end Go.Proofs.YtaaefgieklkekaaGreatDoor
namespace Go.Proofs.YtaaefgieklkekaaGreatDoor
open Go.RowKit

section
variable {L M T R done : List (Int × Int)} {i j k : Nat} {x y : Int × Int} {t f : Int}
theorem le_start (hi : i < L.length) (hx : L[i] = x) (hs : skipL x.1 (M.drop j) = M.drop k) (he : done ++ lessL (L.drop i) (M.drop j) = T) : done ++ (cutL x.2 x.1 (M.drop k) ++ lessL (L.drop (i + 1)) (M.drop k)) = T := by
  rw [drop_at hi, hx, lessL_cons, hs] at he
  exact he
theorem le_end (hi : ¬ i < L.length) (he : done ++ lessL (L.drop i) (M.drop j) = T) : done = T := by
  rw [drop_end hi, lessL_nil] at he
  simpa using he
theorem cut_step (hk : k < M.length) (hy : M[k] = y) (h : y.1 < t) (he : done ++ (cutL t f (M.drop k) ++ R) = T) : (done ++ pieceL f y.1) ++ (cutL t (max f y.2) (M.drop (k + 1)) ++ R) = T := by
  rw [drop_at hk, hy, cutL_in h] at he
  rw [← he]; simp
theorem cut_end (h : ∀ hk : k < M.length, ¬ (M[k]).1 < t) (he : done ++ (cutL t f (M.drop k) ++ R) = T) : (done ++ pieceL f t) ++ R = T := by
  by_cases hk : k < M.length
  · rw [drop_at hk, cutL_out (h hk)] at he
    rw [← he]; simp
  · rw [drop_end hk, cutL_nil] at he
    rw [← he]; simp
theorem skip_step (hj : j < M.length) (hy : M[j] = y) (h : y.2 ≤ f) : skipL f (M.drop (j + 1)) = skipL f (M.drop j) := by
  rw [drop_at hj, hy, skipL_yes h]
theorem skip_end (h : ∀ hj : j < M.length, ¬ (M[j]).2 ≤ f) : skipL f (M.drop j) = M.drop j := by
  by_cases hj : j < M.length
  · rw [drop_at hj, skipL_no (h hj)]
  · rw [drop_end hj, skipL_nil]
end
theorem piece_yes {f t : Int} (h : f < t) : pieceL f t = [(f, t)] := if_pos h
theorem piece_no {f t : Int} (h : ¬ f < t) : pieceL f t = [] := if_neg h
theorem Own.offNew {w : World} {base : Nat} {A : Option Addr} {c : Nat} {L : List (Int × Int)} (h : Own w base A c L) : OffB A w.heap.size := by
  intro a ha
  subst ha
  have := (World.ownsRow.lt h a.block rfl).2
  omega

end Go.Proofs.YtaaefgieklkekaaGreatDoor
