/- Rows of folded spans, and their two sorts. Contract of spec's Fold. -/
import Derived.Test.YtnlamjebgkgbaaaGreatDoorJRangesTexts1
import Derived.Test.YtnlamjebgkgbaaaGreatDoorJRangesTexts19
import Derived.Test.YtnlamjebgkgbaaaGreatDoorJRangesTexts12
import Derived.Outline
namespace Go.Proofs.YtnlamjebgkgbaaaGreatDoor
open Go.RowKit Go.Shelf Go.Sort

abbrev FE := (Int × Int) × Nat
def encF (x : FE) : List Value := [.int .i64 x.1.1, .int .i64 x.1.2, .int .i64 (x.2 : Int)]
def feCells (L : List FE) : List Value := L.flatMap encF
theorem feCells_cons (x : FE) (r : List FE) : feCells (x :: r) = .int .i64 x.1.1 :: .int .i64 x.1.2 :: .int .i64 (x.2 : Int) :: feCells r := rfl
theorem feCells_length : ∀ (L : List FE), (feCells L).length = L.length * 3
  | [] => rfl
  | x :: r => by rw [feCells_cons]; simp [feCells_length r]; omega
theorem feCells_append (a b : List FE) : feCells (a ++ b) = feCells a ++ feCells b := by unfold feCells; simp
theorem feCells_at : ∀ (L : List FE) (k : Nat) (x : FE), L[k]? = some x → (feCells L)[k * 3]? = some (.int .i64 x.1.1) ∧ (feCells L)[k * 3 + 1]? = some (.int .i64 x.1.2) ∧ (feCells L)[k * 3 + 2]? = some (.int .i64 (x.2 : Int))
  | [], k, x, h => by simp at h
  | y :: r, 0, x, h => by simp at h; subst h; simp [feCells_cons]
  | y :: r, k + 1, x, h => by
    have := feCells_at r k x (by simpa using h)
    rw [feCells_cons, show (k + 1) * 3 = k * 3 + 3 from by omega]
    simpa using this
theorem feCells_set : ∀ (L : List FE) (k : Nat) (x : FE), feCells (L.set k x) = (((feCells L).set (k * 3) (.int .i64 x.1.1)).set (k * 3 + 1) (.int .i64 x.1.2)).set (k * 3 + 2) (.int .i64 (x.2 : Int))
  | [], k, x => by simp [feCells]
  | y :: r, 0, x => by simp [feCells_cons]
  | y :: r, k + 1, x => by
    rw [List.set_cons_succ, feCells_cons, feCells_cons, feCells_set r k x, show (k + 1) * 3 = k * 3 + 3 from by omega]
    simp
/-- A slice that reads as a list of folded spans. -/
structure SpF (w : World) (A : Option Addr) (L : List FE) : Prop where
  at' : ∀ k (h : k < L.length), ∃ b off, A = some ⟨b, off, none⟩ ∧ b < w.heap.size ∧ w.cell? ⟨b, off + k * 3, none⟩ = some (.int .i64 (L[k]).1.1) ∧ w.cell? ⟨b, off + k * 3 + 1, none⟩ = some (.int .i64 (L[k]).1.2) ∧ w.cell? ⟨b, off + k * 3 + 2, none⟩ = some (.int .i64 ((L[k]).2 : Int))
theorem SpF.below {w w' : World} {A : Option Addr} {L : List FE} (h : SpF w A L) (hb : Below w.heap.size w w') : SpF w' A L :=
  ⟨fun k hk => by
    obtain ⟨b, off, e, hl, h1, h2, h3⟩ := h.at' k hk
    exact ⟨b, off, e, Nat.lt_of_lt_of_le hl hb.size, cell_keep hb h1, cell_keep hb h2, cell_keep hb h3⟩⟩
theorem grownBy_sortedF {w : World} {g n : Nat} {os : Array Obj} (d : Array FE) : w.grownBy (sortWorldK encF 3 w g 0 n d os) (some g) := by
  unfold sortWorldK putRowK
  refine ⟨rfl, rfl, rfl, by simp, fun k hk hne => ?_⟩
  rw [heap_grow_old _ _ (by simpa using hk)]
  have : g ≠ k := fun e => hne (by rw [e])
  simp [putRow, mapBlock, Sort.ahead, Array.getElem?_modify, this]
def cfF (x y : FE) : Int := Lib.compareInt x.1.1 y.1.1
def cfP (x y : FE) : Int := Lib.compareInt (x.2 : Int) (y.2 : Int)
theorem cmp_lt (a b : Int) : decide (Lib.compareInt a b < 0) = decide (a < b) := by
  unfold Lib.compareInt
  by_cases h1 : a < b
  · simp [h1]
  · by_cases h2 : b < a <;> simp [h1, h2]
theorem ltF (x y : FE) : ltOf cfF x y = decide (x.1.1 < y.1.1) := by unfold ltOf cfF; exact cmp_lt _ _
theorem ltP (x y : FE) : ltOf cfP x y = decide ((x.2 : Int) < y.2) := by unfold ltOf cfP; exact cmp_lt _ _
theorem swoF : SWO (ltOf cfF) where
  irrefl x := by rw [ltF]; simp
  trans x y z h1 h2 := by rw [ltF] at *; simp at *; omega
  ntrans x y z h1 h2 := by rw [ltF] at *; simp at *; omega
theorem swoP : SWO (ltOf cfP) where
  irrefl x := by rw [ltP]; simp
  trans x y z h1 h2 := by rw [ltP] at *; simp at *; omega
  ntrans x y z h1 h2 := by rw [ltP] at *; simp at *; omega
theorem perm_of {d' : Array FE} {L : List FE} (hp : PermIn 0 L.length L.toArray d') : d'.size = L.length ∧ d'.toList.Perm L := by
  have hsz : d'.size = L.length := by have := hp.1; simpa using this
  have := hp.2.2
  have e1 : (L.toArray).size = L.length := by simp
  have x1 : d'.extract 0 L.length = d' := by rw [← hsz]; simp
  have x2 : (L.toArray).extract 0 L.length = L.toArray := by rw [← e1]; simp
  rw [x1, x2] at this
  exact ⟨hsz, by simpa using this⟩
/-- What a sort of a row of the call's own leaves. -/
def SortFPost (R : FE → FE → Prop) (A : Option Addr) (L : List FE) (w0 : World) (e : Ending) (w' : World) : Prop :=
  e = .returned (.tuple #[]) ∧ ∃ M : List FE, M.Perm L ∧ M.Pairwise R ∧ SpF w' A M ∧ Below w0.heap.size w0 w'
end Go.Proofs.YtnlamjebgkgbaaaGreatDoor
namespace Go.Proofs.YtnlamjebgkgbaaaGreatDoor
open Go.RowKit Go.Shelf Go.Sort

theorem made_fe (n : Nat) : (madeCells (Value.agg #[.int .i64 0, .int .i64 0, .int .i64 0]).cells (n * 3)).toList = feCells (List.replicate n ((0, 0), 0)) := by
  refine List.ext_getElem? fun j => ?_
  by_cases hj : j < n * 3
  · have hk : (List.replicate n (((0, 0), 0) : FE))[j / 3]? = some ((0, 0), 0) := by
      rw [List.getElem?_replicate, if_pos (by omega)]
    obtain ⟨a, b, c⟩ := feCells_at _ _ _ hk
    have hm : j % 3 = 0 ∨ j % 3 = 1 ∨ j % 3 = 2 := by omega
    have e : (madeCells (Value.agg #[.int .i64 0, .int .i64 0, .int .i64 0]).cells (n * 3)).toList[j]? = some (.int .i64 0) := by
      have hc : (Value.agg #[.int .i64 0, .int .i64 0, .int .i64 0]).cells = #[.int .i64 0, .int .i64 0, .int .i64 0] := rfl
      rw [hc]
      simp [madeCells, hj]
      rcases hm with h | h | h <;> rw [h] <;> rfl
    rw [e]
    rcases hm with h | h | h
    · rw [show j / 3 * 3 = j from by omega] at a; exact a.symm
    · rw [show j / 3 * 3 + 1 = j from by omega] at b; exact b.symm
    · rw [show j / 3 * 3 + 2 = j from by omega] at c; exact c.symm
  · rw [List.getElem?_eq_none (by simp [madeCells]; omega), List.getElem?_eq_none (by rw [feCells_length]; simp; omega)]
/-- The first k spans with their places, and nothing yet behind. -/
def upTo (L : List (Int × Int)) (k : Nat) : List FE := L.zipIdx.take k ++ List.replicate (L.length - k) ((0, 0), 0)
theorem upTo_length (L : List (Int × Int)) {k : Nat} (h : k ≤ L.length) : (upTo L k).length = L.length := by unfold upTo; simp; omega
theorem upTo_zero (L : List (Int × Int)) : upTo L 0 = List.replicate L.length ((0, 0), 0) := by simp [upTo]
theorem upTo_all (L : List (Int × Int)) : upTo L L.length = L.zipIdx := by simp [upTo]; exact List.take_of_length_le (by simp)
theorem upTo_step (L : List (Int × Int)) {k : Nat} (h : k < L.length) : (upTo L k).set k (L[k], k) = upTo L (k + 1) := by
  refine List.ext_getElem? fun j => ?_
  unfold upTo
  rw [List.getElem?_set]
  by_cases hj : k = j
  · subst hj
    have : k < (List.take k L.zipIdx ++ List.replicate (L.length - k) (((0, 0), 0) : FE)).length := by simp; omega
    rw [if_pos rfl, if_pos this, List.getElem?_append_left (by simp; omega), List.getElem?_take_of_lt (by omega)]
    simp [h]
  · rw [if_neg hj]
    by_cases hl : j < k
    · rw [List.getElem?_append_left (by simp; omega), List.getElem?_append_left (by simp; omega), List.getElem?_take_of_lt hl, List.getElem?_take_of_lt (by omega)]
    · rw [List.getElem?_append_right (by simp; omega), List.getElem?_append_right (by simp; omega)]
      simp [List.getElem?_replicate]
      split <;> split <;> first | rfl | omega
theorem nil_or_snocF (L : List FE) : L = [] ∨ ∃ init l, L = init ++ [l] := by
  rcases List.eq_nil_or_concat L with h | ⟨i, l, h⟩
  · exact .inl h
  · exact .inr ⟨i, l, by rw [h, List.concat_eq_append]⟩
/-- The folded spans of a list. -/
def FoldPost (g : Int) (L : List (Int × Int)) (w : World) (e : Ending) (w' : World) : Prop := ∃ O, Folded g L O ∧ RetSp (O.map Prod.fst) w e w'
end Go.Proofs.YtnlamjebgkgbaaaGreatDoor
