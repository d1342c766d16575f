/- Plain laws of the texts of ranges: numbers, items, trimmed pieces. -/
import Derived.Test.YtnlamjebgkgbaaaDoorJTierDeals1
namespace Go.Proofs.YtnlamjebgkgbaaaDoor

def digB (c : UInt8) : Bool := decide (48 ≤ c.toNat) && decide (c.toNat ≤ 57)
/-- The number of digits, a number being at hand already. -/
def numFrom (acc : Int) : List UInt8 → Option Int
  | [] => some acc
  | c :: r => if digB c = true then numFrom (acc * 10 + ((c.toNat : Int) - 48)) r else none
/-- The number of 1 to 18 digits. -/
def numL (l : List UInt8) : Option Int := if l.length < 1 ∨ 18 < l.length then none else numFrom 0 l
theorem numFrom_step {acc : Int} {l : List UInt8} {k : Nat} (h : k < l.length) : numFrom acc (l.drop k) = if digB l[k] = true then numFrom (acc * 10 + ((l[k].toNat : Int) - 48)) (l.drop (k + 1)) else none := by
  rw [List.drop_eq_getElem_cons h, numFrom]
theorem numFrom_range : ∀ (l : List UInt8) (acc x : Int), 0 ≤ acc → numFrom acc l = some x → 0 ≤ x ∧ x < (acc + 1) * 10 ^ l.length
  | [], acc, x, h0, h => by simp [numFrom] at h; subst h; simp; omega
  | c :: r, acc, x, h0, h => by
    rw [numFrom] at h
    split at h
    · rename_i hd
      simp [digB] at hd
      have hc : 0 ≤ (c.toNat : Int) - 48 ∧ (c.toNat : Int) - 48 ≤ 9 := by omega
      have h1 := numFrom_range r _ x (by omega) h
      refine ⟨h1.1, Int.lt_of_lt_of_le h1.2 ?_⟩
      have hp : (0 : Int) ≤ 10 ^ r.length := Int.le_of_lt (Int.pow_pos (by decide))
      rw [List.length_cons, Int.pow_succ]
      have h2 : acc * 10 + ((c.toNat : Int) - 48) + 1 ≤ (acc + 1) * 10 := by omega
      calc (acc * 10 + ((c.toNat : Int) - 48) + 1) * 10 ^ r.length ≤ ((acc + 1) * 10) * 10 ^ r.length := Int.mul_le_mul_of_nonneg_right h2 hp
        _ = (acc + 1) * (10 ^ r.length * 10) := by rw [Int.mul_assoc, Int.mul_comm 10]
    · cases h
theorem numL_range {l : List UInt8} {x : Int} (h : numL l = some x) : 0 ≤ x ∧ x ≤ 999999999999999999 := by
  unfold numL at h
  split at h
  · cases h
  · rename_i hl
    have h1 := numFrom_range l 0 x (by omega) h
    have hl' : l.length ≤ 18 := by omega
    have hp : (10 : Int) ^ l.length ≤ 10 ^ 18 := by
      have := Nat.pow_le_pow_right (n := 10) (by decide) hl'
      exact_mod_cast this
    have : (10 : Int) ^ 18 = 1000000000000000000 := by decide
    rw [this] at hp
    omega
theorem numL_nil : numL [] = none := rfl
/-- What is ahead of, and behind, the first '-'. -/
def cutD : List UInt8 → Option (List UInt8 × List UInt8)
  | [] => none
  | c :: r => if c = 45 then some ([], r) else (cutD r).map fun p => (c :: p.1, p.2)
theorem cutD_none : ∀ {l : List UInt8}, (∀ c ∈ l, c ≠ 45) → cutD l = none
  | [], _ => rfl
  | c :: r, h => by
    rw [cutD, if_neg (h c (List.mem_cons_self ..)), cutD_none (fun d hd => h d (List.mem_cons_of_mem _ hd))]; rfl
theorem cutD_some : ∀ {a b : List UInt8}, (∀ c ∈ a, c ≠ 45) → cutD (a ++ 45 :: b) = some (a, b)
  | [], b, _ => by simp [cutD]
  | c :: a, b, h => by
    rw [List.cons_append, cutD, if_neg (h c (List.mem_cons_self ..)), cutD_some (fun d hd => h d (List.mem_cons_of_mem _ hd))]; rfl
/-- The range of an item without blanks. -/
def itemL (l : List UInt8) : Option (Int × Int) :=
  match cutD l with
  | none => none
  | some ([], b) => (numL b).map fun y => (-1, y)
  | some (c :: a, []) => (numL (c :: a)).map fun x => (x, -1)
  | some (c :: a, d :: b) => match numL (c :: a), numL (d :: b) with
    | some x, some y => if x ≤ y then some (x, y) else none
    | _, _ => none
theorem itemL_right {l : List UInt8} {x : Int × Int} (h : itemL l = some x) : rightR x = true := by
  unfold itemL at h
  split at h
  · cases h
  · rename_i b _
    cases hb : numL b with
    | none => rw [hb] at h; cases h
    | some y =>
      rw [hb] at h; simp at h; subst h
      have := numL_range hb
      rw [rightR_iff]; exact ⟨(by decide : (-1 : Int) ≤ 999999999999999999), this.2, .inl ⟨rfl, this.1⟩⟩
  · rename_i c a _
    cases hb : numL (c :: a) with
    | none => rw [hb] at h; cases h
    | some y =>
      rw [hb] at h; simp at h; subst h
      have := numL_range hb
      rw [rightR_iff]; exact ⟨this.2, (by decide : (-1 : Int) ≤ 999999999999999999), .inr ⟨this.1, .inl rfl⟩⟩
  · rename_i c a d b _
    cases hb : numL (c :: a) with
    | none => rw [hb] at h; simp at h
    | some y =>
      cases hb2 : numL (d :: b) with
      | none => rw [hb, hb2] at h; simp at h
      | some z =>
        rw [hb, hb2] at h
        simp at h
        obtain ⟨h1, rfl⟩ := h
        have := numL_range hb
        have := numL_range hb2
        rw [rightR_iff]; simp only; omega
/-- A text's pieces, parted at commas. -/
def splitC : List UInt8 → List (List UInt8)
  | [] => [[]]
  | c :: r => if c = 44 then [] :: splitC r else
    match splitC r with
    | [] => [[c]]
    | p :: q => (c :: p) :: q
theorem splitC_ne (l : List UInt8) : splitC l ≠ [] := by
  cases l with
  | nil => simp [splitC]
  | cons c r =>
    rw [splitC]
    split
    · simp
    · split <;> simp
theorem splitC_none : ∀ {l : List UInt8}, (∀ c ∈ l, c ≠ 44) → splitC l = [l]
  | [], _ => rfl
  | c :: r, h => by
    rw [splitC, if_neg (h c (List.mem_cons_self ..)), splitC_none (fun d hd => h d (List.mem_cons_of_mem _ hd))]
theorem splitC_some : ∀ {a b : List UInt8}, (∀ c ∈ a, c ≠ 44) → splitC (a ++ 44 :: b) = a :: splitC b
  | [], b, _ => by simp [splitC]
  | c :: a, b, h => by
    rw [List.cons_append, splitC, if_neg (h c (List.mem_cons_self ..)), splitC_some (fun d hd => h d (List.mem_cons_of_mem _ hd))]
theorem splitC_length : ∀ (l : List UInt8), (splitC l).length ≤ l.length + 1
  | [] => by simp [splitC]
  | c :: r => by
    have := splitC_length r
    rw [splitC]
    split
    · simp; omega
    · split
      · simp
      · rename_i p q h; rw [h] at this; simp at this ⊢; omega
def blankB (c : UInt8) : Bool := c == 32 || c == 9
def trimL (l : List UInt8) : List UInt8 := (l.reverse.dropWhile blankB).reverse.dropWhile blankB
/-- The items that are no blanks. -/
def itemsL (ps : List (List UInt8)) : List (List UInt8) := (ps.map trimL).filter fun p => !p.isEmpty
/-- The ranges of items; none: one of them is none's. -/
def rangesL : List (List UInt8) → Option (List (Int × Int))
  | [] => some []
  | p :: r => match itemL p, rangesL r with
    | some x, some y => some (x :: y)
    | _, _ => none
theorem rangesL_snoc : ∀ (ps : List (List UInt8)) (p : List UInt8), rangesL (ps ++ [p]) = match rangesL ps, itemL p with | some y, some x => some (y ++ [x]) | _, _ => none
  | [], p => by simp [rangesL]; cases itemL p <;> rfl
  | q :: r, p => by
    rw [List.cons_append, rangesL, rangesL_snoc r p, rangesL]
    cases itemL q <;> cases rangesL r <;> cases itemL p <;> rfl
theorem rangesL_append (a b : List (List UInt8)) (h : rangesL a = none) : rangesL (a ++ b) = none := by
  induction a with
  | nil => simp [rangesL] at h
  | cons p r ih =>
    rw [List.cons_append, rangesL]
    rw [rangesL] at h
    cases hp : itemL p with
    | none => rfl
    | some x =>
      rw [hp] at h
      cases hr : rangesL r with
      | none => rw [ih hr]
      | some y => rw [hr] at h; cases h
/-- The word that stands ahead of the ranges, whatever its letters' size. -/
def lowB (c : UInt8) : UInt8 := if 65 ≤ c.toNat ∧ c.toNat ≤ 90 then c + 32 else c
def headB (l : List UInt8) : Bool := decide (6 ≤ l.length) && decide ((l.take 6).map lowB = [98, 121, 116, 101, 115, 61])
/-- The ranges of a value, and the number of what is wrong. -/
def parseL (l : List UInt8) : List (Int × Int) × Int :=
  if headB l = true then
    match rangesL (itemsL (splitC (l.drop 6))) with
    | none => ([], 2)
    | some [] => ([], 2)
    | some (x :: r) => if 64 < (x :: r).length then ([], 4) else (x :: r, 0)
  else ([], 2)
end Go.Proofs.YtnlamjebgkgbaaaDoor
