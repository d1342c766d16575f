/- Contract of the reference's Parse. -/
import Derived.Test.YtnlamjebgkgbaaaGreatDoorJRangesTexts20
import Derived.Test.YtnlamjebgkgbaaaGreatDoorJRangesTexts22
namespace Go.Proofs.YtnlamjebgkgbaaaGreatDoor
open Go.RowKit

/-- What is left to do: the ranges at hand, and those of the items to come. -/
def restT (ys : List (Int × Int)) (l : List UInt8) : Option (List (Int × Int)) := (rangesL (itemsL (splitC l))).map (ys ++ ·)
theorem rangesL_cons (p : List UInt8) (r : List (List UInt8)) : rangesL (p :: r) = match itemL p, rangesL r with | some x, some y => some (x :: y) | _, _ => none := rfl
theorem itemsL_cons (p : List UInt8) (r : List (List UInt8)) : itemsL (p :: r) = (if (trimL p).isEmpty = true then [] else [trimL p]) ++ itemsL r := by
  have := itemsL_append [p] r
  rw [List.singleton_append] at this
  rw [this]
  congr 1
  have h2 := itemsL_snoc [] p
  simpa [itemsL] using h2
theorem restT_blank {ys : List (Int × Int)} {a b : List UInt8} (h : ∀ c ∈ a, c ≠ 44) (ht : (trimL a).isEmpty = true) : restT ys (a ++ 44 :: b) = restT ys b := by
  unfold restT
  rw [splitC_some h, itemsL_cons, if_pos ht, List.nil_append]
theorem restT_bad {ys : List (Int × Int)} {a b : List UInt8} (h : ∀ c ∈ a, c ≠ 44) (ht : (trimL a).isEmpty = false) (hi : itemL (trimL a) = none) : restT ys (a ++ 44 :: b) = none := by
  unfold restT
  rw [splitC_some h, itemsL_cons, ht]
  simp [rangesL, hi]
theorem restT_good {ys : List (Int × Int)} {a b : List UInt8} {x : Int × Int} (h : ∀ c ∈ a, c ≠ 44) (ht : (trimL a).isEmpty = false) (hi : itemL (trimL a) = some x) : restT ys (a ++ 44 :: b) = restT (ys ++ [x]) b := by
  unfold restT
  rw [splitC_some h, itemsL_cons, ht]
  simp only [Bool.false_eq_true, if_false, List.singleton_append]
  rw [rangesL_cons, hi]
  cases rangesL (itemsL (splitC b)) <;> simp
theorem restL_blank {ys : List (Int × Int)} {a : List UInt8} (h : ∀ c ∈ a, c ≠ 44) (ht : (trimL a).isEmpty = true) : restT ys a = some ys := by
  unfold restT
  rw [splitC_none h, itemsL_cons, if_pos ht]
  simp [itemsL, rangesL]
theorem restL_bad {ys : List (Int × Int)} {a : List UInt8} (h : ∀ c ∈ a, c ≠ 44) (ht : (trimL a).isEmpty = false) (hi : itemL (trimL a) = none) : restT ys a = none := by
  unfold restT
  rw [splitC_none h, itemsL_cons, ht]
  simp [itemsL, rangesL, hi]
theorem restL_good {ys : List (Int × Int)} {a : List UInt8} {x : Int × Int} (h : ∀ c ∈ a, c ≠ 44) (ht : (trimL a).isEmpty = false) (hi : itemL (trimL a) = some x) : restT ys a = some (ys ++ [x]) := by
  unfold restT
  rw [splitC_none h, itemsL_cons, ht]
  simp [itemsL, rangesL, hi]
theorem ex_mid (s : List UInt8) (f k : Nat) : (⟨s.toArray⟩ : ByteArray).extract f k = ⟨((s.drop f).take (k - f)).toArray⟩ := ba_ext (by simp [ByteArray.data_extract])
theorem mid_step {l : List UInt8} {f k : Nat} (hf : f ≤ k) (hk : k < l.length) (hd : l[k] ≠ 44) (h : ∀ c ∈ (l.drop f).take (k - f), c ≠ 44) : ∀ c ∈ (l.drop f).take (k + 1 - f), c ≠ 44 := by
  have e : k + 1 - f = (k - f) + 1 := by omega
  rw [e, List.take_succ_eq_append_getElem (by simp; omega)]
  intro c hc
  rcases List.mem_append.1 hc with hc | hc
  · exact h c hc
  · simp at hc
    have e2 : f + (k - f) = k := by omega
    simp only [e2] at hc
    rw [hc]; exact hd
theorem mid_comma {l : List UInt8} {f k : Nat} (hf : f ≤ k) (hk : k < l.length) (hd : l[k] = 44) : l.drop f = (l.drop f).take (k - f) ++ 44 :: l.drop (k + 1) := by
  have e : (l.drop f).drop (k - f) = 44 :: l.drop (k + 1) := by
    rw [List.drop_drop, show f + (k - f) = k from by omega, List.drop_eq_getElem_cons hk, hd]
  rw [← e, List.take_append_drop]
theorem mid_end {l : List UInt8} {f : Nat} : (l.drop f).take (l.length - f) = l.drop f := List.take_of_length_le (by simp)
theorem ne_empty {x : List UInt8} (h : x.isEmpty = false) : ((⟨x.toArray⟩ : ByteArray) == ⟨#[]⟩) = false := by
  cases x with
  | nil => cases h
  | cons c r => rfl
theorem parseT_pos {ys : List (Int × Int)} (h : 0 < ys.length) : parseT (some ys) = if 64 < ys.length then ([], 4) else (ys, 0) := by
  cases ys with
  | nil => simp at h
  | cons x r => rfl
/-- What holds ahead of each round: the place, where the piece at hand begins, the ranges so far. -/
def ParseAt (l : List UInt8) (T : Option (List (Int × Int))) (k f : Nat) (ys : List (Int × Int)) : Prop :=
  (k ≤ l.length ∧ f ≤ k ∧ (∀ c ∈ (l.drop f).take (k - f), c ≠ 44) ∧ restT ys (l.drop f) = T) ∨ (k = l.length + 1 ∧ T = some ys)
theorem parseAt_start {l : List UInt8} (h : 6 ≤ l.length) : ParseAt l (rangesL (itemsL (splitC (l.drop 6)))) 6 6 [] := by
  refine .inl ⟨h, Nat.le_refl _, by simp, ?_⟩
  unfold restT
  cases rangesL (itemsL (splitC (l.drop 6))) <;> simp
/-- The piece at hand, what becomes of it. -/
def ParseNext (l : List UInt8) (T : Option (List (Int × Int))) (k : Nat) (ys : List (Int × Int)) (x : List UInt8) : Prop :=
  (x.isEmpty = true → ParseAt l T (k + 1) (k + 1) ys) ∧ (x.isEmpty = false → itemL x = none → T = none) ∧ (x.isEmpty = false → ∀ y, itemL x = some y → ParseAt l T (k + 1) (k + 1) (ys ++ [y]))
theorem next_comma {l : List UInt8} {T : Option (List (Int × Int))} {k f : Nat} {ys : List (Int × Int)} (hk : k < l.length) (hd : l[k] = 44) (hf : f ≤ k) (hn : ∀ c ∈ (l.drop f).take (k - f), c ≠ 44) (hT : restT ys (l.drop f) = T) : ParseNext l T k ys (trimL ((l.drop f).take (k - f))) := by
  have e := mid_comma hf hk hd
  rw [e] at hT
  refine ⟨fun h => .inl ⟨by omega, Nat.le_refl _, by simp, ?_⟩, fun h hi => ?_, fun h y hi => .inl ⟨by omega, Nat.le_refl _, by simp, ?_⟩⟩
  · rw [restT_blank hn h] at hT; exact hT
  · rw [restT_bad hn h hi] at hT; exact hT.symm
  · rw [restT_good hn h hi] at hT; exact hT
theorem next_end {l : List UInt8} {T : Option (List (Int × Int))} {f : Nat} {ys : List (Int × Int)} (hn : ∀ c ∈ (l.drop f).take (l.length - f), c ≠ 44) (hT : restT ys (l.drop f) = T) : ParseNext l T l.length ys (trimL ((l.drop f).take (l.length - f))) := by
  rw [mid_end] at hn ⊢
  refine ⟨fun h => .inr ⟨rfl, ?_⟩, fun h hi => ?_, fun h y hi => .inr ⟨rfl, ?_⟩⟩
  · rw [restL_blank hn h] at hT; exact hT.symm
  · rw [restL_bad hn h hi] at hT; exact hT.symm
  · rw [restL_good hn h hi] at hT; exact hT.symm
end Go.Proofs.YtnlamjebgkgbaaaGreatDoor
