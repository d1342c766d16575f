/- Plain laws of ranges as they are asked: which may be, their spans of so many bytes, what they cost, what they cover. -/
import Derived.Test.YtfpfdgljhcpkpaaGreatDoorM8
namespace Go.Proofs.YtfpfdgljhcpkpaaGreatDoor

/-- The greatest number of a range. -/
def maxNum : Int := 999999999999999999
/-- May a range be asked? -/
def rightR (x : Int × Int) : Bool := decide (x.1 ≤ 999999999999999999) && decide (x.2 ≤ 999999999999999999) && ((decide (x.1 = -1) && decide (0 ≤ x.2)) || (decide (0 ≤ x.1) && (decide (x.2 = -1) || decide (x.1 ≤ x.2))))
theorem rightR_iff (x : Int × Int) : rightR x = true ↔ x.1 ≤ 999999999999999999 ∧ x.2 ≤ 999999999999999999 ∧ ((x.1 = -1 ∧ 0 ≤ x.2) ∨ (0 ≤ x.1 ∧ (x.2 = -1 ∨ x.1 ≤ x.2))) := by
  simp [rightR, and_assoc]
def allR (L : List (Int × Int)) : Bool := L.all rightR
/-- What a range has of so many bytes. -/
def spanOf (n : Int) (x : Int × Int) : Int × Int := if x.1 < 0 then (max (n - x.2) 0, n) else if 0 ≤ x.2 then (x.1, min (x.2 + 1) n) else (x.1, n)
def hasS (x : Int × Int) : Bool := decide (x.1 < x.2)
def resL (n : Int) (L : List (Int × Int)) : List (Int × Int) := (L.map (spanOf n)).filter hasS
theorem resL_nil (n : Int) : resL n [] = [] := rfl
theorem resL_step {n : Int} {L : List (Int × Int)} {k : Nat} (h : k < L.length) : resL n (L.take (k + 1)) = resL n (L.take k) ++ (if hasS (spanOf n L[k]) = true then [spanOf n L[k]] else []) := by
  unfold resL
  rw [List.take_succ_eq_append_getElem h, List.map_append, List.filter_append]
  congr 1
  by_cases hh : hasS (spanOf n L[k]) = true <;> simp [hh]
theorem resL_length (n : Int) (L : List (Int × Int)) : (resL n L).length ≤ L.length := by
  unfold resL; exact Nat.le_trans (List.length_filter_le _ _) (by simp)
theorem resL_in {n : Int} (_h0 : 0 ≤ n) {L : List (Int × Int)} (hL : allR L = true) {y : Int × Int} (hy : y ∈ resL n L) : 0 ≤ y.1 ∧ y.1 < y.2 ∧ y.2 ≤ n := by
  unfold resL at hy
  obtain ⟨hm, hs⟩ := List.mem_filter.1 hy
  obtain ⟨x, hx, rfl⟩ := List.mem_map.1 hm
  have hr := (rightR_iff x).1 (List.all_eq_true.1 hL x hx)
  have hs' : (spanOf n x).1 < (spanOf n x).2 := by simpa [hasS] using hs
  unfold spanOf at hs' ⊢
  split
  · rename_i h1; rw [if_pos h1] at hs'; simp only at hs' ⊢; omega
  · rename_i h1
    rw [if_neg h1] at hs'
    split
    · rename_i h2; rw [if_pos h2] at hs'; simp only at hs' ⊢; omega
    · rename_i h2; rw [if_neg h2] at hs'; simp only at hs' ⊢; omega
/-- Is the sum of the first ones' lengths ever more than twice so many bytes? -/
def overL (n acc : Int) : List (Int × Int) → Bool
  | [] => false
  | x :: r => decide (2 * n < acc + (x.2 - x.1)) || overL n (acc + (x.2 - x.1)) r
def costB (n most : Int) (L : List (Int × Int)) : Bool := decide (most < (L.length : Int)) || overL n 0 (resL n L)
theorem overL_false {n : Int} : ∀ (L : List (Int × Int)) (acc : Int), (∀ x ∈ L, x.1 ≤ x.2) → acc + sumL L ≤ 2 * n → overL n acc L = false
  | [], _, _, _ => rfl
  | x :: r, acc, h, hs => by
    have e : sumL (x :: r) = (x.2 - x.1) + sumL r := by simp [sumL]
    have hr : 0 ≤ sumL r := by
      clear e hs
      induction r with
      | nil => simp [sumL]
      | cons y r ih =>
        have e2 : sumL (y :: r) = (y.2 - y.1) + sumL r := by simp [sumL]
        have := ih (fun z hz => h z (by simp at hz ⊢; rcases hz with rfl | hz; exact .inl rfl; exact .inr (.inr hz)))
        have := h y (by simp)
        omega
    rw [overL, overL_false r _ (fun y hy => h y (List.mem_cons_of_mem _ hy)) (by omega)]
    simp; omega
/-- Are spans apart, two by two? -/
def apartB (L : List (Int × Int)) : Prop := L.Pairwise (fun x y => y.2 ≤ x.1 ∨ x.2 ≤ y.1)
/-- Spans that don't meet have no more bytes than there are. -/
theorem apart_sum {N : Nat} : ∀ {L : List (Int × Int)}, apartB L → (∀ x ∈ L, 0 ≤ x.1 ∧ x.1 ≤ x.2 ∧ x.2 ≤ N) → sumL L = (cnt (fun p => L.any fun x => decide (x.1 ≤ p) && decide (p < x.2)) N : Int)
  | [], _, _ => by
    have h := cnt_none (f := fun p => ([] : List (Int × Int)).any fun x => decide (x.1 ≤ p) && decide (p < x.2)) (fun p => rfl) N
    rw [h]; rfl
  | x :: r, ha, hN => by
    have h1 := apart_sum (L := r) (List.pairwise_cons.1 ha).2 (fun y hy => hN y (List.mem_cons_of_mem _ hy))
    have hx := hN x (List.mem_cons_self ..)
    have h2 := cnt_span x.1 x.2 hx.1 hx.2.1 N
    have h3 := cnt_or (k := fun p => (x :: r).any fun x => decide (x.1 ≤ p) && decide (p < x.2)) (f := fun p => decide (x.1 ≤ p) && decide (p < x.2)) (g := fun p => r.any fun x => decide (x.1 ≤ p) && decide (p < x.2)) (fun p => rfl) (fun p hp => by
      rw [Bool.eq_false_iff]
      intro hb
      obtain ⟨y, hy, hy2⟩ := List.any_eq_true.1 hb
      have := (List.pairwise_cons.1 ha).1 y hy
      simp at hp hy2; omega) N
    have e : sumL (x :: r) = (x.2 - x.1) + sumL r := by simp [sumL]
    rw [e, h1, h3]
    omega
theorem cnt_all (f : Int → Bool) : ∀ N, cnt f N ≤ N
  | 0 => Nat.le_refl _
  | N + 1 => by have := cnt_all f N; simp only [cnt]; split <;> omega
theorem apart_cost {n : Int} (h0 : 0 ≤ n) {L : List (Int × Int)} (hL : allR L = true) (ha : apartB (resL n L)) : overL n 0 (resL n L) = false := by
  refine overL_false _ _ (fun x hx => by have := resL_in h0 hL hx; omega) ?_
  rw [apart_sum (N := n.toNat) ha (fun x hx => by have := resL_in h0 hL hx; omega)]
  have := cnt_all (fun p => (resL n L).any fun x => decide (x.1 ≤ p) && decide (p < x.2)) n.toNat
  omega
/-- The bytes of ranges without a length. -/
def covOf (x : Int × Int) : Int × Int := if 0 ≤ x.2 then (x.1, x.2 + 1) else (x.1, 4611686018427387904)
def covB (L : List (Int × Int)) : Bool := L.any fun x => decide (x.1 < 0)
theorem cov_in {n : Int} (h0 : 0 ≤ n) (h1 : n ≤ 4611686018427387904) {L : List (Int × Int)} (hL : allR L = true) (hc : covB L = false) (p : Int) : (inB (L.map covOf) p && (decide (0 ≤ p) && decide (p < n))) = inB (resL n L) p := by
  rw [Bool.eq_iff_iff]
  simp only [Bool.and_eq_true, decide_eq_true_eq]
  rw [inB_iff, inB_iff]
  unfold InS
  constructor
  · rintro ⟨⟨y, hy, ho, ha, hb⟩, hp0, hp1⟩
    obtain ⟨x, hx, rfl⟩ := List.mem_map.1 hy
    have hr := (rightR_iff x).1 (List.all_eq_true.1 hL x hx)
    have hx0 : ¬ x.1 < 0 := by
      intro h
      have : covB L = true := List.any_eq_true.2 ⟨x, hx, by simpa using h⟩
      rw [hc] at this; cases this
    have key : spanOf n x = (x.1, min (covOf x).2 n) := by
      unfold spanOf covOf
      rw [if_neg hx0]
      split
      · rfl
      · simp only; congr 1; omega
    have hc1 : (covOf x).1 = x.1 := by unfold covOf; split <;> rfl
    rw [hc1] at ha
    refine ⟨spanOf n x, ?_, ?_, ?_, ?_⟩
    · unfold resL
      refine List.mem_filter.2 ⟨List.mem_map_of_mem hx, ?_⟩
      rw [key]; simp [hasS]; omega
    · rw [key, okS_iff]; simp only; omega
    · rw [key]; exact ha
    · rw [key]; simp only; omega
  · rintro ⟨y, hy, ho, ha, hb⟩
    have hb2 := resL_in h0 hL hy
    unfold resL at hy
    obtain ⟨hm, hs⟩ := List.mem_filter.1 hy
    obtain ⟨x, hx, rfl⟩ := List.mem_map.1 hm
    have hr := (rightR_iff x).1 (List.all_eq_true.1 hL x hx)
    have hx0 : ¬ x.1 < 0 := by
      intro h
      have : covB L = true := List.any_eq_true.2 ⟨x, hx, by simpa using h⟩
      rw [hc] at this; cases this
    have key : spanOf n x = (x.1, min (covOf x).2 n) := by
      unfold spanOf covOf
      rw [if_neg hx0]
      split
      · rfl
      · simp only; congr 1; omega
    have hc1 : (covOf x).1 = x.1 := by unfold covOf; split <;> rfl
    rw [key] at ha hb hb2
    simp only at ha hb hb2
    refine ⟨⟨covOf x, List.mem_map_of_mem hx, ?_, by omega, by omega⟩, by omega, by omega⟩
    rw [okS_iff, hc1]
    unfold covOf
    split <;> simp only <;> omega
end Go.Proofs.YtfpfdgljhcpkpaaGreatDoor
