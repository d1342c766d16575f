/- Plain laws on lists of spans: whether a byte is in one, how many bytes there are, the first span from a byte on. -/
import Derived.Test.YtfpfdgljhcpkpaaDoorM1
namespace Go.Proofs.YtfpfdgljhcpkpaaDoor

def inB (L : List (Int × Int)) (p : Int) : Bool := L.any fun x => okS x && decide (x.1 ≤ p) && decide (p < x.2)
theorem inB_iff (L : List (Int × Int)) (p : Int) : inB L p = true ↔ InS L p := by
  simp [inB, InS, and_assoc]
theorem inB_step {L : List (Int × Int)} {p : Int} {k : Nat} (h : k < L.length) : inB (L.take (k + 1)) p = (inB (L.take k) p || (okS L[k] && decide ((L[k]).1 ≤ p) && decide (p < (L[k]).2))) := by
  unfold inB
  rw [List.take_succ_eq_append_getElem h, List.any_append]
  simp
theorem inB_found {L : List (Int × Int)} {p : Int} {k : Nat} (h : k < L.length) {x : Int × Int} (hx : L[k] = x) (ho : okS x = true) (h1 : x.1 ≤ p) (h2 : p < x.2) : inB L p = true := by
  rw [inB_iff]
  exact ⟨L[k], List.getElem_mem h, by rw [hx]; exact ho, by rw [hx]; exact h1, by rw [hx]; exact h2⟩
theorem inB_miss {L : List (Int × Int)} {p : Int} {k : Nat} (h : k < L.length) {x : Int × Int} (hx : L[k] = x) (hp : inB (L.take k) p = false) (hm : ¬ (okS x = true ∧ x.1 ≤ p ∧ p < x.2)) : inB (L.take (k + 1)) p = false := by
  rw [inB_step h, hp, hx]
  simpa [and_assoc] using hm

/-- How many bytes, a number being at hand already. -/
def lenFrom (acc : Int) : List (Int × Int) → Int
  | [] => acc
  | x :: r => if x.2 = 4611686018427387904 then 4611686018427387904 else lenFrom (acc + (x.2 - x.1)) r
def lenL (L : List (Int × Int)) : Int := lenFrom 0 L
/-- The sum of the lengths of the first ones. -/
def sumL (L : List (Int × Int)) : Int := (L.map fun x => x.2 - x.1).sum
theorem sumL_nil : sumL [] = 0 := rfl
theorem sumL_snoc (L : List (Int × Int)) (x : Int × Int) : sumL (L ++ [x]) = sumL L + (x.2 - x.1) := by simp [sumL, List.sum_append]
theorem lenFrom_eq : ∀ (L : List (Int × Int)) (acc : Int), (∀ x ∈ L, x.2 ≠ 4611686018427387904) → lenFrom acc L = acc + sumL L
  | [], acc, _ => by simp [lenFrom, sumL]
  | x :: r, acc, h => by
    have hx := h x (List.mem_cons_self ..)
    rw [lenFrom, if_neg hx, lenFrom_eq r _ (fun y hy => h y (List.mem_cons_of_mem _ hy))]
    simp [sumL]; omega
theorem lenFrom_open : ∀ (L : List (Int × Int)) (acc : Int), (∃ x ∈ L, x.2 = 4611686018427387904) → lenFrom acc L = 4611686018427387904
  | [], _, h => by obtain ⟨x, hx, _⟩ := h; cases hx
  | x :: r, acc, h => by
    rw [lenFrom]
    by_cases hx : x.2 = 4611686018427387904
    · rw [if_pos hx]
    · rw [if_neg hx]
      obtain ⟨y, hy, e⟩ := h
      rcases List.mem_cons.1 hy with rfl | hy
      · exact absurd e hx
      · exact lenFrom_open r _ ⟨y, hy, e⟩
theorem lenL_open {L : List (Int × Int)} {x : Int × Int} (hx : x ∈ L) (e : x.2 = 4611686018427387904) : lenL L = 4611686018427387904 := lenFrom_open L 0 ⟨x, hx, e⟩
theorem lenL_sum {L : List (Int × Int)} (h : ∀ x ∈ L, x.2 ≠ 4611686018427387904) : lenL L = sumL L := by
  rw [lenL, lenFrom_eq L 0 h]; omega
/-- The bytes of a least list between two places are at most so many. -/
theorem Canon.sum_le : ∀ {L : List (Int × Int)} {lo hi : Int}, Canon L → (∀ y ∈ L, y.2 ≤ hi) → (∀ y ∈ L, lo ≤ y.1) → lo ≤ hi → 0 ≤ sumL L ∧ lo + sumL L ≤ hi
  | [], lo, hi, _, _, _, h => by simp [sumL]; exact h
  | x :: r, lo, hi, hc, h1, h2, h => by
    have hx := hc.head
    have := Canon.sum_le (lo := x.2) (hi := hi) hc.tail (fun y hy => h1 y (List.mem_cons_of_mem _ hy)) (fun y hy => by
      have := (List.pairwise_cons.1 hc.sep).1 y hy; omega) (h1 x (List.mem_cons_self ..))
    have h3 := h2 x (List.mem_cons_self ..)
    have e : sumL (x :: r) = (x.2 - x.1) + sumL r := by simp [sumL]
    omega
theorem Canon.take_before {L : List (Int × Int)} (h : Canon L) {k : Nat} (hk : k < L.length) : ∀ y ∈ L.take k, y.2 < (L[k]).1 := by
  intro y hy
  have hp := h.sep
  rw [← List.take_append_drop k L, List.drop_eq_getElem_cons hk] at hp
  exact (List.pairwise_append.1 hp).2.2 y hy _ (List.mem_cons_self ..)
theorem Canon.take {L : List (Int × Int)} (h : Canon L) (k : Nat) : Canon (L.take k) :=
  ⟨fun x hx => h.good x (List.mem_of_mem_take hx), h.sep.sublist (List.take_sublist k L)⟩
theorem Canon.sum_take {L : List (Int × Int)} (h : Canon L) {k : Nat} (hk : k < L.length) : 0 ≤ sumL (L.take k) ∧ sumL (L.take k) ≤ (L[k]).1 := by
  have h0 := (h.mem (List.getElem_mem hk))
  have := Canon.sum_le (lo := 0) (hi := (L[k]).1) (h.take k) (fun y hy => by have := h.take_before hk y hy; omega) (fun y hy => (h.mem (List.mem_of_mem_take hy)).1) h0.1
  omega
theorem sumL_step {L : List (Int × Int)} {k : Nat} (hk : k < L.length) : sumL (L.take (k + 1)) = sumL (L.take k) + ((L[k]).2 - (L[k]).1) := by
  rw [List.take_succ_eq_append_getElem hk, sumL_snoc]

/-- The first span that ends behind a byte, from that byte on. -/
def firstL (L : List (Int × Int)) (p : Int) : Option (Int × Int) := (L.find? fun x => decide (p < x.2)).map fun x => (max p x.1, x.2)
theorem firstL_none {L : List (Int × Int)} {p : Int} (h : ∀ x ∈ L, x.2 ≤ p) : firstL L p = none := by
  unfold firstL
  rw [List.find?_eq_none.2 (fun x hx => by have := h x hx; simp; omega)]
  rfl
theorem firstL_at {L : List (Int × Int)} {p : Int} {k : Nat} (hk : k < L.length) (h : ∀ x ∈ L.take k, x.2 ≤ p) (hp : p < (L[k]).2) : firstL L p = some (max p (L[k]).1, (L[k]).2) := by
  have hf : L.find? (fun x => decide (p < x.2)) = some L[k] := by
    rw [List.find?_eq_some_iff_getElem]
    refine ⟨by simpa using hp, k, hk, rfl, fun j hj => ?_⟩
    have := h (L[j]'(by omega)) (by rw [List.mem_take_iff_getElem]; exact ⟨j, by omega, rfl⟩)
    simp; omega
  unfold firstL
  rw [hf]
  rfl
theorem take_step_le {L : List (Int × Int)} {p : Int} {k : Nat} (hk : k < L.length) (h : ∀ x ∈ L.take k, x.2 ≤ p) (hp : (L[k]).2 ≤ p) : ∀ x ∈ L.take (k + 1), x.2 ≤ p := by
  intro x hx
  rw [List.take_succ_eq_append_getElem hk, List.mem_append] at hx
  rcases hx with hx | hx
  · exact h x hx
  · simp at hx; rw [hx]; exact hp
theorem take_all {L : List (Int × Int)} {k : Nat} (h : ¬ k < L.length) : L.take k = L := List.take_of_length_le (by omega)
end Go.Proofs.YtfpfdgljhcpkpaaDoor
