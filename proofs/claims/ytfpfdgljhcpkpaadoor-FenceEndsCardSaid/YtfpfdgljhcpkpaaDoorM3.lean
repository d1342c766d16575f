/- Plain laws on a least list of spans: the place of the first span that ends behind a byte. -/
import Derived.Test.YtfpfdgljhcpkpaaDoorM2
namespace Go.Proofs.YtfpfdgljhcpkpaaDoor

theorem Canon.mono {L : List (Int × Int)} (h : Canon L) {i j : Nat} (hij : i ≤ j) (hj : j < L.length) : (L[i]'(by omega)).2 ≤ (L[j]).2 := by
  rcases Nat.lt_or_ge i j with hlt | hge
  · have h1 := List.pairwise_iff_getElem.1 h.sep i j (by omega) hj hlt
    have h2 := h.mem (List.getElem_mem hj)
    omega
  · obtain rfl : i = j := by omega
    exact Int.le_refl _
/-- k is the place of the first span that ends behind p. -/
structure Behind (L : List (Int × Int)) (p : Int) (k : Nat) : Prop where
  le : k ≤ L.length
  before : ∀ x ∈ L.take k, x.2 ≤ p
  at_ : ∀ h : k < L.length, p < (L[k]).2

theorem Canon.before_of {L : List (Int × Int)} (h : Canon L) {m : Nat} {p : Int} (hm : m < L.length) (hp : (L[m]).2 ≤ p) : ∀ x ∈ L.take (m + 1), x.2 ≤ p := by
  intro x hx
  rw [List.mem_take_iff_getElem] at hx
  obtain ⟨j, hj, rfl⟩ := hx
  have := h.mono (i := j) (j := m) (by omega) hm
  omega
theorem Canon.from_of {L : List (Int × Int)} (h : Canon L) {m : Nat} {p : Int} (hm : m < L.length) (hp : p < (L[m]).2) : ∀ j, m ≤ j → ∀ hj : j < L.length, p < (L[j]).2 := by
  intro j hmj hj
  have := h.mono hmj hj
  omega

theorem Behind.first {L : List (Int × Int)} {p : Int} {k : Nat} (h : Behind L p k) (hk : k < L.length) : firstL L p = some (max p (L[k]).1, (L[k]).2) := firstL_at hk h.before (h.at_ hk)
theorem Behind.none_ {L : List (Int × Int)} {p : Int} {k : Nat} (h : Behind L p k) (hk : ¬ k < L.length) : firstL L p = none := by
  have := h.before
  rw [take_all hk] at this
  exact firstL_none this
theorem Canon.in_at {L : List (Int × Int)} (h : Canon L) {p : Int} {k : Nat} (hb : Behind L p k) (hk : k < L.length) : inB L p = decide ((L[k]).1 ≤ p) := by
  rw [Bool.eq_iff_iff, inB_iff, decide_eq_true_eq]
  constructor
  · rintro ⟨x, hx, _, h1, h2⟩
    obtain ⟨j, hj, rfl⟩ := List.getElem_of_mem hx
    rcases Nat.lt_trichotomy j k with hlt | rfl | hgt
    · have := hb.before L[j] (by rw [List.mem_take_iff_getElem]; exact ⟨j, by omega, rfl⟩)
      omega
    · exact h1
    · have h3 := List.pairwise_iff_getElem.1 h.sep k j hk hj hgt
      have h4 := hb.at_ hk
      omega
  · intro h1
    have h2 := h.mem (List.getElem_mem hk)
    exact ⟨L[k], List.getElem_mem hk, by rw [okS_iff]; omega, h1, hb.at_ hk⟩
theorem Behind.in_none {L : List (Int × Int)} {p : Int} {k : Nat} (hb : Behind L p k) (hk : ¬ k < L.length) : inB L p = false := by
  rw [← Bool.not_eq_true, inB_iff]
  rintro ⟨x, hx, _, _, h2⟩
  have := hb.before x (by rw [take_all hk]; exact hx)
  omega

/-- Is all of a span in a set? -/
def holdsL (L : List (Int × Int)) (x : Int × Int) : Bool := okS x && (decide (x.1 = x.2) || L.any fun y => decide (y.1 ≤ x.1) && decide (x.2 ≤ y.2))
theorem Canon.holds_at {L : List (Int × Int)} (h : Canon L) {x : Int × Int} {k : Nat} (hx : goodS x = true) (hb : Behind L x.1 k) (hk : k < L.length) : holdsL L x = (decide ((L[k]).1 ≤ x.1) && decide (x.2 ≤ (L[k]).2)) := by
  have hg := (goodS_iff x).1 hx
  have ho : okS x = true := by rw [okS_iff]; omega
  unfold holdsL
  have hne : ¬ x.1 = x.2 := by omega
  rw [ho]
  simp only [Bool.true_and, hne, decide_false, Bool.false_or]
  rw [Bool.eq_iff_iff, List.any_eq_true]
  simp only [Bool.and_eq_true, decide_eq_true_eq]
  constructor
  · rintro ⟨y, hy, h1, h2⟩
    obtain ⟨j, hj, rfl⟩ := List.getElem_of_mem hy
    rcases Nat.lt_trichotomy j k with hlt | rfl | hgt
    · have := hb.before L[j] (by rw [List.mem_take_iff_getElem]; exact ⟨j, by omega, rfl⟩)
      omega
    · exact ⟨h1, h2⟩
    · have h3 := List.pairwise_iff_getElem.1 h.sep k j hk hj hgt
      have h4 := hb.at_ hk
      omega
  · intro h1
    exact ⟨L[k], List.getElem_mem hk, h1.1, h1.2⟩
theorem Behind.holds_none {L : List (Int × Int)} {x : Int × Int} {k : Nat} (hx : goodS x = true) (hb : Behind L x.1 k) (hk : ¬ k < L.length) : holdsL L x = false := by
  have hg := (goodS_iff x).1 hx
  unfold holdsL
  have hne : ¬ x.1 = x.2 := by omega
  simp only [hne, decide_false, Bool.false_or]
  rw [← Bool.not_eq_true, Bool.and_eq_true, List.any_eq_true]
  rintro ⟨_, y, hy, h1⟩
  simp only [Bool.and_eq_true, decide_eq_true_eq] at h1
  have := hb.before y (by rw [take_all hk]; exact hy)
  omega
end Go.Proofs.YtfpfdgljhcpkpaaDoor
