/- Plain laws on lists of spans: what is in a list, when a list is the least one of its set, and that there is one such list alone. Plain laws on lists of spans: whether a byte is in one, how many bytes there are, the first span from a byte on. Plain laws on a least list of spans: the place of the first span that ends behind a byte. Plain laws: gathering spans that rise by their beginnings. Plain laws: the reference's way to a set: all ends, rising; then the pieces between them that are in it. Plain laws: the least list of a list of spans, and how filtering, sorting and gathering come to it. Plain laws: what either, both, or only the first one of two sets has, by going through two least lists at once; short gaps closed. Plain laws: how many bytes a set has, and how few spans the sets of two sets have. Plain laws of ranges as they are asked: which may be, their spans of so many bytes, what they cost, what they cover. Plain laws of the texts of ranges: numbers, items, trimmed pieces. Plain law of spans made fewer: five properties tell what the list is. Plain law of the document's example of ranges. Plain laws of a merge in place: where the halves are cut, and what becomes of them. -/
import Derived.Below
namespace Go.Proofs.YtaaefgieklkekaaGreatDoor

/-- May a span be? -/
def okS (x : Int × Int) : Bool := decide (0 ≤ x.1) && decide (x.1 ≤ x.2) && decide (x.2 ≤ 4611686018427387904)
/-- May it be, and has it a byte? -/
def goodS (x : Int × Int) : Bool := okS x && decide (x.1 < x.2)
theorem okS_iff (x : Int × Int) : okS x = true ↔ 0 ≤ x.1 ∧ x.1 ≤ x.2 ∧ x.2 ≤ 4611686018427387904 := by simp [okS, and_assoc]
theorem goodS_iff (x : Int × Int) : goodS x = true ↔ 0 ≤ x.1 ∧ x.1 < x.2 ∧ x.2 ≤ 4611686018427387904 := by
  simp only [goodS, Bool.and_eq_true, okS_iff, decide_eq_true_eq]; omega

/-- A byte is in one of the spans. -/
def InS (L : List (Int × Int)) (p : Int) : Prop := ∃ x ∈ L, okS x = true ∧ x.1 ≤ p ∧ p < x.2
theorem InS_nil (p : Int) : ¬ InS [] p := by rintro ⟨x, h, _⟩; cases h
theorem InS_cons (x : Int × Int) (L : List (Int × Int)) (p : Int) : InS (x :: L) p ↔ (okS x = true ∧ x.1 ≤ p ∧ p < x.2) ∨ InS L p := by
  simp [InS]
theorem InS_append (a b : List (Int × Int)) (p : Int) : InS (a ++ b) p ↔ InS a p ∨ InS b p := by
  simp only [InS, List.mem_append]
  constructor
  · rintro ⟨x, h | h, r⟩
    · exact .inl ⟨x, h, r⟩
    · exact .inr ⟨x, h, r⟩
  · rintro (⟨x, h, r⟩ | ⟨x, h, r⟩)
    · exact ⟨x, .inl h, r⟩
    · exact ⟨x, .inr h, r⟩
theorem InS_one (x : Int × Int) (p : Int) : InS [x] p ↔ okS x = true ∧ x.1 ≤ p ∧ p < x.2 := by simp [InS]
/-- A byte that is in a list is from 0 on, and ahead of the end. -/
theorem InS_bound {L : List (Int × Int)} {p : Int} (h : InS L p) : 0 ≤ p ∧ p < 4611686018427387904 := by
  obtain ⟨x, _, ho, h1, h2⟩ := h
  rw [okS_iff] at ho
  omega

/-- The least list of its set: each span has a byte, each ends ahead of the next one's beginning. -/
structure Canon (L : List (Int × Int)) : Prop where
  good : ∀ x ∈ L, goodS x = true
  sep : L.Pairwise (fun x y => x.2 < y.1)

theorem Canon.nil : Canon [] := ⟨(fun _ h => by cases h), List.Pairwise.nil⟩
theorem Canon.one {x : Int × Int} (h : goodS x = true) : Canon [x] := ⟨fun y hy => by simp at hy; rw [hy]; exact h, by simp⟩
theorem Canon.tail {x : Int × Int} {L : List (Int × Int)} (h : Canon (x :: L)) : Canon L :=
  ⟨fun y hy => h.good y (List.mem_cons_of_mem _ hy), (List.pairwise_cons.1 h.sep).2⟩
theorem Canon.head {x : Int × Int} {L : List (Int × Int)} (h : Canon (x :: L)) : 0 ≤ x.1 ∧ x.1 < x.2 ∧ x.2 ≤ 4611686018427387904 :=
  (goodS_iff x).1 (h.good x (List.mem_cons_self ..))
theorem Canon.mem {L : List (Int × Int)} (h : Canon L) {x : Int × Int} (hx : x ∈ L) : 0 ≤ x.1 ∧ x.1 < x.2 ∧ x.2 ≤ 4611686018427387904 :=
  (goodS_iff x).1 (h.good x hx)
theorem Canon.in_cons {x : Int × Int} {L : List (Int × Int)} (h : Canon (x :: L)) (p : Int) : InS (x :: L) p ↔ (x.1 ≤ p ∧ p < x.2) ∨ InS L p := by
  have := h.head
  have ho : okS x = true := by rw [okS_iff]; omega
  rw [InS_cons, ho]; simp
theorem Canon.behind {x : Int × Int} {L : List (Int × Int)} (h : Canon (x :: L)) {p : Int} (hp : InS L p) : x.2 < p := by
  obtain ⟨y, hy, _, h1, _⟩ := hp
  have := (List.pairwise_cons.1 h.sep).1 y hy
  omega
theorem Canon.first {x : Int × Int} {L : List (Int × Int)} (h : Canon (x :: L)) {p : Int} (hp : InS (x :: L) p) : x.1 ≤ p := by
  rcases (h.in_cons p).1 hp with h1 | h1
  · exact h1.1
  · have := h.behind h1; have := h.head; omega

/-- A set has one least list. -/
theorem Canon.unique : ∀ {a b : List (Int × Int)}, Canon a → Canon b → (∀ p, InS a p ↔ InS b p) → a = b
  | [], [], _, _, _ => rfl
  | [], y :: rb, _, hb, h => by
    exfalso
    have := hb.head
    exact InS_nil y.1 ((h y.1).2 ((hb.in_cons _).2 (.inl (by omega))))
  | x :: ra, [], ha, _, h => by
    exfalso
    have := ha.head
    exact InS_nil x.1 ((h x.1).1 ((ha.in_cons _).2 (.inl (by omega))))
  | x :: ra, y :: rb, ha, hb, h => by
    have hx := ha.head
    have hy := hb.head
    have e1 : x.1 = y.1 := by
      have h1 := hb.first ((h x.1).1 ((ha.in_cons _).2 (.inl (by omega))))
      have h2 := ha.first ((h y.1).2 ((hb.in_cons _).2 (.inl (by omega))))
      omega
    have e2 : x.2 = y.2 := by
      rcases Int.lt_trichotomy x.2 y.2 with hlt | heq | hgt
      · exfalso
        have := (h x.2).2 ((hb.in_cons _).2 (.inl (by omega)))
        rcases (ha.in_cons _).1 this with h1 | h1
        · omega
        · have := ha.behind h1; omega
      · exact heq
      · exfalso
        have := (h y.2).1 ((ha.in_cons _).2 (.inl (by omega)))
        rcases (hb.in_cons _).1 this with h1 | h1
        · omega
        · have := hb.behind h1; omega
    have e : x = y := Prod.ext e1 e2
    subst e
    have hr : ∀ p, InS ra p ↔ InS rb p := by
      intro p
      constructor
      · intro hp
        have hlt := ha.behind hp
        rcases (hb.in_cons _).1 ((h p).1 ((ha.in_cons _).2 (.inr hp))) with h1 | h1
        · omega
        · exact h1
      · intro hp
        have hlt := hb.behind hp
        rcases (ha.in_cons _).1 ((h p).2 ((hb.in_cons _).2 (.inr hp))) with h1 | h1
        · omega
        · exact h1
    rw [Canon.unique ha.tail hb.tail hr]

/-- One span more, behind all others. -/
theorem Canon.snoc {L : List (Int × Int)} {x : Int × Int} (h : Canon L) (hx : goodS x = true) (hs : ∀ y ∈ L, y.2 < x.1) : Canon (L ++ [x]) :=
  ⟨fun y hy => by
    rcases List.mem_append.1 hy with h1 | h1
    · exact h.good y h1
    · simp at h1; rw [h1]; exact hx,
   List.pairwise_append.2 ⟨h.sep, by simp, fun a ha b hb => by simp at hb; rw [hb]; exact hs a ha⟩⟩
theorem Canon.init {L : List (Int × Int)} {x : Int × Int} (h : Canon (L ++ [x])) : Canon L ∧ goodS x = true ∧ ∀ y ∈ L, y.2 < x.1 :=
  ⟨⟨fun y hy => h.good y (List.mem_append.2 (.inl hy)), (List.pairwise_append.1 h.sep).1⟩, h.good x (by simp), fun y hy => (List.pairwise_append.1 h.sep).2.2 y hy x (by simp)⟩

end Go.Proofs.YtaaefgieklkekaaGreatDoor
namespace Go.Proofs.YtaaefgieklkekaaGreatDoor

def inB (L : List (Int × Int)) (p : Int) : Bool := L.any fun x => okS x && decide (x.1 ≤ p) && decide (p < x.2)
theorem inB_iff (L : List (Int × Int)) (p : Int) : inB L p = true ↔ InS L p := by
  simp [inB, InS, and_assoc]
theorem inB_step {L : List (Int × Int)} {p : Int} {k : Nat} (h : k < L.length) : inB (L.take (k + 1)) p = (inB (L.take k) p || (okS L[k] && decide ((L[k]).1 ≤ p) && decide (p < (L[k]).2))) := by
  unfold inB
  rw [List.take_succ_eq_append_getElem h, List.any_append]
  simp
theorem inB_found {L : List (Int × Int)} {p : Int} {k : Nat} (h : k < L.length) {x : Int × Int} (hx : L[k] = x) (ho : okS x = true) (h1 : x.1 ≤ p) (h2 : p < x.2) : inB L p = true := by
  rw [inB_iff]
  exact ⟨L[k], List.getElem_mem h, by rw [hx]; exact ho, by rw [hx]; exact h1, by rw [hx]; exact h2⟩
theorem inB_miss {L : List (Int × Int)} {p : Int} {k : Nat} (h : k < L.length) {x : Int × Int} (hx : L[k] = x) (hp : inB (L.take k) p = false) (hm : ¬ (okS x = true ∧ x.1 ≤ p ∧ p < x.2)) : inB (L.take (k + 1)) p = false := by
  rw [inB_step h, hp, hx]
  simpa [and_assoc] using hm

/-- How many bytes, a number being at hand already. -/
def lenFrom (acc : Int) : List (Int × Int) → Int
  | [] => acc
  | x :: r => if x.2 = 4611686018427387904 then 4611686018427387904 else lenFrom (acc + (x.2 - x.1)) r
def lenL (L : List (Int × Int)) : Int := lenFrom 0 L
/-- The sum of the lengths of the first ones. -/
def sumL (L : List (Int × Int)) : Int := (L.map fun x => x.2 - x.1).sum
theorem sumL_nil : sumL [] = 0 := rfl
theorem sumL_snoc (L : List (Int × Int)) (x : Int × Int) : sumL (L ++ [x]) = sumL L + (x.2 - x.1) := by simp [sumL, List.sum_append]
theorem lenFrom_eq : ∀ (L : List (Int × Int)) (acc : Int), (∀ x ∈ L, x.2 ≠ 4611686018427387904) → lenFrom acc L = acc + sumL L
  | [], acc, _ => by simp [lenFrom, sumL]
  | x :: r, acc, h => by
    have hx := h x (List.mem_cons_self ..)
    rw [lenFrom, if_neg hx, lenFrom_eq r _ (fun y hy => h y (List.mem_cons_of_mem _ hy))]
    simp [sumL]; omega
theorem lenFrom_open : ∀ (L : List (Int × Int)) (acc : Int), (∃ x ∈ L, x.2 = 4611686018427387904) → lenFrom acc L = 4611686018427387904
  | [], _, h => by obtain ⟨x, hx, _⟩ := h; cases hx
  | x :: r, acc, h => by
    rw [lenFrom]
    by_cases hx : x.2 = 4611686018427387904
    · rw [if_pos hx]
    · rw [if_neg hx]
      obtain ⟨y, hy, e⟩ := h
      rcases List.mem_cons.1 hy with rfl | hy
      · exact absurd e hx
      · exact lenFrom_open r _ ⟨y, hy, e⟩
theorem lenL_open {L : List (Int × Int)} {x : Int × Int} (hx : x ∈ L) (e : x.2 = 4611686018427387904) : lenL L = 4611686018427387904 := lenFrom_open L 0 ⟨x, hx, e⟩
theorem lenL_sum {L : List (Int × Int)} (h : ∀ x ∈ L, x.2 ≠ 4611686018427387904) : lenL L = sumL L := by
  rw [lenL, lenFrom_eq L 0 h]; omega
/-- The bytes of a least list between two places are at most so many. -/
theorem Canon.sum_le : ∀ {L : List (Int × Int)} {lo hi : Int}, Canon L → (∀ y ∈ L, y.2 ≤ hi) → (∀ y ∈ L, lo ≤ y.1) → lo ≤ hi → 0 ≤ sumL L ∧ lo + sumL L ≤ hi
  | [], lo, hi, _, _, _, h => by simp [sumL]; exact h
  | x :: r, lo, hi, hc, h1, h2, h => by
    have hx := hc.head
    have := Canon.sum_le (lo := x.2) (hi := hi) hc.tail (fun y hy => h1 y (List.mem_cons_of_mem _ hy)) (fun y hy => by
      have := (List.pairwise_cons.1 hc.sep).1 y hy; omega) (h1 x (List.mem_cons_self ..))
    have h3 := h2 x (List.mem_cons_self ..)
    have e : sumL (x :: r) = (x.2 - x.1) + sumL r := by simp [sumL]
    omega
theorem Canon.take_before {L : List (Int × Int)} (h : Canon L) {k : Nat} (hk : k < L.length) : ∀ y ∈ L.take k, y.2 < (L[k]).1 := by
  intro y hy
  have hp := h.sep
  rw [← List.take_append_drop k L, List.drop_eq_getElem_cons hk] at hp
  exact (List.pairwise_append.1 hp).2.2 y hy _ (List.mem_cons_self ..)
theorem Canon.take {L : List (Int × Int)} (h : Canon L) (k : Nat) : Canon (L.take k) :=
  ⟨fun x hx => h.good x (List.mem_of_mem_take hx), h.sep.sublist (List.take_sublist k L)⟩
theorem Canon.sum_take {L : List (Int × Int)} (h : Canon L) {k : Nat} (hk : k < L.length) : 0 ≤ sumL (L.take k) ∧ sumL (L.take k) ≤ (L[k]).1 := by
  have h0 := (h.mem (List.getElem_mem hk))
  have := Canon.sum_le (lo := 0) (hi := (L[k]).1) (h.take k) (fun y hy => by have := h.take_before hk y hy; omega) (fun y hy => (h.mem (List.mem_of_mem_take hy)).1) h0.1
  omega
theorem sumL_step {L : List (Int × Int)} {k : Nat} (hk : k < L.length) : sumL (L.take (k + 1)) = sumL (L.take k) + ((L[k]).2 - (L[k]).1) := by
  rw [List.take_succ_eq_append_getElem hk, sumL_snoc]

/-- The first span that ends behind a byte, from that byte on. -/
def firstL (L : List (Int × Int)) (p : Int) : Option (Int × Int) := (L.find? fun x => decide (p < x.2)).map fun x => (max p x.1, x.2)
theorem firstL_none {L : List (Int × Int)} {p : Int} (h : ∀ x ∈ L, x.2 ≤ p) : firstL L p = none := by
  unfold firstL
  rw [List.find?_eq_none.2 (fun x hx => by have := h x hx; simp; omega)]
  rfl
theorem firstL_at {L : List (Int × Int)} {p : Int} {k : Nat} (hk : k < L.length) (h : ∀ x ∈ L.take k, x.2 ≤ p) (hp : p < (L[k]).2) : firstL L p = some (max p (L[k]).1, (L[k]).2) := by
  have hf : L.find? (fun x => decide (p < x.2)) = some L[k] := by
    rw [List.find?_eq_some_iff_getElem]
    refine ⟨by simpa using hp, k, hk, rfl, fun j hj => ?_⟩
    have := h (L[j]'(by omega)) (by rw [List.mem_take_iff_getElem]; exact ⟨j, by omega, rfl⟩)
    simp; omega
  unfold firstL
  rw [hf]
  rfl
theorem take_step_le {L : List (Int × Int)} {p : Int} {k : Nat} (hk : k < L.length) (h : ∀ x ∈ L.take k, x.2 ≤ p) (hp : (L[k]).2 ≤ p) : ∀ x ∈ L.take (k + 1), x.2 ≤ p := by
  intro x hx
  rw [List.take_succ_eq_append_getElem hk, List.mem_append] at hx
  rcases hx with hx | hx
  · exact h x hx
  · simp at hx; rw [hx]; exact hp
theorem take_all {L : List (Int × Int)} {k : Nat} (h : ¬ k < L.length) : L.take k = L := List.take_of_length_le (by omega)
end Go.Proofs.YtaaefgieklkekaaGreatDoor
namespace Go.Proofs.YtaaefgieklkekaaGreatDoor

theorem Canon.mono {L : List (Int × Int)} (h : Canon L) {i j : Nat} (hij : i ≤ j) (hj : j < L.length) : (L[i]'(by omega)).2 ≤ (L[j]).2 := by
  rcases Nat.lt_or_ge i j with hlt | hge
  · have h1 := List.pairwise_iff_getElem.1 h.sep i j (by omega) hj hlt
    have h2 := h.mem (List.getElem_mem hj)
    omega
  · obtain rfl : i = j := by omega
    exact Int.le_refl _
/-- k is the place of the first span that ends behind p. -/
structure Behind (L : List (Int × Int)) (p : Int) (k : Nat) : Prop where
  le : k ≤ L.length
  before : ∀ x ∈ L.take k, x.2 ≤ p
  at_ : ∀ h : k < L.length, p < (L[k]).2

theorem Canon.before_of {L : List (Int × Int)} (h : Canon L) {m : Nat} {p : Int} (hm : m < L.length) (hp : (L[m]).2 ≤ p) : ∀ x ∈ L.take (m + 1), x.2 ≤ p := by
  intro x hx
  rw [List.mem_take_iff_getElem] at hx
  obtain ⟨j, hj, rfl⟩ := hx
  have := h.mono (i := j) (j := m) (by omega) hm
  omega
theorem Canon.from_of {L : List (Int × Int)} (h : Canon L) {m : Nat} {p : Int} (hm : m < L.length) (hp : p < (L[m]).2) : ∀ j, m ≤ j → ∀ hj : j < L.length, p < (L[j]).2 := by
  intro j hmj hj
  have := h.mono hmj hj
  omega

theorem Behind.first {L : List (Int × Int)} {p : Int} {k : Nat} (h : Behind L p k) (hk : k < L.length) : firstL L p = some (max p (L[k]).1, (L[k]).2) := firstL_at hk h.before (h.at_ hk)
theorem Behind.none_ {L : List (Int × Int)} {p : Int} {k : Nat} (h : Behind L p k) (hk : ¬ k < L.length) : firstL L p = none := by
  have := h.before
  rw [take_all hk] at this
  exact firstL_none this
theorem Canon.in_at {L : List (Int × Int)} (h : Canon L) {p : Int} {k : Nat} (hb : Behind L p k) (hk : k < L.length) : inB L p = decide ((L[k]).1 ≤ p) := by
  rw [Bool.eq_iff_iff, inB_iff, decide_eq_true_eq]
  constructor
  · rintro ⟨x, hx, _, h1, h2⟩
    obtain ⟨j, hj, rfl⟩ := List.getElem_of_mem hx
    rcases Nat.lt_trichotomy j k with hlt | rfl | hgt
    · have := hb.before L[j] (by rw [List.mem_take_iff_getElem]; exact ⟨j, by omega, rfl⟩)
      omega
    · exact h1
    · have h3 := List.pairwise_iff_getElem.1 h.sep k j hk hj hgt
      have h4 := hb.at_ hk
      omega
  · intro h1
    have h2 := h.mem (List.getElem_mem hk)
    exact ⟨L[k], List.getElem_mem hk, by rw [okS_iff]; omega, h1, hb.at_ hk⟩
theorem Behind.in_none {L : List (Int × Int)} {p : Int} {k : Nat} (hb : Behind L p k) (hk : ¬ k < L.length) : inB L p = false := by
  rw [← Bool.not_eq_true, inB_iff]
  rintro ⟨x, hx, _, _, h2⟩
  have := hb.before x (by rw [take_all hk]; exact hx)
  omega

/-- Is all of a span in a set? -/
def holdsL (L : List (Int × Int)) (x : Int × Int) : Bool := okS x && (decide (x.1 = x.2) || L.any fun y => decide (y.1 ≤ x.1) && decide (x.2 ≤ y.2))
theorem Canon.holds_at {L : List (Int × Int)} (h : Canon L) {x : Int × Int} {k : Nat} (hx : goodS x = true) (hb : Behind L x.1 k) (hk : k < L.length) : holdsL L x = (decide ((L[k]).1 ≤ x.1) && decide (x.2 ≤ (L[k]).2)) := by
  have hg := (goodS_iff x).1 hx
  have ho : okS x = true := by rw [okS_iff]; omega
  unfold holdsL
  have hne : ¬ x.1 = x.2 := by omega
  rw [ho]
  simp only [Bool.true_and, hne, decide_false, Bool.false_or]
  rw [Bool.eq_iff_iff, List.any_eq_true]
  simp only [Bool.and_eq_true, decide_eq_true_eq]
  constructor
  · rintro ⟨y, hy, h1, h2⟩
    obtain ⟨j, hj, rfl⟩ := List.getElem_of_mem hy
    rcases Nat.lt_trichotomy j k with hlt | rfl | hgt
    · have := hb.before L[j] (by rw [List.mem_take_iff_getElem]; exact ⟨j, by omega, rfl⟩)
      omega
    · exact ⟨h1, h2⟩
    · have h3 := List.pairwise_iff_getElem.1 h.sep k j hk hj hgt
      have h4 := hb.at_ hk
      omega
  · intro h1
    exact ⟨L[k], List.getElem_mem hk, h1.1, h1.2⟩
theorem Behind.holds_none {L : List (Int × Int)} {x : Int × Int} {k : Nat} (hx : goodS x = true) (hb : Behind L x.1 k) (hk : ¬ k < L.length) : holdsL L x = false := by
  have hg := (goodS_iff x).1 hx
  unfold holdsL
  have hne : ¬ x.1 = x.2 := by omega
  simp only [hne, decide_false, Bool.false_or]
  rw [← Bool.not_eq_true, Bool.and_eq_true, List.any_eq_true]
  rintro ⟨_, y, hy, h1⟩
  simp only [Bool.and_eq_true, decide_eq_true_eq] at h1
  have := hb.before y (by rw [take_all hk]; exact hy)
  omega
end Go.Proofs.YtaaefgieklkekaaGreatDoor
namespace Go.Proofs.YtaaefgieklkekaaGreatDoor

/-- One span more: joined to the last one, if it begins within it or at its end. -/
def gstep (out : List (Int × Int)) (x : Int × Int) : List (Int × Int) :=
  match out.reverse with
  | [] => [x]
  | l :: r => if x.1 ≤ l.2 then r.reverse ++ [(l.1, max l.2 x.2)] else out ++ [x]
def gatherL (L : List (Int × Int)) : List (Int × Int) := L.foldl gstep []
theorem gstep_nil (x : Int × Int) : gstep [] x = [x] := rfl
theorem gstep_join {i : List (Int × Int)} {l x : Int × Int} (h : x.1 ≤ l.2) : gstep (i ++ [l]) x = i ++ [(l.1, max l.2 x.2)] := by
  simp [gstep, h]
theorem gstep_new {i : List (Int × Int)} {l x : Int × Int} (h : ¬ x.1 ≤ l.2) : gstep (i ++ [l]) x = i ++ [l] ++ [x] := by
  simp [gstep, h]
theorem gatherL_snoc (L : List (Int × Int)) (x : Int × Int) : gatherL (L ++ [x]) = gstep (gatherL L) x := by simp [gatherL]
theorem gatherL_step {L : List (Int × Int)} {k : Nat} (h : k < L.length) : gatherL (L.take (k + 1)) = gstep (gatherL (L.take k)) L[k] := by
  rw [List.take_succ_eq_append_getElem h, gatherL_snoc]
theorem nil_or_snoc (L : List (Int × Int)) : L = [] ∨ ∃ i l, L = i ++ [l] := by
  rcases List.eq_nil_or_concat L with h | ⟨i, l, h⟩
  · exact .inl h
  · exact .inr ⟨i, l, by simpa using h⟩
theorem gstep_length (out : List (Int × Int)) (x : Int × Int) : (gstep out x).length ≤ out.length + 1 := by
  rcases nil_or_snoc out with rfl | ⟨i, l, rfl⟩
  · simp [gstep_nil]
  · by_cases h : x.1 ≤ l.2
    · rw [gstep_join h]; simp
    · rw [gstep_new h]; simp
theorem gatherL_length (L : List (Int × Int)) : (gatherL L).length ≤ L.length := by
  have : ∀ (L out : List (Int × Int)), (L.foldl gstep out).length ≤ out.length + L.length := by
    intro L
    induction L with
    | nil => intro out; simp
    | cons x L ih =>
      intro out
      have h1 := ih (gstep out x)
      have h2 := gstep_length out x
      simp only [List.foldl_cons, List.length_cons]
      omega
  have := this L []
  simpa [gatherL] using this

/-- The spans rise by their beginnings. -/
def Rising (L : List (Int × Int)) : Prop := L.Pairwise (fun x y => x.1 ≤ y.1)

/-- What has been gathered: a least list of the same bytes, and no span of it begins behind the last one that came. -/
theorem gather_inv : ∀ (L : List (Int × Int)), (∀ x ∈ L, goodS x = true) → Rising L → Canon (gatherL L) ∧ (∀ p, InS (gatherL L) p ↔ InS L p) ∧ (∀ y ∈ gatherL L, ∃ x ∈ L, y.1 = x.1) := by
  have main : ∀ (n : Nat) (L : List (Int × Int)), L.length = n → (∀ x ∈ L, goodS x = true) → Rising L → Canon (gatherL L) ∧ (∀ p, InS (gatherL L) p ↔ InS L p) ∧ (∀ y ∈ gatherL L, ∃ x ∈ L, y.1 = x.1) := by
    intro n
    induction n with
    | zero =>
      intro L hn _ _
      obtain rfl : L = [] := List.eq_nil_of_length_eq_zero hn
      exact ⟨Canon.nil, fun p => Iff.rfl, fun y hy => by cases hy⟩
    | succ n ih =>
      intro L hn hg hr
      rcases nil_or_snoc L with rfl | ⟨M, x, rfl⟩
      · simp at hn
      have hM : M.length = n := by simpa using hn
      have hgM : ∀ y ∈ M, goodS y = true := fun y hy => hg y (List.mem_append.2 (.inl hy))
      have hrM : Rising M := (List.pairwise_append.1 hr).1
      have hlast : ∀ y ∈ M, y.1 ≤ x.1 := fun y hy => (List.pairwise_append.1 hr).2.2 y hy x (by simp)
      have hgx := hg x (by simp)
      have gx := (goodS_iff x).1 hgx
      have hox : okS x = true := by rw [okS_iff]; omega
      obtain ⟨hc, hin, hfr⟩ := ih M hM hgM hrM
      rw [gatherL_snoc]
      rcases nil_or_snoc (gatherL M) with he | ⟨i, l, he⟩
      · rw [he, gstep_nil]
        rw [he] at hin
        refine ⟨Canon.one hgx, fun p => ?_, fun y hy => ⟨x, by simp, by simp at hy; rw [hy]⟩⟩
        rw [InS_append, ← hin p]
        simp [InS_nil]
      · rw [he] at hc hin hfr ⊢
        obtain ⟨hci, hgl, hsl⟩ := hc.init
        have gl := (goodS_iff l).1 hgl
        have hol : okS l = true := by rw [okS_iff]; omega
        have hlx : l.1 ≤ x.1 := by
          obtain ⟨z, hz, e⟩ := hfr l (by simp)
          have := hlast z hz
          omega
        by_cases hj : x.1 ≤ l.2
        · rw [gstep_join hj]
          have hgn : goodS (l.1, max l.2 x.2) = true := by rw [goodS_iff]; simp only; omega
          have hon : okS (l.1, max l.2 x.2) = true := by rw [okS_iff]; simp only; omega
          refine ⟨hci.snoc hgn hsl, fun p => ?_, fun y hy => ?_⟩
          · rw [InS_append, InS_append, ← hin p, InS_append, InS_one, InS_one, InS_one, hon, hol, hox]
            simp only [true_and]
            constructor
            · rintro (h | h)
              · exact .inl (.inl h)
              · by_cases h2 : p < l.2
                · exact .inl (.inr ⟨h.1, h2⟩)
                · exact .inr ⟨by omega, by omega⟩
            · rintro ((h | h) | h)
              · exact .inl h
              · exact .inr ⟨h.1, by omega⟩
              · exact .inr ⟨by omega, by omega⟩
          · rcases List.mem_append.1 hy with h | h
            · obtain ⟨z, hz, e⟩ := hfr y (List.mem_append.2 (.inl h))
              exact ⟨z, List.mem_append.2 (.inl hz), e⟩
            · simp at h
              obtain ⟨z, hz, e⟩ := hfr l (by simp)
              exact ⟨z, List.mem_append.2 (.inl hz), by rw [h]; exact e⟩
        · rw [gstep_new hj]
          refine ⟨hc.snoc hgx (fun y hy => ?_), fun p => ?_, fun y hy => ?_⟩
          · rcases List.mem_append.1 hy with h | h
            · have := hsl y h; omega
            · simp at h; rw [h]; omega
          · rw [InS_append, InS_append M [x], ← hin p]
          · rcases List.mem_append.1 hy with h | h
            · obtain ⟨z, hz, e⟩ := hfr y h
              exact ⟨z, List.mem_append.2 (.inl hz), e⟩
            · simp at h; exact ⟨x, by simp, by rw [h]⟩
  exact fun L => main L.length L rfl
end Go.Proofs.YtaaefgieklkekaaGreatDoor
namespace Go.Proofs.YtaaefgieklkekaaGreatDoor

/-- A number into a rising list, once. -/
def insertL : List Int → Int → List Int
  | [], n => [n]
  | a :: r, n => if n ≤ a then (if n < a then n :: a :: r else a :: r) else a :: insertL r n
def Strict (l : List Int) : Prop := l.Pairwise (· < ·)
theorem mem_insertL : ∀ (l : List Int) (n m : Int), m ∈ insertL l n ↔ m = n ∨ m ∈ l
  | [], n, m => by simp [insertL]
  | a :: r, n, m => by
    unfold insertL
    by_cases h : n ≤ a
    · rw [if_pos h]
      by_cases h2 : n < a
      · rw [if_pos h2]; simp
      · obtain rfl : n = a := by omega
        rw [if_neg h2]; simp
    · rw [if_neg h]
      simp only [List.mem_cons, mem_insertL r n m]
      constructor
      · rintro (h | h | h)
        · exact .inr (.inl h)
        · exact .inl h
        · exact .inr (.inr h)
      · rintro (h | h | h)
        · exact .inr (.inl h)
        · exact .inl h
        · exact .inr (.inr h)
theorem strict_insertL : ∀ (l : List Int) (n : Int), Strict l → Strict (insertL l n)
  | [], n, _ => by simp [insertL, Strict]
  | a :: r, n, h => by
    obtain ⟨h1, h2⟩ := List.pairwise_cons.1 h
    unfold insertL
    by_cases hn : n ≤ a
    · rw [if_pos hn]
      by_cases hn2 : n < a
      · rw [if_pos hn2]
        refine List.pairwise_cons.2 ⟨fun b hb => ?_, h⟩
        rcases List.mem_cons.1 hb with rfl | hb
        · exact hn2
        · have := h1 b hb; omega
      · rw [if_neg hn2]; exact h
    · rw [if_neg hn]
      refine List.pairwise_cons.2 ⟨fun b hb => ?_, strict_insertL r n h2⟩
      rcases (mem_insertL r n b).1 hb with rfl | hb
      · omega
      · exact h1 b hb
theorem length_insertL : ∀ (l : List Int) (n : Int), (insertL l n).length ≤ l.length + 1
  | [], n => by simp [insertL]
  | a :: r, n => by
    have := length_insertL r n
    unfold insertL
    by_cases hn : n ≤ a
    · rw [if_pos hn]
      by_cases hn2 : n < a
      · rw [if_pos hn2]; simp
      · rw [if_neg hn2]; simp
    · rw [if_neg hn]; simp; omega

/-- One span's two ends more. -/
def estep (out : List Int) (x : Int × Int) : List Int := if okS x = true then insertL (insertL out x.1) x.2 else out
def endsL (L : List (Int × Int)) : List Int := L.foldl estep []
theorem endsL_snoc (L : List (Int × Int)) (x : Int × Int) : endsL (L ++ [x]) = estep (endsL L) x := by simp [endsL]
theorem endsL_step {L : List (Int × Int)} {k : Nat} (h : k < L.length) : endsL (L.take (k + 1)) = estep (endsL (L.take k)) L[k] := by
  rw [List.take_succ_eq_append_getElem h, endsL_snoc]
theorem endsL_inv (L : List (Int × Int)) : Strict (endsL L) ∧ (∀ m, m ∈ endsL L ↔ ∃ x ∈ L, okS x = true ∧ (m = x.1 ∨ m = x.2)) ∧ (endsL L).length ≤ 2 * L.length := by
  have main : ∀ (n : Nat) (L : List (Int × Int)), L.length = n → Strict (endsL L) ∧ (∀ m, m ∈ endsL L ↔ ∃ x ∈ L, okS x = true ∧ (m = x.1 ∨ m = x.2)) ∧ (endsL L).length ≤ 2 * L.length := by
    intro n
    induction n with
    | zero =>
      intro L hn
      obtain rfl : L = [] := List.eq_nil_of_length_eq_zero hn
      exact ⟨List.Pairwise.nil, fun m => by simp [endsL], by simp [endsL]⟩
    | succ n ih =>
      intro L hn
      rcases nil_or_snoc L with rfl | ⟨M, x, rfl⟩
      · simp at hn
      obtain ⟨h1, h2, h3⟩ := ih M (by simpa using hn)
      rw [endsL_snoc]
      unfold estep
      by_cases ho : okS x = true
      · rw [if_pos ho]
        refine ⟨strict_insertL _ _ (strict_insertL _ _ h1), fun m => ?_, ?_⟩
        · rw [mem_insertL, mem_insertL, h2]
          constructor
          · rintro (h | h | ⟨y, hy, r⟩)
            · exact ⟨x, by simp, ho, .inr h⟩
            · exact ⟨x, by simp, ho, .inl h⟩
            · exact ⟨y, by simp [hy], r⟩
          · rintro ⟨y, hy, hoy, r⟩
            rcases List.mem_append.1 hy with hy | hy
            · exact .inr (.inr ⟨y, hy, hoy, r⟩)
            · simp at hy; subst hy
              rcases r with r | r
              · exact .inr (.inl r)
              · exact .inl r
        · have h4 := length_insertL (insertL (endsL M) x.1) x.2
          have h5 := length_insertL (endsL M) x.1
          simp; omega
      · rw [if_neg ho]
        refine ⟨h1, fun m => ?_, by simp; omega⟩
        rw [h2]
        constructor
        · rintro ⟨y, hy, r⟩; exact ⟨y, by simp [hy], r⟩
        · rintro ⟨y, hy, hoy, r⟩
          rcases List.mem_append.1 hy with hy | hy
          · exact ⟨y, hy, hoy, r⟩
          · simp at hy; subst hy; exact absurd hoy ho
  exact main L.length L rfl

/-- One piece more. -/
def ostep (g : Int → Bool) (out : List (Int × Int)) (u v : Int) : List (Int × Int) :=
  if g u = true then
    match out.reverse with
    | [] => [(u, v)]
    | l :: r => if l.2 = u then r.reverse ++ [(l.1, v)] else out ++ [(u, v)]
  else out
theorem ostep_no {g : Int → Bool} {out : List (Int × Int)} {u v : Int} (h : g u = false) : ostep g out u v = out := by simp [ostep, h]
theorem ostep_nil {g : Int → Bool} {u v : Int} (h : g u = true) : ostep g [] u v = [(u, v)] := by simp [ostep, h]
theorem ostep_join {g : Int → Bool} {i : List (Int × Int)} {l : Int × Int} {u v : Int} (h : g u = true) (hl : l.2 = u) : ostep g (i ++ [l]) u v = i ++ [(l.1, v)] := by simp [ostep, h, hl]
theorem ostep_new {g : Int → Bool} {i : List (Int × Int)} {l : Int × Int} {u v : Int} (h : g u = true) (hl : ¬ l.2 = u) : ostep g (i ++ [l]) u v = i ++ [l] ++ [(u, v)] := by simp [ostep, h, hl]

/-- The pieces between the first k + 1 ends that are in it. -/
def ofTo (g : Int → Bool) (E : List Int) : Nat → List (Int × Int)
  | 0 => []
  | k + 1 => ostep g (ofTo g E k) (E.getD k 0) (E.getD (k + 1) 0)
theorem ofTo_length (g : Int → Bool) (E : List Int) : ∀ k, (ofTo g E k).length ≤ k
  | 0 => by simp [ofTo]
  | k + 1 => by
    have := ofTo_length g E k
    unfold ofTo
    generalize ofTo g E k = out at *
    generalize E.getD k 0 = u
    generalize E.getD (k + 1) 0 = v
    cases hg : g u
    · rw [ostep_no hg]; omega
    · rcases nil_or_snoc out with rfl | ⟨i, l, rfl⟩
      · rw [ostep_nil hg]; simp
      · by_cases hl : l.2 = u
        · rw [ostep_join hg hl]; simp at this ⊢; omega
        · rw [ostep_new hg hl]; simp at this ⊢; omega
def ofL (g : Int → Bool) (E : List Int) : List (Int × Int) := ofTo g E (E.length - 1)

/-- What the pieces are: a least list; they end at the k-th end at most; a byte ahead of it is in them just if its piece's beginning is. -/
theorem ofTo_inv (g : Int → Bool) (E : List Int) (hE : Strict E) (h0 : ∀ m ∈ E, 0 ≤ m ∧ m ≤ 4611686018427387904) (hg : ∀ (k : Nat) (h : k + 1 < E.length) (p : Int), E[k] ≤ p → p < E[k + 1] → g p = g E[k]) :
    ∀ k, k + 1 ≤ E.length → Canon (ofTo g E k) ∧ (∀ y ∈ ofTo g E k, y.2 ≤ E.getD k 0) ∧ ∀ p, InS (ofTo g E k) p ↔ E.getD 0 0 ≤ p ∧ p < E.getD k 0 ∧ g p = true
  | 0, h => by
    refine ⟨Canon.nil, (fun y hy => by cases hy), fun p => ?_⟩
    simp only [ofTo]
    constructor
    · exact fun hp => absurd hp (InS_nil p)
    · intro hp; omega
  | k + 1, h => by
    obtain ⟨hc, hle, hin⟩ := ofTo_inv g E hE h0 hg k (by omega)
    have hk : k < E.length := by omega
    have hk1 : k + 1 < E.length := by omega
    have hlt : E[k] < E[k + 1] := List.pairwise_iff_getElem.1 hE k (k + 1) hk hk1 (by omega)
    have hu0 := h0 E[k] (List.getElem_mem hk)
    have hv0 := h0 E[k + 1] (List.getElem_mem hk1)
    have hgk := hg k hk1
    have hmin : E.getD 0 0 ≤ E[k] := by
      rw [List.getD_eq_getElem?_getD, List.getElem?_eq_getElem (by omega)]
      rcases Nat.eq_zero_or_pos k with rfl | hp
      · exact Int.le_refl _
      · exact Int.le_of_lt (List.pairwise_iff_getElem.1 hE 0 k (by omega) hk hp)
    have ek : E.getD k 0 = E[k] := by rw [List.getD_eq_getElem?_getD, List.getElem?_eq_getElem hk]; rfl
    have ek1 : E.getD (k + 1) 0 = E[k + 1] := by rw [List.getD_eq_getElem?_getD, List.getElem?_eq_getElem hk1]; rfl
    rw [ek] at hle hin
    simp only [ofTo, ek, ek1]
    generalize E[k + 1] = v at *
    generalize E[k] = u at *
    generalize ofTo g E k = out at *
    generalize E.getD 0 0 = m at *
    have split : ∀ p, (m ≤ p ∧ p < v ∧ g p = true) ↔ (m ≤ p ∧ p < u ∧ g p = true) ∨ (u ≤ p ∧ p < v ∧ g u = true) := by
      intro p
      constructor
      · rintro ⟨h1, h2, h3⟩
        by_cases hp : p < u
        · exact .inl ⟨h1, hp, h3⟩
        · refine .inr ⟨by omega, h2, ?_⟩
          rw [← hgk p (by omega) h2]; exact h3
      · rintro (⟨h1, h2, h3⟩ | ⟨h1, h2, h3⟩)
        · exact ⟨h1, by omega, h3⟩
        · refine ⟨by omega, h2, ?_⟩
          rw [hgk p h1 h2]; exact h3
    cases hgu : g u
    · rw [ostep_no hgu]
      refine ⟨hc, fun y hy => by have := hle y hy; omega, fun p => ?_⟩
      rw [split p, hin p, hgu]
      simp
    · have hgd : goodS (u, v) = true := by rw [goodS_iff]; simp only; omega
      have hod : okS (u, v) = true := by rw [okS_iff]; simp only; omega
      rcases nil_or_snoc out with rfl | ⟨i, l, rfl⟩
      · rw [ostep_nil hgu]
        refine ⟨Canon.one hgd, fun y hy => by simp at hy; rw [hy]; exact Int.le_refl _, fun p => ?_⟩
        rw [split p, ← hin p, InS_one, hgu, hod]
        simp [InS_nil]
      · obtain ⟨hci, hgl, hsl⟩ := hc.init
        have gl := (goodS_iff l).1 hgl
        have hol : okS l = true := by rw [okS_iff]; omega
        by_cases hl : l.2 = u
        · rw [ostep_join hgu hl]
          have hgn : goodS (l.1, v) = true := by rw [goodS_iff]; simp only; omega
          have hon : okS (l.1, v) = true := by rw [okS_iff]; simp only; omega
          refine ⟨hci.snoc hgn hsl, fun y hy => ?_, fun p => ?_⟩
          · rcases List.mem_append.1 hy with h | h
            · have := hle y (List.mem_append.2 (.inl h)); omega
            · simp at h; rw [h]; exact Int.le_refl _
          · rw [split p, ← hin p, InS_append, InS_append, InS_one, InS_one, hon, hol, hgu]
            simp only [true_and, and_true]
            constructor
            · rintro (h | h)
              · exact .inl (.inl h)
              · by_cases h2 : p < u
                · exact .inl (.inr ⟨h.1, by omega⟩)
                · exact .inr ⟨by omega, h.2⟩
            · rintro ((h | h) | h)
              · exact .inl h
              · exact .inr ⟨h.1, by omega⟩
              · exact .inr ⟨by omega, h.2⟩
        · rw [ostep_new hgu hl]
          have hll := hle l (by simp)
          refine ⟨hc.snoc hgd (fun y hy => ?_), fun y hy => ?_, fun p => ?_⟩
          · rcases List.mem_append.1 hy with h | h
            · have := hsl y h; simp only; omega
            · simp at h; rw [h]; simp only; omega
          · rcases List.mem_append.1 hy with h | h
            · have := hle y h; omega
            · simp at h; rw [h]; exact Int.le_refl _
          · rw [split p, ← hin p, InS_append, InS_one, hod, hgu]
            simp

/-- In one piece between two ends a list of spans has all bytes or none. -/
theorem in_piece {L M : List (Int × Int)} (hM : ∀ x ∈ L, x ∈ M) {k : Nat} (h : k + 1 < (endsL M).length) {p : Int} (h1 : (endsL M)[k] ≤ p) (h2 : p < (endsL M)[k + 1]) : inB L p = inB L (endsL M)[k] := by
  obtain ⟨hs, hm, _⟩ := endsL_inv M
  have none_ : ∀ m ∈ endsL M, m ≤ (endsL M)[k] ∨ (endsL M)[k + 1] ≤ m := by
    intro m hm'
    obtain ⟨j, hj, rfl⟩ := List.getElem_of_mem hm'
    rcases Nat.lt_or_ge k j with hkj | hkj
    · right
      rcases Nat.lt_or_ge (k + 1) j with h3 | h3
      · exact Int.le_of_lt (List.pairwise_iff_getElem.1 hs (k + 1) j h hj h3)
      · obtain rfl : j = k + 1 := by omega
        exact Int.le_refl _
    · left
      rcases Nat.lt_or_ge j k with h3 | h3
      · exact Int.le_of_lt (List.pairwise_iff_getElem.1 hs j k hj (by omega) h3)
      · obtain rfl : j = k := by omega
        exact Int.le_refl _
  have hlt : (endsL M)[k] < (endsL M)[k + 1] := List.pairwise_iff_getElem.1 hs k (k + 1) (by omega) h (by omega)
  generalize (endsL M)[k] = u at *
  generalize (endsL M)[k + 1] = v at *
  rw [Bool.eq_iff_iff, inB_iff, inB_iff]
  constructor
  · rintro ⟨x, hx, ho, h3, h4⟩
    have e1 := none_ x.1 ((hm _).2 ⟨x, hM x hx, ho, .inl rfl⟩)
    have e2 := none_ x.2 ((hm _).2 ⟨x, hM x hx, ho, .inr rfl⟩)
    exact ⟨x, hx, ho, by omega, by omega⟩
  · rintro ⟨x, hx, ho, h3, h4⟩
    have e1 := none_ x.1 ((hm _).2 ⟨x, hM x hx, ho, .inl rfl⟩)
    have e2 := none_ x.2 ((hm _).2 ⟨x, hM x hx, ho, .inr rfl⟩)
    exact ⟨x, hx, ho, by omega, by omega⟩

/-- The reference's set of an operation of two lists. -/
def opB (op : Int) (x y : Bool) : Bool := (op == 1 && (x || y)) || (op == 2 && x && y) || (op == 3 && x && !y)
def ofOp (a b : List (Int × Int)) (op : Int) : List (Int × Int) := ofL (fun p => opB op (inB a p) (inB b p)) (endsL (a ++ b))

theorem ofOp_inv (a b : List (Int × Int)) (op : Int) : Canon (ofOp a b op) ∧ ∀ p, InS (ofOp a b op) p ↔ opB op (inB a p) (inB b p) = true := by
  obtain ⟨hs, hm, _⟩ := endsL_inv (a ++ b)
  have h0 : ∀ m ∈ endsL (a ++ b), 0 ≤ m ∧ m ≤ 4611686018427387904 := by
    intro m h
    obtain ⟨x, _, ho, r⟩ := (hm m).1 h
    rw [okS_iff] at ho
    omega
  have hg : ∀ (k : Nat) (h : k + 1 < (endsL (a ++ b)).length) (p : Int), (endsL (a ++ b))[k] ≤ p → p < (endsL (a ++ b))[k + 1] → opB op (inB a p) (inB b p) = opB op (inB a (endsL (a ++ b))[k]) (inB b (endsL (a ++ b))[k]) := by
    intro k h p h1 h2
    rw [in_piece (fun x hx => List.mem_append.2 (.inl hx)) h h1 h2, in_piece (fun x hx => List.mem_append.2 (.inr hx)) h h1 h2]
  have inEnds : ∀ p x, x ∈ a ++ b → okS x = true → x.1 ≤ p → p < x.2 → (endsL (a ++ b)).getD 0 0 ≤ p ∧ p < (endsL (a ++ b)).getD ((endsL (a ++ b)).length - 1) 0 := by
    intro p x hx ho h1 h2
    have m1 := (hm _).2 ⟨x, hx, ho, .inl rfl⟩
    have m2 := (hm _).2 ⟨x, hx, ho, .inr rfl⟩
    obtain ⟨i, hi, e1⟩ := List.getElem_of_mem m1
    obtain ⟨j, hj, e2⟩ := List.getElem_of_mem m2
    have g0 : (endsL (a ++ b)).getD 0 0 = (endsL (a ++ b))[0]'(by omega) := by rw [List.getD_eq_getElem?_getD, List.getElem?_eq_getElem (by omega)]; rfl
    have g1 : (endsL (a ++ b)).getD ((endsL (a ++ b)).length - 1) 0 = (endsL (a ++ b))[(endsL (a ++ b)).length - 1]'(by omega) := by rw [List.getD_eq_getElem?_getD, List.getElem?_eq_getElem (by omega)]; rfl
    rw [g0, g1]
    have a1 : (endsL (a ++ b))[0]'(by omega) ≤ (endsL (a ++ b))[i] := by
      rcases Nat.eq_zero_or_pos i with rfl | hp
      · exact Int.le_refl _
      · exact Int.le_of_lt (List.pairwise_iff_getElem.1 hs 0 i (by omega) hi hp)
    have a2 : (endsL (a ++ b))[j] ≤ (endsL (a ++ b))[(endsL (a ++ b)).length - 1]'(by omega) := by
      rcases Nat.lt_or_ge j ((endsL (a ++ b)).length - 1) with hlt | hge
      · exact Int.le_of_lt (List.pairwise_iff_getElem.1 hs j _ hj (by omega) hlt)
      · have : j = (endsL (a ++ b)).length - 1 := by omega
        subst this; exact Int.le_refl _
    omega
  have hall : ∀ p, opB op (inB a p) (inB b p) = true → (endsL (a ++ b)).getD 0 0 ≤ p ∧ p < (endsL (a ++ b)).getD ((endsL (a ++ b)).length - 1) 0 := by
    intro p h
    have hor : inB a p = true ∨ inB b p = true := by
      cases ha : inB a p
      · cases hb : inB b p
        · rw [ha, hb] at h; simp [opB] at h
        · exact .inr rfl
      · exact .inl rfl
    rcases hor with h | h
    · obtain ⟨x, hx, ho, h1, h2⟩ := (inB_iff _ _).1 h
      exact inEnds p x (List.mem_append.2 (.inl hx)) ho h1 h2
    · obtain ⟨x, hx, ho, h1, h2⟩ := (inB_iff _ _).1 h
      exact inEnds p x (List.mem_append.2 (.inr hx)) ho h1 h2
  unfold ofOp ofL
  rcases Nat.eq_zero_or_pos (endsL (a ++ b)).length with hz | hp
  · rw [hz]
    refine ⟨Canon.nil, fun p => ⟨fun h => absurd h (InS_nil p), fun h => ?_⟩⟩
    have := hall p h
    rw [hz] at this
    have e : endsL (a ++ b) = [] := List.eq_nil_of_length_eq_zero hz
    rw [e] at this
    simp at this
    omega
  · obtain ⟨hc, _, hin⟩ := ofTo_inv (fun p => opB op (inB a p) (inB b p)) (endsL (a ++ b)) hs h0 hg ((endsL (a ++ b)).length - 1) (by omega)
    refine ⟨hc, fun p => ?_⟩
    rw [hin p]
    constructor
    · exact fun h => h.2.2
    · intro h
      have := hall p h
      exact ⟨this.1, this.2, h⟩
theorem ofOp_length (a b : List (Int × Int)) (op : Int) : (ofOp a b op).length ≤ 2 * (a.length + b.length) := by
  have h1 := ofTo_length (fun p => opB op (inB a p) (inB b p)) (endsL (a ++ b)) ((endsL (a ++ b)).length - 1)
  have h2 := (endsL_inv (a ++ b)).2.2
  unfold ofOp ofL
  simp at h2
  omega
end Go.Proofs.YtaaefgieklkekaaGreatDoor
namespace Go.Proofs.YtaaefgieklkekaaGreatDoor

/-- The least list of the bytes of some spans. -/
def cano (L : List (Int × Int)) : List (Int × Int) := ofOp L [] 1
theorem cano_canon (L : List (Int × Int)) : Canon (cano L) := (ofOp_inv L [] 1).1
theorem cano_in (L : List (Int × Int)) (p : Int) : InS (cano L) p ↔ InS L p := by
  rw [cano, (ofOp_inv L [] 1).2 p, ← inB_iff]
  simp [opB, inB]
theorem cano_eq {L S : List (Int × Int)} (hc : Canon S) (h : ∀ p, InS S p ↔ InS L p) : S = cano L :=
  Canon.unique hc (cano_canon L) (fun p => (h p).trans (cano_in L p).symm)
theorem cano_self {S : List (Int × Int)} (hc : Canon S) : cano S = S := (cano_eq hc (fun _ => Iff.rfl)).symm
theorem cano_length (L : List (Int × Int)) : (cano L).length ≤ 2 * L.length := by
  have := ofOp_length L [] 1
  simpa [cano] using this

def goodL (L : List (Int × Int)) : List (Int × Int) := L.filter goodS
theorem goodL_step {L : List (Int × Int)} {k : Nat} (h : k < L.length) : goodL (L.take (k + 1)) = goodL (L.take k) ++ (if goodS L[k] = true then [L[k]] else []) := by
  unfold goodL
  rw [List.take_succ_eq_append_getElem h, List.filter_append]
  by_cases hg : goodS L[k] = true
  · simp [List.filter, hg]
  · simp [List.filter, hg]
theorem goodL_length (L : List (Int × Int)) : (goodL L).length ≤ L.length := List.length_filter_le _ _
theorem goodL_in (L : List (Int × Int)) (p : Int) : InS (goodL L) p ↔ InS L p := by
  constructor
  · rintro ⟨x, hx, r⟩
    exact ⟨x, (List.mem_filter.1 hx).1, r⟩
  · rintro ⟨x, hx, ho, h1, h2⟩
    refine ⟨x, List.mem_filter.2 ⟨hx, ?_⟩, ho, h1, h2⟩
    rw [okS_iff] at ho
    rw [goodS_iff]
    omega
/-- What is good, in any rising order, gathered: the least list. -/
theorem gather_cano {L M : List (Int × Int)} (hp : M.Perm (goodL L)) (hr : Rising M) : gatherL M = cano L := by
  have hg : ∀ x ∈ M, goodS x = true := fun x hx => (List.mem_filter.1 (hp.mem_iff.1 hx)).2
  obtain ⟨hc, hin, _⟩ := gather_inv M hg hr
  refine cano_eq hc (fun p => ?_)
  rw [hin p, ← goodL_in L p]
  constructor
  · rintro ⟨x, hx, r⟩; exact ⟨x, hp.mem_iff.1 hx, r⟩
  · rintro ⟨x, hx, r⟩; exact ⟨x, hp.mem_iff.2 hx, r⟩
end Go.Proofs.YtaaefgieklkekaaGreatDoor
namespace Go.Proofs.YtaaefgieklkekaaGreatDoor

theorem inB_ofOp (a b : List (Int × Int)) (op : Int) (p : Int) : inB (ofOp a b op) p = opB op (inB a p) (inB b p) := by
  rw [Bool.eq_iff_iff, inB_iff]; exact (ofOp_inv a b op).2 p
theorem inB_cano (L : List (Int × Int)) (p : Int) : inB (cano L) p = inB L p := by
  rw [Bool.eq_iff_iff, inB_iff, inB_iff]
  exact cano_in L p
theorem canon_ext {a b : List (Int × Int)} (ha : Canon a) (hb : Canon b) (h : ∀ p, inB a p = inB b p) : a = b :=
  Canon.unique ha hb fun p => by rw [← inB_iff, ← inB_iff, h p]
theorem inB_nil (p : Int) : inB [] p = false := rfl
theorem Canon.in_mem {L : List (Int × Int)} (h : Canon L) {z : Int × Int} (hz : z ∈ L) : InS L z.1 := by
  have := h.mem hz
  exact ⟨z, hz, by rw [okS_iff]; omega, by omega, by omega⟩
theorem Canon.in_last {L : List (Int × Int)} (h : Canon L) {z : Int × Int} (hz : z ∈ L) : InS L (z.2 - 1) := by
  have := h.mem hz
  exact ⟨z, hz, by rw [okS_iff]; omega, by omega, by omega⟩
theorem Canon.cons' {x : Int × Int} {L : List (Int × Int)} (h : Canon L) (hx : goodS x = true) (hp : ∀ p, InS L p → x.2 < p) : Canon (x :: L) :=
  ⟨fun y hy => by
    rcases List.mem_cons.1 hy with rfl | hy
    · exact hx
    · exact h.good y hy, List.pairwise_cons.2 ⟨fun z hz => hp _ (h.in_mem hz), h.sep⟩⟩
theorem Canon.append {a b : List (Int × Int)} (ha : Canon a) (hb : Canon b) (h : ∀ y ∈ a, ∀ z ∈ b, y.2 < z.1) : Canon (a ++ b) :=
  ⟨fun y hy => by
    rcases List.mem_append.1 hy with hy | hy
    · exact ha.good y hy
    · exact hb.good y hy, List.pairwise_append.2 ⟨ha.sep, hb.sep, h⟩⟩
theorem Canon.rising {L : List (Int × Int)} (h : Canon L) : Rising L :=
  h.sep.imp_of_mem (fun ha _ hab => by have := h.mem ha; omega)

theorem drop_at {L : List (Int × Int)} {k : Nat} (h : k < L.length) : L.drop k = L[k] :: L.drop (k + 1) := List.drop_eq_getElem_cons h
theorem drop_end {L : List (Int × Int)} {k : Nat} (h : ¬ k < L.length) : L.drop k = [] := List.drop_eq_nil_of_le (by omega)

/-- Two lists that rise, as one. -/
def mgL : List (Int × Int) → List (Int × Int) → List (Int × Int)
  | [], b => b
  | x :: a, [] => x :: a
  | x :: a, y :: b => if x.1 ≤ y.1 then x :: mgL a (y :: b) else y :: mgL (x :: a) b
  termination_by a b => a.length + b.length
theorem mgL_nil (b : List (Int × Int)) : mgL [] b = b := by rw [mgL]
theorem mgL_nil' (a : List (Int × Int)) : mgL a [] = a := by cases a <;> rw [mgL]
theorem mgL_le {x y : Int × Int} {a b : List (Int × Int)} (h : x.1 ≤ y.1) : mgL (x :: a) (y :: b) = x :: mgL a (y :: b) := by rw [mgL, if_pos h]
theorem mgL_gt {x y : Int × Int} {a b : List (Int × Int)} (h : ¬ x.1 ≤ y.1) : mgL (x :: a) (y :: b) = y :: mgL (x :: a) b := by rw [mgL, if_neg h]
theorem mgL_inv : ∀ (n : Nat) (a b : List (Int × Int)), a.length + b.length ≤ n → Rising a → Rising b → (mgL a b).Perm (a ++ b) ∧ Rising (mgL a b)
  | n, [], b, _, _, hb => by rw [mgL_nil]; exact ⟨List.Perm.refl _, hb⟩
  | n, x :: a, [], _, ha, _ => by rw [mgL_nil']; exact ⟨by simp, ha⟩
  | 0, x :: a, y :: b, h, _, _ => by simp at h
  | n + 1, x :: a, y :: b, h, ha, hb => by
    have ha' := List.pairwise_cons.1 ha
    have hb' := List.pairwise_cons.1 hb
    by_cases hxy : x.1 ≤ y.1
    · rw [mgL_le hxy]
      obtain ⟨h1, h2⟩ := mgL_inv n a (y :: b) (by simp at h ⊢; omega) ha'.2 hb
      refine ⟨h1.cons x, List.pairwise_cons.2 ⟨fun z hz => ?_, h2⟩⟩
      rcases List.mem_append.1 (h1.mem_iff.1 hz) with hz | hz
      · exact ha'.1 z hz
      · rcases List.mem_cons.1 hz with rfl | hz
        · exact hxy
        · have := hb'.1 z hz; omega
    · rw [mgL_gt hxy]
      obtain ⟨h1, h2⟩ := mgL_inv n (x :: a) b (by simp at h ⊢; omega) ha hb'.2
      refine ⟨(h1.cons y).trans List.perm_middle.symm, List.pairwise_cons.2 ⟨fun z hz => ?_, h2⟩⟩
      rcases List.mem_append.1 (h1.mem_iff.1 hz) with hz | hz
      · rcases List.mem_cons.1 hz with rfl | hz
        · omega
        · have := ha'.1 z hz; omega
      · exact hb'.1 z hz
theorem mgL_length (a b : List (Int × Int)) (ha : Rising a) (hb : Rising b) : (mgL a b).length = a.length + b.length := by
  have := (mgL_inv _ a b (Nat.le_refl _) ha hb).1.length_eq
  simpa using this
theorem or_eq {a b : List (Int × Int)} (ha : Canon a) (hb : Canon b) : gatherL (mgL a b) = ofOp a b 1 := by
  obtain ⟨hp, hr⟩ := mgL_inv _ a b (Nat.le_refl _) ha.rising hb.rising
  have hg : ∀ x ∈ mgL a b, goodS x = true := fun x hx => by
    rcases List.mem_append.1 (hp.mem_iff.1 hx) with h | h
    · exact ha.good x h
    · exact hb.good x h
  obtain ⟨hc, hin, _⟩ := gather_inv _ hg hr
  refine Canon.unique hc (ofOp_inv a b 1).1 (fun p => ?_)
  rw [hin p, (ofOp_inv a b 1).2 p]
  have e : InS (mgL a b) p ↔ InS (a ++ b) p := by
    constructor
    · rintro ⟨x, hx, r⟩; exact ⟨x, hp.mem_iff.1 hx, r⟩
    · rintro ⟨x, hx, r⟩; exact ⟨x, hp.mem_iff.2 hx, r⟩
  rw [e, InS_append, ← inB_iff, ← inB_iff]
  simp [opB]

/-- What two spans share. -/
def meetL (x y : Int × Int) : List (Int × Int) := if max x.1 y.1 < min x.2 y.2 then [(max x.1 y.1, min x.2 y.2)] else []
def andL : List (Int × Int) → List (Int × Int) → List (Int × Int)
  | [], _ => []
  | _ :: _, [] => []
  | x :: a, y :: b => meetL x y ++ (if x.2 ≤ y.2 then andL a (y :: b) else andL (x :: a) b)
  termination_by a b => a.length + b.length
theorem andL_nil (b : List (Int × Int)) : andL [] b = [] := by rw [andL]
theorem andL_nil' (a : List (Int × Int)) : andL a [] = [] := by cases a <;> rw [andL]
theorem andL_le {x y : Int × Int} {a b : List (Int × Int)} (h : x.2 ≤ y.2) : andL (x :: a) (y :: b) = meetL x y ++ andL a (y :: b) := by rw [andL, if_pos h]
theorem andL_gt {x y : Int × Int} {a b : List (Int × Int)} (h : ¬ x.2 ≤ y.2) : andL (x :: a) (y :: b) = meetL x y ++ andL (x :: a) b := by rw [andL, if_neg h]
theorem meet_in {x y : Int × Int} (hx : goodS x = true) (hy : goodS y = true) (p : Int) : InS (meetL x y) p ↔ (x.1 ≤ p ∧ p < x.2) ∧ (y.1 ≤ p ∧ p < y.2) := by
  have gx := (goodS_iff x).1 hx
  have gy := (goodS_iff y).1 hy
  unfold meetL
  split
  · rw [InS_one, okS_iff]; simp only; omega
  · constructor
    · intro h; exact absurd h (InS_nil p)
    · intro h; omega
theorem meet_canon {x y : Int × Int} (hx : goodS x = true) (hy : goodS y = true) {L : List (Int × Int)} (hL : Canon L) (h : ∀ p, InS L p → min x.2 y.2 < p) : Canon (meetL x y ++ L) := by
  have gx := (goodS_iff x).1 hx
  have gy := (goodS_iff y).1 hy
  unfold meetL
  split
  · exact hL.cons' (by rw [goodS_iff]; simp only; omega) h
  · exact hL
theorem andL_inv : ∀ (n : Nat) (a b : List (Int × Int)), a.length + b.length ≤ n → Canon a → Canon b → Canon (andL a b) ∧ ∀ p, InS (andL a b) p ↔ InS a p ∧ InS b p
  | n, [], b, _, _, hb => by rw [andL_nil]; exact ⟨Canon.nil, fun p => by simp [InS_nil]⟩
  | n, x :: a, [], _, ha, _ => by rw [andL_nil']; exact ⟨Canon.nil, fun p => by simp [InS_nil]⟩
  | 0, x :: a, y :: b, h, _, _ => by simp at h
  | n + 1, x :: a, y :: b, h, ha, hb => by
    have gx := ha.good x (List.mem_cons_self ..)
    have gy := hb.good y (List.mem_cons_self ..)
    by_cases hxy : x.2 ≤ y.2
    · rw [andL_le hxy]
      obtain ⟨h1, h2⟩ := andL_inv n a (y :: b) (by simp at h ⊢; omega) ha.tail hb
      refine ⟨meet_canon gx gy h1 (fun p hp => ?_), fun p => ?_⟩
      · have := ha.behind ((h2 p).1 hp).1; omega
      · rw [InS_append, meet_in gx gy, h2 p, ha.in_cons, hb.in_cons]
        constructor
        · rintro (h3 | h3)
          · exact ⟨.inl h3.1, .inl h3.2⟩
          · exact ⟨.inr h3.1, h3.2⟩
        · rintro ⟨h3 | h3, h4⟩
          · rcases h4 with h4 | h4
            · exact .inl ⟨h3, h4⟩
            · have := hb.behind h4; omega
          · exact .inr ⟨h3, h4⟩
    · rw [andL_gt hxy]
      obtain ⟨h1, h2⟩ := andL_inv n (x :: a) b (by simp at h ⊢; omega) ha hb.tail
      refine ⟨meet_canon gx gy h1 (fun p hp => ?_), fun p => ?_⟩
      · have := hb.behind ((h2 p).1 hp).2; omega
      · rw [InS_append, meet_in gx gy, h2 p, ha.in_cons, hb.in_cons]
        constructor
        · rintro (h3 | h3)
          · exact ⟨.inl h3.1, .inl h3.2⟩
          · exact ⟨h3.1, .inr h3.2⟩
        · rintro ⟨h3, h4 | h4⟩
          · rcases h3 with h3 | h3
            · exact .inl ⟨h3, h4⟩
            · have := ha.behind h3; omega
          · exact .inr ⟨h3, h4⟩
theorem and_eq {a b : List (Int × Int)} (ha : Canon a) (hb : Canon b) : andL a b = ofOp a b 2 := by
  obtain ⟨hc, hin⟩ := andL_inv _ a b (Nat.le_refl _) ha hb
  refine Canon.unique hc (ofOp_inv a b 2).1 (fun p => ?_)
  rw [hin p, (ofOp_inv a b 2).2 p, ← inB_iff, ← inB_iff]
  simp [opB]
theorem andL_length : ∀ (n : Nat) (a b : List (Int × Int)), a.length + b.length ≤ n → (andL a b).length ≤ a.length + b.length
  | n, [], b, _ => by rw [andL_nil]; simp
  | n, x :: a, [], _ => by rw [andL_nil']; simp
  | 0, x :: a, y :: b, h => by simp at h
  | n + 1, x :: a, y :: b, h => by
    have hm : (meetL x y).length ≤ 1 := by unfold meetL; split <;> simp
    by_cases hxy : x.2 ≤ y.2
    · rw [andL_le hxy]
      have := andL_length n a (y :: b) (by simp at h ⊢; omega)
      simp at this ⊢; omega
    · rw [andL_gt hxy]
      have := andL_length n (x :: a) b (by simp at h ⊢; omega)
      simp at this ⊢; omega

/-- What is left of the bytes from one place to another, less some spans. -/
def pieceL (f t : Int) : List (Int × Int) := if f < t then [(f, t)] else []
def cutL (t : Int) : Int → List (Int × Int) → List (Int × Int)
  | f, [] => pieceL f t
  | f, y :: b => if y.1 < t then pieceL f y.1 ++ cutL t (max f y.2) b else pieceL f t
theorem cutL_nil (t f : Int) : cutL t f [] = pieceL f t := rfl
theorem cutL_in {t f : Int} {y : Int × Int} {b : List (Int × Int)} (h : y.1 < t) : cutL t f (y :: b) = pieceL f y.1 ++ cutL t (max f y.2) b := by rw [cutL, if_pos h]
theorem cutL_out {t f : Int} {y : Int × Int} {b : List (Int × Int)} (h : ¬ y.1 < t) : cutL t f (y :: b) = pieceL f t := by rw [cutL, if_neg h]
theorem piece_in {f t : Int} (hf : 0 ≤ f) (ht : t ≤ 4611686018427387904) (p : Int) : InS (pieceL f t) p ↔ f ≤ p ∧ p < t := by
  unfold pieceL
  split
  · rw [InS_one, okS_iff]; simp only; omega
  · constructor
    · intro h; exact absurd h (InS_nil p)
    · intro h; omega
theorem piece_canon {f t : Int} (hf : 0 ≤ f) (ht : t ≤ 4611686018427387904) : Canon (pieceL f t) := by
  unfold pieceL
  split
  · exact Canon.one (by rw [goodS_iff]; simp only; omega)
  · exact Canon.nil
theorem cutL_inv : ∀ (b : List (Int × Int)) (t f : Int), Canon b → 0 ≤ f → t ≤ 4611686018427387904 → Canon (cutL t f b) ∧ ∀ p, InS (cutL t f b) p ↔ f ≤ p ∧ p < t ∧ ¬ InS b p
  | [], t, f, _, hf, ht => by
    rw [cutL_nil]
    exact ⟨piece_canon hf ht, fun p => by rw [piece_in hf ht]; simp [InS_nil]⟩
  | y :: b, t, f, hb, hf, ht => by
    have hy := hb.head
    by_cases h : y.1 < t
    · rw [cutL_in h]
      obtain ⟨h1, h2⟩ := cutL_inv b t (max f y.2) hb.tail (by omega) ht
      refine ⟨?_, fun p => ?_⟩
      · unfold pieceL
        split
        · refine h1.cons' (by rw [goodS_iff]; simp only; omega) (fun p hp => ?_)
          have := (h2 p).1 hp
          simp only; omega
        · exact h1
      · rw [InS_append, piece_in hf (by omega), h2 p, hb.in_cons]
        constructor
        · rintro (h3 | ⟨h3, h4, h5⟩)
          · refine ⟨h3.1, by omega, ?_⟩
            rintro (h4 | h4)
            · omega
            · have := hb.behind h4; omega
          · refine ⟨by omega, h4, ?_⟩
            rintro (h6 | h6)
            · omega
            · exact h5 h6
        · rintro ⟨h3, h4, h5⟩
          by_cases h6 : p < y.1
          · exact .inl ⟨h3, h6⟩
          · have h7 : ¬ p < y.2 := fun h7 => h5 (.inl ⟨by omega, h7⟩)
            exact .inr ⟨by omega, h4, fun h8 => h5 (.inr h8)⟩
    · rw [cutL_out h]
      refine ⟨piece_canon hf ht, fun p => ?_⟩
      rw [piece_in hf ht]
      constructor
      · rintro ⟨h1, h2⟩
        refine ⟨h1, h2, fun h3 => ?_⟩
        have := hb.first h3
        omega
      · rintro ⟨h1, h2, _⟩; exact ⟨h1, h2⟩
def skipL (f : Int) (b : List (Int × Int)) : List (Int × Int) := b.dropWhile fun y => decide (y.2 ≤ f)
theorem skipL_nil (f : Int) : skipL f [] = [] := rfl
theorem skipL_yes {f : Int} {y : Int × Int} {b : List (Int × Int)} (h : y.2 ≤ f) : skipL f (y :: b) = skipL f b := by simp [skipL, List.dropWhile, h]
theorem skipL_no {f : Int} {y : Int × Int} {b : List (Int × Int)} (h : ¬ y.2 ≤ f) : skipL f (y :: b) = y :: b := by simp [skipL, List.dropWhile, h]
theorem skipL_canon (f : Int) {b : List (Int × Int)} (hb : Canon b) : Canon (skipL f b) :=
  ⟨fun x hx => hb.good x ((List.dropWhile_sublist _).mem hx), hb.sep.sublist (List.dropWhile_sublist _)⟩
theorem skipL_in (f p : Int) (h : f ≤ p) : ∀ (b : List (Int × Int)), InS (skipL f b) p ↔ InS b p
  | [] => Iff.rfl
  | y :: b => by
    by_cases hy : y.2 ≤ f
    · rw [skipL_yes hy, skipL_in f p h b, InS_cons]
      constructor
      · exact .inr
      · rintro (h1 | h1)
        · omega
        · exact h1
    · rw [skipL_no hy]
def lessL : List (Int × Int) → List (Int × Int) → List (Int × Int)
  | [], _ => []
  | x :: a, b => cutL x.2 x.1 (skipL x.1 b) ++ lessL a (skipL x.1 b)
theorem lessL_nil (b : List (Int × Int)) : lessL [] b = [] := rfl
theorem lessL_cons (x : Int × Int) (a b : List (Int × Int)) : lessL (x :: a) b = cutL x.2 x.1 (skipL x.1 b) ++ lessL a (skipL x.1 b) := rfl
theorem lessL_inv : ∀ (a b : List (Int × Int)), Canon a → Canon b → Canon (lessL a b) ∧ ∀ p, InS (lessL a b) p ↔ InS a p ∧ ¬ InS b p
  | [], b, _, _ => ⟨Canon.nil, fun p => by rw [lessL_nil]; simp [InS_nil]⟩
  | x :: a, b, ha, hb => by
    have hx := ha.head
    have hs := skipL_canon x.1 hb
    obtain ⟨c1, c2⟩ := cutL_inv (skipL x.1 b) x.2 x.1 hs hx.1 hx.2.2
    obtain ⟨l1, l2⟩ := lessL_inv a (skipL x.1 b) ha.tail hs
    rw [lessL_cons]
    refine ⟨c1.append l1 (fun y hy z hz => ?_), fun p => ?_⟩
    · have h1 := (c2 _).1 (c1.in_last hy)
      have h2 := ha.behind ((l2 _).1 (l1.in_mem hz)).1
      omega
    · rw [InS_append, c2 p, l2 p, ha.in_cons]
      constructor
      · rintro (⟨h1, h2, h3⟩ | ⟨h1, h2⟩)
        · exact ⟨.inl ⟨h1, h2⟩, fun h4 => h3 ((skipL_in _ _ h1 b).2 h4)⟩
        · have := ha.behind h1
          exact ⟨.inr h1, fun h4 => h2 ((skipL_in _ _ (by omega) b).2 h4)⟩
      · rintro ⟨h1 | h1, h2⟩
        · exact .inl ⟨h1.1, h1.2, fun h4 => h2 ((skipL_in _ _ h1.1 b).1 h4)⟩
        · have := ha.behind h1
          exact .inr ⟨h1, fun h4 => h2 ((skipL_in _ _ (by omega) b).1 h4)⟩
theorem less_eq {a b : List (Int × Int)} (ha : Canon a) (hb : Canon b) : lessL a b = ofOp a b 3 := by
  obtain ⟨hc, hin⟩ := lessL_inv a b ha hb
  refine Canon.unique hc (ofOp_inv a b 3).1 (fun p => ?_)
  rw [hin p, (ofOp_inv a b 3).2 p, ← inB_iff, ← inB_iff]
  simp [opB]

/-- Gaps that are at most so long, closed: one span at hand. -/
def nearR (gap : Int) : Int × Int → List (Int × Int) → List (Int × Int)
  | l, [] => [l]
  | l, x :: r => if x.1 - l.2 ≤ gap then nearR gap (l.1, x.2) r else l :: nearR gap x r
def nearL (gap : Int) : List (Int × Int) → List (Int × Int)
  | [] => []
  | x :: r => nearR gap x r
def gapsL (gap : Int) : List (Int × Int) → List (Int × Int)
  | [] => []
  | [_] => []
  | l :: x :: r => if x.1 - l.2 ≤ gap then (l.2, x.1) :: gapsL gap (x :: r) else gapsL gap (x :: r)
theorem nearR_nil (gap : Int) (l : Int × Int) : nearR gap l [] = [l] := rfl
theorem nearR_join {gap : Int} {l x : Int × Int} {r : List (Int × Int)} (h : x.1 - l.2 ≤ gap) : nearR gap l (x :: r) = nearR gap (l.1, x.2) r := by rw [nearR, if_pos h]
theorem nearR_new {gap : Int} {l x : Int × Int} {r : List (Int × Int)} (h : ¬ x.1 - l.2 ≤ gap) : nearR gap l (x :: r) = l :: nearR gap x r := by rw [nearR, if_neg h]
theorem gapsL_one (gap : Int) (l : Int × Int) : gapsL gap [l] = [] := rfl
theorem gapsL_yes {gap : Int} {l x : Int × Int} {r : List (Int × Int)} (h : x.1 - l.2 ≤ gap) : gapsL gap (l :: x :: r) = (l.2, x.1) :: gapsL gap (x :: r) := by rw [gapsL, if_pos h]
theorem gapsL_no {gap : Int} {l x : Int × Int} {r : List (Int × Int)} (h : ¬ x.1 - l.2 ≤ gap) : gapsL gap (l :: x :: r) = gapsL gap (x :: r) := by rw [gapsL, if_neg h]
theorem gapsL_head (gap : Int) {a b : Int × Int} (h : a.2 = b.2) : ∀ r : List (Int × Int), gapsL gap (a :: r) = gapsL gap (b :: r)
  | [] => rfl
  | x :: r => by
    by_cases h1 : x.1 - a.2 ≤ gap
    · rw [gapsL_yes h1, gapsL_yes (by rw [← h]; exact h1), h]
    · rw [gapsL_no h1, gapsL_no (by rw [← h]; exact h1)]
theorem gapsL_from (gap : Int) : ∀ (r : List (Int × Int)) (x : Int × Int), Canon (x :: r) → ∀ p, InS (gapsL gap (x :: r)) p → x.2 ≤ p
  | [], x, _, p, h => absurd h (InS_nil p)
  | y :: r, x, hc, p, h => by
    have hy := hc.tail.head
    have hs := (List.pairwise_cons.1 hc.sep).1 y (List.mem_cons_self ..)
    by_cases h1 : y.1 - x.2 ≤ gap
    · rw [gapsL_yes h1, InS_cons] at h
      rcases h with h | h
      · exact h.2.1
      · have := gapsL_from gap r y hc.tail p h; omega
    · rw [gapsL_no h1] at h
      have := gapsL_from gap r y hc.tail p h; omega
theorem nearR_inv (gap : Int) : ∀ (r : List (Int × Int)) (l : Int × Int), Canon (l :: r) → Canon (nearR gap l r) ∧ ∀ p, InS (nearR gap l r) p ↔ InS (l :: r) p ∨ InS (gapsL gap (l :: r)) p
  | [], l, hc => by
    rw [nearR_nil, gapsL_one]
    exact ⟨hc, fun p => by simp [InS_nil]⟩
  | x :: r, l, hc => by
    have hl := hc.head
    have hx := hc.tail.head
    have hs := (List.pairwise_cons.1 hc.sep).1 x (List.mem_cons_self ..)
    by_cases h : x.1 - l.2 ≤ gap
    · rw [nearR_join h, gapsL_yes h]
      have hc' : Canon ((l.1, x.2) :: r) := hc.tail.tail.cons' (by rw [goodS_iff]; simp only; omega) (fun p hp => hc.tail.behind hp)
      obtain ⟨h1, h2⟩ := nearR_inv gap r (l.1, x.2) hc'
      refine ⟨h1, fun p => ?_⟩
      rw [h2 p, gapsL_head gap (a := (l.1, x.2)) (b := x) rfl r, hc'.in_cons, hc.in_cons, hc.tail.in_cons, InS_cons, okS_iff]
      simp only
      constructor
      · rintro ((h3 | h3) | h3)
        · by_cases h4 : p < l.2
          · exact .inl (.inl ⟨h3.1, h4⟩)
          · by_cases h5 : p < x.1
            · exact .inr (.inl (by omega))
            · exact .inl (.inr (.inl (by omega)))
        · exact .inl (.inr (.inr h3))
        · exact .inr (.inr h3)
      · rintro ((h3 | h3 | h3) | h3 | h3)
        · exact .inl (.inl (by omega))
        · exact .inl (.inl (by omega))
        · exact .inl (.inr h3)
        · exact .inl (.inl (by omega))
        · exact .inr h3
    · rw [nearR_new h, gapsL_no h]
      obtain ⟨h1, h2⟩ := nearR_inv gap r x hc.tail
      have hbe : ∀ p, InS (nearR gap x r) p → l.2 < p := fun p hp => by
        rcases (h2 p).1 hp with h3 | h3
        · exact hc.behind h3
        · have := gapsL_from gap r x hc.tail p h3; omega
      have hc' := h1.cons' (hc.good l (List.mem_cons_self ..)) hbe
      refine ⟨hc', fun p => ?_⟩
      rw [hc'.in_cons, h2 p, hc.in_cons]
      constructor
      · rintro (h3 | h3 | h3)
        · exact .inl (.inl h3)
        · exact .inl (.inr h3)
        · exact .inr h3
      · rintro ((h3 | h3) | h3)
        · exact .inl h3
        · exact .inr (.inl h3)
        · exact .inr (.inr h3)
theorem near_inv (gap : Int) {L : List (Int × Int)} (hc : Canon L) : Canon (nearL gap L) ∧ nearL gap L = cano (L ++ gapsL gap L) := by
  cases L with
  | nil => exact ⟨Canon.nil, (cano_self Canon.nil).symm⟩
  | cons x r =>
    obtain ⟨h1, h2⟩ := nearR_inv gap r x hc
    exact ⟨h1, cano_eq h1 (fun p => by show InS (nearR gap x r) p ↔ _; rw [h2 p, InS_append])⟩
/-- All gaps are longer. -/
def apartL (gap : Int) : List (Int × Int) → Prop
  | [] => True
  | [_] => True
  | l :: x :: r => ¬ x.1 - l.2 ≤ gap ∧ apartL gap (x :: r)
theorem nearR_apart (gap : Int) : ∀ (r : List (Int × Int)) (l : Int × Int), apartL gap (nearR gap l r) ∧ ∃ h t, nearR gap l r = h :: t ∧ h.1 = l.1
  | [], l => ⟨trivial, l, [], rfl, rfl⟩
  | x :: r, l => by
    by_cases h : x.1 - l.2 ≤ gap
    · rw [nearR_join h]
      obtain ⟨h1, u, t, h2, h3⟩ := nearR_apart gap r (l.1, x.2)
      exact ⟨h1, u, t, h2, h3⟩
    · rw [nearR_new h]
      obtain ⟨h1, u, t, h2, h3⟩ := nearR_apart gap r x
      refine ⟨?_, l, _, rfl, rfl⟩
      rw [h2] at h1 ⊢
      exact ⟨by rw [h3]; exact h, h1⟩
theorem near_of_apart (gap : Int) : ∀ (r : List (Int × Int)) (l : Int × Int), apartL gap (l :: r) → nearR gap l r = l :: r
  | [], l, _ => rfl
  | x :: r, l, h => by rw [nearR_new h.1, near_of_apart gap r x h.2]
theorem near_near (gap : Int) (L : List (Int × Int)) : nearL gap (nearL gap L) = nearL gap L := by
  cases L with
  | nil => rfl
  | cons x r =>
    show nearL gap (nearR gap x r) = nearR gap x r
    obtain ⟨h1, u, t, h2, _⟩ := nearR_apart gap r x
    rw [h2] at h1 ⊢
    exact near_of_apart gap t u h1
theorem near_length (gap : Int) : ∀ (r : List (Int × Int)) (l : Int × Int), (nearR gap l r).length ≤ r.length + 1
  | [], l => by simp [nearR_nil]
  | x :: r, l => by
    by_cases h : x.1 - l.2 ≤ gap
    · rw [nearR_join h]; have := near_length gap r (l.1, x.2); simp; omega
    · rw [nearR_new h]; have := near_length gap r x; simp; omega
theorem gaps_length (gap : Int) : ∀ (L : List (Int × Int)), (gapsL gap L).length ≤ L.length
  | [] => by simp [gapsL]
  | [_] => by simp [gapsL]
  | l :: x :: r => by
    have := gaps_length gap (x :: r)
    by_cases h : x.1 - l.2 ≤ gap
    · rw [gapsL_yes h]; simp at this ⊢; omega
    · rw [gapsL_no h]; simp at this ⊢; omega
theorem gaps_none {gap : Int} (hg : gap < 1) : ∀ (L : List (Int × Int)), Canon L → gapsL gap L = []
  | [], _ => rfl
  | [_], _ => rfl
  | l :: x :: r, hc => by
    have hs := (List.pairwise_cons.1 hc.sep).1 x (List.mem_cons_self ..)
    rw [gapsL_no (by omega)]
    exact gaps_none hg _ hc.tail
/-- The program's Near. -/
def nearP (gap : Int) (L : List (Int × Int)) : List (Int × Int) := if gap < 1 then L else nearL gap L
theorem nearP_canon (gap : Int) {L : List (Int × Int)} (hc : Canon L) : Canon (nearP gap L) := by
  unfold nearP; split
  · exact hc
  · exact (near_inv gap hc).1
theorem nearP_eq (gap : Int) {L : List (Int × Int)} (hc : Canon L) : nearP gap L = cano (L ++ gapsL gap L) := by
  unfold nearP; split
  · rename_i h; rw [gaps_none h L hc, List.append_nil, cano_self hc]
  · exact (near_inv gap hc).2
theorem nearP_again (gap : Int) (L : List (Int × Int)) : nearP gap (nearP gap L) = nearP gap L := by
  unfold nearP; split
  · rfl
  · exact near_near gap L
theorem nearP_length (gap : Int) (L : List (Int × Int)) : (nearP gap L).length ≤ L.length := by
  unfold nearP; split
  · exact Nat.le_refl _
  · cases L with
    | nil => simp [nearL]
    | cons x r => exact near_length gap r x

/-- All of a span is in a set just if nothing is left of it less the set. -/
theorem holds_less {L : List (Int × Int)} (hc : Canon L) (x : Int × Int) : (okS x && decide ((ofOp [x] L 3).length = 0)) = holdsL L x := by
  unfold holdsL
  cases hok : okS x
  · rfl
  · have hx := (okS_iff x).1 hok
    obtain ⟨h1, h2⟩ := ofOp_inv [x] L 3
    rw [Bool.true_and, Bool.true_and, Bool.eq_iff_iff]
    simp only [decide_eq_true_eq, Bool.or_eq_true, List.any_eq_true, Bool.and_eq_true]
    have key : ∀ p, InS (ofOp [x] L 3) p ↔ (x.1 ≤ p ∧ p < x.2) ∧ ¬ InS L p := fun p => by
      rw [h2 p]
      simp only [opB, inB, List.any_cons, List.any_nil, hok]
      rw [← inB_iff]
      simp [inB]
    constructor
    · intro h0
      have e : ofOp [x] L 3 = [] := List.eq_nil_of_length_eq_zero h0
      rw [e] at key
      have all : ∀ p, x.1 ≤ p → p < x.2 → InS L p := fun p a b => Classical.byContradiction fun hn => InS_nil p ((key p).2 ⟨⟨a, b⟩, hn⟩)
      by_cases hxx : x.1 = x.2
      · exact .inl hxx
      · right
        obtain ⟨y, hy, hoy, y1, y2⟩ := all x.1 (by omega) (by omega)
        refine ⟨y, hy, y1, Classical.byContradiction fun hlt => ?_⟩
        obtain ⟨z, hz, _, z1, z2⟩ := all y.2 (by omega) (by omega)
        obtain ⟨i, hi, rfl⟩ := List.getElem_of_mem hy
        obtain ⟨j, hj, rfl⟩ := List.getElem_of_mem hz
        have gi := hc.mem (List.getElem_mem hi)
        rcases Nat.lt_trichotomy i j with hij | hij | hij
        · have := List.pairwise_iff_getElem.1 hc.sep i j hi hj hij; omega
        · subst hij; omega
        · have := List.pairwise_iff_getElem.1 hc.sep j i hj hi hij; omega
    · intro h
      have e : ofOp [x] L 3 = [] := by
        refine Canon.unique h1 Canon.nil (fun p => ⟨fun hp => ?_, fun hp => absurd hp (InS_nil p)⟩)
        obtain ⟨⟨a, b⟩, hn⟩ := (key p).1 hp
        rcases h with h | ⟨y, hy, y1, y2⟩
        · omega
        · exfalso
          have gy := hc.mem hy
          exact hn ⟨y, hy, by rw [okS_iff]; omega, by omega, by omega⟩
      rw [e]; rfl
end Go.Proofs.YtaaefgieklkekaaGreatDoor
namespace Go.Proofs.YtaaefgieklkekaaGreatDoor

/-- How many of the first N bytes are so. -/
def cnt (f : Int → Bool) : Nat → Nat
  | 0 => 0
  | N + 1 => cnt f N + if f N = true then 1 else 0
theorem cnt_le {f g : Int → Bool} (h : ∀ p, f p = true → g p = true) : ∀ N, cnt f N ≤ cnt g N
  | 0 => Nat.le_refl _
  | N + 1 => by
    have h1 := cnt_le h N
    have h2 := h N
    simp only [cnt]
    cases hf : f N <;> cases hg : g N <;> simp [hf, hg] at h2 ⊢ <;> omega
theorem cnt_lt {f g : Int → Bool} (h : ∀ p, f p = true → g p = true) {q : Int} (hq : f q = false) (hq' : g q = true) : ∀ N : Nat, 0 ≤ q → q < N → cnt f N < cnt g N
  | 0, h0, h1 => by omega
  | N + 1, h0, h1 => by
    have hle := cnt_le h N
    simp only [cnt]
    by_cases e : q = N
    · rw [← e, hq, hq']; simp; omega
    · have h3 := cnt_lt h hq hq' N h0 (by omega)
      have h2 := h N
      cases hf : f N <;> cases hg : g N <;> simp [hf, hg] at h2 ⊢ <;> omega
theorem cnt_or {f g k : Int → Bool} (h : ∀ p, k p = (f p || g p)) (hd : ∀ p, f p = true → g p = false) : ∀ N, cnt k N = cnt f N + cnt g N
  | 0 => rfl
  | N + 1 => by
    have h1 := cnt_or h hd N
    have h2 := hd N
    simp only [cnt, h]
    cases hf : f N <;> cases hg : g N <;> simp [hf, hg] at h2 ⊢ <;> omega
theorem cnt_none {f : Int → Bool} (h : ∀ p, f p = false) : ∀ N, cnt f N = 0
  | 0 => rfl
  | N + 1 => by simp only [cnt, h, cnt_none h N]; rfl
theorem cnt_span (a b : Int) (h0 : 0 ≤ a) (hab : a ≤ b) : ∀ N : Nat, (cnt (fun p => decide (a ≤ p) && decide (p < b)) N : Int) = max 0 (min (N : Int) b - a)
  | 0 => by simp only [cnt]; omega
  | N + 1 => by
    have h1 := cnt_span a b h0 hab N
    simp only [cnt]
    by_cases ha : a ≤ (N : Int)
    · by_cases hb : (N : Int) < b
      · simp [ha, hb]; omega
      · simp [hb]; omega
    · simp [ha]; omega
theorem inB_cons {x : Int × Int} {L : List (Int × Int)} (h : Canon (x :: L)) (p : Int) : inB (x :: L) p = ((decide (x.1 ≤ p) && decide (p < x.2)) || inB L p) := by
  have hx := h.head
  have ho : okS x = true := by rw [okS_iff]; omega
  simp [inB, ho]
/-- The lengths of a least list's spans, all together, are its bytes. -/
theorem sum_cnt {N : Nat} : ∀ {L : List (Int × Int)}, Canon L → (∀ y ∈ L, y.2 ≤ N) → (cnt (inB L) N : Int) = sumL L
  | [], _, _ => by rw [cnt_none (fun p => inB_nil p)]; rfl
  | x :: r, hc, hN => by
    have hx := hc.head
    have h1 := sum_cnt hc.tail (fun y hy => hN y (List.mem_cons_of_mem _ hy))
    have h2 := cnt_span x.1 x.2 hx.1 (by omega) N
    have h3 := cnt_or (k := inB (x :: r)) (f := fun p => decide (x.1 ≤ p) && decide (p < x.2)) (g := inB r) (fun p => inB_cons hc p) (fun p hp => by
      cases hb : inB r p
      · rfl
      · have := hc.behind ((inB_iff _ _).1 hb)
        simp at hp; omega) N
    have h4 := hN x (List.mem_cons_self ..)
    have e : sumL (x :: r) = (x.2 - x.1) + sumL r := by simp [sumL]
    rw [e, ← h1, h3]
    omega
/-- There are no more spans than bytes. -/
theorem length_sum : ∀ {L : List (Int × Int)}, Canon L → (L.length : Int) ≤ sumL L
  | [], _ => by simp [sumL]
  | x :: r, hc => by
    have hx := hc.head
    have h1 := length_sum hc.tail
    have e : sumL (x :: r) = (x.2 - x.1) + sumL r := by simp [sumL]
    rw [e]; simp; omega

/- How many spans. -/
theorem nodup_length : ∀ {l m : List Int}, l.Nodup → (∀ x ∈ l, x ∈ m) → l.length ≤ m.length
  | [], _, _, _ => Nat.zero_le _
  | x :: l, m, hn, hs => by
    have hx : x ∈ m := hs x (List.mem_cons_self ..)
    have hn' := List.nodup_cons.1 hn
    have h1 := nodup_length (l := l) (m := m.erase x) hn'.2 (fun y hy => (List.mem_erase_of_ne (fun e => hn'.1 (by rw [← e]; exact hy))).2 (hs y (List.mem_cons_of_mem _ hy)))
    have h2 := List.length_erase_of_mem hx
    have h3 : 0 < m.length := List.length_pos_of_mem hx
    simp only [List.length_cons]; omega
theorem Canon.starts {L : List (Int × Int)} (h : Canon L) : (L.map (·.1)).Nodup := by
  rw [List.nodup_iff_pairwise_ne, List.pairwise_map]
  refine List.Pairwise.imp_of_mem (fun {a b} ha hb hab => ?_) h.sep
  have := h.mem ha
  omega
/-- Ahead of a span there is a byte that is in none. -/
theorem Canon.before_start {L : List (Int × Int)} (h : Canon L) {x : Int × Int} (hx : x ∈ L) : inB L (x.1 - 1) = false := by
  cases hb : inB L (x.1 - 1)
  · rfl
  · obtain ⟨y, hy, ho, h1, h2⟩ := (inB_iff _ _).1 hb
    exfalso
    obtain ⟨i, hi, rfl⟩ := List.getElem_of_mem hx
    obtain ⟨j, hj, rfl⟩ := List.getElem_of_mem hy
    rcases Nat.lt_trichotomy i j with hij | hij | hij
    · have := List.pairwise_iff_getElem.1 h.sep i j hi hj hij
      have := h.mem (List.getElem_mem hi)
      omega
    · subst hij; omega
    · have := List.pairwise_iff_getElem.1 h.sep j i hj hi hij
      omega
theorem inB_start {L : List (Int × Int)} {p : Int} (h1 : inB L p = true) (h0 : inB L (p - 1) = false) : p ∈ L.map (·.1) := by
  obtain ⟨y, hy, ho, ha, hb⟩ := (inB_iff _ _).1 h1
  have : y.1 = p := by
    by_cases e : y.1 = p
    · exact e
    · have : inB L (p - 1) = true := (inB_iff _ _).2 ⟨y, hy, ho, by omega, by omega⟩
      rw [h0] at this; cases this
  rw [← this]; exact List.mem_map_of_mem hy
theorem inB_end {L : List (Int × Int)} {p : Int} (h1 : inB L p = false) (h0 : inB L (p - 1) = true) : p ∈ L.map (·.2) := by
  obtain ⟨y, hy, ho, ha, hb⟩ := (inB_iff _ _).1 h0
  have : y.2 = p := by
    by_cases e : y.2 = p
    · exact e
    · have : inB L p = true := (inB_iff _ _).2 ⟨y, hy, ho, by omega, by omega⟩
      rw [h1] at this; cases this
  rw [← this]; exact List.mem_map_of_mem hy
theorem Canon.in_start {L : List (Int × Int)} (h : Canon L) {x : Int × Int} (hx : x ∈ L) : inB L x.1 = true := (inB_iff _ _).2 (h.in_mem hx)
theorem or_few (a b : List (Int × Int)) : (ofOp a b 1).length ≤ a.length + b.length := by
  have hc : Canon (ofOp a b 1) := (ofOp_inv a b 1).1
  have h := nodup_length (m := a.map (·.1) ++ b.map (·.1)) hc.starts (fun p hp => by
    obtain ⟨x, hx, rfl⟩ := List.mem_map.1 hp
    have h1 := hc.in_start hx
    have h0 := hc.before_start hx
    rw [inB_ofOp] at h1 h0
    rw [List.mem_append]
    simp [opB] at h1 h0
    rcases h1 with h1 | h1
    · exact .inl (inB_start h1 h0.1)
    · exact .inr (inB_start h1 h0.2))
  simpa using h
theorem and_few (a b : List (Int × Int)) : (ofOp a b 2).length ≤ a.length + b.length := by
  have hc : Canon (ofOp a b 2) := (ofOp_inv a b 2).1
  have h := nodup_length (m := a.map (·.1) ++ b.map (·.1)) hc.starts (fun p hp => by
    obtain ⟨x, hx, rfl⟩ := List.mem_map.1 hp
    have h1 := hc.in_start hx
    have h0 := hc.before_start hx
    rw [inB_ofOp] at h1 h0
    rw [List.mem_append]
    cases ha : inB a (x.1 - 1)
    · exact .inl (inB_start (by revert h1; simp [opB]; intro h _; exact h) ha)
    · refine .inr (inB_start (by revert h1; simp [opB]) ?_)
      revert h0; rw [ha]; simp [opB])
  simpa using h
theorem less_few (a b : List (Int × Int)) : (ofOp a b 3).length ≤ a.length + b.length := by
  have hc : Canon (ofOp a b 3) := (ofOp_inv a b 3).1
  have h := nodup_length (m := a.map (·.1) ++ b.map (·.2)) hc.starts (fun p hp => by
    obtain ⟨x, hx, rfl⟩ := List.mem_map.1 hp
    have h1 := hc.in_start hx
    have h0 := hc.before_start hx
    rw [inB_ofOp] at h1 h0
    rw [List.mem_append]
    cases ha : inB a (x.1 - 1)
    · exact .inl (inB_start (by revert h1; simp [opB]; intro h _; exact h) ha)
    · refine .inr (inB_end (by revert h1; simp [opB]) ?_)
      revert h0; rw [ha]; simp [opB])
  simpa using h
end Go.Proofs.YtaaefgieklkekaaGreatDoor
namespace Go.Proofs.YtaaefgieklkekaaGreatDoor

/-- The greatest number of a range. -/
def maxNum : Int := 999999999999999999
/-- May a range be asked? -/
def rightR (x : Int × Int) : Bool := decide (x.1 ≤ 999999999999999999) && decide (x.2 ≤ 999999999999999999) && ((decide (x.1 = -1) && decide (0 ≤ x.2)) || (decide (0 ≤ x.1) && (decide (x.2 = -1) || decide (x.1 ≤ x.2))))
theorem rightR_iff (x : Int × Int) : rightR x = true ↔ x.1 ≤ 999999999999999999 ∧ x.2 ≤ 999999999999999999 ∧ ((x.1 = -1 ∧ 0 ≤ x.2) ∨ (0 ≤ x.1 ∧ (x.2 = -1 ∨ x.1 ≤ x.2))) := by
  simp [rightR, and_assoc]
def allR (L : List (Int × Int)) : Bool := L.all rightR
/-- What a range has of so many bytes. -/
def spanOf (n : Int) (x : Int × Int) : Int × Int := if x.1 < 0 then (max (n - x.2) 0, n) else if 0 ≤ x.2 then (x.1, min (x.2 + 1) n) else (x.1, n)
def hasS (x : Int × Int) : Bool := decide (x.1 < x.2)
def resL (n : Int) (L : List (Int × Int)) : List (Int × Int) := (L.map (spanOf n)).filter hasS
theorem resL_nil (n : Int) : resL n [] = [] := rfl
theorem resL_step {n : Int} {L : List (Int × Int)} {k : Nat} (h : k < L.length) : resL n (L.take (k + 1)) = resL n (L.take k) ++ (if hasS (spanOf n L[k]) = true then [spanOf n L[k]] else []) := by
  unfold resL
  rw [List.take_succ_eq_append_getElem h, List.map_append, List.filter_append]
  congr 1
  by_cases hh : hasS (spanOf n L[k]) = true <;> simp [hh]
theorem resL_length (n : Int) (L : List (Int × Int)) : (resL n L).length ≤ L.length := by
  unfold resL; exact Nat.le_trans (List.length_filter_le _ _) (by simp)
theorem resL_in {n : Int} (_h0 : 0 ≤ n) {L : List (Int × Int)} (hL : allR L = true) {y : Int × Int} (hy : y ∈ resL n L) : 0 ≤ y.1 ∧ y.1 < y.2 ∧ y.2 ≤ n := by
  unfold resL at hy
  obtain ⟨hm, hs⟩ := List.mem_filter.1 hy
  obtain ⟨x, hx, rfl⟩ := List.mem_map.1 hm
  have hr := (rightR_iff x).1 (List.all_eq_true.1 hL x hx)
  have hs' : (spanOf n x).1 < (spanOf n x).2 := by simpa [hasS] using hs
  unfold spanOf at hs' ⊢
  split
  · rename_i h1; rw [if_pos h1] at hs'; simp only at hs' ⊢; omega
  · rename_i h1
    rw [if_neg h1] at hs'
    split
    · rename_i h2; rw [if_pos h2] at hs'; simp only at hs' ⊢; omega
    · rename_i h2; rw [if_neg h2] at hs'; simp only at hs' ⊢; omega
/-- Is the sum of the first ones' lengths ever more than twice so many bytes? -/
def overL (n acc : Int) : List (Int × Int) → Bool
  | [] => false
  | x :: r => decide (2 * n < acc + (x.2 - x.1)) || overL n (acc + (x.2 - x.1)) r
def costB (n most : Int) (L : List (Int × Int)) : Bool := decide (most < (L.length : Int)) || overL n 0 (resL n L)
theorem overL_false {n : Int} : ∀ (L : List (Int × Int)) (acc : Int), (∀ x ∈ L, x.1 ≤ x.2) → acc + sumL L ≤ 2 * n → overL n acc L = false
  | [], _, _, _ => rfl
  | x :: r, acc, h, hs => by
    have e : sumL (x :: r) = (x.2 - x.1) + sumL r := by simp [sumL]
    have hr : 0 ≤ sumL r := by
      clear e hs
      induction r with
      | nil => simp [sumL]
      | cons y r ih =>
        have e2 : sumL (y :: r) = (y.2 - y.1) + sumL r := by simp [sumL]
        have := ih (fun z hz => h z (by simp at hz ⊢; rcases hz with rfl | hz; exact .inl rfl; exact .inr (.inr hz)))
        have := h y (by simp)
        omega
    rw [overL, overL_false r _ (fun y hy => h y (List.mem_cons_of_mem _ hy)) (by omega)]
    simp; omega
/-- Are spans apart, two by two? -/
def apartB (L : List (Int × Int)) : Prop := L.Pairwise (fun x y => y.2 ≤ x.1 ∨ x.2 ≤ y.1)
/-- Spans that don't meet have no more bytes than there are. -/
theorem apart_sum {N : Nat} : ∀ {L : List (Int × Int)}, apartB L → (∀ x ∈ L, 0 ≤ x.1 ∧ x.1 ≤ x.2 ∧ x.2 ≤ N) → sumL L = (cnt (fun p => L.any fun x => decide (x.1 ≤ p) && decide (p < x.2)) N : Int)
  | [], _, _ => by
    have h := cnt_none (f := fun p => ([] : List (Int × Int)).any fun x => decide (x.1 ≤ p) && decide (p < x.2)) (fun p => rfl) N
    rw [h]; rfl
  | x :: r, ha, hN => by
    have h1 := apart_sum (L := r) (List.pairwise_cons.1 ha).2 (fun y hy => hN y (List.mem_cons_of_mem _ hy))
    have hx := hN x (List.mem_cons_self ..)
    have h2 := cnt_span x.1 x.2 hx.1 hx.2.1 N
    have h3 := cnt_or (k := fun p => (x :: r).any fun x => decide (x.1 ≤ p) && decide (p < x.2)) (f := fun p => decide (x.1 ≤ p) && decide (p < x.2)) (g := fun p => r.any fun x => decide (x.1 ≤ p) && decide (p < x.2)) (fun p => rfl) (fun p hp => by
      rw [Bool.eq_false_iff]
      intro hb
      obtain ⟨y, hy, hy2⟩ := List.any_eq_true.1 hb
      have := (List.pairwise_cons.1 ha).1 y hy
      simp at hp hy2; omega) N
    have e : sumL (x :: r) = (x.2 - x.1) + sumL r := by simp [sumL]
    rw [e, h1, h3]
    omega
theorem cnt_all (f : Int → Bool) : ∀ N, cnt f N ≤ N
  | 0 => Nat.le_refl _
  | N + 1 => by have := cnt_all f N; simp only [cnt]; split <;> omega
theorem apart_cost {n : Int} (h0 : 0 ≤ n) {L : List (Int × Int)} (hL : allR L = true) (ha : apartB (resL n L)) : overL n 0 (resL n L) = false := by
  refine overL_false _ _ (fun x hx => by have := resL_in h0 hL hx; omega) ?_
  rw [apart_sum (N := n.toNat) ha (fun x hx => by have := resL_in h0 hL hx; omega)]
  have := cnt_all (fun p => (resL n L).any fun x => decide (x.1 ≤ p) && decide (p < x.2)) n.toNat
  omega
/-- The bytes of ranges without a length. -/
def covOf (x : Int × Int) : Int × Int := if 0 ≤ x.2 then (x.1, x.2 + 1) else (x.1, 4611686018427387904)
def covB (L : List (Int × Int)) : Bool := L.any fun x => decide (x.1 < 0)
theorem cov_in {n : Int} (h0 : 0 ≤ n) (h1 : n ≤ 4611686018427387904) {L : List (Int × Int)} (hL : allR L = true) (hc : covB L = false) (p : Int) : (inB (L.map covOf) p && (decide (0 ≤ p) && decide (p < n))) = inB (resL n L) p := by
  rw [Bool.eq_iff_iff]
  simp only [Bool.and_eq_true, decide_eq_true_eq]
  rw [inB_iff, inB_iff]
  unfold InS
  constructor
  · rintro ⟨⟨y, hy, ho, ha, hb⟩, hp0, hp1⟩
    obtain ⟨x, hx, rfl⟩ := List.mem_map.1 hy
    have hr := (rightR_iff x).1 (List.all_eq_true.1 hL x hx)
    have hx0 : ¬ x.1 < 0 := by
      intro h
      have : covB L = true := List.any_eq_true.2 ⟨x, hx, by simpa using h⟩
      rw [hc] at this; cases this
    have key : spanOf n x = (x.1, min (covOf x).2 n) := by
      unfold spanOf covOf
      rw [if_neg hx0]
      split
      · rfl
      · simp only; congr 1; omega
    have hc1 : (covOf x).1 = x.1 := by unfold covOf; split <;> rfl
    rw [hc1] at ha
    refine ⟨spanOf n x, ?_, ?_, ?_, ?_⟩
    · unfold resL
      refine List.mem_filter.2 ⟨List.mem_map_of_mem hx, ?_⟩
      rw [key]; simp [hasS]; omega
    · rw [key, okS_iff]; simp only; omega
    · rw [key]; exact ha
    · rw [key]; simp only; omega
  · rintro ⟨y, hy, ho, ha, hb⟩
    have hb2 := resL_in h0 hL hy
    unfold resL at hy
    obtain ⟨hm, hs⟩ := List.mem_filter.1 hy
    obtain ⟨x, hx, rfl⟩ := List.mem_map.1 hm
    have hr := (rightR_iff x).1 (List.all_eq_true.1 hL x hx)
    have hx0 : ¬ x.1 < 0 := by
      intro h
      have : covB L = true := List.any_eq_true.2 ⟨x, hx, by simpa using h⟩
      rw [hc] at this; cases this
    have key : spanOf n x = (x.1, min (covOf x).2 n) := by
      unfold spanOf covOf
      rw [if_neg hx0]
      split
      · rfl
      · simp only; congr 1; omega
    have hc1 : (covOf x).1 = x.1 := by unfold covOf; split <;> rfl
    rw [key] at ha hb hb2
    simp only at ha hb hb2
    refine ⟨⟨covOf x, List.mem_map_of_mem hx, ?_, by omega, by omega⟩, by omega, by omega⟩
    rw [okS_iff, hc1]
    unfold covOf
    split <;> simp only <;> omega
end Go.Proofs.YtaaefgieklkekaaGreatDoor
namespace Go.Proofs.YtaaefgieklkekaaGreatDoor

def digB (c : UInt8) : Bool := decide (48 ≤ c.toNat) && decide (c.toNat ≤ 57)
/-- The number of digits, a number being at hand already. -/
def numFrom (acc : Int) : List UInt8 → Option Int
  | [] => some acc
  | c :: r => if digB c = true then numFrom (acc * 10 + ((c.toNat : Int) - 48)) r else none
/-- The number of 1 to 18 digits. -/
def numL (l : List UInt8) : Option Int := if l.length < 1 ∨ 18 < l.length then none else numFrom 0 l
theorem numFrom_step {acc : Int} {l : List UInt8} {k : Nat} (h : k < l.length) : numFrom acc (l.drop k) = if digB l[k] = true then numFrom (acc * 10 + ((l[k].toNat : Int) - 48)) (l.drop (k + 1)) else none := by
  rw [List.drop_eq_getElem_cons h, numFrom]
theorem numFrom_range : ∀ (l : List UInt8) (acc x : Int), 0 ≤ acc → numFrom acc l = some x → 0 ≤ x ∧ x < (acc + 1) * 10 ^ l.length
  | [], acc, x, h0, h => by simp [numFrom] at h; subst h; simp; omega
  | c :: r, acc, x, h0, h => by
    rw [numFrom] at h
    split at h
    · rename_i hd
      simp [digB] at hd
      have hc : 0 ≤ (c.toNat : Int) - 48 ∧ (c.toNat : Int) - 48 ≤ 9 := by omega
      have h1 := numFrom_range r _ x (by omega) h
      refine ⟨h1.1, Int.lt_of_lt_of_le h1.2 ?_⟩
      have hp : (0 : Int) ≤ 10 ^ r.length := Int.le_of_lt (Int.pow_pos (by decide))
      rw [List.length_cons, Int.pow_succ]
      have h2 : acc * 10 + ((c.toNat : Int) - 48) + 1 ≤ (acc + 1) * 10 := by omega
      calc (acc * 10 + ((c.toNat : Int) - 48) + 1) * 10 ^ r.length ≤ ((acc + 1) * 10) * 10 ^ r.length := Int.mul_le_mul_of_nonneg_right h2 hp
        _ = (acc + 1) * (10 ^ r.length * 10) := by rw [Int.mul_assoc, Int.mul_comm 10]
    · cases h
theorem numL_range {l : List UInt8} {x : Int} (h : numL l = some x) : 0 ≤ x ∧ x ≤ 999999999999999999 := by
  unfold numL at h
  split at h
  · cases h
  · rename_i hl
    have h1 := numFrom_range l 0 x (by omega) h
    have hl' : l.length ≤ 18 := by omega
    have hp : (10 : Int) ^ l.length ≤ 10 ^ 18 := by
      have := Nat.pow_le_pow_right (n := 10) (by decide) hl'
      exact_mod_cast this
    have : (10 : Int) ^ 18 = 1000000000000000000 := by decide
    rw [this] at hp
    omega
theorem numL_nil : numL [] = none := rfl
/-- What is ahead of, and behind, the first '-'. -/
def cutD : List UInt8 → Option (List UInt8 × List UInt8)
  | [] => none
  | c :: r => if c = 45 then some ([], r) else (cutD r).map fun p => (c :: p.1, p.2)
theorem cutD_none : ∀ {l : List UInt8}, (∀ c ∈ l, c ≠ 45) → cutD l = none
  | [], _ => rfl
  | c :: r, h => by
    rw [cutD, if_neg (h c (List.mem_cons_self ..)), cutD_none (fun d hd => h d (List.mem_cons_of_mem _ hd))]; rfl
theorem cutD_some : ∀ {a b : List UInt8}, (∀ c ∈ a, c ≠ 45) → cutD (a ++ 45 :: b) = some (a, b)
  | [], b, _ => by simp [cutD]
  | c :: a, b, h => by
    rw [List.cons_append, cutD, if_neg (h c (List.mem_cons_self ..)), cutD_some (fun d hd => h d (List.mem_cons_of_mem _ hd))]; rfl
/-- The range of an item without blanks. -/
def itemL (l : List UInt8) : Option (Int × Int) :=
  match cutD l with
  | none => none
  | some ([], b) => (numL b).map fun y => (-1, y)
  | some (c :: a, []) => (numL (c :: a)).map fun x => (x, -1)
  | some (c :: a, d :: b) => match numL (c :: a), numL (d :: b) with
    | some x, some y => if x ≤ y then some (x, y) else none
    | _, _ => none
theorem itemL_right {l : List UInt8} {x : Int × Int} (h : itemL l = some x) : rightR x = true := by
  unfold itemL at h
  split at h
  · cases h
  · rename_i b _
    cases hb : numL b with
    | none => rw [hb] at h; cases h
    | some y =>
      rw [hb] at h; simp at h; subst h
      have := numL_range hb
      rw [rightR_iff]; exact ⟨(by decide : (-1 : Int) ≤ 999999999999999999), this.2, .inl ⟨rfl, this.1⟩⟩
  · rename_i c a _
    cases hb : numL (c :: a) with
    | none => rw [hb] at h; cases h
    | some y =>
      rw [hb] at h; simp at h; subst h
      have := numL_range hb
      rw [rightR_iff]; exact ⟨this.2, (by decide : (-1 : Int) ≤ 999999999999999999), .inr ⟨this.1, .inl rfl⟩⟩
  · rename_i c a d b _
    cases hb : numL (c :: a) with
    | none => rw [hb] at h; simp at h
    | some y =>
      cases hb2 : numL (d :: b) with
      | none => rw [hb, hb2] at h; simp at h
      | some z =>
        rw [hb, hb2] at h
        simp at h
        obtain ⟨h1, rfl⟩ := h
        have := numL_range hb
        have := numL_range hb2
        rw [rightR_iff]; simp only; omega
/-- A text's pieces, parted at commas. -/
def splitC : List UInt8 → List (List UInt8)
  | [] => [[]]
  | c :: r => if c = 44 then [] :: splitC r else
    match splitC r with
    | [] => [[c]]
    | p :: q => (c :: p) :: q
theorem splitC_ne (l : List UInt8) : splitC l ≠ [] := by
  cases l with
  | nil => simp [splitC]
  | cons c r =>
    rw [splitC]
    split
    · simp
    · split <;> simp
theorem splitC_none : ∀ {l : List UInt8}, (∀ c ∈ l, c ≠ 44) → splitC l = [l]
  | [], _ => rfl
  | c :: r, h => by
    rw [splitC, if_neg (h c (List.mem_cons_self ..)), splitC_none (fun d hd => h d (List.mem_cons_of_mem _ hd))]
theorem splitC_some : ∀ {a b : List UInt8}, (∀ c ∈ a, c ≠ 44) → splitC (a ++ 44 :: b) = a :: splitC b
  | [], b, _ => by simp [splitC]
  | c :: a, b, h => by
    rw [List.cons_append, splitC, if_neg (h c (List.mem_cons_self ..)), splitC_some (fun d hd => h d (List.mem_cons_of_mem _ hd))]
theorem splitC_length : ∀ (l : List UInt8), (splitC l).length ≤ l.length + 1
  | [] => by simp [splitC]
  | c :: r => by
    have := splitC_length r
    rw [splitC]
    split
    · simp; omega
    · split
      · simp
      · rename_i p q h; rw [h] at this; simp at this ⊢; omega
def blankB (c : UInt8) : Bool := c == 32 || c == 9
def trimL (l : List UInt8) : List UInt8 := (l.reverse.dropWhile blankB).reverse.dropWhile blankB
/-- The items that are no blanks. -/
def itemsL (ps : List (List UInt8)) : List (List UInt8) := (ps.map trimL).filter fun p => !p.isEmpty
/-- The ranges of items; none: one of them is none's. -/
def rangesL : List (List UInt8) → Option (List (Int × Int))
  | [] => some []
  | p :: r => match itemL p, rangesL r with
    | some x, some y => some (x :: y)
    | _, _ => none
theorem rangesL_snoc : ∀ (ps : List (List UInt8)) (p : List UInt8), rangesL (ps ++ [p]) = match rangesL ps, itemL p with | some y, some x => some (y ++ [x]) | _, _ => none
  | [], p => by simp [rangesL]; cases itemL p <;> rfl
  | q :: r, p => by
    rw [List.cons_append, rangesL, rangesL_snoc r p, rangesL]
    cases itemL q <;> cases rangesL r <;> cases itemL p <;> rfl
theorem rangesL_append (a b : List (List UInt8)) (h : rangesL a = none) : rangesL (a ++ b) = none := by
  induction a with
  | nil => simp [rangesL] at h
  | cons p r ih =>
    rw [List.cons_append, rangesL]
    rw [rangesL] at h
    cases hp : itemL p with
    | none => rfl
    | some x =>
      rw [hp] at h
      cases hr : rangesL r with
      | none => rw [ih hr]
      | some y => rw [hr] at h; cases h
/-- The word that stands ahead of the ranges, whatever its letters' size. -/
def lowB (c : UInt8) : UInt8 := if 65 ≤ c.toNat ∧ c.toNat ≤ 90 then c + 32 else c
def headB (l : List UInt8) : Bool := decide (6 ≤ l.length) && decide ((l.take 6).map lowB = [98, 121, 116, 101, 115, 61])
/-- The ranges of a value, and the number of what is wrong. -/
def parseL (l : List UInt8) : List (Int × Int) × Int :=
  if headB l = true then
    match rangesL (itemsL (splitC (l.drop 6))) with
    | none => ([], 2)
    | some [] => ([], 2)
    | some (x :: r) => if 64 < (x :: r).length then ([], 4) else (x :: r, 0)
  else ([], 2)
end Go.Proofs.YtaaefgieklkekaaGreatDoor
namespace Go.Proofs.YtaaefgieklkekaaGreatDoor

/-- Are two spans near, by a gap? -/
def nearQ (g : Int) (a b : Int × Int) : Prop := a.1 ≤ b.2 + g ∧ b.1 ≤ a.2 + g
/-- Lies one span in another? -/
def inP (a b : Int × Int) : Prop := b.1 ≤ a.1 ∧ a.2 ≤ b.2
theorem inP.trans {a b c : Int × Int} (h : inP a b) (k : inP b c) : inP a c := ⟨Int.le_trans k.1 h.1, Int.le_trans h.2 k.2⟩
theorem inP.refl (a : Int × Int) : inP a a := ⟨Int.le_refl _, Int.le_refl _⟩
/-- Spans with the place of the first of each, made out of the spans of L. -/
structure Folds (g : Int) (L : List (Int × Int)) (O : List ((Int × Int) × Nat)) : Prop where
  at_ : ∀ o ∈ O, ∃ h : o.2 < L.length, inP L[o.2] o.1
  all_ : ∀ i (h : i < L.length), ∃ o ∈ O, inP L[i] o.1 ∧ o.2 ≤ i
  lo : ∀ o ∈ O, ∃ x ∈ L, inP x o.1 ∧ x.1 = o.1.1
  hi : ∀ o ∈ O, ∃ x ∈ L, inP x o.1 ∧ x.2 = o.1.2
  mid : ∀ o ∈ O, ∀ p, o.1.1 ≤ p → p < o.1.2 → ∃ x ∈ L, x.1 ≤ p ∧ p < x.2 + g
structure Folded (g : Int) (L : List (Int × Int)) (O : List ((Int × Int) × Nat)) : Prop extends Folds g L O where
  far : O.Pairwise (fun a b => ¬ nearQ g a.1 b.1)
  rise : O.Pairwise (fun a b => a.2 < b.2)
theorem pw_ne {α : Type} {R : α → α → Prop} (hs : ∀ a b, R a b → R b a) : ∀ {l : List α}, l.Pairwise R → ∀ {a b : α}, a ∈ l → b ∈ l → a ≠ b → R a b
  | [], _, a, b, ha, _, _ => by cases ha
  | x :: r, h, a, b, ha, hb, hab => by
    obtain ⟨h1, h2⟩ := List.pairwise_cons.1 h
    rcases List.mem_cons.1 ha with ea | ha'
    · rcases List.mem_cons.1 hb with eb | hb'
      · exact absurd (ea.trans eb.symm) hab
      · rw [ea]; exact h1 b hb'
    · rcases List.mem_cons.1 hb with eb | hb'
      · rw [eb]; exact hs _ _ (h1 a ha')
      · exact pw_ne hs h2 ha' hb' hab
theorem far_ne {g : Int} {O : List ((Int × Int) × Nat)} (h : O.Pairwise (fun a b => ¬ nearQ g a.1 b.1)) {a b : (Int × Int) × Nat} (ha : a ∈ O) (hb : b ∈ O) (hn : nearQ g a.1 b.1) : a = b := by
  by_cases e : a = b
  · exact e
  · exact absurd hn (pw_ne (R := fun a b : (Int × Int) × Nat => ¬ nearQ g a.1 b.1) (fun a b h k => h ⟨k.2, k.1⟩) h ha hb e)
section
variable {g : Int} {L : List (Int × Int)} {O O' : List ((Int × Int) × Nat)}
theorem both_near (h0 : 0 ≤ g) {x a b : Int × Int} (hx : x.1 < x.2) (ha : inP x a) (hb : inP x b) : nearQ g a b := by
  unfold inP at ha hb; unfold nearQ; omega
theorem Folds.some_ (h : Folds g L O) {x : Int × Int} (hx : x ∈ L) : ∃ o ∈ O, inP x o.1 := by
  obtain ⟨i, hi, rfl⟩ := List.getElem_of_mem hx
  obtain ⟨o, ho, h1, _⟩ := h.all_ i hi
  exact ⟨o, ho, h1⟩
theorem Folds.sub (hL : ∀ x ∈ L, x.1 < x.2) (h0 : 0 ≤ g) (h : Folds g L O) (h' : Folded g L O') {o : (Int × Int) × Nat} (ho : o ∈ O) : ∃ o' ∈ O', inP o.1 o'.1 := by
  obtain ⟨x, hx, hxo, hx1⟩ := h.lo o ho
  obtain ⟨s, hs, hxs⟩ := h'.some_ hx
  refine ⟨s, hs, ?_⟩
  by_cases hto : o.1.2 ≤ s.1.2
  · unfold inP at *; omega
  · exfalso
    obtain ⟨y, hy, hyo, hy2⟩ := h.hi o ho
    obtain ⟨t, ht, hyt⟩ := h'.some_ hy
    have hxx := hL x hx
    have hyy := hL y hy
    have hts : ¬ nearQ g s.1 t.1 := fun hn => by
      have e := far_ne h'.far hs ht hn
      subst e
      unfold inP at hyt; omega
    have hgap : s.1.2 + g < t.1.1 := by
      unfold nearQ at hts; unfold inP at *; omega
    obtain ⟨z, hz, hz1, hz2⟩ := h.mid o ho (s.1.2 + g) (by unfold inP at *; omega) (by unfold inP at *; omega)
    obtain ⟨u, hu, hzu⟩ := h'.some_ hz
    have hn : nearQ g s.1 u.1 := by unfold nearQ; unfold inP at *; omega
    have e := far_ne h'.far hs hu hn
    subst e
    unfold inP at hzu; omega
theorem Folded.mem (hL : ∀ x ∈ L, x.1 < x.2) (h0 : 0 ≤ g) (h : Folded g L O) (h' : Folded g L O') {o : (Int × Int) × Nat} (ho : o ∈ O) : o ∈ O' := by
  obtain ⟨s, hs, hos⟩ := h.toFolds.sub hL h0 h' ho
  obtain ⟨t, ht, hst⟩ := h'.toFolds.sub hL h0 h hs
  obtain ⟨x, hx, hxo, _⟩ := h.lo o ho
  have e : o = t := far_ne h.far ho ht (both_near h0 (hL x hx) hxo (hxo.trans (hos.trans hst)))
  subst e
  have e1 : s.1 = o.1 := by
    unfold inP at hos hst
    exact Prod.ext (by omega) (by omega)
  have key : ∀ {P Q : List ((Int × Int) × Nat)}, Folded g L P → Folded g L Q → ∀ {a b : (Int × Int) × Nat}, a ∈ P → b ∈ Q → a.1 = b.1 → a.2 ≤ b.2 := by
    intro P Q hP hQ a b ha hb hab
    obtain ⟨hlt, hin⟩ := hQ.at_ b hb
    obtain ⟨u, hu, hin2, hle⟩ := hP.all_ b.2 hlt
    have : a = u := far_ne hP.far ha hu (both_near h0 (hL _ (List.getElem_mem hlt)) (by rw [hab]; exact hin) hin2)
    rw [this]; exact hle
  have e2 : s.2 = o.2 := Nat.le_antisymm (key h' h hs ho e1) (key h h' ho hs e1.symm)
  have : s = o := Prod.ext e1 e2
  rw [← this]; exact hs
theorem rise_eq : ∀ {O O' : List ((Int × Int) × Nat)}, O.Pairwise (fun a b => a.2 < b.2) → O'.Pairwise (fun a b => a.2 < b.2) → (∀ o, o ∈ O ↔ o ∈ O') → O = O'
  | [], [], _, _, _ => rfl
  | [], b :: r, _, _, h => by have := (h b).2 (List.mem_cons_self ..); cases this
  | a :: r, [], _, _, h => by have := (h a).1 (List.mem_cons_self ..); cases this
  | a :: r, b :: q, h1, h2, h => by
    obtain ⟨a1, a2⟩ := List.pairwise_cons.1 h1
    obtain ⟨b1, b2⟩ := List.pairwise_cons.1 h2
    have hab : a = b := by
      rcases List.mem_cons.1 ((h a).1 (List.mem_cons_self ..)) with e | ha
      · exact e
      · rcases List.mem_cons.1 ((h b).2 (List.mem_cons_self ..)) with e | hb
        · exact e.symm
        · have := b1 a ha; have := a1 b hb; omega
    subst hab
    rw [rise_eq a2 b2 fun o => ⟨fun ho => ?_, fun ho => ?_⟩]
    · rcases List.mem_cons.1 ((h o).1 (List.mem_cons_of_mem _ ho)) with rfl | k
      · have := a1 o ho; omega
      · exact k
    · rcases List.mem_cons.1 ((h o).2 (List.mem_cons_of_mem _ ho)) with rfl | k
      · have := b1 o ho; omega
      · exact k
/-- There is one such list at most. -/
theorem Folded.eq (hL : ∀ x ∈ L, x.1 < x.2) (h0 : 0 ≤ g) (h : Folded g L O) (h' : Folded g L O') : O = O' :=
  rise_eq h.rise h'.rise fun _ => ⟨fun ho => h.mem hL h0 h' ho, fun ho => h'.mem hL h0 h ho⟩
/-- The spans of two that are near, as one. -/
def hullP (a b : Int × Int) : Int × Int := (min a.1 b.1, max a.2 b.2)
theorem hull_in1 (a b : Int × Int) : inP a (hullP a b) := ⟨by simp only [hullP]; omega, by simp only [hullP]; omega⟩
theorem hull_in2 (a b : Int × Int) : inP b (hullP a b) := ⟨by simp only [hullP]; omega, by simp only [hullP]; omega⟩
/-- A merge keeps what is said of all spans. -/
theorem Folds.merge (hL : ∀ x ∈ L, x.1 < x.2) (h : Folds g L O) {a b : (Int × Int) × Nat} (ha : a ∈ O) (hb : b ∈ O) (hn : nearQ g a.1 b.1) {q : Nat} (hq : (q = a.2 ∨ q = b.2) ∧ q ≤ a.2 ∧ q ≤ b.2)
    (hm : ∀ o ∈ O', o = (hullP a.1 b.1, q) ∨ o ∈ O) (hc : (hullP a.1 b.1, q) ∈ O') (hk : ∀ o ∈ O, o ∈ O' ∨ o = a ∨ o = b) : Folds g L O' := by
  have i1 := hull_in1 a.1 b.1
  have i2 := hull_in2 a.1 b.1
  refine ⟨fun o ho => ?_, fun i hi => ?_, fun o ho => ?_, fun o ho => ?_, fun o ho p hp1 hp2 => ?_⟩
  · rcases hm o ho with rfl | ho
    · obtain ⟨l1, n1⟩ := h.at_ a ha
      obtain ⟨l2, n2⟩ := h.at_ b hb
      rcases hq.1 with rfl | rfl
      · exact ⟨l1, n1.trans i1⟩
      · exact ⟨l2, n2.trans i2⟩
    · exact h.at_ o ho
  · obtain ⟨o, ho, h1, h2⟩ := h.all_ i hi
    rcases hk o ho with ho | rfl | rfl
    · exact ⟨o, ho, h1, h2⟩
    · exact ⟨_, hc, h1.trans i1, by simp only; omega⟩
    · exact ⟨_, hc, h1.trans i2, by simp only; omega⟩
  · rcases hm o ho with rfl | ho
    · obtain ⟨x, hx, x1, x2⟩ := h.lo a ha
      obtain ⟨y, hy, y1, y2⟩ := h.lo b hb
      by_cases hab : a.1.1 ≤ b.1.1
      · exact ⟨x, hx, x1.trans i1, by simp only [hullP]; omega⟩
      · exact ⟨y, hy, y1.trans i2, by simp only [hullP]; omega⟩
    · exact h.lo o ho
  · rcases hm o ho with rfl | ho
    · obtain ⟨x, hx, x1, x2⟩ := h.hi a ha
      obtain ⟨y, hy, y1, y2⟩ := h.hi b hb
      by_cases hab : a.1.2 ≤ b.1.2
      · exact ⟨y, hy, y1.trans i2, by simp only [hullP]; omega⟩
      · exact ⟨x, hx, x1.trans i1, by simp only [hullP]; omega⟩
    · exact h.hi o ho
  · rcases hm o ho with rfl | ho
    · obtain ⟨x, hx, x1, x2⟩ := h.hi a ha
      obtain ⟨y, hy, y1, y2⟩ := h.hi b hb
      obtain ⟨x', hx', x1', x2'⟩ := h.lo a ha
      obtain ⟨y', hy', y1', y2'⟩ := h.lo b hb
      simp only [hullP] at hp1 hp2
      by_cases c1 : a.1.1 ≤ p ∧ p < a.1.2
      · exact h.mid a ha p c1.1 c1.2
      · by_cases c2 : b.1.1 ≤ p ∧ p < b.1.2
        · exact h.mid b hb p c2.1 c2.2
        · unfold nearQ at hn
          unfold inP at x1 y1
          have := hL x hx
          have := hL y hy
          by_cases c3 : a.1.2 ≤ p ∧ a.1.1 ≤ b.1.1
          · exact ⟨x, hx, by omega, by omega⟩
          · exact ⟨y, hy, by omega, by omega⟩
    · exact h.mid o ho p hp1 hp2
end
end Go.Proofs.YtaaefgieklkekaaGreatDoor
/- Plain law of spans made fewer: the sweep over spans that rise, and the merges of a list, keep what is said. -/
namespace Go.Proofs.YtaaefgieklkekaaGreatDoor
section
variable {g : Int} {L : List (Int × Int)}
/-- What holds in the sweep: the spans made so far, and those to come. -/
structure Sweeps (g : Int) (L : List (Int × Int)) (one rest : List ((Int × Int) × Nat)) : Prop where
  folds : Folds g L (one ++ rest)
  apart : one.Pairwise (fun a b => a.1.2 + g < b.1.1)
  ahead : ∀ o ∈ one, ∀ f ∈ rest, o.1.1 ≤ f.1.1
  sorted : rest.Pairwise (fun a b => a.1.1 ≤ b.1.1)
variable {init rest one : List ((Int × Int) × Nat)} {l f : (Int × Int) × Nat}
theorem Folds.wide (hL : ∀ x ∈ L, x.1 < x.2) {O : List ((Int × Int) × Nat)} (h : Folds g L O) {o : (Int × Int) × Nat} (ho : o ∈ O) : o.1.1 < o.1.2 := by
  obtain ⟨h1, h2⟩ := h.at_ o ho
  have := hL _ (List.getElem_mem h1)
  unfold inP at h2; omega
theorem Sweeps.join (hL : ∀ x ∈ L, x.1 < x.2) (h0 : 0 ≤ g) (h : Sweeps g L (init ++ [l]) (f :: rest)) (hn : f.1.1 - l.1.2 ≤ g) : Sweeps g L (init ++ [((l.1.1, max l.1.2 f.1.2), min l.2 f.2)]) rest := by
  have hlf := h.ahead l (by simp) f (by simp)
  have hfw := h.folds.wide hL (o := f) (by simp)
  have e : (l.1.1, max l.1.2 f.1.2) = hullP l.1 f.1 := by unfold hullP; congr 1; omega
  obtain ⟨a1, a2, a3⟩ := List.pairwise_append.1 h.apart
  obtain ⟨s1, s2⟩ := List.pairwise_cons.1 h.sorted
  refine ⟨?_, ?_, ?_, s2⟩
  · rw [e]
    refine h.folds.merge hL (a := l) (b := f) (by simp) (by simp) (by unfold nearQ; omega) (q := min l.2 f.2) (by omega) ?_ (by simp) ?_
    · intro o ho
      simp at ho ⊢
      rcases ho with ho | ho | ho
      · exact .inr (.inl ho)
      · exact .inl ho
      · exact .inr (.inr (.inr (.inr ho)))
    · intro o ho
      simp at ho ⊢
      rcases ho with ho | ho | ho | ho
      · exact .inl (.inl ho)
      · exact .inr (.inl ho)
      · exact .inr (.inr ho)
      · exact .inl (.inr (.inr ho))
  · refine List.pairwise_append.2 ⟨a1, List.pairwise_singleton .., fun a ha b hb => ?_⟩
    simp at hb
    subst hb
    exact a3 a ha l (by simp)
  · intro o ho q hq
    simp at ho
    rcases ho with ho | rfl
    · exact h.ahead o (by simp [ho]) q (by simp [hq])
    · exact h.ahead l (by simp) q (by simp [hq])
theorem Sweeps.push (hL : ∀ x ∈ L, x.1 < x.2) (h0 : 0 ≤ g) (h : Sweeps g L (init ++ [l]) (f :: rest)) (hn : ¬ f.1.1 - l.1.2 ≤ g) : Sweeps g L ((init ++ [l]) ++ [f]) rest := by
  obtain ⟨a1, a2, a3⟩ := List.pairwise_append.1 h.apart
  obtain ⟨s1, s2⟩ := List.pairwise_cons.1 h.sorted
  have hlw := h.folds.wide hL (o := l) (by simp)
  refine ⟨by have := h.folds; simpa using this, ?_, ?_, s2⟩
  · refine List.pairwise_append.2 ⟨h.apart, List.pairwise_singleton .., fun a ha b hb => ?_⟩
    simp at hb
    subst hb
    simp at ha
    rcases ha with ha | rfl
    · have := a3 a ha l (by simp); omega
    · omega
  · intro o ho q hq
    simp at ho
    rcases ho with ho | rfl | rfl
    · exact h.ahead o (by simp [ho]) q (by simp [hq])
    · exact h.ahead o (by simp) q (by simp [hq])
    · exact s1 q hq
theorem Sweeps.first (h : Sweeps g L [] (f :: rest)) : Sweeps g L [f] rest := by
  obtain ⟨s1, s2⟩ := List.pairwise_cons.1 h.sorted
  refine ⟨by have := h.folds; simpa using this, List.pairwise_singleton .., ?_, s2⟩
  intro o ho q hq
  simp at ho
  subst ho
  exact s1 q hq
theorem Sweeps.done (hL : ∀ x ∈ L, x.1 < x.2) (h0 : 0 ≤ g) (h : Sweeps g L one []) {O : List ((Int × Int) × Nat)} (hp : O.Perm one) (hs : O.Pairwise (fun a b => a.2 ≤ b.2)) : Folded g L O := by
  have hf : Folds g L one := by have := h.folds; simpa using this
  have hfO : Folds g L O := ⟨fun o ho => hf.at_ o (hp.mem_iff.1 ho), fun i hi => by
    obtain ⟨o, ho, h1⟩ := hf.all_ i hi
    exact ⟨o, hp.mem_iff.2 ho, h1⟩, fun o ho => hf.lo o (hp.mem_iff.1 ho), fun o ho => hf.hi o (hp.mem_iff.1 ho), fun o ho => hf.mid o (hp.mem_iff.1 ho)⟩
  have hfar1 : one.Pairwise (fun a b => ¬ nearQ g a.1 b.1) := h.apart.imp fun hab hn => by unfold nearQ at hn; omega
  have hfar : O.Pairwise (fun a b => ¬ nearQ g a.1 b.1) := (hp.pairwise_iff (fun {a b} (h : ¬ nearQ g a.1 b.1) (k : nearQ g b.1 a.1) => h ⟨k.2, k.1⟩)).2 hfar1
  refine ⟨hfO, hfar, ?_⟩
  have hne : O.Pairwise (fun a b => a.2 ≠ b.2) := by
    refine List.Pairwise.imp_of_mem (fun {a b} ha hb hab e => ?_) hfar
    obtain ⟨l1, n1⟩ := hfO.at_ a ha
    obtain ⟨l2, n2⟩ := hfO.at_ b hb
    simp only [← e] at n2
    exact hab (both_near h0 (hL _ (List.getElem_mem l1)) n1 n2)
  exact (hs.and hne).imp fun ⟨a, b⟩ => by omega
theorem Sweeps.start {R : List ((Int × Int) × Nat)} (hL : ∀ x ∈ L, x.1 < x.2) (h0 : 0 ≤ g) (hp : R.Perm L.zipIdx) (hs : R.Pairwise (fun a b => a.1.1 ≤ b.1.1)) : Sweeps g L [] R := by
  have hm : ∀ o, o ∈ R → L[o.2]? = some o.1 := fun o ho => by
    have := hp.mem_iff.1 ho
    exact List.mk_mem_zipIdx_iff_getElem?.1 this
  refine ⟨⟨fun o ho => ?_, fun i hi => ?_, fun o ho => ?_, fun o ho => ?_, fun o ho p h1 h2 => ?_⟩, .nil, (fun o ho => by cases ho), hs⟩
  · obtain ⟨h1, h2⟩ := List.getElem?_eq_some_iff.1 (hm o (by simpa using ho))
    exact ⟨h1, by rw [h2]; exact inP.refl _⟩
  · exact ⟨(L[i], i), by simpa using hp.mem_iff.2 (List.mk_mem_zipIdx_iff_getElem?.2 (List.getElem?_eq_getElem hi)), inP.refl _, Nat.le_refl _⟩
  · exact ⟨o.1, List.mem_of_getElem? (hm o (by simpa using ho)), inP.refl _, rfl⟩
  · exact ⟨o.1, List.mem_of_getElem? (hm o (by simpa using ho)), inP.refl _, rfl⟩
  · exact ⟨o.1, List.mem_of_getElem? (hm o (by simpa using ho)), h1, by omega⟩
end
end Go.Proofs.YtaaefgieklkekaaGreatDoor
namespace Go.Proofs.YtaaefgieklkekaaGreatDoor

def exText : List UInt8 := [98, 121, 116, 101, 115, 61, 48, 45, 52, 44, 32, 55, 45, 44, 44, 45, 51]
theorem ex_parse : parseL exText = ([(0, 4), (7, -1), (-1, 3)], 0) := by decide +kernel
theorem ex_res : resL 10 [(0, 4), (7, -1), (-1, 3)] = [(0, 5), (7, 10), (7, 10)] := by decide +kernel
theorem ex_all : allR [(0, 4), (7, -1), (-1, 3)] = true := by decide +kernel
theorem ex_fold0 : Folded 0 [(0, 5), (7, 10), (7, 10)] [((0, 5), 0), ((7, 10), 1)] := by
  refine ⟨⟨fun o ho => ?_, fun i hi => ?_, fun o ho => ?_, fun o ho => ?_, fun o ho p h1 h2 => ?_⟩, ?_, ?_⟩
  · simp at ho; rcases ho with rfl | rfl <;> simp [inP]
  · simp at hi
    have : i = 0 ∨ i = 1 ∨ i = 2 := by omega
    rcases this with rfl | rfl | rfl <;> simp [inP]
  · simp at ho; rcases ho with rfl | rfl <;> simp [inP]
  · simp at ho; rcases ho with rfl | rfl <;> simp [inP]
  · simp at ho; rcases ho with rfl | rfl <;> simp at h1 h2 ⊢ <;> omega
  · simp [nearQ]
  · simp
theorem ex_fold2 : Folded 2 [(0, 5), (7, 10), (7, 10)] [((0, 10), 0)] := by
  refine ⟨⟨fun o ho => ?_, fun i hi => ?_, fun o ho => ?_, fun o ho => ?_, fun o ho p h1 h2 => ?_⟩, ?_, ?_⟩
  · simp at ho; subst ho; simp [inP]
  · simp at hi
    have : i = 0 ∨ i = 1 ∨ i = 2 := by omega
    rcases this with rfl | rfl | rfl <;> simp [inP]
  · simp at ho; subst ho; simp [inP]
  · simp at ho; subst ho; simp [inP]
  · simp at ho; subst ho; simp at h1 h2 ⊢; omega
  · simp
  · simp
theorem ex_wide : ∀ x ∈ ([(0, 5), (7, 10), (7, 10)] : List (Int × Int)), x.1 < x.2 := by simp
theorem ex_len0 {O : List ((Int × Int) × Nat)} (h : Folded 0 [(0, 5), (7, 10), (7, 10)] O) : (O.map Prod.fst).length = 2 := by
  rw [h.eq ex_wide (by decide) ex_fold0]; rfl
theorem ex_len2 {O : List ((Int × Int) × Nat)} (h : Folded 2 [(0, 5), (7, 10), (7, 10)] O) : (O.map Prod.fst).length = 1 := by
  rw [h.eq ex_wide (by decide) ex_fold2]; rfl
end Go.Proofs.YtaaefgieklkekaaGreatDoor
namespace Go.Proofs.YtaaefgieklkekaaGreatDoor

abbrev leF (a b : (Int × Int) × Nat) : Prop := a.1.1 ≤ b.1.1
abbrev SortF (l : List ((Int × Int) × Nat)) : Prop := l.Pairwise leF
theorem SortF.get {l : List ((Int × Int) × Nat)} (h : SortF l) {i j : Nat} (hij : i ≤ j) (hj : j < l.length) : leF (l[i]'(by omega)) l[j] := by
  rcases Nat.lt_or_ge i j with hlt | hge
  · exact List.pairwise_iff_getElem.1 h i j (by omega) hj hlt
  · obtain rfl : i = j := by omega
    exact Int.le_refl _
theorem SortF.take {l : List ((Int × Int) × Nat)} (h : SortF l) (k : Nat) : SortF (l.take k) := List.Pairwise.sublist (List.take_sublist k l) h
theorem SortF.drop {l : List ((Int × Int) × Nat)} (h : SortF l) (k : Nat) : SortF (l.drop k) := List.Pairwise.sublist (List.drop_sublist k l) h
/-- All of a first part is at most all of another list's last part. -/
theorem cross {X Y : List ((Int × Int) × Nat)} (hX : SortF X) (hY : SortF Y) {k j : Nat} (hk : k ≤ X.length) (h : ∀ (_ : 0 < k) (h1 : k - 1 < X.length) (h2 : j < Y.length), leF X[k - 1] Y[j]) : ∀ x ∈ X.take k, ∀ y ∈ Y.drop j, leF x y := by
  intro x hx y hy
  obtain ⟨i, hi, rfl⟩ := List.getElem_of_mem hx
  obtain ⟨q, hq, rfl⟩ := List.getElem_of_mem hy
  simp at hi hq
  rw [List.getElem_take, List.getElem_drop]
  exact Int.le_trans (hX.get (i := i) (j := k - 1) (by omega) (by omega)) (Int.le_trans (h (by omega) (by omega) (by omega)) (hY.get (i := j) (j := j + q) (by omega) (by omega)))
theorem merge_sorted {X1 X2 Y1 Y2 Z1 Z2 : List ((Int × Int) × Nat)} (hX : SortF (X1 ++ X2)) (hY : SortF (Y1 ++ Y2)) (h1 : ∀ x ∈ X1, ∀ y ∈ Y2, leF x y) (h2 : ∀ y ∈ Y1, ∀ x ∈ X2, leF y x)
    (p1 : Z1.Perm (X1 ++ Y1)) (p2 : Z2.Perm (X2 ++ Y2)) (s1 : SortF Z1) (s2 : SortF Z2) : SortF (Z1 ++ Z2) := by
  refine List.pairwise_append.2 ⟨s1, s2, fun a ha b hb => ?_⟩
  have ha' := p1.mem_iff.1 ha
  have hb' := p2.mem_iff.1 hb
  rcases List.mem_append.1 ha' with ha' | ha' <;> rcases List.mem_append.1 hb' with hb' | hb'
  · exact (List.pairwise_append.1 hX).2.2 a ha' b hb'
  · exact h1 a ha' b hb'
  · exact h2 a ha' b hb'
  · exact (List.pairwise_append.1 hY).2.2 a ha' b hb'
theorem merge_perm {X1 X2 Y1 Y2 Z1 Z2 : List ((Int × Int) × Nat)} (p1 : Z1.Perm (X1 ++ Y1)) (p2 : Z2.Perm (X2 ++ Y2)) : (Z1 ++ Z2).Perm ((X1 ++ X2) ++ (Y1 ++ Y2)) := by
  refine (p1.append p2).trans ?_
  rw [List.append_assoc, List.append_assoc]
  refine List.Perm.append_left X1 ?_
  rw [← List.append_assoc, ← List.append_assoc]
  exact List.Perm.append_right Y2 List.perm_append_comm
theorem insert_sorted {A B : List ((Int × Int) × Nat)} {x : (Int × Int) × Nat} (h : SortF (A ++ B)) (h1 : ∀ a ∈ A, leF a x) (h2 : ∀ b ∈ B, leF x b) : SortF (A ++ x :: B) := by
  obtain ⟨a, b, c⟩ := List.pairwise_append.1 h
  refine List.pairwise_append.2 ⟨a, List.pairwise_cons.2 ⟨h2, b⟩, fun p hp q hq => ?_⟩
  rcases List.mem_cons.1 hq with rfl | hq
  · exact h1 p hp
  · exact c p hp q hq
theorem below_all {A : List ((Int × Int) × Nat)} {x : (Int × Int) × Nat} (h : SortF A) {k : Nat} (hk : k ≤ A.length) (h1 : ∀ (_ : 0 < k), leF (A[k - 1]'(by omega)) x) : ∀ a ∈ A.take k, leF a x := by
  intro a ha
  obtain ⟨i, hi, rfl⟩ := List.getElem_of_mem ha
  simp at hi
  rw [List.getElem_take]
  exact Int.le_trans (h.get (i := i) (j := k - 1) (by omega) (by omega)) (h1 (by omega))
theorem above_all {A : List ((Int × Int) × Nat)} {x : (Int × Int) × Nat} (h : SortF A) {k : Nat} (h1 : ∀ (hk : k < A.length), leF x A[k]) : ∀ a ∈ A.drop k, leF x a := by
  intro a ha
  obtain ⟨i, hi, rfl⟩ := List.getElem_of_mem ha
  simp at hi
  rw [List.getElem_drop]
  exact Int.le_trans (h1 (by omega)) (h.get (i := k) (j := k + i) (by omega) (by omega))
end Go.Proofs.YtaaefgieklkekaaGreatDoor
