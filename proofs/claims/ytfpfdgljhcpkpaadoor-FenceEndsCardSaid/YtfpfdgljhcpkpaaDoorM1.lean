/- Plain laws on lists of spans: what is in a list, when a list is the least one of its set, and that there is one such list alone. -/
import Derived.Below
namespace Go.Proofs.YtfpfdgljhcpkpaaDoor

/-- May a span be? -/
def okS (x : Int × Int) : Bool := decide (0 ≤ x.1) && decide (x.1 ≤ x.2) && decide (x.2 ≤ 4611686018427387904)
/-- May it be, and has it a byte? -/
def goodS (x : Int × Int) : Bool := okS x && decide (x.1 < x.2)
theorem okS_iff (x : Int × Int) : okS x = true ↔ 0 ≤ x.1 ∧ x.1 ≤ x.2 ∧ x.2 ≤ 4611686018427387904 := by simp [okS, and_assoc]
theorem goodS_iff (x : Int × Int) : goodS x = true ↔ 0 ≤ x.1 ∧ x.1 < x.2 ∧ x.2 ≤ 4611686018427387904 := by
  simp only [goodS, Bool.and_eq_true, okS_iff, decide_eq_true_eq]; omega

/-- A byte is in one of the spans. -/
def InS (L : List (Int × Int)) (p : Int) : Prop := ∃ x ∈ L, okS x = true ∧ x.1 ≤ p ∧ p < x.2
theorem InS_nil (p : Int) : ¬ InS [] p := by rintro ⟨x, h, _⟩; cases h
theorem InS_cons (x : Int × Int) (L : List (Int × Int)) (p : Int) : InS (x :: L) p ↔ (okS x = true ∧ x.1 ≤ p ∧ p < x.2) ∨ InS L p := by
  simp [InS]
theorem InS_append (a b : List (Int × Int)) (p : Int) : InS (a ++ b) p ↔ InS a p ∨ InS b p := by
  simp only [InS, List.mem_append]
  constructor
  · rintro ⟨x, h | h, r⟩
    · exact .inl ⟨x, h, r⟩
    · exact .inr ⟨x, h, r⟩
  · rintro (⟨x, h, r⟩ | ⟨x, h, r⟩)
    · exact ⟨x, .inl h, r⟩
    · exact ⟨x, .inr h, r⟩
theorem InS_one (x : Int × Int) (p : Int) : InS [x] p ↔ okS x = true ∧ x.1 ≤ p ∧ p < x.2 := by simp [InS]
/-- A byte that is in a list is from 0 on, and ahead of the end. -/
theorem InS_bound {L : List (Int × Int)} {p : Int} (h : InS L p) : 0 ≤ p ∧ p < 4611686018427387904 := by
  obtain ⟨x, _, ho, h1, h2⟩ := h
  rw [okS_iff] at ho
  omega

/-- The least list of its set: each span has a byte, each ends ahead of the next one's beginning. -/
structure Canon (L : List (Int × Int)) : Prop where
  good : ∀ x ∈ L, goodS x = true
  sep : L.Pairwise (fun x y => x.2 < y.1)

theorem Canon.nil : Canon [] := ⟨(fun _ h => by cases h), List.Pairwise.nil⟩
theorem Canon.one {x : Int × Int} (h : goodS x = true) : Canon [x] := ⟨fun y hy => by simp at hy; rw [hy]; exact h, by simp⟩
theorem Canon.tail {x : Int × Int} {L : List (Int × Int)} (h : Canon (x :: L)) : Canon L :=
  ⟨fun y hy => h.good y (List.mem_cons_of_mem _ hy), (List.pairwise_cons.1 h.sep).2⟩
theorem Canon.head {x : Int × Int} {L : List (Int × Int)} (h : Canon (x :: L)) : 0 ≤ x.1 ∧ x.1 < x.2 ∧ x.2 ≤ 4611686018427387904 :=
  (goodS_iff x).1 (h.good x (List.mem_cons_self ..))
theorem Canon.mem {L : List (Int × Int)} (h : Canon L) {x : Int × Int} (hx : x ∈ L) : 0 ≤ x.1 ∧ x.1 < x.2 ∧ x.2 ≤ 4611686018427387904 :=
  (goodS_iff x).1 (h.good x hx)
theorem Canon.in_cons {x : Int × Int} {L : List (Int × Int)} (h : Canon (x :: L)) (p : Int) : InS (x :: L) p ↔ (x.1 ≤ p ∧ p < x.2) ∨ InS L p := by
  have := h.head
  have ho : okS x = true := by rw [okS_iff]; omega
  rw [InS_cons, ho]; simp
theorem Canon.behind {x : Int × Int} {L : List (Int × Int)} (h : Canon (x :: L)) {p : Int} (hp : InS L p) : x.2 < p := by
  obtain ⟨y, hy, _, h1, _⟩ := hp
  have := (List.pairwise_cons.1 h.sep).1 y hy
  omega
theorem Canon.first {x : Int × Int} {L : List (Int × Int)} (h : Canon (x :: L)) {p : Int} (hp : InS (x :: L) p) : x.1 ≤ p := by
  rcases (h.in_cons p).1 hp with h1 | h1
  · exact h1.1
  · have := h.behind h1; have := h.head; omega

/-- A set has one least list. -/
theorem Canon.unique : ∀ {a b : List (Int × Int)}, Canon a → Canon b → (∀ p, InS a p ↔ InS b p) → a = b
  | [], [], _, _, _ => rfl
  | [], y :: rb, _, hb, h => by
    exfalso
    have := hb.head
    exact InS_nil y.1 ((h y.1).2 ((hb.in_cons _).2 (.inl (by omega))))
  | x :: ra, [], ha, _, h => by
    exfalso
    have := ha.head
    exact InS_nil x.1 ((h x.1).1 ((ha.in_cons _).2 (.inl (by omega))))
  | x :: ra, y :: rb, ha, hb, h => by
    have hx := ha.head
    have hy := hb.head
    have e1 : x.1 = y.1 := by
      have h1 := hb.first ((h x.1).1 ((ha.in_cons _).2 (.inl (by omega))))
      have h2 := ha.first ((h y.1).2 ((hb.in_cons _).2 (.inl (by omega))))
      omega
    have e2 : x.2 = y.2 := by
      rcases Int.lt_trichotomy x.2 y.2 with hlt | heq | hgt
      · exfalso
        have := (h x.2).2 ((hb.in_cons _).2 (.inl (by omega)))
        rcases (ha.in_cons _).1 this with h1 | h1
        · omega
        · have := ha.behind h1; omega
      · exact heq
      · exfalso
        have := (h y.2).1 ((ha.in_cons _).2 (.inl (by omega)))
        rcases (hb.in_cons _).1 this with h1 | h1
        · omega
        · have := hb.behind h1; omega
    have e : x = y := Prod.ext e1 e2
    subst e
    have hr : ∀ p, InS ra p ↔ InS rb p := by
      intro p
      constructor
      · intro hp
        have hlt := ha.behind hp
        rcases (hb.in_cons _).1 ((h p).1 ((ha.in_cons _).2 (.inr hp))) with h1 | h1
        · omega
        · exact h1
      · intro hp
        have hlt := hb.behind hp
        rcases (ha.in_cons _).1 ((h p).2 ((hb.in_cons _).2 (.inr hp))) with h1 | h1
        · omega
        · exact h1
    rw [Canon.unique ha.tail hb.tail hr]

/-- One span more, behind all others. -/
theorem Canon.snoc {L : List (Int × Int)} {x : Int × Int} (h : Canon L) (hx : goodS x = true) (hs : ∀ y ∈ L, y.2 < x.1) : Canon (L ++ [x]) :=
  ⟨fun y hy => by
    rcases List.mem_append.1 hy with h1 | h1
    · exact h.good y h1
    · simp at h1; rw [h1]; exact hx,
   List.pairwise_append.2 ⟨h.sep, by simp, fun a ha b hb => by simp at hb; rw [hb]; exact hs a ha⟩⟩
theorem Canon.init {L : List (Int × Int)} {x : Int × Int} (h : Canon (L ++ [x])) : Canon L ∧ goodS x = true ∧ ∀ y ∈ L, y.2 < x.1 :=
  ⟨⟨fun y hy => h.good y (List.mem_append.2 (.inl hy)), (List.pairwise_append.1 h.sep).1⟩, h.good x (by simp), fun y hy => (List.pairwise_append.1 h.sep).2.2 y hy x (by simp)⟩

end Go.Proofs.YtfpfdgljhcpkpaaDoor
