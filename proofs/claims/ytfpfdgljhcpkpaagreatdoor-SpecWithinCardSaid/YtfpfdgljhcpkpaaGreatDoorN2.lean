/- Plain law of spans made fewer: five properties tell what the list is. -/
import Derived.Test.YtfpfdgljhcpkpaaGreatDoorS1
namespace Go.Proofs.YtfpfdgljhcpkpaaGreatDoor

/-- Are two spans near, by a gap? -/
def nearQ (g : Int) (a b : Int × Int) : Prop := a.1 ≤ b.2 + g ∧ b.1 ≤ a.2 + g
/-- Lies one span in another? -/
def inP (a b : Int × Int) : Prop := b.1 ≤ a.1 ∧ a.2 ≤ b.2
theorem inP.trans {a b c : Int × Int} (h : inP a b) (k : inP b c) : inP a c := ⟨Int.le_trans k.1 h.1, Int.le_trans h.2 k.2⟩
theorem inP.refl (a : Int × Int) : inP a a := ⟨Int.le_refl _, Int.le_refl _⟩
/-- Spans with the place of the first of each, made out of the spans of L. -/
structure Folds (g : Int) (L : List (Int × Int)) (O : List ((Int × Int) × Nat)) : Prop where
  at_ : ∀ o ∈ O, ∃ h : o.2 < L.length, inP L[o.2] o.1
  all_ : ∀ i (h : i < L.length), ∃ o ∈ O, inP L[i] o.1 ∧ o.2 ≤ i
  lo : ∀ o ∈ O, ∃ x ∈ L, inP x o.1 ∧ x.1 = o.1.1
  hi : ∀ o ∈ O, ∃ x ∈ L, inP x o.1 ∧ x.2 = o.1.2
  mid : ∀ o ∈ O, ∀ p, o.1.1 ≤ p → p < o.1.2 → ∃ x ∈ L, x.1 ≤ p ∧ p < x.2 + g
structure Folded (g : Int) (L : List (Int × Int)) (O : List ((Int × Int) × Nat)) : Prop extends Folds g L O where
  far : O.Pairwise (fun a b => ¬ nearQ g a.1 b.1)
  rise : O.Pairwise (fun a b => a.2 < b.2)
theorem pw_ne {α : Type} {R : α → α → Prop} (hs : ∀ a b, R a b → R b a) : ∀ {l : List α}, l.Pairwise R → ∀ {a b : α}, a ∈ l → b ∈ l → a ≠ b → R a b
  | [], _, a, b, ha, _, _ => by cases ha
  | x :: r, h, a, b, ha, hb, hab => by
    obtain ⟨h1, h2⟩ := List.pairwise_cons.1 h
    rcases List.mem_cons.1 ha with ea | ha'
    · rcases List.mem_cons.1 hb with eb | hb'
      · exact absurd (ea.trans eb.symm) hab
      · rw [ea]; exact h1 b hb'
    · rcases List.mem_cons.1 hb with eb | hb'
      · rw [eb]; exact hs _ _ (h1 a ha')
      · exact pw_ne hs h2 ha' hb' hab
theorem far_ne {g : Int} {O : List ((Int × Int) × Nat)} (h : O.Pairwise (fun a b => ¬ nearQ g a.1 b.1)) {a b : (Int × Int) × Nat} (ha : a ∈ O) (hb : b ∈ O) (hn : nearQ g a.1 b.1) : a = b := by
  by_cases e : a = b
  · exact e
  · exact absurd hn (pw_ne (R := fun a b : (Int × Int) × Nat => ¬ nearQ g a.1 b.1) (fun a b h k => h ⟨k.2, k.1⟩) h ha hb e)
section
variable {g : Int} {L : List (Int × Int)} {O O' : List ((Int × Int) × Nat)}
theorem both_near (h0 : 0 ≤ g) {x a b : Int × Int} (hx : x.1 < x.2) (ha : inP x a) (hb : inP x b) : nearQ g a b := by
  unfold inP at ha hb; unfold nearQ; omega
theorem Folds.some_ (h : Folds g L O) {x : Int × Int} (hx : x ∈ L) : ∃ o ∈ O, inP x o.1 := by
  obtain ⟨i, hi, rfl⟩ := List.getElem_of_mem hx
  obtain ⟨o, ho, h1, _⟩ := h.all_ i hi
  exact ⟨o, ho, h1⟩
theorem Folds.sub (hL : ∀ x ∈ L, x.1 < x.2) (h0 : 0 ≤ g) (h : Folds g L O) (h' : Folded g L O') {o : (Int × Int) × Nat} (ho : o ∈ O) : ∃ o' ∈ O', inP o.1 o'.1 := by
  obtain ⟨x, hx, hxo, hx1⟩ := h.lo o ho
  obtain ⟨s, hs, hxs⟩ := h'.some_ hx
  refine ⟨s, hs, ?_⟩
  by_cases hto : o.1.2 ≤ s.1.2
  · unfold inP at *; omega
  · exfalso
    obtain ⟨y, hy, hyo, hy2⟩ := h.hi o ho
    obtain ⟨t, ht, hyt⟩ := h'.some_ hy
    have hxx := hL x hx
    have hyy := hL y hy
    have hts : ¬ nearQ g s.1 t.1 := fun hn => by
      have e := far_ne h'.far hs ht hn
      subst e
      unfold inP at hyt; omega
    have hgap : s.1.2 + g < t.1.1 := by
      unfold nearQ at hts; unfold inP at *; omega
    obtain ⟨z, hz, hz1, hz2⟩ := h.mid o ho (s.1.2 + g) (by unfold inP at *; omega) (by unfold inP at *; omega)
    obtain ⟨u, hu, hzu⟩ := h'.some_ hz
    have hn : nearQ g s.1 u.1 := by unfold nearQ; unfold inP at *; omega
    have e := far_ne h'.far hs hu hn
    subst e
    unfold inP at hzu; omega
theorem Folded.mem (hL : ∀ x ∈ L, x.1 < x.2) (h0 : 0 ≤ g) (h : Folded g L O) (h' : Folded g L O') {o : (Int × Int) × Nat} (ho : o ∈ O) : o ∈ O' := by
  obtain ⟨s, hs, hos⟩ := h.toFolds.sub hL h0 h' ho
  obtain ⟨t, ht, hst⟩ := h'.toFolds.sub hL h0 h hs
  obtain ⟨x, hx, hxo, _⟩ := h.lo o ho
  have e : o = t := far_ne h.far ho ht (both_near h0 (hL x hx) hxo (hxo.trans (hos.trans hst)))
  subst e
  have e1 : s.1 = o.1 := by
    unfold inP at hos hst
    exact Prod.ext (by omega) (by omega)
  have key : ∀ {P Q : List ((Int × Int) × Nat)}, Folded g L P → Folded g L Q → ∀ {a b : (Int × Int) × Nat}, a ∈ P → b ∈ Q → a.1 = b.1 → a.2 ≤ b.2 := by
    intro P Q hP hQ a b ha hb hab
    obtain ⟨hlt, hin⟩ := hQ.at_ b hb
    obtain ⟨u, hu, hin2, hle⟩ := hP.all_ b.2 hlt
    have : a = u := far_ne hP.far ha hu (both_near h0 (hL _ (List.getElem_mem hlt)) (by rw [hab]; exact hin) hin2)
    rw [this]; exact hle
  have e2 : s.2 = o.2 := Nat.le_antisymm (key h' h hs ho e1) (key h h' ho hs e1.symm)
  have : s = o := Prod.ext e1 e2
  rw [← this]; exact hs
theorem rise_eq : ∀ {O O' : List ((Int × Int) × Nat)}, O.Pairwise (fun a b => a.2 < b.2) → O'.Pairwise (fun a b => a.2 < b.2) → (∀ o, o ∈ O ↔ o ∈ O') → O = O'
  | [], [], _, _, _ => rfl
  | [], b :: r, _, _, h => by have := (h b).2 (List.mem_cons_self ..); cases this
  | a :: r, [], _, _, h => by have := (h a).1 (List.mem_cons_self ..); cases this
  | a :: r, b :: q, h1, h2, h => by
    obtain ⟨a1, a2⟩ := List.pairwise_cons.1 h1
    obtain ⟨b1, b2⟩ := List.pairwise_cons.1 h2
    have hab : a = b := by
      rcases List.mem_cons.1 ((h a).1 (List.mem_cons_self ..)) with e | ha
      · exact e
      · rcases List.mem_cons.1 ((h b).2 (List.mem_cons_self ..)) with e | hb
        · exact e.symm
        · have := b1 a ha; have := a1 b hb; omega
    subst hab
    rw [rise_eq a2 b2 fun o => ⟨fun ho => ?_, fun ho => ?_⟩]
    · rcases List.mem_cons.1 ((h o).1 (List.mem_cons_of_mem _ ho)) with rfl | k
      · have := a1 o ho; omega
      · exact k
    · rcases List.mem_cons.1 ((h o).2 (List.mem_cons_of_mem _ ho)) with rfl | k
      · have := b1 o ho; omega
      · exact k
/-- There is one such list at most. -/
theorem Folded.eq (hL : ∀ x ∈ L, x.1 < x.2) (h0 : 0 ≤ g) (h : Folded g L O) (h' : Folded g L O') : O = O' :=
  rise_eq h.rise h'.rise fun _ => ⟨fun ho => h.mem hL h0 h' ho, fun ho => h'.mem hL h0 h ho⟩
/-- The spans of two that are near, as one. -/
def hullP (a b : Int × Int) : Int × Int := (min a.1 b.1, max a.2 b.2)
theorem hull_in1 (a b : Int × Int) : inP a (hullP a b) := ⟨by simp only [hullP]; omega, by simp only [hullP]; omega⟩
theorem hull_in2 (a b : Int × Int) : inP b (hullP a b) := ⟨by simp only [hullP]; omega, by simp only [hullP]; omega⟩
/-- A merge keeps what is said of all spans. -/
theorem Folds.merge (hL : ∀ x ∈ L, x.1 < x.2) (h : Folds g L O) {a b : (Int × Int) × Nat} (ha : a ∈ O) (hb : b ∈ O) (hn : nearQ g a.1 b.1) {q : Nat} (hq : (q = a.2 ∨ q = b.2) ∧ q ≤ a.2 ∧ q ≤ b.2)
    (hm : ∀ o ∈ O', o = (hullP a.1 b.1, q) ∨ o ∈ O) (hc : (hullP a.1 b.1, q) ∈ O') (hk : ∀ o ∈ O, o ∈ O' ∨ o = a ∨ o = b) : Folds g L O' := by
  have i1 := hull_in1 a.1 b.1
  have i2 := hull_in2 a.1 b.1
  refine ⟨fun o ho => ?_, fun i hi => ?_, fun o ho => ?_, fun o ho => ?_, fun o ho p hp1 hp2 => ?_⟩
  · rcases hm o ho with rfl | ho
    · obtain ⟨l1, n1⟩ := h.at_ a ha
      obtain ⟨l2, n2⟩ := h.at_ b hb
      rcases hq.1 with rfl | rfl
      · exact ⟨l1, n1.trans i1⟩
      · exact ⟨l2, n2.trans i2⟩
    · exact h.at_ o ho
  · obtain ⟨o, ho, h1, h2⟩ := h.all_ i hi
    rcases hk o ho with ho | rfl | rfl
    · exact ⟨o, ho, h1, h2⟩
    · exact ⟨_, hc, h1.trans i1, by simp only; omega⟩
    · exact ⟨_, hc, h1.trans i2, by simp only; omega⟩
  · rcases hm o ho with rfl | ho
    · obtain ⟨x, hx, x1, x2⟩ := h.lo a ha
      obtain ⟨y, hy, y1, y2⟩ := h.lo b hb
      by_cases hab : a.1.1 ≤ b.1.1
      · exact ⟨x, hx, x1.trans i1, by simp only [hullP]; omega⟩
      · exact ⟨y, hy, y1.trans i2, by simp only [hullP]; omega⟩
    · exact h.lo o ho
  · rcases hm o ho with rfl | ho
    · obtain ⟨x, hx, x1, x2⟩ := h.hi a ha
      obtain ⟨y, hy, y1, y2⟩ := h.hi b hb
      by_cases hab : a.1.2 ≤ b.1.2
      · exact ⟨y, hy, y1.trans i2, by simp only [hullP]; omega⟩
      · exact ⟨x, hx, x1.trans i1, by simp only [hullP]; omega⟩
    · exact h.hi o ho
  · rcases hm o ho with rfl | ho
    · obtain ⟨x, hx, x1, x2⟩ := h.hi a ha
      obtain ⟨y, hy, y1, y2⟩ := h.hi b hb
      obtain ⟨x', hx', x1', x2'⟩ := h.lo a ha
      obtain ⟨y', hy', y1', y2'⟩ := h.lo b hb
      simp only [hullP] at hp1 hp2
      by_cases c1 : a.1.1 ≤ p ∧ p < a.1.2
      · exact h.mid a ha p c1.1 c1.2
      · by_cases c2 : b.1.1 ≤ p ∧ p < b.1.2
        · exact h.mid b hb p c2.1 c2.2
        · unfold nearQ at hn
          unfold inP at x1 y1
          have := hL x hx
          have := hL y hy
          by_cases c3 : a.1.2 ≤ p ∧ a.1.1 ≤ b.1.1
          · exact ⟨x, hx, by omega, by omega⟩
          · exact ⟨y, hy, by omega, by omega⟩
    · exact h.mid o ho p hp1 hp2
end
end Go.Proofs.YtfpfdgljhcpkpaaGreatDoor
/- Plain law of spans made fewer: the sweep over spans that rise, and the merges of a list, keep what is said. -/
namespace Go.Proofs.YtfpfdgljhcpkpaaGreatDoor
section
variable {g : Int} {L : List (Int × Int)}
/-- What holds in the sweep: the spans made so far, and those to come. -/
structure Sweeps (g : Int) (L : List (Int × Int)) (one rest : List ((Int × Int) × Nat)) : Prop where
  folds : Folds g L (one ++ rest)
  apart : one.Pairwise (fun a b => a.1.2 + g < b.1.1)
  ahead : ∀ o ∈ one, ∀ f ∈ rest, o.1.1 ≤ f.1.1
  sorted : rest.Pairwise (fun a b => a.1.1 ≤ b.1.1)
variable {init rest one : List ((Int × Int) × Nat)} {l f : (Int × Int) × Nat}
theorem Folds.wide (hL : ∀ x ∈ L, x.1 < x.2) {O : List ((Int × Int) × Nat)} (h : Folds g L O) {o : (Int × Int) × Nat} (ho : o ∈ O) : o.1.1 < o.1.2 := by
  obtain ⟨h1, h2⟩ := h.at_ o ho
  have := hL _ (List.getElem_mem h1)
  unfold inP at h2; omega
theorem Sweeps.join (hL : ∀ x ∈ L, x.1 < x.2) (h0 : 0 ≤ g) (h : Sweeps g L (init ++ [l]) (f :: rest)) (hn : f.1.1 - l.1.2 ≤ g) : Sweeps g L (init ++ [((l.1.1, max l.1.2 f.1.2), min l.2 f.2)]) rest := by
  have hlf := h.ahead l (by simp) f (by simp)
  have hfw := h.folds.wide hL (o := f) (by simp)
  have e : (l.1.1, max l.1.2 f.1.2) = hullP l.1 f.1 := by unfold hullP; congr 1; omega
  obtain ⟨a1, a2, a3⟩ := List.pairwise_append.1 h.apart
  obtain ⟨s1, s2⟩ := List.pairwise_cons.1 h.sorted
  refine ⟨?_, ?_, ?_, s2⟩
  · rw [e]
    refine h.folds.merge hL (a := l) (b := f) (by simp) (by simp) (by unfold nearQ; omega) (q := min l.2 f.2) (by omega) ?_ (by simp) ?_
    · intro o ho
      simp at ho ⊢
      rcases ho with ho | ho | ho
      · exact .inr (.inl ho)
      · exact .inl ho
      · exact .inr (.inr (.inr (.inr ho)))
    · intro o ho
      simp at ho ⊢
      rcases ho with ho | ho | ho | ho
      · exact .inl (.inl ho)
      · exact .inr (.inl ho)
      · exact .inr (.inr ho)
      · exact .inl (.inr (.inr ho))
  · refine List.pairwise_append.2 ⟨a1, List.pairwise_singleton .., fun a ha b hb => ?_⟩
    simp at hb
    subst hb
    exact a3 a ha l (by simp)
  · intro o ho q hq
    simp at ho
    rcases ho with ho | rfl
    · exact h.ahead o (by simp [ho]) q (by simp [hq])
    · exact h.ahead l (by simp) q (by simp [hq])
theorem Sweeps.push (hL : ∀ x ∈ L, x.1 < x.2) (h0 : 0 ≤ g) (h : Sweeps g L (init ++ [l]) (f :: rest)) (hn : ¬ f.1.1 - l.1.2 ≤ g) : Sweeps g L ((init ++ [l]) ++ [f]) rest := by
  obtain ⟨a1, a2, a3⟩ := List.pairwise_append.1 h.apart
  obtain ⟨s1, s2⟩ := List.pairwise_cons.1 h.sorted
  have hlw := h.folds.wide hL (o := l) (by simp)
  refine ⟨by have := h.folds; simpa using this, ?_, ?_, s2⟩
  · refine List.pairwise_append.2 ⟨h.apart, List.pairwise_singleton .., fun a ha b hb => ?_⟩
    simp at hb
    subst hb
    simp at ha
    rcases ha with ha | rfl
    · have := a3 a ha l (by simp); omega
    · omega
  · intro o ho q hq
    simp at ho
    rcases ho with ho | rfl | rfl
    · exact h.ahead o (by simp [ho]) q (by simp [hq])
    · exact h.ahead o (by simp) q (by simp [hq])
    · exact s1 q hq
theorem Sweeps.first (h : Sweeps g L [] (f :: rest)) : Sweeps g L [f] rest := by
  obtain ⟨s1, s2⟩ := List.pairwise_cons.1 h.sorted
  refine ⟨by have := h.folds; simpa using this, List.pairwise_singleton .., ?_, s2⟩
  intro o ho q hq
  simp at ho
  subst ho
  exact s1 q hq
theorem Sweeps.done (hL : ∀ x ∈ L, x.1 < x.2) (h0 : 0 ≤ g) (h : Sweeps g L one []) {O : List ((Int × Int) × Nat)} (hp : O.Perm one) (hs : O.Pairwise (fun a b => a.2 ≤ b.2)) : Folded g L O := by
  have hf : Folds g L one := by have := h.folds; simpa using this
  have hfO : Folds g L O := ⟨fun o ho => hf.at_ o (hp.mem_iff.1 ho), fun i hi => by
    obtain ⟨o, ho, h1⟩ := hf.all_ i hi
    exact ⟨o, hp.mem_iff.2 ho, h1⟩, fun o ho => hf.lo o (hp.mem_iff.1 ho), fun o ho => hf.hi o (hp.mem_iff.1 ho), fun o ho => hf.mid o (hp.mem_iff.1 ho)⟩
  have hfar1 : one.Pairwise (fun a b => ¬ nearQ g a.1 b.1) := h.apart.imp fun hab hn => by unfold nearQ at hn; omega
  have hfar : O.Pairwise (fun a b => ¬ nearQ g a.1 b.1) := (hp.pairwise_iff (fun {a b} (h : ¬ nearQ g a.1 b.1) (k : nearQ g b.1 a.1) => h ⟨k.2, k.1⟩)).2 hfar1
  refine ⟨hfO, hfar, ?_⟩
  have hne : O.Pairwise (fun a b => a.2 ≠ b.2) := by
    refine List.Pairwise.imp_of_mem (fun {a b} ha hb hab e => ?_) hfar
    obtain ⟨l1, n1⟩ := hfO.at_ a ha
    obtain ⟨l2, n2⟩ := hfO.at_ b hb
    simp only [← e] at n2
    exact hab (both_near h0 (hL _ (List.getElem_mem l1)) n1 n2)
  exact (hs.and hne).imp fun ⟨a, b⟩ => by omega
theorem Sweeps.start {R : List ((Int × Int) × Nat)} (hL : ∀ x ∈ L, x.1 < x.2) (h0 : 0 ≤ g) (hp : R.Perm L.zipIdx) (hs : R.Pairwise (fun a b => a.1.1 ≤ b.1.1)) : Sweeps g L [] R := by
  have hm : ∀ o, o ∈ R → L[o.2]? = some o.1 := fun o ho => by
    have := hp.mem_iff.1 ho
    exact List.mk_mem_zipIdx_iff_getElem?.1 this
  refine ⟨⟨fun o ho => ?_, fun i hi => ?_, fun o ho => ?_, fun o ho => ?_, fun o ho p h1 h2 => ?_⟩, .nil, (fun o ho => by cases ho), hs⟩
  · obtain ⟨h1, h2⟩ := List.getElem?_eq_some_iff.1 (hm o (by simpa using ho))
    exact ⟨h1, by rw [h2]; exact inP.refl _⟩
  · exact ⟨(L[i], i), by simpa using hp.mem_iff.2 (List.mk_mem_zipIdx_iff_getElem?.2 (List.getElem?_eq_getElem hi)), inP.refl _, Nat.le_refl _⟩
  · exact ⟨o.1, List.mem_of_getElem? (hm o (by simpa using ho)), inP.refl _, rfl⟩
  · exact ⟨o.1, List.mem_of_getElem? (hm o (by simpa using ho)), inP.refl _, rfl⟩
  · exact ⟨o.1, List.mem_of_getElem? (hm o (by simpa using ho)), h1, by omega⟩
end
end Go.Proofs.YtfpfdgljhcpkpaaGreatDoor
