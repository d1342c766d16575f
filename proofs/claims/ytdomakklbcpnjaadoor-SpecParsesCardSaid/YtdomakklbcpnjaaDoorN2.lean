/- Plain law of spans made fewer: the sweep over spans that rise, and the merges of a list, keep what is said. -/
import Derived.Test.YtdomakklbcpnjaaDoorN1
namespace Go.Proofs.YtdomakklbcpnjaaDoor
section
variable {g : Int} {L : List (Int × Int)}
/-- What holds in the sweep: the spans made so far, and those to come. -/
structure Sweeps (g : Int) (L : List (Int × Int)) (one rest : List ((Int × Int) × Nat)) : Prop where
  folds : Folds g L (one ++ rest)
  apart : one.Pairwise (fun a b => a.1.2 + g < b.1.1)
  ahead : ∀ o ∈ one, ∀ f ∈ rest, o.1.1 ≤ f.1.1
  sorted : rest.Pairwise (fun a b => a.1.1 ≤ b.1.1)
variable {init rest one : List ((Int × Int) × Nat)} {l f : (Int × Int) × Nat}
theorem Folds.wide (hL : ∀ x ∈ L, x.1 < x.2) {O : List ((Int × Int) × Nat)} (h : Folds g L O) {o : (Int × Int) × Nat} (ho : o ∈ O) : o.1.1 < o.1.2 := by
  obtain ⟨h1, h2⟩ := h.at_ o ho
  have := hL _ (List.getElem_mem h1)
  unfold inP at h2; omega
theorem Sweeps.join (hL : ∀ x ∈ L, x.1 < x.2) (h0 : 0 ≤ g) (h : Sweeps g L (init ++ [l]) (f :: rest)) (hn : f.1.1 - l.1.2 ≤ g) : Sweeps g L (init ++ [((l.1.1, max l.1.2 f.1.2), min l.2 f.2)]) rest := by
  have hlf := h.ahead l (by simp) f (by simp)
  have hfw := h.folds.wide hL (o := f) (by simp)
  have e : (l.1.1, max l.1.2 f.1.2) = hullP l.1 f.1 := by unfold hullP; congr 1; omega
  obtain ⟨a1, a2, a3⟩ := List.pairwise_append.1 h.apart
  obtain ⟨s1, s2⟩ := List.pairwise_cons.1 h.sorted
  refine ⟨?_, ?_, ?_, s2⟩
  · rw [e]
    refine h.folds.merge hL (a := l) (b := f) (by simp) (by simp) (by unfold nearQ; omega) (q := min l.2 f.2) (by omega) ?_ (by simp) ?_
    · intro o ho
      simp at ho ⊢
      rcases ho with ho | ho | ho
      · exact .inr (.inl ho)
      · exact .inl ho
      · exact .inr (.inr (.inr (.inr ho)))
    · intro o ho
      simp at ho ⊢
      rcases ho with ho | ho | ho | ho
      · exact .inl (.inl ho)
      · exact .inr (.inl ho)
      · exact .inr (.inr ho)
      · exact .inl (.inr (.inr ho))
  · refine List.pairwise_append.2 ⟨a1, List.pairwise_singleton .., fun a ha b hb => ?_⟩
    simp at hb
    subst hb
    exact a3 a ha l (by simp)
  · intro o ho q hq
    simp at ho
    rcases ho with ho | rfl
    · exact h.ahead o (by simp [ho]) q (by simp [hq])
    · exact h.ahead l (by simp) q (by simp [hq])
theorem Sweeps.push (hL : ∀ x ∈ L, x.1 < x.2) (h0 : 0 ≤ g) (h : Sweeps g L (init ++ [l]) (f :: rest)) (hn : ¬ f.1.1 - l.1.2 ≤ g) : Sweeps g L ((init ++ [l]) ++ [f]) rest := by
  obtain ⟨a1, a2, a3⟩ := List.pairwise_append.1 h.apart
  obtain ⟨s1, s2⟩ := List.pairwise_cons.1 h.sorted
  have hlw := h.folds.wide hL (o := l) (by simp)
  refine ⟨by have := h.folds; simpa using this, ?_, ?_, s2⟩
  · refine List.pairwise_append.2 ⟨h.apart, List.pairwise_singleton .., fun a ha b hb => ?_⟩
    simp at hb
    subst hb
    simp at ha
    rcases ha with ha | rfl
    · have := a3 a ha l (by simp); omega
    · omega
  · intro o ho q hq
    simp at ho
    rcases ho with ho | rfl | rfl
    · exact h.ahead o (by simp [ho]) q (by simp [hq])
    · exact h.ahead o (by simp) q (by simp [hq])
    · exact s1 q hq
theorem Sweeps.first (h : Sweeps g L [] (f :: rest)) : Sweeps g L [f] rest := by
  obtain ⟨s1, s2⟩ := List.pairwise_cons.1 h.sorted
  refine ⟨by have := h.folds; simpa using this, List.pairwise_singleton .., ?_, s2⟩
  intro o ho q hq
  simp at ho
  subst ho
  exact s1 q hq
theorem Sweeps.done (hL : ∀ x ∈ L, x.1 < x.2) (h0 : 0 ≤ g) (h : Sweeps g L one []) {O : List ((Int × Int) × Nat)} (hp : O.Perm one) (hs : O.Pairwise (fun a b => a.2 ≤ b.2)) : Folded g L O := by
  have hf : Folds g L one := by have := h.folds; simpa using this
  have hfO : Folds g L O := ⟨fun o ho => hf.at_ o (hp.mem_iff.1 ho), fun i hi => by
    obtain ⟨o, ho, h1⟩ := hf.all_ i hi
    exact ⟨o, hp.mem_iff.2 ho, h1⟩, fun o ho => hf.lo o (hp.mem_iff.1 ho), fun o ho => hf.hi o (hp.mem_iff.1 ho), fun o ho => hf.mid o (hp.mem_iff.1 ho)⟩
  have hfar1 : one.Pairwise (fun a b => ¬ nearQ g a.1 b.1) := h.apart.imp fun hab hn => by unfold nearQ at hn; omega
  have hfar : O.Pairwise (fun a b => ¬ nearQ g a.1 b.1) := (hp.pairwise_iff (fun {a b} (h : ¬ nearQ g a.1 b.1) (k : nearQ g b.1 a.1) => h ⟨k.2, k.1⟩)).2 hfar1
  refine ⟨hfO, hfar, ?_⟩
  have hne : O.Pairwise (fun a b => a.2 ≠ b.2) := by
    refine List.Pairwise.imp_of_mem (fun {a b} ha hb hab e => ?_) hfar
    obtain ⟨l1, n1⟩ := hfO.at_ a ha
    obtain ⟨l2, n2⟩ := hfO.at_ b hb
    simp only [← e] at n2
    exact hab (both_near h0 (hL _ (List.getElem_mem l1)) n1 n2)
  exact (hs.and hne).imp fun ⟨a, b⟩ => by omega
theorem Sweeps.start {R : List ((Int × Int) × Nat)} (hL : ∀ x ∈ L, x.1 < x.2) (h0 : 0 ≤ g) (hp : R.Perm L.zipIdx) (hs : R.Pairwise (fun a b => a.1.1 ≤ b.1.1)) : Sweeps g L [] R := by
  have hm : ∀ o, o ∈ R → L[o.2]? = some o.1 := fun o ho => by
    have := hp.mem_iff.1 ho
    exact List.mk_mem_zipIdx_iff_getElem?.1 this
  refine ⟨⟨fun o ho => ?_, fun i hi => ?_, fun o ho => ?_, fun o ho => ?_, fun o ho p h1 h2 => ?_⟩, .nil, (fun o ho => by cases ho), hs⟩
  · obtain ⟨h1, h2⟩ := List.getElem?_eq_some_iff.1 (hm o (by simpa using ho))
    exact ⟨h1, by rw [h2]; exact inP.refl _⟩
  · exact ⟨(L[i], i), by simpa using hp.mem_iff.2 (List.mk_mem_zipIdx_iff_getElem?.2 (List.getElem?_eq_getElem hi)), inP.refl _, Nat.le_refl _⟩
  · exact ⟨o.1, List.mem_of_getElem? (hm o (by simpa using ho)), inP.refl _, rfl⟩
  · exact ⟨o.1, List.mem_of_getElem? (hm o (by simpa using ho)), inP.refl _, rfl⟩
  · exact ⟨o.1, List.mem_of_getElem? (hm o (by simpa using ho)), h1, by omega⟩
end
end Go.Proofs.YtdomakklbcpnjaaDoor
