/- Plain laws of a merge in place: where the halves are cut, and what becomes of them. -/
import Derived.Test.YtfpfdgljhcpkpaaDoorN2
namespace Go.Proofs.YtfpfdgljhcpkpaaDoor

abbrev leF (a b : (Int × Int) × Nat) : Prop := a.1.1 ≤ b.1.1
abbrev SortF (l : List ((Int × Int) × Nat)) : Prop := l.Pairwise leF
theorem SortF.get {l : List ((Int × Int) × Nat)} (h : SortF l) {i j : Nat} (hij : i ≤ j) (hj : j < l.length) : leF (l[i]'(by omega)) l[j] := by
  rcases Nat.lt_or_ge i j with hlt | hge
  · exact List.pairwise_iff_getElem.1 h i j (by omega) hj hlt
  · obtain rfl : i = j := by omega
    exact Int.le_refl _
theorem SortF.take {l : List ((Int × Int) × Nat)} (h : SortF l) (k : Nat) : SortF (l.take k) := List.Pairwise.sublist (List.take_sublist k l) h
theorem SortF.drop {l : List ((Int × Int) × Nat)} (h : SortF l) (k : Nat) : SortF (l.drop k) := List.Pairwise.sublist (List.drop_sublist k l) h
/-- All of a first part is at most all of another list's last part. -/
theorem cross {X Y : List ((Int × Int) × Nat)} (hX : SortF X) (hY : SortF Y) {k j : Nat} (hk : k ≤ X.length) (h : ∀ (_ : 0 < k) (h1 : k - 1 < X.length) (h2 : j < Y.length), leF X[k - 1] Y[j]) : ∀ x ∈ X.take k, ∀ y ∈ Y.drop j, leF x y := by
  intro x hx y hy
  obtain ⟨i, hi, rfl⟩ := List.getElem_of_mem hx
  obtain ⟨q, hq, rfl⟩ := List.getElem_of_mem hy
  simp at hi hq
  rw [List.getElem_take, List.getElem_drop]
  exact Int.le_trans (hX.get (i := i) (j := k - 1) (by omega) (by omega)) (Int.le_trans (h (by omega) (by omega) (by omega)) (hY.get (i := j) (j := j + q) (by omega) (by omega)))
theorem merge_sorted {X1 X2 Y1 Y2 Z1 Z2 : List ((Int × Int) × Nat)} (hX : SortF (X1 ++ X2)) (hY : SortF (Y1 ++ Y2)) (h1 : ∀ x ∈ X1, ∀ y ∈ Y2, leF x y) (h2 : ∀ y ∈ Y1, ∀ x ∈ X2, leF y x)
    (p1 : Z1.Perm (X1 ++ Y1)) (p2 : Z2.Perm (X2 ++ Y2)) (s1 : SortF Z1) (s2 : SortF Z2) : SortF (Z1 ++ Z2) := by
  refine List.pairwise_append.2 ⟨s1, s2, fun a ha b hb => ?_⟩
  have ha' := p1.mem_iff.1 ha
  have hb' := p2.mem_iff.1 hb
  rcases List.mem_append.1 ha' with ha' | ha' <;> rcases List.mem_append.1 hb' with hb' | hb'
  · exact (List.pairwise_append.1 hX).2.2 a ha' b hb'
  · exact h1 a ha' b hb'
  · exact h2 a ha' b hb'
  · exact (List.pairwise_append.1 hY).2.2 a ha' b hb'
theorem merge_perm {X1 X2 Y1 Y2 Z1 Z2 : List ((Int × Int) × Nat)} (p1 : Z1.Perm (X1 ++ Y1)) (p2 : Z2.Perm (X2 ++ Y2)) : (Z1 ++ Z2).Perm ((X1 ++ X2) ++ (Y1 ++ Y2)) := by
  refine (p1.append p2).trans ?_
  rw [List.append_assoc, List.append_assoc]
  refine List.Perm.append_left X1 ?_
  rw [← List.append_assoc, ← List.append_assoc]
  exact List.Perm.append_right Y2 List.perm_append_comm
theorem insert_sorted {A B : List ((Int × Int) × Nat)} {x : (Int × Int) × Nat} (h : SortF (A ++ B)) (h1 : ∀ a ∈ A, leF a x) (h2 : ∀ b ∈ B, leF x b) : SortF (A ++ x :: B) := by
  obtain ⟨a, b, c⟩ := List.pairwise_append.1 h
  refine List.pairwise_append.2 ⟨a, List.pairwise_cons.2 ⟨h2, b⟩, fun p hp q hq => ?_⟩
  rcases List.mem_cons.1 hq with rfl | hq
  · exact h1 p hp
  · exact c p hp q hq
theorem below_all {A : List ((Int × Int) × Nat)} {x : (Int × Int) × Nat} (h : SortF A) {k : Nat} (hk : k ≤ A.length) (h1 : ∀ (_ : 0 < k), leF (A[k - 1]'(by omega)) x) : ∀ a ∈ A.take k, leF a x := by
  intro a ha
  obtain ⟨i, hi, rfl⟩ := List.getElem_of_mem ha
  simp at hi
  rw [List.getElem_take]
  exact Int.le_trans (h.get (i := i) (j := k - 1) (by omega) (by omega)) (h1 (by omega))
theorem above_all {A : List ((Int × Int) × Nat)} {x : (Int × Int) × Nat} (h : SortF A) {k : Nat} (h1 : ∀ (hk : k < A.length), leF x A[k]) : ∀ a ∈ A.drop k, leF x a := by
  intro a ha
  obtain ⟨i, hi, rfl⟩ := List.getElem_of_mem ha
  simp at hi
  rw [List.getElem_drop]
  exact Int.le_trans (h1 (by omega)) (h.get (i := k) (j := k + i) (by omega) (by omega))
end Go.Proofs.YtfpfdgljhcpkpaaDoor
