/- Plain laws: gathering spans that rise by their beginnings. -/
import Derived.Test.YtfpfdgljhcpkpaaDoorM3
namespace Go.Proofs.YtfpfdgljhcpkpaaDoor

/-- One span more: joined to the last one, if it begins within it or at its end. -/
def gstep (out : List (Int × Int)) (x : Int × Int) : List (Int × Int) :=
  match out.reverse with
  | [] => [x]
  | l :: r => if x.1 ≤ l.2 then r.reverse ++ [(l.1, max l.2 x.2)] else out ++ [x]
def gatherL (L : List (Int × Int)) : List (Int × Int) := L.foldl gstep []
theorem gstep_nil (x : Int × Int) : gstep [] x = [x] := rfl
theorem gstep_join {i : List (Int × Int)} {l x : Int × Int} (h : x.1 ≤ l.2) : gstep (i ++ [l]) x = i ++ [(l.1, max l.2 x.2)] := by
  simp [gstep, h]
theorem gstep_new {i : List (Int × Int)} {l x : Int × Int} (h : ¬ x.1 ≤ l.2) : gstep (i ++ [l]) x = i ++ [l] ++ [x] := by
  simp [gstep, h]
theorem gatherL_snoc (L : List (Int × Int)) (x : Int × Int) : gatherL (L ++ [x]) = gstep (gatherL L) x := by simp [gatherL]
theorem gatherL_step {L : List (Int × Int)} {k : Nat} (h : k < L.length) : gatherL (L.take (k + 1)) = gstep (gatherL (L.take k)) L[k] := by
  rw [List.take_succ_eq_append_getElem h, gatherL_snoc]
theorem nil_or_snoc (L : List (Int × Int)) : L = [] ∨ ∃ i l, L = i ++ [l] := by
  rcases List.eq_nil_or_concat L with h | ⟨i, l, h⟩
  · exact .inl h
  · exact .inr ⟨i, l, by simpa using h⟩
theorem gstep_length (out : List (Int × Int)) (x : Int × Int) : (gstep out x).length ≤ out.length + 1 := by
  rcases nil_or_snoc out with rfl | ⟨i, l, rfl⟩
  · simp [gstep_nil]
  · by_cases h : x.1 ≤ l.2
    · rw [gstep_join h]; simp
    · rw [gstep_new h]; simp
theorem gatherL_length (L : List (Int × Int)) : (gatherL L).length ≤ L.length := by
  have : ∀ (L out : List (Int × Int)), (L.foldl gstep out).length ≤ out.length + L.length := by
    intro L
    induction L with
    | nil => intro out; simp
    | cons x L ih =>
      intro out
      have h1 := ih (gstep out x)
      have h2 := gstep_length out x
      simp only [List.foldl_cons, List.length_cons]
      omega
  have := this L []
  simpa [gatherL] using this

/-- The spans rise by their beginnings. -/
def Rising (L : List (Int × Int)) : Prop := L.Pairwise (fun x y => x.1 ≤ y.1)

/-- What has been gathered: a least list of the same bytes, and no span of it begins behind the last one that came. -/
theorem gather_inv : ∀ (L : List (Int × Int)), (∀ x ∈ L, goodS x = true) → Rising L → Canon (gatherL L) ∧ (∀ p, InS (gatherL L) p ↔ InS L p) ∧ (∀ y ∈ gatherL L, ∃ x ∈ L, y.1 = x.1) := by
  have main : ∀ (n : Nat) (L : List (Int × Int)), L.length = n → (∀ x ∈ L, goodS x = true) → Rising L → Canon (gatherL L) ∧ (∀ p, InS (gatherL L) p ↔ InS L p) ∧ (∀ y ∈ gatherL L, ∃ x ∈ L, y.1 = x.1) := by
    intro n
    induction n with
    | zero =>
      intro L hn _ _
      obtain rfl : L = [] := List.eq_nil_of_length_eq_zero hn
      exact ⟨Canon.nil, fun p => Iff.rfl, fun y hy => by cases hy⟩
    | succ n ih =>
      intro L hn hg hr
      rcases nil_or_snoc L with rfl | ⟨M, x, rfl⟩
      · simp at hn
      have hM : M.length = n := by simpa using hn
      have hgM : ∀ y ∈ M, goodS y = true := fun y hy => hg y (List.mem_append.2 (.inl hy))
      have hrM : Rising M := (List.pairwise_append.1 hr).1
      have hlast : ∀ y ∈ M, y.1 ≤ x.1 := fun y hy => (List.pairwise_append.1 hr).2.2 y hy x (by simp)
      have hgx := hg x (by simp)
      have gx := (goodS_iff x).1 hgx
      have hox : okS x = true := by rw [okS_iff]; omega
      obtain ⟨hc, hin, hfr⟩ := ih M hM hgM hrM
      rw [gatherL_snoc]
      rcases nil_or_snoc (gatherL M) with he | ⟨i, l, he⟩
      · rw [he, gstep_nil]
        rw [he] at hin
        refine ⟨Canon.one hgx, fun p => ?_, fun y hy => ⟨x, by simp, by simp at hy; rw [hy]⟩⟩
        rw [InS_append, ← hin p]
        simp [InS_nil]
      · rw [he] at hc hin hfr ⊢
        obtain ⟨hci, hgl, hsl⟩ := hc.init
        have gl := (goodS_iff l).1 hgl
        have hol : okS l = true := by rw [okS_iff]; omega
        have hlx : l.1 ≤ x.1 := by
          obtain ⟨z, hz, e⟩ := hfr l (by simp)
          have := hlast z hz
          omega
        by_cases hj : x.1 ≤ l.2
        · rw [gstep_join hj]
          have hgn : goodS (l.1, max l.2 x.2) = true := by rw [goodS_iff]; simp only; omega
          have hon : okS (l.1, max l.2 x.2) = true := by rw [okS_iff]; simp only; omega
          refine ⟨hci.snoc hgn hsl, fun p => ?_, fun y hy => ?_⟩
          · rw [InS_append, InS_append, ← hin p, InS_append, InS_one, InS_one, InS_one, hon, hol, hox]
            simp only [true_and]
            constructor
            · rintro (h | h)
              · exact .inl (.inl h)
              · by_cases h2 : p < l.2
                · exact .inl (.inr ⟨h.1, h2⟩)
                · exact .inr ⟨by omega, by omega⟩
            · rintro ((h | h) | h)
              · exact .inl h
              · exact .inr ⟨h.1, by omega⟩
              · exact .inr ⟨by omega, by omega⟩
          · rcases List.mem_append.1 hy with h | h
            · obtain ⟨z, hz, e⟩ := hfr y (List.mem_append.2 (.inl h))
              exact ⟨z, List.mem_append.2 (.inl hz), e⟩
            · simp at h
              obtain ⟨z, hz, e⟩ := hfr l (by simp)
              exact ⟨z, List.mem_append.2 (.inl hz), by rw [h]; exact e⟩
        · rw [gstep_new hj]
          refine ⟨hc.snoc hgx (fun y hy => ?_), fun p => ?_, fun y hy => ?_⟩
          · rcases List.mem_append.1 hy with h | h
            · have := hsl y h; omega
            · simp at h; rw [h]; omega
          · rw [InS_append, InS_append M [x], ← hin p]
          · rcases List.mem_append.1 hy with h | h
            · obtain ⟨z, hz, e⟩ := hfr y h
              exact ⟨z, List.mem_append.2 (.inl hz), e⟩
            · simp at h; exact ⟨x, by simp, by rw [h]⟩
  exact fun L => main L.length L rfl
end Go.Proofs.YtfpfdgljhcpkpaaDoor
