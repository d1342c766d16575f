/- Plain laws of what turning and failing make of a decision. -/
import Derived.Test.YtfpfdgljhcpkpaaDoorF3
namespace Go.Proofs.YtfpfdgljhcpkpaaDoor

theorem lost_turned {fa jo : Bool} {R H F : List (Int × Int)} : lostL true fa jo R H F = wantL R H F := lostL_yes (by simp)
theorem decide_failed (he fa jo : Bool) (ag : Int) (R H F : List (Int × Int)) : decideL he true true jo ag R H F = decideL he true fa jo ag R H F := by
  rcases nil_or R with hR | ⟨x1, x2, r, hR⟩
  · rw [decideL_nil hR, decideL_nil hR]
  · rw [decideL_cons hR, decideL_cons hR, lost_turned, lost_turned]
theorem lost_empty (tu fa jo : Bool) (R H F : List (Int × Int)) : (lostL tu fa jo R H F).isEmpty = true ∨ (lostL tu fa jo R H F).isEmpty = (wantL R H F).isEmpty := by
  cases h : (!tu && !fa && jo)
  · rw [lostL_yes h]; exact .inr rfl
  · rw [lostL_no h]; exact .inl rfl
/-- A first byte that is neither kept nor to come is wanting. -/
theorem want_first {x1 x2 : Int} {r R H F : List (Int × Int)} (e : R = (x1, x2) :: r) (hc : Canon R) (h1 : inB H x1 = false) (h2 : inB F x1 = false) : (wantL R H F).isEmpty = false := by
  have h := lost_first' (tu := true) (fa := false) (jo := false) e hc h1 h2
  rw [lost_turned] at h
  subst e
  have hx := hc.head
  simp only at hx
  have hin : inB ((x1, x2) :: r) x1 = true := by rw [inB_iff, hc.in_cons]; exact .inl (by simp only; omega)
  rw [inB_want, hin, h1, h2] at h
  cases hY : (wantL ((x1, x2) :: r) H F).isEmpty
  · rfl
  · rw [hY] at h; cases h
/-- What a decision is, and what it is once the origin has turned. -/
def TurnsL (he : Bool) (d e : Int) : Prop :=
  (he = false ∧ ((d = 4 ∧ e = 4) ∨ (d = 1 ∧ e = 4) ∨ (d = 2 ∧ e = 4) ∨ (d = 3 ∧ e = 4))) ∨ (d = 6 ∧ e = 6) ∨ (d = 1 ∧ e = 1) ∨ (d = 2 ∧ e = 2) ∨ (d = 5 ∧ e = 5) ∨ (d = 1 ∧ e = 5) ∨ (d = 2 ∧ e = 5) ∨ (d = 3 ∧ e = 5)
theorem turns_plain (he tu fa jo : Bool) (ag : Int) {R : List (Int × Int)} (H F : List (Int × Int)) (hc : Canon R) : TurnsL he (decideL he tu fa jo ag R H F) (decideL he true fa jo ag R H F) := by
  rcases nil_or R with hR | ⟨x1, x2, r, hR⟩
  · rw [decideL_nil hR, decideL_nil hR]; exact .inr (.inl ⟨rfl, rfl⟩)
  · rw [decideL_cons hR, decideL_cons hR, lost_turned]
    have hw := want_first (H := H) (F := F) hR hc
    have hl := lost_empty tu fa jo R H F
    generalize (lostL tu fa jo R H F).isEmpty = b0 at *
    generalize (wantL R H F).isEmpty = b1 at *
    generalize inB H x1 = b2 at *
    generalize inB F x1 = b3 at *
    unfold TurnsL
    by_cases hag : 0 < ag
    · cases b0 <;> cases b1 <;> cases b2 <;> cases b3 <;> cases he <;> simp [hag] at hl hw ⊢
    · cases b0 <;> cases b1 <;> cases b2 <;> cases b3 <;> cases he <;> simp [hag] at hl hw ⊢
theorem lenL_nil' {Y : List (Int × Int)} (e : Y = []) : lenL Y = 0 := by subst e; rfl
theorem lenL_pos {Y : List (Int × Int)} (hc : Canon Y) (h : Y.isEmpty = false) : (lenL Y == 0) = false := by
  rw [beq_eq_false_iff_ne]
  by_cases ho : ∃ x ∈ Y, x.2 = 4611686018427387904
  · obtain ⟨x, hx, e⟩ := ho
    rw [lenL_open hx e]; decide
  · rw [lenL_sum (fun x hx e => ho ⟨x, hx, e⟩)]
    cases Y with
    | nil => simp at h
    | cons y q =>
      have hy := hc.head
      have h2 := (Canon.sum_le (lo := y.2) (hi := 4611686018427387904) hc.tail (fun z hz => (hc.tail.mem hz).2.2) (fun z hz => by have := (List.pairwise_cons.1 hc.sep).1 z hz; omega) hy.2.2).1
      have e : sumL (y :: q) = (y.2 - y.1) + sumL q := by simp [sumL]
      rw [e]; omega
theorem isEmpty_eq {Y : List (Int × Int)} (h : Y.isEmpty = true) : Y = [] := by cases Y with | nil => rfl | cons y q => cases h
end Go.Proofs.YtfpfdgljhcpkpaaDoor
