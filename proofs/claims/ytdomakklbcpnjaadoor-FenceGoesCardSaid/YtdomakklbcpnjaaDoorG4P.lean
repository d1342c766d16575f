/- Plain laws: more kept, or to come, loses no more. -/
import Derived.Test.YtdomakklbcpnjaaDoorG0
namespace Go.Proofs.YtdomakklbcpnjaaDoor

/-- All bytes of one set are in another one. -/
def SubL (A B : List (Int × Int)) : Prop := ∀ p, inB A p = true → inB B p = true
theorem SubL.refl (A : List (Int × Int)) : SubL A A := fun _ h => h
theorem SubL.or (A M : List (Int × Int)) : SubL A (ofOp A M 1) := fun p h => by rw [inB_ofOp, h]; cases inB M p <;> rfl
section
variable {R U V U' V' : List (Int × Int)}
theorem want_sub (hU : SubL U U') (hV : SubL V V') (p : Int) (h : inB (wantL R U' V') p = true) : inB (wantL R U V) p = true := by
  rw [inB_want] at h ⊢
  have h1 := hU p
  have h2 := hV p
  revert h h1 h2
  cases inB R p <;> cases inB U p <;> cases inB V p <;> cases inB U' p <;> cases inB V' p <;> simp
theorem goes_lost (tu fa jo : Bool) (hU : SubL U U') (hV : SubL V V') : ofOp (lostL tu fa jo R U' V') (lostL tu fa jo R U V) 3 = [] := by
  refine canon_ext (ofOp_canon _ _ _) Canon.nil fun p => ?_
  rw [inB_ofOp, inB_nil]
  cases hl : (!tu && !fa && jo)
  · rw [lostL_yes hl, lostL_yes hl]
    have h := want_sub (R := R) hU hV p
    revert h
    cases inB (wantL R U' V') p <;> cases inB (wantL R U V) p <;> simp [opB]
  · rw [lostL_no hl, lostL_no hl]; rfl
theorem empty_of_sub {A B : List (Int × Int)} (hA : Canon A) (h : SubL A B) (hB : B.isEmpty = true) : A.isEmpty = true := by
  cases A with
  | nil => rfl
  | cons x r =>
    have hx := hA.head
    have : inB (x :: r) x.1 = true := by rw [inB_iff, hA.in_cons]; exact .inl (by omega)
    have h2 := h _ this
    rw [isEmpty_eq hB] at h2
    cases h2
theorem goes_sure (hU : SubL U U') (hV : SubL V V') (h : (wantL R U V).isEmpty = true) : (wantL R U' V').isEmpty = true :=
  empty_of_sub (wantL_canon _ _ _) (fun p => want_sub hU hV p) h
theorem goes_empty (tu fa jo : Bool) (hU : SubL U U') (hV : SubL V V') (h : (lostL tu fa jo R U V).isEmpty = true) : (lostL tu fa jo R U' V').isEmpty = true := by
  cases hl : (!tu && !fa && jo)
  · rw [lostL_yes hl] at h ⊢; exact goes_sure hU hV h
  · rw [lostL_no hl]; rfl
theorem goes_decide (he tu fa jo : Bool) (ag : Int) (hU : SubL U U') (hV : SubL V V') (h : decideL he tu fa jo ag R U V = 1) : decideL he tu fa jo ag R U' V' = 1 := by
  rcases nil_or R with hR | ⟨x1, x2, r, hR⟩
  · rw [decideL_nil hR] at h; cases h
  · rw [decideL_cons hR] at h ⊢
    have he' := goes_empty (R := R) tu fa jo hU hV
    have h1 := hU x1
    revert h h1 he'
    generalize (lostL tu fa jo R U V).isEmpty = b0
    generalize (lostL tu fa jo R U' V').isEmpty = b1
    generalize inB U x1 = b2
    generalize inB U' x1 = b3
    by_cases hag : 0 < ag
    · cases b0 <;> cases b1 <;> cases b2 <;> cases b3 <;> cases he <;> simp [hag] <;> (split <;> simp)
    · cases b0 <;> cases b1 <;> cases b2 <;> cases b3 <;> cases he <;> simp [hag] <;> (split <;> simp)
end
end Go.Proofs.YtdomakklbcpnjaaDoor
