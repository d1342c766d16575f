/- Plain laws: the least list of a list of spans, and how filtering, sorting and gathering come to it. -/
import Derived.Test.YtfpfdgljhcpkpaaDoorM5
namespace Go.Proofs.YtfpfdgljhcpkpaaDoor

/-- The least list of the bytes of some spans. -/
def cano (L : List (Int × Int)) : List (Int × Int) := ofOp L [] 1
theorem cano_canon (L : List (Int × Int)) : Canon (cano L) := (ofOp_inv L [] 1).1
theorem cano_in (L : List (Int × Int)) (p : Int) : InS (cano L) p ↔ InS L p := by
  rw [cano, (ofOp_inv L [] 1).2 p, ← inB_iff]
  simp [opB, inB]
theorem cano_eq {L S : List (Int × Int)} (hc : Canon S) (h : ∀ p, InS S p ↔ InS L p) : S = cano L :=
  Canon.unique hc (cano_canon L) (fun p => (h p).trans (cano_in L p).symm)
theorem cano_self {S : List (Int × Int)} (hc : Canon S) : cano S = S := (cano_eq hc (fun _ => Iff.rfl)).symm
theorem cano_length (L : List (Int × Int)) : (cano L).length ≤ 2 * L.length := by
  have := ofOp_length L [] 1
  simpa [cano] using this

def goodL (L : List (Int × Int)) : List (Int × Int) := L.filter goodS
theorem goodL_step {L : List (Int × Int)} {k : Nat} (h : k < L.length) : goodL (L.take (k + 1)) = goodL (L.take k) ++ (if goodS L[k] = true then [L[k]] else []) := by
  unfold goodL
  rw [List.take_succ_eq_append_getElem h, List.filter_append]
  by_cases hg : goodS L[k] = true
  · simp [List.filter, hg]
  · simp [List.filter, hg]
theorem goodL_length (L : List (Int × Int)) : (goodL L).length ≤ L.length := List.length_filter_le _ _
theorem goodL_in (L : List (Int × Int)) (p : Int) : InS (goodL L) p ↔ InS L p := by
  constructor
  · rintro ⟨x, hx, r⟩
    exact ⟨x, (List.mem_filter.1 hx).1, r⟩
  · rintro ⟨x, hx, ho, h1, h2⟩
    refine ⟨x, List.mem_filter.2 ⟨hx, ?_⟩, ho, h1, h2⟩
    rw [okS_iff] at ho
    rw [goodS_iff]
    omega
/-- What is good, in any rising order, gathered: the least list. -/
theorem gather_cano {L M : List (Int × Int)} (hp : M.Perm (goodL L)) (hr : Rising M) : gatherL M = cano L := by
  have hg : ∀ x ∈ M, goodS x = true := fun x hx => (List.mem_filter.1 (hp.mem_iff.1 hx)).2
  obtain ⟨hc, hin, _⟩ := gather_inv M hg hr
  refine cano_eq hc (fun p => ?_)
  rw [hin p, ← goodL_in L p]
  constructor
  · rintro ⟨x, hx, r⟩; exact ⟨x, hp.mem_iff.1 hx, r⟩
  · rintro ⟨x, hx, r⟩; exact ⟨x, hp.mem_iff.2 hx, r⟩
end Go.Proofs.YtfpfdgljhcpkpaaDoor
