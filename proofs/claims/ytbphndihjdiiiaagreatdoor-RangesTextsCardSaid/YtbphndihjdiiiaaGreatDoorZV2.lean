/- Contract of the reference's Parse. -/
import Derived.Test.YtbphndihjdiiiaaGreatDoorZV1
import Derived.Test.YtbphndihjdiiiaaGreatDoorZW3
namespace Go.Proofs.YtbphndihjdiiiaaGreatDoor
open Go.RowKit

theorem ex_mid (s : List UInt8) (f k : Nat) : (⟨s.toArray⟩ : ByteArray).extract f k = ⟨((s.drop f).take (k - f)).toArray⟩ := ba_ext (by simp [ByteArray.data_extract])
theorem mid_step {l : List UInt8} {f k : Nat} (hf : f ≤ k) (hk : k < l.length) (hd : l[k] ≠ 44) (h : ∀ c ∈ (l.drop f).take (k - f), c ≠ 44) : ∀ c ∈ (l.drop f).take (k + 1 - f), c ≠ 44 := by
  have e : k + 1 - f = (k - f) + 1 := by omega
  rw [e, List.take_succ_eq_append_getElem (by simp; omega)]
  intro c hc
  rcases List.mem_append.1 hc with hc | hc
  · exact h c hc
  · simp at hc
    have e2 : f + (k - f) = k := by omega
    simp only [e2] at hc
    rw [hc]; exact hd
theorem mid_comma {l : List UInt8} {f k : Nat} (hf : f ≤ k) (hk : k < l.length) (hd : l[k] = 44) : l.drop f = (l.drop f).take (k - f) ++ 44 :: l.drop (k + 1) := by
  have e : (l.drop f).drop (k - f) = 44 :: l.drop (k + 1) := by
    rw [List.drop_drop, show f + (k - f) = k from by omega, List.drop_eq_getElem_cons hk, hd]
  rw [← e, List.take_append_drop]
theorem mid_end {l : List UInt8} {f : Nat} : (l.drop f).take (l.length - f) = l.drop f := List.take_of_length_le (by simp)
end Go.Proofs.YtbphndihjdiiiaaGreatDoor
