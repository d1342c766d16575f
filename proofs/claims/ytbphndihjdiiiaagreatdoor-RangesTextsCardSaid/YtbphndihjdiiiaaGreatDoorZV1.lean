/- Contracts of the reference on texts of ranges: number, item, small, bare. -/
import Derived.Test.YtbphndihjdiiiaaGreatDoorZS10
import Derived.Laws.IdiomStrings
namespace Go.Proofs.YtbphndihjdiiiaaGreatDoor
open Go.RowKit

theorem cut_at {l : List UInt8} {k : Nat} (hlt : k < l.length) (hd : l[k] = 45) : l = l.take k ++ 45 :: l.drop (k + 1) := by
  have h := List.drop_eq_getElem_cons hlt
  rw [hd] at h
  rw [← h, List.take_append_drop]
theorem take_no {l : List UInt8} {k : Nat} {q : UInt8} (hlt : k < l.length) (hd : l[k] ≠ q) (h : ∀ c ∈ l.take k, c ≠ q) : ∀ c ∈ l.take (k + 1), c ≠ q := by
  intro c hc
  rw [List.take_succ_eq_append_getElem hlt] at hc
  rcases List.mem_append.1 hc with hc | hc
  · exact h c hc
  · simp at hc; rw [hc]; exact hd
theorem conv_one (W : World) (c : UInt8) (n : Int) (h : n = (c.toNat : Int)) : Sem.run Tryz.prog (convert 112 9 (.slice (some ⟨W.heap.size, 0, none⟩) 1 1)) (W.alloc (.cells #[.int .u8 n] 5)) = .ok (.string ⟨#[c]⟩) (W.alloc (.cells #[.int .u8 n] 5)) := by
  subst h
  refine run_convert_bytes_back (W.alloc (.cells #[.int .u8 (c.toNat : Int)] 5)) 112 9 5 ⟨W.heap.size, 0, none⟩ 1 [c] Tryz.underlying112 Tryz.underlying5 Tryz.underlying9 ?_
  intro j hj
  simp at hj
  subst hj
  simp [Addr.add]
end Go.Proofs.YtbphndihjdiiiaaGreatDoor
