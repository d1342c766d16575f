/- Plain law of the document's example of ranges. -/
import Derived.Test.YtfpfdgljhcpkpaaGreatDoorN2
import Derived.Test.YtfpfdgljhcpkpaaGreatDoorS5
namespace Go.Proofs.YtfpfdgljhcpkpaaGreatDoor

def exText : List UInt8 := [98, 121, 116, 101, 115, 61, 48, 45, 52, 44, 32, 55, 45, 44, 44, 45, 51]
theorem ex_parse : parseL exText = ([(0, 4), (7, -1), (-1, 3)], 0) := by decide +kernel
theorem ex_res : resL 10 [(0, 4), (7, -1), (-1, 3)] = [(0, 5), (7, 10), (7, 10)] := by decide +kernel
theorem ex_all : allR [(0, 4), (7, -1), (-1, 3)] = true := by decide +kernel
theorem ex_fold0 : Folded 0 [(0, 5), (7, 10), (7, 10)] [((0, 5), 0), ((7, 10), 1)] := by
  refine ⟨⟨fun o ho => ?_, fun i hi => ?_, fun o ho => ?_, fun o ho => ?_, fun o ho p h1 h2 => ?_⟩, ?_, ?_⟩
  · simp at ho; rcases ho with rfl | rfl <;> simp [inP]
  · simp at hi
    have : i = 0 ∨ i = 1 ∨ i = 2 := by omega
    rcases this with rfl | rfl | rfl <;> simp [inP]
  · simp at ho; rcases ho with rfl | rfl <;> simp [inP]
  · simp at ho; rcases ho with rfl | rfl <;> simp [inP]
  · simp at ho; rcases ho with rfl | rfl <;> simp at h1 h2 ⊢ <;> omega
  · simp [nearQ]
  · simp
theorem ex_fold2 : Folded 2 [(0, 5), (7, 10), (7, 10)] [((0, 10), 0)] := by
  refine ⟨⟨fun o ho => ?_, fun i hi => ?_, fun o ho => ?_, fun o ho => ?_, fun o ho p h1 h2 => ?_⟩, ?_, ?_⟩
  · simp at ho; subst ho; simp [inP]
  · simp at hi
    have : i = 0 ∨ i = 1 ∨ i = 2 := by omega
    rcases this with rfl | rfl | rfl <;> simp [inP]
  · simp at ho; subst ho; simp [inP]
  · simp at ho; subst ho; simp [inP]
  · simp at ho; subst ho; simp at h1 h2 ⊢; omega
  · simp
  · simp
theorem ex_wide : ∀ x ∈ ([(0, 5), (7, 10), (7, 10)] : List (Int × Int)), x.1 < x.2 := by simp
theorem ex_len0 {O : List ((Int × Int) × Nat)} (h : Folded 0 [(0, 5), (7, 10), (7, 10)] O) : (O.map Prod.fst).length = 2 := by
  rw [h.eq ex_wide (by decide) ex_fold0]; rfl
theorem ex_len2 {O : List ((Int × Int) × Nat)} (h : Folded 2 [(0, 5), (7, 10), (7, 10)] O) : (O.map Prod.fst).length = 1 := by
  rw [h.eq ex_wide (by decide) ex_fold2]; rfl
end Go.Proofs.YtfpfdgljhcpkpaaGreatDoor
