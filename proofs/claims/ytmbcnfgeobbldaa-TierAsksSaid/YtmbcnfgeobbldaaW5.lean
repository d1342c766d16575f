/- Contract of tier.Ask where the fetch may not be asked. -/
import Derived.Test.YtmbcnfgeobbldaaW3
namespace Go.Proofs.Ytmbcnfgeobbldaa
open Go.RowKit

set_option maxHeartbeats 8000000 in
set_option maxRecDepth 100000 in
theorem ask_no (o m n : ByteArray) (f t : Int) (mw nw : Bool) (w : World) (h : askB o m n f t mw nw = false) :
    Calls Try.prog 6 #[.agg #[.string o, .int .i64 f, .int .i64 t, .string m, .bool mw, .string n, .bool nw]] w fun e w' =>
      e = .returned (.tuple #[.agg #[.bool false, .string ⟨#[]⟩, .slice none 0 0, .slice none 0 0, .slice none 0 0, .bool false, .bool false, .int .i64 0, .int .i64 0, .string ⟨#[]⟩, .bool false], .int .i64 1]) ∧ Below w.heap.size w w' := by
  have H := Lib.hid h
  clear h
  have HR : Hid (rightB f t = true ↔ 0 ≤ f ∧ f ≤ t ∧ t ≤ 4611686018427387904) := by simp [Hid, rightB, and_assoc]
  have HZm : Hid (zeroB m mw = true ↔ m.toList = [] ∧ mw = false) := by simp [Hid, zeroB]
  have HZn : Hid (zeroB n nw = true ↔ n.toList = [] ∧ nw = false) := by simp [Hid, zeroB]
  go_enter Try.func6, Try.ntmps6
  go_wp2_with (first
    | (go_at_call 10; refine (objA _ _).mono ?_; rintro e w' ⟨rfl, rfl⟩)
    | (go_at_call 11; refine (spanRight _ _ _).mono ?_; rintro e w' ⟨rfl, rfl⟩)
    | (go_at_call 12; refine (tagA _ _ _).mono ?_; rintro e w' ⟨rfl, rfl⟩))
  all_goals first
    | (refine bodyPost_ret (by simp [results, Try.results6, go_sem]; try rfl) rfl ?_
       refine ⟨rfl, ?_⟩
       repeat (first | exact Below.refl _ _ | refine bel_drew ?_ | refine bel_alloc ?_ _))
    | (exfalso
       go_light
       have h1 := H.out; have h2 := HR.out; have h3 := HZm.out; have h4 := HZn.out
       clear H HR HZm HZn
       unfold askB at h1
       grind)
end Go.Proofs.Ytmbcnfgeobbldaa
