/- Small laws on worlds, and the contract of mandolineref48.Right: whether a fetch may be asked. -/
import Derived.Test.YtmbcnfgeobbldaaW1
import Derived.Deep.Light
namespace Go.Proofs.Ytmbcnfgeobbldaa
open Go.RowKit

theorem bcell {W w1 : World} (hb : Below W.heap.size W w1) : (∀ b o, b < W.heap.size → w1.cell? ⟨b, o, none⟩ = W.cell? ⟨b, o, none⟩) ∧ (∀ b o, b < W.heap.size → w1.frozen? ⟨b, o, none⟩ = W.frozen? ⟨b, o, none⟩) ∧ (∀ k, k < W.heap.size → k < w1.heap.size) :=
  ⟨fun b o h => hb.cell (p := ⟨b, o, none⟩) h, fun b o h => hb.frozen (p := ⟨b, o, none⟩) h, fun _ h => Nat.lt_of_lt_of_le h hb.size⟩
theorem bel_chain {w W w' : World} (hb : Below W.heap.size W w') (h : Below w.heap.size w W) : Below w.heap.size w w' := h.trans (hb.mono h.size)
theorem bel_alloc {w W : World} (h : Below w.heap.size w W) (o : Obj) : Below w.heap.size w (W.alloc o) := h.alloc h.size o
theorem bel_set {w W : World} {p : Addr} (h : Below w.heap.size w W) (hp : w.heap.size ≤ p.block) (u : Value) : Below w.heap.size w (W.setCell p u) := h.setCell hp u
theorem bel_drew {w W : World} (h : Below w.heap.size w W) : Below w.heap.size w W.drew := h.drew

set_option maxHeartbeats 1000000 in
theorem refRight (o m n : ByteArray) (f t : Int) (mw nw : Bool) (w : World) :
    Calls Try.prog 7 #[.agg #[.string o, .int .i64 f, .int .i64 t, .string m, .bool mw, .string n, .bool nw]] w fun e w' => e = .returned (.bool (
      objB o.data.toList && decide (0 ≤ f) && decide (f < t) && decide (f < 1000000000000000000) && (decide (t ≤ 1000000000000000000) || (t == 4611686018427387904))
      && (zeroB m mw || tagB m.data.toList) && (zeroB n nw || tagB n.data.toList))) ∧ Below w.heap.size w w' := by
  go_enter Try.func7, Try.ntmps7
  go_wp2_with (first
    | (go_at_call 14; refine (objR _ _).mono ?_; rintro e w' ⟨rfl, rfl⟩)
    | (go_at_call 15; refine (zeroTag _ _ _).mono ?_; rintro e w' ⟨rfl, rfl⟩)
    | (go_at_call 16; refine (tagR _ _ _).mono ?_; rintro e w' ⟨rfl, rfl⟩))
  all_goals
    go_ret
    refine ⟨ret_bool ?_, ?_⟩
    · go_light; grind
    · repeat (first | exact Below.refl _ _ | refine bel_chain (by assumption) ?_ | refine bel_alloc ?_ _)
end Go.Proofs.Ytmbcnfgeobbldaa
