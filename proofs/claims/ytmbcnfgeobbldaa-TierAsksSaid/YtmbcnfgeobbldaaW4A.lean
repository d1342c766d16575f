/- Contract of tier.Ask where the fetch may be asked: t is open, f is 0. -/
import Derived.Test.YtmbcnfgeobbldaaW3
namespace Go.Proofs.Ytmbcnfgeobbldaa
open Go.RowKit

set_option maxHeartbeats 8000000 in
set_option maxRecDepth 100000 in
theorem ask_yesA (o m n : ByteArray) (f t : Int) (mw nw : Bool) (w : World) (hO : objB o.data.toList = true) (hR : rightB f t = true) (hft : (f == t) = false) (hfM : f < 1000000000000000000) (ht0 : 0 ≤ f)
   (htf : t = 4611686018427387904) (hf0 : f = 0)
   (hm : m.toList = [] ∧ mw = false ∨ ¬ m.toList = [] ∧ tagB m.data.toList = true) (hn : n.toList = [] ∧ nw = false ∨ ¬ n.toList = [] ∧ tagB n.data.toList = true) :
    Calls Try.prog 6 #[.agg #[.string o, .int .i64 f, .int .i64 t, .string m, .bool mw, .string n, .bool nw]] w (AskPost o m n f t mw nw w) := by
  have HT : Hid (specO f t = none) := by simp [Hid, specO, htf, hf0]
  subst htf hf0
  rcases hm with ⟨hm, rfl⟩ | ⟨hm, hmt⟩ <;> rcases hn with ⟨hn, rfl⟩ | ⟨hn, hnt⟩
  all_goals
    have HM := Lib.hid hm
    have HN := Lib.hid hn
    go_enter Try.func6, Try.ntmps6
    go_wp2_with (first
      | (go_at_call 10; refine (objA _ _).mono ?_; rintro e w' ⟨rfl, rfl⟩)
      | (go_at_call 11; refine (spanRight _ _ _).mono ?_; rintro e w' ⟨rfl, rfl⟩)
      | (go_at_call 12; refine (tagA _ _ _).mono ?_; rintro e w' ⟨rfl, rfl⟩))
    go_region_held3 (fun w' => w'.cell? ⟨w.heap.size, 0, none⟩ = some (.string o)) (go_simp)
      (first | (go_at_call 13; refine (condNone _).mono ?_; rintro e w' ⟨rfl, rfl⟩))
    all_goals go_wp2
    all_goals
      refine bodyPost_ret (by simp [results, Try.results6, go_sem]; try rfl) rfl ?_
      refine ⟨_, _, _, rfl, ?_, ?_, ?_, ?_⟩
      · rw [HT.out]; first | exact SL2_none | exact SL2_some _ rfl (by simp) (by simp [go_sem]) (by simp [go_sem])
      · simp only [tagO]; first | (rw [if_pos HM.out]; exact SL2_none) | (rw [if_neg HM.out]; exact SL2_some _ rfl (by simp) (by simp [go_sem]) (by simp [go_sem]))
      · simp only [tagO]; first | (rw [if_pos HN.out]; exact SL2_none) | (rw [if_neg HN.out]; exact SL2_some _ rfl (by simp) (by simp [go_sem]) (by simp [go_sem]))
      · repeat (first | exact Below.refl _ _ | refine bel_drew ?_ | refine bel_alloc ?_ _)
end Go.Proofs.Ytmbcnfgeobbldaa
