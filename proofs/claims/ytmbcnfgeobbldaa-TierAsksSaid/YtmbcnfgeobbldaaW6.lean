/- Contract of mandolineref48.Ask: the request of a fetch that may be asked. -/
import Derived.Test.YtmbcnfgeobbldaaW3
namespace Go.Proofs.Ytmbcnfgeobbldaa
open Go.RowKit

def RefPost (o m n : ByteArray) (f t : Int) (mw nw : Bool) (w : World) (e : Ending) (w' : World) : Prop :=
  ∃ S M N, e = .returned (reqV o S M N) ∧ SL2 w' S (specO f t) ∧ SL2 w' M (tagO m mw) ∧ SL2 w' N (tagO n nw) ∧ Below w.heap.size w w'

theorem specA : specO 0 4611686018427387904 = none := rfl
theorem specB {f : Int} (h : 0 < f) : specO f 4611686018427387904 = some (.int .i64 f, .int .i64 (-1)) := by simp [specO, h]
theorem specC {f t : Int} (h : (t == 4611686018427387904) = false) : specO f t = some (.int .i64 f, .int .i64 (t - 1)) := by
  have : ¬ t = 4611686018427387904 := by simpa using h
  simp [specO, this]

set_option maxHeartbeats 8000000 in
set_option maxRecDepth 100000 in
theorem refAsk (o m n : ByteArray) (f t : Int) (mw nw : Bool) (w : World) (ht0 : 0 ≤ f)
   (ht : t = 4611686018427387904 ∧ f = 0 ∨ t = 4611686018427387904 ∧ 0 < f ∨ (t != 4611686018427387904) = true ∧ (t == 4611686018427387904) = false ∧ 0 ≤ t ∧ t ≤ 4611686018427387904)
   (hm : m.toList = [] ∧ mw = false ∨ ¬ m.toList = [] ∧ tagB m.data.toList = true) (hn : n.toList = [] ∧ nw = false ∨ ¬ n.toList = [] ∧ tagB n.data.toList = true) :
    Calls Try.prog 9 #[.agg #[.string o, .int .i64 f, .int .i64 t, .string m, .bool mw, .string n, .bool nw]] w (RefPost o m n f t mw nw w) := by
  have hzm : zeroB m mw = decide (m.toList = []) := by
    rcases hm with ⟨h, rfl⟩ | ⟨h, _⟩ <;> simp [zeroB, h]
  have hzn : zeroB n nw = decide (n.toList = []) := by
    rcases hn with ⟨h, rfl⟩ | ⟨h, _⟩ <;> simp [zeroB, h]
  have hm2 : m.toList = [] ∨ ¬ m.toList = [] := by rcases hm with ⟨h, _⟩ | ⟨h, _⟩ <;> simp [h]
  have hn2 : n.toList = [] ∨ ¬ n.toList = [] := by rcases hn with ⟨h, _⟩ | ⟨h, _⟩ <;> simp [h]
  clear hm hn
  rcases ht with ⟨rfl, rfl⟩ | ⟨rfl, hf0⟩ | ⟨htb, htc, ht1, ht2⟩ <;> rcases hm2 with hm | hm <;> rcases hn2 with hn | hn
  all_goals
    simp [hm] at hzm
    simp [hn] at hzn
    have HM := Lib.hid hm
    have HN := Lib.hid hn
    clear hm hn
    go_enter Try.func9, Try.ntmps9
    go_wp2_with (first
      | (go_at_call 15; refine (zeroTag _ _ _).mono ?_; rintro e w' ⟨rfl, rfl⟩))
    refine bodyPost_ret (by simp [results, Try.results9, go_sem]; try rfl) rfl ?_
    refine ⟨_, _, _, rfl, ?_, ?_, ?_, ?_⟩
    · first
        | (rw [specA]; exact SL2_none)
        | (rw [specB (by assumption)]; exact SL2_some _ rfl (by simp) (by simp [go_sem]) (by simp [go_sem]))
        | (rw [specC (by assumption)]; exact SL2_some _ rfl (by simp) (by simp [go_sem]) (by simp [go_sem]))
    · simp only [tagO]; first | (rw [if_pos HM.out]; exact SL2_none) | (rw [if_neg HM.out]; exact SL2_some _ rfl (by simp) (by simp [go_sem]) (by simp [go_sem]))
    · simp only [tagO]; first | (rw [if_pos HN.out]; exact SL2_none) | (rw [if_neg HN.out]; exact SL2_some _ rfl (by simp) (by simp [go_sem]) (by simp [go_sem]))
    · repeat (first | exact Below.refl _ _ | refine bel_drew ?_ | refine bel_alloc ?_ _)
end Go.Proofs.Ytmbcnfgeobbldaa
