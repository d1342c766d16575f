/- Contracts of the reference's functions that only read lists of spans: In, List, Len, First. -/
import Derived.Test.YtfpfdgljhcpkpaaDoorB1
import Derived.Test.YtfpfdgljhcpkpaaDoorM2
namespace Go.Proofs.YtfpfdgljhcpkpaaDoor
open Go.RowKit

set_option maxHeartbeats 1000000 in
theorem rin_any (A : Option Addr) (c : Nat) (L : List (Int × Int)) (p : Int) (w : World) (h : Sp w A c L) (hl : L.length ≤ 1000000) :
    Calls Tryd.prog 95 #[.slice A L.length c, .int .i64 p] w fun e w' => e = .returned (.bool (inB L p)) ∧ Below w.heap.size w w' := by
  have hH := Lib.hid h
  clear h
  go_enter Tryd.func95, Tryd.ntmps95
  go_wp2
  go_loopw [5] (fun i wr => ∃ k : Nat, k ≤ L.length ∧ i = .int .i64 k ∧ inB (L.take k) p = false ∧ Below w.heap.size w wr) (fun i _ => L.length - (intOf i).toNat)
  case atStart => exact ⟨0, Nat.zero_le _, rfl, rfl, Below.refl _ _⟩
  case round =>
    obtain ⟨k, hk, rfl, hin, hbw⟩ := hrel
    have HI := Lib.hid hin
    clear hin
    by_cases hlt : k < L.length
    · obtain ⟨b, off, e, hb, c1, c2⟩ := (hH.out.below hbw).at_ hlt
      obtain ⟨⟨x1, x2⟩, hx⟩ : ∃ x, L[k] = x := ⟨_, rfl⟩
      rw [hx] at c1 c2
      have HX := Lib.hid hx
      clear hx
      rw [e]
      go_wp2_with (go_at_call 136; refine (rright_any _ _ _).mono ?_; rintro e w' ⟨rfl, n, rfl⟩)
      · go_ret
        exact ⟨ret_bool (inB_found hlt HX.out (by assumption) (by assumption) (by assumption)).symm, bel_drewN (bel_alloc hbw _) _⟩
      all_goals
        go_roundw
        case rel => exact ⟨k + 1, by omega, by go_num, inB_miss hlt HX.out HI.out (by go_light; grind), bel_drewN (bel_alloc hbw _) _⟩
        case measure => simp [intOf]; omega
    · go_wp2
      go_ret
      exact ⟨ret_bool (by rw [← HI.out, List.take_of_length_le (by omega)]), hbw⟩

theorem take_eq_step {a b : List (Int × Int)} {k : Nat} (ha : k < a.length) (hb : k < b.length) (h : a.take k = b.take k) (e : a[k] = b[k]) : a.take (k + 1) = b.take (k + 1) := by
  rw [List.take_succ_eq_append_getElem ha, List.take_succ_eq_append_getElem hb, h, e]
theorem ne_of_at {a b : List (Int × Int)} {k : Nat} (ha : k < a.length) (hb : k < b.length) (e : a[k] ≠ b[k]) : decide (a = b) = false := by
  simp only [decide_eq_false_iff_not]
  rintro rfl
  exact e rfl

/-- What First answers. -/
def FirstPost (L : List (Int × Int)) (p : Int) (w : World) (e : Ending) (w' : World) : Prop :=
  e = .returned (.tuple #[.agg #[.int .i64 ((firstL L p).getD (0, 0)).1, .int .i64 ((firstL L p).getD (0, 0)).2], .bool (firstL L p).isSome]) ∧ Below w.heap.size w w'

end Go.Proofs.YtfpfdgljhcpkpaaDoor
