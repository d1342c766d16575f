/- Contracts of the reference's functions that only read lists of spans: In, List, Len, First. -/
import Derived.Test.YtfpfdgljhcpkpaaGreatDoorB1
import Derived.Test.YtfpfdgljhcpkpaaGreatDoorM2
namespace Go.Proofs.YtfpfdgljhcpkpaaGreatDoor
open Go.RowKit

set_option maxHeartbeats 1000000 in
theorem rin_any (A : Option Addr) (c : Nat) (L : List (Int × Int)) (p : Int) (w : World) (h : Sp w A c L) (hl : L.length ≤ 1000000) :
    Calls Tryz.prog 95 #[.slice A L.length c, .int .i64 p] w fun e w' => e = .returned (.bool (inB L p)) ∧ Below w.heap.size w w' := by
  have hH := Lib.hid h
  clear h
  go_enter Tryz.func95, Tryz.ntmps95
  go_wp2
  go_loopw [5] (fun i wr => ∃ k : Nat, k ≤ L.length ∧ i = .int .i64 k ∧ inB (L.take k) p = false ∧ Below w.heap.size w wr) (fun i _ => L.length - (intOf i).toNat)
  case atStart => exact ⟨0, Nat.zero_le _, rfl, rfl, Below.refl _ _⟩
  case round =>
    obtain ⟨k, hk, rfl, hin, hbw⟩ := hrel
    have HI := Lib.hid hin
    clear hin
    by_cases hlt : k < L.length
    · obtain ⟨b, off, e, hb, c1, c2⟩ := (hH.out.below hbw).at_ hlt
      obtain ⟨⟨x1, x2⟩, hx⟩ : ∃ x, L[k] = x := ⟨_, rfl⟩
      rw [hx] at c1 c2
      have HX := Lib.hid hx
      clear hx
      rw [e]
      go_wp2_with (go_at_call 40; refine (rright_any _ _ _).mono ?_; rintro e w' ⟨rfl, n, rfl⟩)
      · go_ret
        exact ⟨ret_bool (inB_found hlt HX.out (by assumption) (by assumption) (by assumption)).symm, bel_drewN (bel_alloc hbw _) _⟩
      all_goals
        go_roundw
        case rel => exact ⟨k + 1, by omega, by go_num, inB_miss hlt HX.out HI.out (by go_light; grind), bel_drewN (bel_alloc hbw _) _⟩
        case measure => simp [intOf]; omega
    · go_wp2
      go_ret
      exact ⟨ret_bool (by rw [← HI.out, List.take_of_length_le (by omega)]), hbw⟩

theorem take_eq_step {a b : List (Int × Int)} {k : Nat} (ha : k < a.length) (hb : k < b.length) (h : a.take k = b.take k) (e : a[k] = b[k]) : a.take (k + 1) = b.take (k + 1) := by
  rw [List.take_succ_eq_append_getElem ha, List.take_succ_eq_append_getElem hb, h, e]
theorem ne_of_at {a b : List (Int × Int)} {k : Nat} (ha : k < a.length) (hb : k < b.length) (e : a[k] ≠ b[k]) : decide (a = b) = false := by
  simp only [decide_eq_false_iff_not]
  rintro rfl
  exact e rfl

set_option maxHeartbeats 1000000 in
theorem rlist_any (A : Option Addr) (c : Nat) (L : List (Int × Int)) (A' : Option Addr) (c' : Nat) (L' : List (Int × Int)) (w : World) (h : Sp w A c L) (h' : Sp w A' c' L') (hl : L.length ≤ 1000000) :
    Calls Tryz.prog 31 #[.slice A L.length c, .slice A' L'.length c'] w fun e w' => e = .returned (.bool (decide (L = L'))) ∧ ∃ n, w.drewN n = w' := by
  have hH := Lib.hid h
  have hH' := Lib.hid h'
  clear h h'
  by_cases hll : L.length = L'.length
  · have hbb : ((L.length : Int) != (L'.length : Int)) = false := by simp [hll]
    have HLL := Lib.hid hll
    have hle : L.length ≤ L'.length := by omega
    have hge : L'.length ≤ L.length := by omega
    clear hll
    go_enter Tryz.func31, Tryz.ntmps31
    go_wp2
    go_loopw [5] (fun i wr => ∃ k n : Nat, k ≤ L.length ∧ i = .int .i64 k ∧ L.take k = L'.take k ∧ wr = w.drewN n) (fun i _ => L.length - (intOf i).toNat)
    case atStart => exact ⟨0, 0, Nat.zero_le _, rfl, by simp, rfl⟩
    case round =>
      obtain ⟨k, n, hk, rfl, hin, rfl⟩ := hrel
      have HI := Lib.hid hin
      clear hin
      by_cases hlt : k < L.length
      · have hlt' : k < L'.length := by omega
        obtain ⟨b, off, e, hb, c1, c2⟩ := hH.out.at_ hlt
        obtain ⟨b', off', e', hb', c1', c2'⟩ := hH'.out.at_ hlt'
        obtain ⟨⟨x1, x2⟩, hx⟩ : ∃ x, L[k] = x := ⟨_, rfl⟩
        obtain ⟨⟨y1, y2⟩, hy⟩ : ∃ x, L'[k] = x := ⟨_, rfl⟩
        rw [hx] at c1 c2
        rw [hy] at c1' c2'
        have HX := Lib.hid hx
        have HY := Lib.hid hy
        clear hx hy hbb
        rw [e, e']
        by_cases exy : x1 = y1 ∧ x2 = y2
        · obtain ⟨rfl, rfl⟩ := exy
          go_wp2_with fail
          go_quiet (fail)
          go_wp2_with fail
          go_roundw
          case rel => exact ⟨k + 1, _, by omega, by go_num, take_eq_step hlt hlt' HI.out (by rw [HX.out, HY.out]), rfl⟩
          case measure => simp [intOf]; omega
        · have HE : Hid (L[k] ≠ L'[k]) := by
            simp only [Hid]; rw [HX.out, HY.out]; intro h; injection h with h1 h2; exact exy ⟨h1, h2⟩
          have exy' : x1 = y1 → (x2 == y2) = false := fun h => by simpa using fun h2 => exy ⟨h, h2⟩
          clear exy
          by_cases e1 : x1 = y1
          · have e2 := exy' e1
            subst e1
            clear exy'
            go_wp2_with fail
            go_quiet (fail)
            go_wp2_with fail
            go_ret
            exact ⟨ret_bool (ne_of_at hlt hlt' HE.out).symm, n + _, (World.drewN_drewN _ _ _).symm⟩
          · have e2 : (x1 == y1) = false := by simpa using e1
            clear exy' e1
            go_wp2_with fail
            go_quiet (fail)
            go_wp2_with fail
            go_ret
            exact ⟨ret_bool (ne_of_at hlt hlt' HE.out).symm, n + _, (World.drewN_drewN _ _ _).symm⟩
      · go_wp2
        go_ret
        refine ⟨ret_bool ?_, _, rfl⟩
        have h1 := HI.out
        rw [List.take_of_length_le (by omega), List.take_of_length_le (by omega)] at h1
        simp [h1]
  · have hbb : ((L.length : Int) != (L'.length : Int)) = true := by rw [bne_iff_ne]; omega
    have H : Hid (decide (L = L') = false) := by
      simp only [Hid, decide_eq_false_iff_not]; rintro rfl; exact hll rfl
    clear hll
    go_enter Tryz.func31, Tryz.ntmps31
    go_wp2
    go_ret
    exact ⟨ret_bool (by rw [H.out]), 0, rfl⟩

/-- What First answers. -/
def FirstPost (L : List (Int × Int)) (p : Int) (w : World) (e : Ending) (w' : World) : Prop :=
  e = .returned (.tuple #[.agg #[.int .i64 ((firstL L p).getD (0, 0)).1, .int .i64 ((firstL L p).getD (0, 0)).2], .bool (firstL L p).isSome]) ∧ Below w.heap.size w w'

end Go.Proofs.YtfpfdgljhcpkpaaGreatDoor
