/- Contracts of the sets' functions that only read: behind, Has, First, Holds, Len, Same. -/
import Derived.Test.YtfpfdgljhcpkpaaGreatDoorB2
import Derived.Test.YtfpfdgljhcpkpaaGreatDoorM3
namespace Go.Proofs.YtfpfdgljhcpkpaaGreatDoor
open Go.RowKit

/-- What behind answers. -/
def BehPost (A : Option Addr) (c : Nat) (L : List (Int × Int)) (p : Int) (w : World) (e : Ending) (w' : World) : Prop :=
  ∃ k : Nat, e = .returned (.int .i64 k) ∧ Behind L p k ∧ ∃ n, (w.alloc (.cells #[.slice A L.length c] 46)).drewN n = w'

set_option maxHeartbeats 1000000 in
theorem behind_any (A : Option Addr) (c : Nat) (L : List (Int × Int)) (p : Int) (w : World) (h : Sp w A c L) (hcan : Canon L) (hl : L.length ≤ 1000000) :
    Calls Tryz.prog 96 #[.agg #[.slice A L.length c], .int .i64 p] w (BehPost A c L p w) := by
  have hH := Lib.hid h
  have hC := Lib.hid hcan
  clear h hcan
  go_enter Tryz.func96, Tryz.ntmps96
  go_wp2
  go_quiet (fail)
  go_wp2
  go_loop [5, 6, 7] (fun lo hi _ => ∃ l h : Nat, l ≤ h ∧ h ≤ L.length ∧ lo = .int .i64 l ∧ hi = .int .i64 h ∧ (∀ x ∈ L.take l, x.2 ≤ p) ∧ (∀ j, h ≤ j → ∀ hj : j < L.length, p < (L[j]).2)) (fun lo hi _ => (intOf hi).toNat - (intOf lo).toNat)
  case atStart => exact ⟨0, L.length, Nat.zero_le _, Nat.le_refl _, rfl, rfl, by simp, fun j h1 h2 => by omega⟩
  case round =>
    obtain ⟨l, h, hlh, hh, rfl, rfl, hlo, hhi⟩ := hrel
    have HLO := Lib.hid hlo
    have HHI := Lib.hid hhi
    clear hlo hhi
    by_cases hlt : l < h
    · have hm : l + (h - l) / 2 < L.length := by omega
      obtain ⟨b, off, e, hb, c1, c2⟩ := hH.out.at_ hm
      obtain ⟨⟨x1, x2⟩, hx⟩ : ∃ x, L[l + (h - l) / 2] = x := ⟨_, rfl⟩
      rw [hx] at c1 c2
      have HX := Lib.hid hx
      have HM := Lib.hid hm
      clear hx
      rw [e]
      go_wp2
      · have hq : p < x2 := by assumption
        go_round
        case rel => exact ⟨l, l + (h - l) / 2, by omega, by omega, rfl, by go_num, HLO.out, hC.out.from_of HM.out (by rw [HX.out]; exact hq)⟩
        case measure => simp only [intOf]; omega
      · have hq : x2 ≤ p := by omega
        go_round
        case rel => exact ⟨l + (h - l) / 2 + 1, h, by omega, by omega, by go_num, rfl, hC.out.before_of HM.out (by rw [HX.out]; exact hq), HHI.out⟩
        case measure => simp only [intOf]; omega
    · obtain rfl : l = h := by omega
      go_wp2
      go_ret
      exact ⟨l, rfl, ⟨hh, HLO.out, fun hk => HHI.out l (Nat.le_refl _) hk⟩, _, rfl⟩

set_option maxHeartbeats 1000000 in
theorem first_any (A : Option Addr) (c : Nat) (L : List (Int × Int)) (p : Int) (w : World) (h : Sp w A c L) (hcan : Canon L) (hl : L.length ≤ 1000000) :
    Calls Tryz.prog 48 #[.agg #[.slice A L.length c], .int .i64 p] w (FirstPost L p w) := by
  have hB := fun W hW => Lib.hid (behind_any A c L p W hW hcan hl)
  have hH := Lib.hid h
  clear h hcan
  go_enter Tryz.func48, Tryz.ntmps48
  go_wp2_with fail
  refine (hB _ ((hH.out.alloc _).alloc _)).out.mono ?_
  rintro e w1 ⟨k, rfl, hk, n, rfl⟩
  have HK := Lib.hid hk
  have hkl := hk.le
  clear hk hB
  by_cases hlt : k < L.length
  · obtain ⟨b, off, e, hb, c1, c2⟩ := hH.out.at_ hlt
    obtain ⟨⟨x1, x2⟩, hx⟩ : ∃ x, L[k] = x := ⟨_, rfl⟩
    rw [hx] at c1 c2
    have HX := Lib.hid hx
    clear hx
    have hne : ((k : Int) == (L.length : Int)) = false := by rw [beq_eq_false_iff_ne]; omega
    rw [e]
    have hk0 : (0 : Int) ≤ (k : Int) := by omega
    have hk1 : (k : Int) < (L.length : Int) := by omega
    go_wp2_with fail
    go_region_held3 (fun w' => w'.cell? ⟨w.heap.size, 0, none⟩ = some (.slice (some ⟨b, off, none⟩) L.length c) ∧ w'.cell? ⟨b, off + k * 2, none⟩ = some (.int .i64 x1) ∧ w'.cell? ⟨b, off + k * 2 + 1, none⟩ = some (.int .i64 x2)) (((try dsimp only); refine ⟨?_, ?_, ?_⟩ <;> (first | (go_simp; done) | (refine cell_old hb ?_ c1; repeat (first | exact Below.refl _ _ | refine bel_drew ?_ | refine bel_drewN ?_ _ | refine bel_alloc ?_ _)) | (refine cell_old hb ?_ c2; repeat (first | exact Below.refl _ _ | refine bel_drew ?_ | refine bel_drewN ?_ _ | refine bel_alloc ?_ _))))) (fail)
    all_goals go_wp2_with fail
    all_goals
      refine bodyPost_ret (by simp [results, Tryz.results48, go_sem]; try rfl) rfl ?_
      have h1 := HK.out.first hlt
      rw [HX.out] at h1
      refine ⟨by rw [h1]; exact ret_span (by simp; omega) rfl, ?_⟩
      (repeat (first | exact Below.refl _ _ | refine bel_drewN ?_ _ | refine bel_drew ?_ | refine bel_alloc ?_ _ | refine bel_set ?_ (by simp) _))
  · have heq : (k == L.length) = true := by rw [beq_iff_eq]; omega
    go_wp2_with fail
    refine bodyPost_ret (by simp [results, Tryz.results48, go_sem]; try rfl) rfl ?_
    refine ⟨by rw [HK.out.none_ hlt]; rfl, ?_⟩
    (repeat (first | exact Below.refl _ _ | refine bel_drewN ?_ _ | refine bel_drew ?_ | refine bel_alloc ?_ _ | refine bel_set ?_ (by simp) _))

set_option maxHeartbeats 1000000 in
theorem equal_any (A : Option Addr) (c : Nat) (L : List (Int × Int)) (A' : Option Addr) (c' : Nat) (L' : List (Int × Int)) (w : World) (h : Sp w A c L) (h' : Sp w A' c' L') (hl : L.length ≤ 1000000) :
    Calls Tryz.prog 61 #[.slice A L.length c, .slice A' L'.length c'] w fun e w' => e = .returned (.bool (decide (L = L'))) ∧ ∃ n, w.drewN n = w' := by
  have hH := Lib.hid h
  have hH' := Lib.hid h'
  clear h h'
  by_cases hll : L.length = L'.length
  · have hbb : ((L.length : Int) != (L'.length : Int)) = false := by simp [hll]
    have HLL := Lib.hid hll
    have hle : L.length ≤ L'.length := by omega
    have hge : L'.length ≤ L.length := by omega
    clear hll
    go_enter Tryz.func61, Tryz.ntmps61
    go_wp2
    go_loopw [5, 13] (fun _ i wr => ∃ k n : Nat, k ≤ L.length ∧ i = .int .i64 k ∧ L.take k = L'.take k ∧ wr = w.drewN n) (fun _ i _ => L.length - (intOf i).toNat)
    case atStart => exact ⟨0, 0, Nat.zero_le _, rfl, by simp, rfl⟩
    case round =>
      obtain ⟨k, n, hk, rfl, hin, rfl⟩ := hrel
      have HI := Lib.hid hin
      clear hin
      by_cases hlt : k < L.length
      · have hlt' : k < L'.length := by omega
        obtain ⟨b, off, e, hb, c1, c2⟩ := hH.out.at_ hlt
        obtain ⟨b', off', e', hb', c1', c2'⟩ := hH'.out.at_ hlt'
        obtain ⟨⟨x1, x2⟩, hx⟩ : ∃ x, L[k] = x := ⟨_, rfl⟩
        obtain ⟨⟨y1, y2⟩, hy⟩ : ∃ x, L'[k] = x := ⟨_, rfl⟩
        rw [hx] at c1 c2
        rw [hy] at c1' c2'
        have HX := Lib.hid hx
        have HY := Lib.hid hy
        clear hx hy hbb
        rw [e, e']
        by_cases exy : x1 = y1 ∧ x2 = y2
        · obtain ⟨rfl, rfl⟩ := exy
          go_wp2_with fail
          go_quiet (fail)
          go_wp2_with fail
          go_roundw
          case rel => exact ⟨k + 1, _, by omega, by go_num, take_eq_step hlt hlt' HI.out (by rw [HX.out, HY.out]), rfl⟩
          case measure => simp [intOf]; omega
        · have HE : Hid (L[k] ≠ L'[k]) := by
            simp only [Hid]; rw [HX.out, HY.out]; intro h; injection h with h1 h2; exact exy ⟨h1, h2⟩
          have exy' : x1 = y1 → (x2 == y2) = false := fun h => by simpa using fun h2 => exy ⟨h, h2⟩
          clear exy
          by_cases e1 : x1 = y1
          · have e2 := exy' e1
            subst e1
            clear exy'
            go_wp2_with fail
            go_quiet (fail)
            go_wp2_with fail
            go_ret
            exact ⟨ret_bool (ne_of_at hlt hlt' HE.out).symm, n + _, (World.drewN_drewN _ _ _).symm⟩
          · have e2 : (x1 == y1) = false := by simpa using e1
            clear exy' e1
            go_wp2_with fail
            go_quiet (fail)
            go_wp2_with fail
            go_ret
            exact ⟨ret_bool (ne_of_at hlt hlt' HE.out).symm, n + _, (World.drewN_drewN _ _ _).symm⟩
      · go_wp2
        go_ret
        refine ⟨ret_bool ?_, _, rfl⟩
        have h1 := HI.out
        rw [List.take_of_length_le (by omega), List.take_of_length_le (by omega)] at h1
        simp [h1]
  · have hbb : ((L.length : Int) != (L'.length : Int)) = true := by rw [bne_iff_ne]; omega
    have H : Hid (decide (L = L') = false) := by
      simp only [Hid, decide_eq_false_iff_not]; rintro rfl; exact hll rfl
    clear hll
    go_enter Tryz.func61, Tryz.ntmps61
    go_wp2
    go_ret
    exact ⟨ret_bool (by rw [H.out]), 0, rfl⟩

set_option maxHeartbeats 1000000 in
theorem same_any (A : Option Addr) (c : Nat) (L : List (Int × Int)) (A' : Option Addr) (c' : Nat) (L' : List (Int × Int)) (w : World) (h : Sp w A c L) (h' : Sp w A' c' L') (hl : L.length ≤ 1000000) :
    Calls Tryz.prog 29 #[.agg #[.slice A L.length c], .agg #[.slice A' L'.length c']] w fun e w' => e = .returned (.bool (decide (L = L'))) ∧ Below w.heap.size w w' := by
  have hE := Lib.hid (equal_any A c L A' c' L' _ ((h.alloc (.cells #[.slice A L.length c] 46)).alloc (.cells #[.slice A' L'.length c'] 46)) ((h'.alloc (.cells #[.slice A L.length c] 46)).alloc (.cells #[.slice A' L'.length c'] 46)) hl)
  clear h h'
  go_enter Tryz.func29, Tryz.ntmps29
  go_wp2_with fail
  refine hE.out.mono ?_
  rintro e w1 ⟨rfl, n, rfl⟩
  go_wp2_with fail
  go_ret
  exact ⟨rfl, by (repeat (first | exact Below.refl _ _ | refine bel_drewN ?_ _ | refine bel_drew ?_ | refine bel_alloc ?_ _ | refine bel_set ?_ (by simp) _))⟩
end Go.Proofs.YtfpfdgljhcpkpaaGreatDoor
