/- Contracts of the sets' functions that only read: behind, Has, First, Holds, Len, Same. -/
import Derived.Test.YtfpfdgljhcpkpaaDoorB2
import Derived.Test.YtfpfdgljhcpkpaaDoorM3
namespace Go.Proofs.YtfpfdgljhcpkpaaDoor
open Go.RowKit

/-- What behind answers. -/
def BehPost (A : Option Addr) (c : Nat) (L : List (Int × Int)) (p : Int) (w : World) (e : Ending) (w' : World) : Prop :=
  ∃ k : Nat, e = .returned (.int .i64 k) ∧ Behind L p k ∧ ∃ n, (w.alloc (.cells #[.slice A L.length c] 29)).drewN n = w'

set_option maxHeartbeats 1000000 in
theorem behind_any (A : Option Addr) (c : Nat) (L : List (Int × Int)) (p : Int) (w : World) (h : Sp w A c L) (hcan : Canon L) (hl : L.length ≤ 1000000) :
    Calls Tryd.prog 87 #[.agg #[.slice A L.length c], .int .i64 p] w (BehPost A c L p w) := by
  have hH := Lib.hid h
  have hC := Lib.hid hcan
  clear h hcan
  go_enter Tryd.func87, Tryd.ntmps87
  go_wp2
  go_quiet (fail)
  go_wp2
  go_loop [5, 6, 7] (fun lo hi _ => ∃ l h : Nat, l ≤ h ∧ h ≤ L.length ∧ lo = .int .i64 l ∧ hi = .int .i64 h ∧ (∀ x ∈ L.take l, x.2 ≤ p) ∧ (∀ j, h ≤ j → ∀ hj : j < L.length, p < (L[j]).2)) (fun lo hi _ => (intOf hi).toNat - (intOf lo).toNat)
  case atStart => exact ⟨0, L.length, Nat.zero_le _, Nat.le_refl _, rfl, rfl, by simp, fun j h1 h2 => by omega⟩
  case round =>
    obtain ⟨l, h, hlh, hh, rfl, rfl, hlo, hhi⟩ := hrel
    have HLO := Lib.hid hlo
    have HHI := Lib.hid hhi
    clear hlo hhi
    by_cases hlt : l < h
    · have hm : l + (h - l) / 2 < L.length := by omega
      obtain ⟨b, off, e, hb, c1, c2⟩ := hH.out.at_ hm
      obtain ⟨⟨x1, x2⟩, hx⟩ : ∃ x, L[l + (h - l) / 2] = x := ⟨_, rfl⟩
      rw [hx] at c1 c2
      have HX := Lib.hid hx
      have HM := Lib.hid hm
      clear hx
      rw [e]
      go_wp2
      · have hq : p < x2 := by assumption
        go_round
        case rel => exact ⟨l, l + (h - l) / 2, by omega, by omega, rfl, by go_num, HLO.out, hC.out.from_of HM.out (by rw [HX.out]; exact hq)⟩
        case measure => simp only [intOf]; omega
      · have hq : x2 ≤ p := by omega
        go_round
        case rel => exact ⟨l + (h - l) / 2 + 1, h, by omega, by omega, by go_num, rfl, hC.out.before_of HM.out (by rw [HX.out]; exact hq), HHI.out⟩
        case measure => simp only [intOf]; omega
    · obtain rfl : l = h := by omega
      go_wp2
      go_ret
      exact ⟨l, rfl, ⟨hh, HLO.out, fun hk => HHI.out l (Nat.le_refl _) hk⟩, _, rfl⟩

set_option maxHeartbeats 1000000 in
theorem has_any (A : Option Addr) (c : Nat) (L : List (Int × Int)) (p : Int) (w : World) (h : Sp w A c L) (hcan : Canon L) (hl : L.length ≤ 1000000) :
    Calls Tryd.prog 52 #[.agg #[.slice A L.length c], .int .i64 p] w fun e w' => e = .returned (.bool (inB L p)) ∧ Below w.heap.size w w' := by
  have hB := fun W hW => Lib.hid (behind_any A c L p W hW hcan hl)
  have hH := Lib.hid h
  have hC := Lib.hid hcan
  clear h hcan
  go_enter Tryd.func52, Tryd.ntmps52
  go_wp2_with fail
  refine (hB _ (hH.out.alloc _)).out.mono ?_
  rintro e w1 ⟨k, rfl, hk, n, rfl⟩
  have HK := Lib.hid hk
  have hkl := hk.le
  clear hk hB
  by_cases hlt : k < L.length
  · obtain ⟨b, off, e, hb, c1, c2⟩ := hH.out.at_ hlt
    obtain ⟨⟨x1, x2⟩, hx⟩ : ∃ x, L[k] = x := ⟨_, rfl⟩
    rw [hx] at c1 c2
    have HX := Lib.hid hx
    clear hx
    rw [e]
    go_wp2_with fail
    go_ret
    refine ⟨ret_bool ?_, bel_drewN (bel_alloc (bel_alloc (Below.refl _ _) _) _) _⟩
    rw [hC.out.in_at HK.out hlt, HX.out]
  · go_wp2_with fail
    go_ret
    exact ⟨ret_bool (HK.out.in_none hlt).symm, bel_drewN (bel_alloc (bel_alloc (Below.refl _ _) _) _) _⟩

set_option maxHeartbeats 1000000 in
theorem first_any (A : Option Addr) (c : Nat) (L : List (Int × Int)) (p : Int) (w : World) (h : Sp w A c L) (hcan : Canon L) (hl : L.length ≤ 1000000) :
    Calls Tryd.prog 51 #[.agg #[.slice A L.length c], .int .i64 p] w (FirstPost L p w) := by
  have hB := fun W hW => Lib.hid (behind_any A c L p W hW hcan hl)
  have hH := Lib.hid h
  clear h hcan
  go_enter Tryd.func51, Tryd.ntmps51
  go_wp2_with fail
  refine (hB _ ((hH.out.alloc _).alloc _)).out.mono ?_
  rintro e w1 ⟨k, rfl, hk, n, rfl⟩
  have HK := Lib.hid hk
  have hkl := hk.le
  clear hk hB
  by_cases hlt : k < L.length
  · obtain ⟨b, off, e, hb, c1, c2⟩ := hH.out.at_ hlt
    obtain ⟨⟨x1, x2⟩, hx⟩ : ∃ x, L[k] = x := ⟨_, rfl⟩
    rw [hx] at c1 c2
    have HX := Lib.hid hx
    clear hx
    have hne : ((k : Int) == (L.length : Int)) = false := by rw [beq_eq_false_iff_ne]; omega
    rw [e]
    have hk0 : (0 : Int) ≤ (k : Int) := by omega
    have hk1 : (k : Int) < (L.length : Int) := by omega
    go_wp2_with fail
    go_region_held3 (fun w' => w'.cell? ⟨w.heap.size, 0, none⟩ = some (.slice (some ⟨b, off, none⟩) L.length c) ∧ w'.cell? ⟨b, off + k * 2, none⟩ = some (.int .i64 x1) ∧ w'.cell? ⟨b, off + k * 2 + 1, none⟩ = some (.int .i64 x2)) (((try dsimp only); refine ⟨?_, ?_, ?_⟩ <;> (first | (go_simp; done) | (refine cell_old hb ?_ c1; repeat (first | exact Below.refl _ _ | refine bel_drew ?_ | refine bel_drewN ?_ _ | refine bel_alloc ?_ _)) | (refine cell_old hb ?_ c2; repeat (first | exact Below.refl _ _ | refine bel_drew ?_ | refine bel_drewN ?_ _ | refine bel_alloc ?_ _))))) (fail)
    all_goals go_wp2_with fail
    all_goals
      refine bodyPost_ret (by simp [results, Tryd.results51, go_sem]; try rfl) rfl ?_
      have h1 := HK.out.first hlt
      rw [HX.out] at h1
      refine ⟨by rw [h1]; exact ret_span (by simp; omega) rfl, ?_⟩
      (repeat (first | exact Below.refl _ _ | refine bel_drewN ?_ _ | refine bel_drew ?_ | refine bel_alloc ?_ _ | refine bel_set ?_ (by simp) _))
  · have heq : (k == L.length) = true := by rw [beq_iff_eq]; omega
    go_wp2_with fail
    refine bodyPost_ret (by simp [results, Tryd.results51, go_sem]; try rfl) rfl ?_
    refine ⟨by rw [HK.out.none_ hlt]; rfl, ?_⟩
    (repeat (first | exact Below.refl _ _ | refine bel_drewN ?_ _ | refine bel_drew ?_ | refine bel_alloc ?_ _ | refine bel_set ?_ (by simp) _))

set_option maxHeartbeats 1000000 in
theorem len_any (A : Option Addr) (c : Nat) (L : List (Int × Int)) (w : World) (h : Sp w A c L) (hcan : Canon L) (hl : L.length ≤ 1000000) :
    Calls Tryd.prog 12 #[.agg #[.slice A L.length c]] w fun e w' => e = .returned (.int .i64 (lenL L)) ∧ Below w.heap.size w w' := by
  have hH := Lib.hid h
  have hC := Lib.hid hcan
  clear h hcan
  go_enter Tryd.func12, Tryd.ntmps12
  go_wp2
  go_loopw [3, 5, 9] (fun s _ i wr => ∃ k : Nat, k ≤ L.length ∧ i = .int .i64 k ∧ s = .int .i64 (sumL (L.take k)) ∧ (∀ x ∈ L.take k, x.2 ≠ 4611686018427387904) ∧ Below w.heap.size w wr) (fun _ _ i _ => L.length - (intOf i).toNat)
  case atStart => exact ⟨0, Nat.zero_le _, rfl, rfl, by simp, by (repeat (first | exact Below.refl _ _ | refine bel_drewN ?_ _ | refine bel_drew ?_ | refine bel_alloc ?_ _ | refine bel_set ?_ (by simp) _))⟩
  case round =>
    obtain ⟨k, hk, rfl, rfl, hin, hbw⟩ := hrel
    have HI := Lib.hid hin
    clear hin
    by_cases hlt : k < L.length
    · obtain ⟨b, off, e, hb, c1, c2⟩ := (hH.out.below hbw).at_ hlt
      have hs := hC.out.sum_take hlt
      have hm := hC.out.mem (List.getElem_mem hlt)
      have HS := Lib.hid (sumL_step hlt)
      have hmem : L[k] ∈ L := List.getElem_mem hlt
      obtain ⟨⟨x1, x2⟩, hx⟩ : ∃ x, L[k] = x := ⟨_, rfl⟩
      rw [hx] at c1 c2 hs hm hmem
      have HX := Lib.hid hx
      have HM := Lib.hid hmem
      clear hx hmem
      simp only at hs hm c1 c2
      obtain ⟨sm, hsm⟩ : ∃ s, s = sumL (L.take k) := ⟨_, rfl⟩
      rw [← hsm] at hs ⊢
      have HSM := Lib.hid hsm
      clear hsm
      obtain ⟨hs1, hs2⟩ := hs
      obtain ⟨hm1, hm2, hm3⟩ := hm
      rw [e]
      by_cases hop : x2 = 4611686018427387904
      · have hob : (x2 == 4611686018427387904) = true := by simpa using hop
        have HO := Lib.hid hop
        clear hop
        go_wp2_with fail
        go_ret
        exact ⟨ret_int (lenL_open HM.out HO.out).symm, bel_alloc hbw _⟩
      · have hob : (x2 == 4611686018427387904) = false := by simpa using hop
        have hlt2 : x2 < 4611686018427387904 := by omega
        have HO := Lib.hid hop
        clear hop
        go_wp2_with fail
        go_roundw
        case rel =>
          refine ⟨k + 1, by omega, by go_num, ?_, ?_, bel_alloc hbw _⟩
          · rw [HS.out, HX.out, ← HSM.out]
          · intro y hy
            rw [List.take_succ_eq_append_getElem hlt, List.mem_append] at hy
            rcases hy with hy | hy
            · exact HI.out y hy
            · simp at hy; rw [hy, HX.out]; exact HO.out
        case measure => simp [intOf]; omega
    · go_wp2
      go_ret
      refine ⟨ret_int ?_, hbw⟩
      have h1 := HI.out
      rw [take_all hlt] at h1 ⊢
      exact (lenL_sum h1).symm

end Go.Proofs.YtfpfdgljhcpkpaaDoor
