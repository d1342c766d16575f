/- Contracts of spec's and the reference's functions on ranges that are asked: Right, All, Same, Spans, bytes. -/
import Derived.Test.YtfpfdgljhcpkpaaGreatDoorB13
import Derived.Test.YtfpfdgljhcpkpaaGreatDoorS1
namespace Go.Proofs.YtfpfdgljhcpkpaaGreatDoor
open Go.RowKit

set_option maxHeartbeats 1000000 in
theorem sright_any (f t : Int) (w : World) :
    Calls Tryz.prog 93 #[.agg #[.int .i64 f, .int .i64 t]] w fun e w' => e = .returned (.bool (rightR (f, t))) ∧ w.alloc (.cells #[.int .i64 f, .int .i64 t] 82) = w' := by
  go_enter Tryz.func93, Tryz.ntmps93
  go_wp2
  all_goals
    go_ret
    refine ⟨ret_bool ?_, rfl⟩
    unfold rightR
    rw [Bool.eq_iff_iff]; simp; try omega
set_option maxHeartbeats 1000000 in
theorem r4right_any (f t : Int) (w : World) :
    Calls Tryz.prog 43 #[.agg #[.int .i64 f, .int .i64 t]] w fun e w' => e = .returned (.bool (rightR (f, t))) ∧ w.alloc (.cells #[.int .i64 f, .int .i64 t] 82) = w' := by
  have fin : ∀ b : Bool, (rightR (f, t) = b) → Ending.returned (.bool b) = .returned (.bool (rightR (f, t))) := fun b h => by rw [h]
  have FN := Lib.hid fin
  clear fin
  have hq := Lib.hid (rightR_iff (f, t))
  by_cases h1 : f ≤ 999999999999999999
  · by_cases h2 : t ≤ 999999999999999999
    · by_cases h3 : f = -1
      · have b3 : (f == -1) = true := by simpa using h3
        have HR : Hid (rightR (f, t) = decide (0 ≤ t)) := by simp only [Hid]; rw [Bool.eq_iff_iff, hq.out]; simp; omega
        clear h3 hq
        go_enter Tryz.func43, Tryz.ntmps43
        go_wp2
        all_goals
          go_ret
          exact ⟨FN.out _ (by rw [HR.out]), by first | rfl | simp only [*]⟩
      · have b3 : (f == -1) = false := by simpa using h3
        by_cases h4 : 0 ≤ f
        · by_cases h5 : t = -1
          · have b5 : (t == -1) = true := by simpa using h5
            have HR : Hid (rightR (f, t) = true) := by simp only [Hid]; rw [hq.out]; simp; omega
            clear h3 h5 hq
            go_enter Tryz.func43, Tryz.ntmps43
            go_wp2
            all_goals
              go_ret
              exact ⟨FN.out _ (by rw [HR.out]), by first | rfl | simp only [*]⟩
          · have b5 : (t == -1) = false := by simpa using h5
            have HR : Hid (rightR (f, t) = decide (f ≤ t)) := by simp only [Hid]; rw [Bool.eq_iff_iff, hq.out]; simp; omega
            clear h3 h5 hq
            go_enter Tryz.func43, Tryz.ntmps43
            go_wp2
            all_goals
              go_ret
              exact ⟨FN.out _ (by rw [HR.out]), by first | rfl | simp only [*]⟩
        · have b4 : decide (0 ≤ f) = false := by simpa using h4
          have HR : Hid (rightR (f, t) = false) := by simp only [Hid]; rw [Bool.eq_false_iff, ne_eq, hq.out]; simp; omega
          clear h3 hq
          go_enter Tryz.func43, Tryz.ntmps43
          go_wp2
          all_goals
            go_ret
            exact ⟨FN.out _ (by rw [HR.out]), by first | rfl | simp only [*]⟩
    · have HR : Hid (rightR (f, t) = false) := by simp only [Hid]; rw [Bool.eq_false_iff, ne_eq, hq.out]; simp; omega
      have h2' : 999999999999999999 < t := by omega
      clear hq h2
      go_enter Tryz.func43, Tryz.ntmps43
      go_wp2
      all_goals
        go_ret
        exact ⟨FN.out _ (by rw [HR.out]), by first | rfl | simp only [*]⟩
  · have HR : Hid (rightR (f, t) = false) := by simp only [Hid]; rw [Bool.eq_false_iff, ne_eq, hq.out]; simp; omega
    have h1' : 999999999999999999 < f := by omega
    clear hq h1
    go_enter Tryz.func43, Tryz.ntmps43
    go_wp2
    all_goals
      go_ret
      exact ⟨FN.out _ (by rw [HR.out]), by first | rfl | simp only [*]⟩
theorem allR_step {L : List (Int × Int)} {k : Nat} (h : k < L.length) (h1 : allR (L.take k) = true) (h2 : rightR L[k] = true) : allR (L.take (k + 1)) = true := by
  unfold allR at *
  rw [List.take_succ_eq_append_getElem h, List.all_append, h1]; simpa using h2
theorem allR_no {L : List (Int × Int)} {k : Nat} (h : k < L.length) (h2 : rightR L[k] = false) : allR L = false := by
  unfold allR
  rw [List.all_eq_false]
  exact ⟨L[k], List.getElem_mem h, by simp [h2]⟩
set_option maxHeartbeats 1000000 in
theorem r4all_any (A : Option Addr) (c : Nat) (L : List (Int × Int)) (w : World) (h : Sp w A c L) (hl : L.length ≤ 1000000) :
    Calls Tryz.prog 13 #[.slice A L.length c] w fun e w' => e = .returned (.bool (allR L)) ∧ Below w.heap.size w w' := by
  have hH := Lib.hid h
  clear h
  go_enter Tryz.func13, Tryz.ntmps13
  go_wp2
  go_loopw [4, 7] (fun _ i wr => ∃ k : Nat, k ≤ L.length ∧ i = .int .i64 k ∧ allR (L.take k) = true ∧ Below w.heap.size w wr) (fun _ i _ => L.length - (intOf i).toNat)
  case atStart => exact ⟨0, Nat.zero_le _, rfl, rfl, Below.refl _ _⟩
  case round =>
    obtain ⟨k, hk, rfl, hin, hbw⟩ := hrel
    have HI := Lib.hid hin
    have HB := Lib.hid hbw
    clear hin hbw
    by_cases hlt : k < L.length
    · obtain ⟨b, off, e, hb, c1, c2⟩ := (hH.out.below HB.out).at_ hlt
      have HS := fun h2 => Lib.hid (allR_step hlt HI.out h2)
      have HN := fun h2 => Lib.hid (allR_no hlt h2)
      obtain ⟨⟨x1, x2⟩, hx⟩ : ∃ x, L[k] = x := ⟨_, rfl⟩
      rw [hx] at c1 c2 HS HN
      clear hx
      rw [e]
      have hR := fun W => Lib.hid (r4right_any x1 x2 W)
      cases hok : rightR (x1, x2)
      · rw [hok] at hR
        have HF := HN hok
        clear HN HS hok
        go_wp2_with fail
        refine (hR _).out.mono ?_
        rintro e1 w3 ⟨rfl, rfl⟩
        clear hR
        go_wp2_with fail
        go_ret
        exact ⟨ret_bool HF.out.symm, bel_alloc (bel_alloc HB.out _) _⟩
      · rw [hok] at hR
        have HF := HS hok
        clear HN HS hok
        go_wp2_with fail
        refine (hR _).out.mono ?_
        rintro e1 w3 ⟨rfl, rfl⟩
        clear hR
        go_wp2_with fail
        go_roundw
        case rel => exact ⟨k + 1, by omega, by go_num, HF.out, bel_alloc (bel_alloc HB.out _) _⟩
        case measure => simp [intOf]; omega
    · have hf := HI.out
      rw [take_all hlt] at hf
      have HF := Lib.hid hf
      clear hf
      go_wp2
      go_ret
      exact ⟨ret_bool HF.out.symm, HB.out⟩
set_option maxHeartbeats 1000000 in
theorem r4spans_any (A : Option Addr) (c : Nat) (L : List (Int × Int)) (A' : Option Addr) (c' : Nat) (L' : List (Int × Int)) (w : World) (h : Sp w A c L) (h' : Sp w A' c' L') (hl : L.length ≤ 1000000) :
    Calls Tryz.prog 17 #[.slice A L.length c, .slice A' L'.length c'] w fun e w' => e = .returned (.bool (decide (L = L'))) ∧ ∃ n, w.drewN n = w' := by
  have hH := Lib.hid h
  have hH' := Lib.hid h'
  clear h h'
  by_cases hll : L.length = L'.length
  · have hbb : ((L.length : Int) != (L'.length : Int)) = false := by simp [hll]
    have HLL := Lib.hid hll
    have hle : L.length ≤ L'.length := by omega
    have hge : L'.length ≤ L.length := by omega
    clear hll
    go_enter Tryz.func17, Tryz.ntmps17
    go_wp2
    go_loopw [5, 13] (fun _ i wr => ∃ k n : Nat, k ≤ L.length ∧ i = .int .i64 k ∧ L.take k = L'.take k ∧ wr = w.drewN n) (fun _ i _ => L.length - (intOf i).toNat)
    case atStart => exact ⟨0, 0, Nat.zero_le _, rfl, by simp, rfl⟩
    case round =>
      obtain ⟨k, n, hk, rfl, hin, rfl⟩ := hrel
      have HI := Lib.hid hin
      clear hin
      by_cases hlt : k < L.length
      · have hlt' : k < L'.length := by omega
        obtain ⟨b, off, e, hb, c1, c2⟩ := hH.out.at_ hlt
        obtain ⟨b', off', e', hb', c1', c2'⟩ := hH'.out.at_ hlt'
        obtain ⟨⟨x1, x2⟩, hx⟩ : ∃ x, L[k] = x := ⟨_, rfl⟩
        obtain ⟨⟨y1, y2⟩, hy⟩ : ∃ x, L'[k] = x := ⟨_, rfl⟩
        rw [hx] at c1 c2
        rw [hy] at c1' c2'
        have HX := Lib.hid hx
        have HY := Lib.hid hy
        clear hx hy hbb
        rw [e, e']
        by_cases exy : x1 = y1 ∧ x2 = y2
        · obtain ⟨rfl, rfl⟩ := exy
          go_wp2_with fail
          go_quiet (fail)
          go_wp2_with fail
          go_roundw
          case rel => exact ⟨k + 1, _, by omega, by go_num, take_eq_step hlt hlt' HI.out (by rw [HX.out, HY.out]), rfl⟩
          case measure => simp [intOf]; omega
        · have HE : Hid (L[k] ≠ L'[k]) := by
            simp only [Hid]; rw [HX.out, HY.out]; intro h; injection h with h1 h2; exact exy ⟨h1, h2⟩
          have exy' : x1 = y1 → (x2 == y2) = false := fun h => by simpa using fun h2 => exy ⟨h, h2⟩
          clear exy
          by_cases e1 : x1 = y1
          · have e2 := exy' e1
            subst e1
            clear exy'
            go_wp2_with fail
            go_quiet (fail)
            go_wp2_with fail
            go_ret
            exact ⟨ret_bool (ne_of_at hlt hlt' HE.out).symm, n + _, (World.drewN_drewN _ _ _).symm⟩
          · have e2 : (x1 == y1) = false := by simpa using e1
            clear exy' e1
            go_wp2_with fail
            go_quiet (fail)
            go_wp2_with fail
            go_ret
            exact ⟨ret_bool (ne_of_at hlt hlt' HE.out).symm, n + _, (World.drewN_drewN _ _ _).symm⟩
      · go_wp2
        go_ret
        refine ⟨ret_bool ?_, _, rfl⟩
        have h1 := HI.out
        rw [List.take_of_length_le (by omega), List.take_of_length_le (by omega)] at h1
        simp [h1]
  · have hbb : ((L.length : Int) != (L'.length : Int)) = true := by rw [bne_iff_ne]; omega
    have H : Hid (decide (L = L') = false) := by
      simp only [Hid, decide_eq_false_iff_not]; rintro rfl; exact hll rfl
    clear hll
    go_enter Tryz.func17, Tryz.ntmps17
    go_wp2
    go_ret
    exact ⟨ret_bool (by rw [H.out]), 0, rfl⟩

/-- What a range has of so many bytes, and whether that is any. -/
def BytesPost (n : Int) (x : Int × Int) (w : World) (e : Ending) (w' : World) : Prop :=
  e = .returned (.tuple #[.agg #[.int .i64 (spanOf n x).1, .int .i64 (spanOf n x).2], .bool (hasS (spanOf n x))]) ∧ Below w.heap.size w w'
theorem bytes_mk {n : Int} {x : Int × Int} {a b : Int} {t : Bool} {w w' : World} (h : spanOf n x = (a, b)) (ht : t = decide (a < b)) (hb : Below w.heap.size w w') : BytesPost n x w (.returned (.tuple #[.agg #[.int .i64 a, .int .i64 b], .bool t])) w' :=
  ⟨by rw [h, ht]; rfl, hb⟩
set_option maxHeartbeats 4000000 in
set_option maxRecDepth 100000 in
theorem sbytes_any (f t n : Int) (w : World) (hr : rightR (f, t) = true) (h0 : 0 ≤ n) (h1 : n ≤ 4611686018427387904) :
    Calls Tryz.prog 46 #[.agg #[.int .i64 f, .int .i64 t], .int .i64 n] w (BytesPost n (f, t) w) := by
  have hR := fun W => Lib.hid (sright_any f t W)
  rw [hr] at hR
  have hq := (rightR_iff (f, t)).1 hr
  simp only at hq
  clear hr
  by_cases hf : f < 0
  · obtain rfl : f = -1 := by omega
    have ht0 : 0 ≤ t := by omega
    have ht1 : t ≤ 999999999999999999 := by omega
    clear hq
    have HS : Hid (spanOf n (-1, t) = (max (n - t) 0, n)) := by simp only [Hid, spanOf]; rw [if_pos (by decide)]
    go_enter Tryz.func46, Tryz.ntmps46
    go_wp2_with fail
    refine (hR _).out.mono ?_
    rintro e1 w1 ⟨rfl, rfl⟩
    clear hR
    go_wp2_with fail
    go_region
    all_goals go_wp2_with fail
    all_goals
      refine bodyPost_ret (by simp [results, Tryz.results46, go_sem]; try rfl) rfl ?_
      exact bytes_mk HS.out rfl (by (repeat (first | exact Below.refl _ _ | refine bel_drewN ?_ _ | refine bel_drew ?_ | refine bel_alloc ?_ _ | refine bel_set ?_ (by simp) _)))
  · have hf0 : 0 ≤ f := by omega
    have hf1 : f ≤ 999999999999999999 := by omega
    by_cases ht : 0 ≤ t
    · have ht1 : t ≤ 999999999999999999 := by omega
      clear hq
      have HS : Hid (spanOf n (f, t) = (f, min (t + 1) n)) := by simp only [Hid, spanOf]; rw [if_neg (by omega), if_pos ht]
      go_enter Tryz.func46, Tryz.ntmps46
      go_wp2_with fail
      refine (hR _).out.mono ?_
      rintro e1 w1 ⟨rfl, rfl⟩
      clear hR
      go_wp2_with fail
      go_region
      all_goals go_wp2_with fail
      all_goals
        refine bodyPost_ret (by simp [results, Tryz.results46, go_sem]; try rfl) rfl ?_
        exact bytes_mk HS.out rfl (by (repeat (first | exact Below.refl _ _ | refine bel_drewN ?_ _ | refine bel_drew ?_ | refine bel_alloc ?_ _ | refine bel_set ?_ (by simp) _)))
    · have HS : Hid (spanOf n (f, t) = (f, n)) := by simp only [Hid, spanOf]; rw [if_neg (by omega), if_neg ht]
      have ht' : t < 0 := by omega
      clear hq
      go_enter Tryz.func46, Tryz.ntmps46
      go_wp2_with fail
      refine (hR _).out.mono ?_
      rintro e1 w1 ⟨rfl, rfl⟩
      clear hR
      go_wp2_with fail
      go_region
      all_goals go_wp2_with fail
      all_goals
        refine bodyPost_ret (by simp [results, Tryz.results46, go_sem]; try rfl) rfl ?_
        exact bytes_mk HS.out rfl (by (repeat (first | exact Below.refl _ _ | refine bel_drewN ?_ _ | refine bel_drew ?_ | refine bel_alloc ?_ _ | refine bel_set ?_ (by simp) _)))
end Go.Proofs.YtfpfdgljhcpkpaaGreatDoor
