/- The walk of SpecCosts. -/
import Derived.Test.YtdomakklbcpnjaaDoorT4
import Derived.Test.YtdomakklbcpnjaaDoorS4
namespace Go.Proofs.YtdomakklbcpnjaaDoor
open Go.RowKit

def apR (x y : Int × Int) : Prop := y.2 ≤ x.1 ∨ x.2 ≤ y.1
theorem apart_snoc {R : List (Int × Int)} {k : Nat} (hk : k < R.length) (h : apartB (R.take k)) (h2 : ∀ x ∈ R.take k, apR x R[k]) : apartB (R.take (k + 1)) := by
  unfold apartB at *
  rw [List.take_succ_eq_append_getElem hk]
  refine List.pairwise_append.2 ⟨h, List.pairwise_singleton _ _, fun x hx y hy => ?_⟩
  simp at hy
  subst hy
  exact h2 x hx
theorem apart_in {R : List (Int × Int)} {j : Nat} {y : Int × Int} (hj : j < R.length) (h : ∀ x ∈ R.take j, apR x y) (h2 : apR R[j] y) : ∀ x ∈ R.take (j + 1), apR x y := by
  intro x hx
  rw [List.take_succ_eq_append_getElem hj] at hx
  rcases List.mem_append.1 hx with hx | hx
  · exact h x hx
  · simp at hx; subst hx; exact h2
/-- Ranges that don't meet, not more than may be, are never costly. -/
theorem cost_no {n most : Int} {L : List (Int × Int)} (h0 : 0 ≤ n) (hL : allR L = true) (ha : apartB (resL n L)) (hm : (L.length : Int) ≤ most) : costB n most L = false := by
  unfold costB
  rw [apart_cost h0 hL ha]
  simp; omega
set_option maxHeartbeats 8000000 in
set_option maxRecDepth 100000 in
theorem specCosts_any (A : Option Addr) (c : Nat) (L : List (Int × Int)) (n most : Int) (w : World) (h : Sp w A c L) (hl : L.length ≤ 9223372036854775807) (_hn : (Lit.int .i64 n).wf = true) (hm : (Lit.int .i64 most).wf = true) :
    Calls Tryd.prog 10 #[.slice A L.length c, .int .i64 n, .int .i64 most] w fun e w' => e = .returned (.bool true) ∧ Below w.heap.size w w' := by
  have H0 := Lib.hid h
  have HM := Lib.hid hm
  clear h hm
  go_enter Tryd.func10, Tryd.ntmps10
  by_cases hbig : 100 < L.length
  · have hb : decide ((100 : Int) < (L.length : Int)) = true := by simp; omega
    go_wp2_with fail
    refine (aw04_end w _ (Below.refl _ _)).mono ?_
    rintro e1 w1 ⟨rfl, hb1⟩
    go_wp2_with fail
    go_ret
    exact ⟨rfl, hb1⟩
  · have hb : decide ((100 : Int) < (L.length : Int)) = false := by simp; omega
    go_wp2_with fail
    refine (r4all_any A c L _ H0.out (by omega)).mono ?_
    rintro e1 w1 ⟨rfl, hb1⟩
    have HB1 := Lib.hid hb1
    have S1 := Lib.hid (H0.out.below hb1)
    clear hb1 H0
    cases hR : allR L
    · go_wp2_with fail
      refine (aw04_end w _ HB1.out).mono ?_
      rintro e1 w1 ⟨rfl, hb1⟩
      go_wp2_with fail
      go_ret
      exact ⟨rfl, hb1⟩
    · by_cases h0 : n < 0
      · go_wp2_with fail
        refine (aw04_end w _ HB1.out).mono ?_
        rintro e1 w1 ⟨rfl, hb1⟩
        go_wp2_with fail
        go_ret
        exact ⟨rfl, hb1⟩
      · by_cases h1 : 1099511627776 < n
        · go_wp2_with fail
          refine (aw04_end w _ HB1.out).mono ?_
          rintro e1 w1 ⟨rfl, hb1⟩
          go_wp2_with fail
          go_ret
          exact ⟨rfl, hb1⟩
        · have h0' : 0 ≤ n := by omega
          have h1' : n ≤ 1099511627776 := by omega
          have HRR := Lib.hid hR
          have lR := resL_length n L
          have HNO := Lib.hid (fun ha hm => cost_no (n := n) (most := most) (L := L) h0' hR ha hm)
          clear hR
          go_wp2_with fail
          refine (scostly_any A c L n most _ S1.out (by omega) HRR.out h0' (by omega) HM.out).mono ?_
          rintro e2 w2 ⟨rfl, hb2⟩
          have HB2 := Lib.hid (bel_chain hb2 HB1.out)
          have S2 := Lib.hid (S1.out.below hb2)
          clear hb2 HB1 S1
          go_wp2_with fail
          refine (r4resolve_any A c L n _ S2.out (by omega) HRR.out h0' (by omega)).mono ?_
          rintro e3 w3 ⟨A3, c3, rfl, ho3, hb3⟩
          have HB3 := Lib.hid (bel_chain hb3 HB2.out)
          have S3 := Lib.hid (S2.out.below hb3)
          have Q3 := Lib.hid ho3.sp
          clear hb3 ho3 HB2 S2
          have HCC := fun W hW => Lib.hid (r4costly_any A c L n most W hW (by omega) HRR.out h0' (by omega) HM.out)
          clear HRR HM
          generalize costB n most L = cb at *
          generalize resL n L = R at *
          go_wp2_with fail
          go_loopw [10, 11, 12, 42] (fun ap _ _ i wr => ∃ (k : Nat) (a : Bool), k ≤ R.length ∧ i = .int .i64 k ∧ ap = .bool a ∧ (a = true → apartB (R.take k)) ∧ Below w3.heap.size w3 wr) (fun _ _ _ i _ => R.length - (intOf i).toNat)
          case atStart => exact ⟨0, true, Nat.zero_le _, rfl, rfl, fun _ => by simp [apartB], Below.refl _ _⟩
          case round =>
            obtain ⟨k, a, hk, rfl, rfl, hap, hbw⟩ := hrel
            have HW := Lib.hid hbw
            have HAP := Lib.hid hap
            clear hbw hap
            by_cases hlt : k < R.length
            · have hkc : (k : Int) ≤ (c3 : Int) := by have := Q3.out.le; omega
              go_wp2_with fail
              go_loopw [10, 12, 49] (fun ap _ i wr => ∃ (j : Nat) (a2 : Bool), j ≤ k ∧ i = .int .i64 j ∧ ap = .bool a2 ∧ (a2 = true → apartB (R.take k) ∧ ∀ x ∈ R.take j, apR x R[k]) ∧ Below w3.heap.size w3 wr) (fun _ _ i _ => k - (intOf i).toNat)
              case atStart => exact ⟨0, a, Nat.zero_le _, rfl, rfl, fun h => ⟨HAP.out h, by simp⟩, HW.out⟩
              case round =>
                clear HW HAP
                obtain ⟨j, a2, hj, rfl, rfl, hap, hbw⟩ := hrel
                have HW := Lib.hid hbw
                have HAP := Lib.hid hap
                clear hbw hap
                by_cases hlt2 : j < k
                · obtain ⟨b, off, e, hb, k1, k2⟩ := (Q3.out.below HW.out).at_ hlt
                  obtain ⟨b', off', e', hb', j1, j2⟩ := (Q3.out.below HW.out).at_ (k := j) (by omega)
                  have hjl : j < R.length := by omega
                  have HIN : Hid ((∀ x ∈ R.take j, apR x R[k]) → apR R[j] R[k] → ∀ x ∈ R.take (j + 1), apR x R[k]) := fun h h2 => apart_in hjl h h2
                  rw [e] at e'
                  injection e' with e'
                  injection e' with eb eo
                  subst eb eo
                  obtain ⟨⟨x1, x2⟩, hx⟩ : ∃ x, R[k] = x := ⟨_, rfl⟩
                  obtain ⟨⟨y1, y2⟩, hy⟩ : ∃ x, R[j] = x := ⟨_, rfl⟩
                  rw [hx] at k1 k2 HAP HIN
                  rw [hy] at j1 j2 HIN
                  simp only at k1 k2 j1 j2
                  rw [e]
                  cases a2
                  · go_wp2_with fail
                    go_quiet (fail)
                    go_wp2_with fail
                    go_roundw
                    case rel => exact ⟨j + 1, false, by omega, by go_num, rfl, (fun h => by cases h), bel_drewN HW.out _⟩
                    case measure => simp [intOf]; omega
                  · by_cases t1 : x2 ≤ y1
                    · have t1' : decide (x2 ≤ y1) = true := by simpa using t1
                      go_wp2_with fail
                      go_quiet (fail)
                      go_wp2_with fail
                      go_roundw
                      case rel => exact ⟨j + 1, true, by omega, by go_num, rfl, (fun _ => ⟨(HAP.out (by trivial)).1, by rw [hx]; exact HIN.out (HAP.out (by trivial)).2 (.inl t1)⟩), bel_drewN HW.out _⟩
                      case measure => simp [intOf]; omega
                    · have t1' : decide (x2 ≤ y1) = false := by simpa using t1
                      by_cases t2 : y2 ≤ x1
                      · have t2' : decide (y2 ≤ x1) = true := by simpa using t2
                        go_wp2_with fail
                        go_quiet (fail)
                        go_wp2_with fail
                        go_roundw
                        case rel => exact ⟨j + 1, true, by omega, by go_num, rfl, (fun _ => ⟨(HAP.out (by trivial)).1, by rw [hx]; exact HIN.out (HAP.out (by trivial)).2 (.inr t2)⟩), bel_drewN HW.out _⟩
                        case measure => simp [intOf]; omega
                      · have t2' : decide (y2 ≤ x1) = false := by simpa using t2
                        go_wp2_with fail
                        go_quiet (fail)
                        go_wp2_with fail
                        go_roundw
                        case rel => exact ⟨j + 1, false, by omega, by go_num, rfl, (fun h => by cases h), bel_drewN HW.out _⟩
                        case measure => simp [intOf]; omega
                · obtain rfl : j = k := by omega
                  have HA2 : Hid (a2 = true → apartB (R.take (j + 1))) := fun h => apart_snoc hlt (HAP.out h).1 (HAP.out h).2
                  clear HAP
                  go_wp2_with fail
                  go_roundw
                  case rel => exact ⟨j + 1, a2, by omega, by go_num, rfl, HA2.out, HW.out⟩
                  case measure => simp [intOf]; omega
            · obtain rfl : k = R.length := by omega
              have hap := HAP.out
              rw [List.take_length] at hap
              have HAP' := Lib.hid hap
              clear hap HAP
              go_wp2_with fail
              refine (HCC _ (S3.out.below HW.out)).out.mono ?_
              rintro e4 w4 ⟨rfl, hb4⟩
              have HB4 := Lib.hid (bel_chain hb4 (bel_chain HW.out HB3.out))
              clear hb4 HCC HB3 S3 Q3 HW
              have hok : (a && decide ((L.length : Int) ≤ most) && cb) = false := by
                cases a
                · rfl
                · by_cases hlm : (L.length : Int) ≤ most
                  · rw [HNO.out (HAP'.out rfl) hlm]; simp
                  · simp [hlm]
              have hcc : (cb == cb) = true := by simp
              clear HNO HAP'
              cases a
              · go_wp2_with fail
                refine (aw04_end w _ HB4.out).mono ?_
                rintro e1 w1 ⟨rfl, hb1⟩
                go_wp2_with fail
                go_ret
                exact ⟨rfl, hb1⟩
              · by_cases hlm : (L.length : Int) ≤ most
                · have hcb : cb = false := by simpa [hlm] using hok
                  subst hcb
                  go_wp2_with fail
                  refine (aw04_end w _ HB4.out).mono ?_
                  rintro e1 w1 ⟨rfl, hb1⟩
                  go_wp2_with fail
                  go_ret
                  exact ⟨rfl, hb1⟩
                · go_wp2_with fail
                  refine (aw04_end w _ HB4.out).mono ?_
                  rintro e1 w1 ⟨rfl, hb1⟩
                  go_wp2_with fail
                  go_ret
                  exact ⟨rfl, hb1⟩
end Go.Proofs.YtdomakklbcpnjaaDoor
