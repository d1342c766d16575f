/- Contracts of the two functions that tell whether ranges are costly. -/
import Derived.Test.YtdomakklbcpnjaaDoorS3
namespace Go.Proofs.YtdomakklbcpnjaaDoor
open Go.RowKit

theorem over_step {n acc : Int} {R : List (Int × Int)} {k : Nat} (h : k < R.length) : overL n acc (R.drop k) = (decide (2 * n < acc + ((R[k]).2 - (R[k]).1)) || overL n (acc + ((R[k]).2 - (R[k]).1)) (R.drop (k + 1))) := by
  rw [List.drop_eq_getElem_cons h]; rfl
theorem i64_range {q : Int} (h : (Lit.int .i64 q).wf = true) : -9223372036854775808 ≤ q ∧ q ≤ 9223372036854775807 := by
  have h1 : IntKind.i64.min ≤ q ∧ q ≤ IntKind.i64.max := by simpa [Lit.wf] using h
  exact ⟨h1.1, h1.2⟩
set_option maxHeartbeats 2000000 in
set_option maxRecDepth 100000 in
theorem scostly_any (A : Option Addr) (c : Nat) (L : List (Int × Int)) (n most : Int) (w : World) (h : Sp w A c L) (hl : L.length ≤ 100000) (hR : allR L = true) (h0 : 0 ≤ n) (h1 : n ≤ 1099511627776) (_hm : (Lit.int .i64 most).wf = true) :
    Calls Tryd.prog 47 #[.slice A L.length c, .int .i64 n, .int .i64 most] w fun e w' => e = .returned (.bool (costB n most L)) ∧ Below w.heap.size w w' := by
  by_cases hmo : most < (L.length : Int)
  · have HC : Hid (costB n most L = true) := by simp only [Hid, costB]; simp [hmo]
    go_enter Tryd.func47, Tryd.ntmps47
    go_wp2_with fail
    go_ret
    exact ⟨ret_bool HC.out.symm, Below.refl _ _⟩
  · have hmo' : decide (most < (L.length : Int)) = false := by simpa using hmo
    have HMO := Lib.hid hmo'
    have HRS := Lib.hid (fun W hW => sresolve_any A c L n W hW hl hR h0 (by omega))
    have HIN := Lib.hid (fun y hy => resL_in h0 hR (y := y) hy)
    have hH := Lib.hid h
    clear h hR hmo'
    go_enter Tryd.func47, Tryd.ntmps47
    go_wp2_with fail
    refine (HRS.out _ hH.out).mono ?_
    rintro e1 w1 ⟨Ar, cr, rfl, hs1, hb1⟩
    have HS := Lib.hid hs1.sp
    have HB1 := Lib.hid hb1
    have lr := resL_length n L
    have HE : Hid (∃ R, resL n L = R) := ⟨_, rfl⟩
    obtain ⟨R, hRe⟩ := HE.out
    rw [hRe] at HS HIN lr ⊢
    have HRE := Lib.hid hRe
    clear hs1 hb1 HRS hH HE hRe
    go_wp2_with fail
    go_loopw [7, 11, 24] (fun s _ i wr => ∃ (k : Nat) (acc : Int), k ≤ R.length ∧ i = .int .i64 k ∧ s = .int .i64 acc ∧ 0 ≤ acc ∧ acc ≤ 2 * n ∧ overL n acc (R.drop k) = overL n 0 R ∧ Below w1.heap.size w1 wr) (fun _ _ i _ => R.length - (intOf i).toNat)
    case atStart => exact ⟨0, 0, Nat.zero_le _, rfl, rfl, by omega, by omega, rfl, Below.refl _ _⟩
    case round =>
      obtain ⟨k, acc, hk, rfl, rfl, ha0, ha1, hov, hbw⟩ := hrel
      have HV := Lib.hid hov
      have HBW := Lib.hid hbw
      clear hov hbw
      by_cases hlt : k < R.length
      · obtain ⟨b, off, e, hb, c1, c2⟩ := (HS.out.below HBW.out).at_ hlt
        have hin := HIN.out _ (List.getElem_mem hlt)
        have HST := Lib.hid (over_step (n := n) (acc := acc) hlt)
        obtain ⟨⟨x1, x2⟩, hx⟩ : ∃ x, R[k] = x := ⟨_, rfl⟩
        rw [hx] at c1 c2 hin HST
        clear hx
        simp only at hin c1 c2
        obtain ⟨hi0, hi1, hi2⟩ := hin
        rw [e]
        by_cases hc : 2 * n < acc + (x2 - x1)
        · have HT : Hid (overL n 0 R = true) := by simp only [Hid]; rw [← HV.out, HST.out, Bool.or_eq_true]; left; simp; omega
          go_wp2_with fail
          go_ret
          exact ⟨ret_bool (by simp [costB, HRE.out, HT.out]), bel_chain (bel_alloc HBW.out _) HB1.out⟩
        · have HT : Hid (overL n (acc + (x2 - x1)) (R.drop (k + 1)) = overL n 0 R) := by
            simp only [Hid]; rw [← HV.out, HST.out]
            have e2 : decide (2 * n < acc + (x2 - x1)) = false := by simp; omega
            show overL n (acc + (x2 - x1)) (R.drop (k + 1)) = (decide (2 * n < acc + (x2 - x1)) || overL n (acc + (x2 - x1)) (R.drop (k + 1)))
            first | (rw [e2, Bool.false_or]; done) | (rw [e2, Bool.false_or, show acc + (x2 - x1) = acc + (x2 - x1) by omega])
          go_wp2_with fail
          go_roundw
          case rel => exact ⟨k + 1, acc + (x2 - x1), by omega, by go_num, rfl, by omega, by omega, HT.out, bel_alloc HBW.out _⟩
          case measure => simp [intOf]; omega
      · have HT : Hid (overL n 0 R = false) := by simp only [Hid]; rw [← HV.out, List.drop_eq_nil_of_le (by omega)]; rfl
        go_wp2_with fail
        go_ret
        exact ⟨ret_bool (by simp [costB, HRE.out, HMO.out, HT.out]), bel_chain HBW.out HB1.out⟩
set_option maxHeartbeats 2000000 in
set_option maxRecDepth 100000 in
theorem r4costly_any (A : Option Addr) (c : Nat) (L : List (Int × Int)) (n most : Int) (w : World) (h : Sp w A c L) (hl : L.length ≤ 100000) (hR : allR L = true) (h0 : 0 ≤ n) (h1 : n ≤ 1099511627776) (_hm : (Lit.int .i64 most).wf = true) :
    Calls Tryd.prog 48 #[.slice A L.length c, .int .i64 n, .int .i64 most] w fun e w' => e = .returned (.bool (costB n most L)) ∧ Below w.heap.size w w' := by
  have HRS := Lib.hid (fun W hW => r4resolve_any A c L n W hW hl hR h0 (by omega))
  have HIN := Lib.hid (fun y hy => resL_in h0 hR (y := y) hy)
  have hH := Lib.hid h
  clear h hR
  go_enter Tryd.func48, Tryd.ntmps48
  go_wp2_with fail
  refine (HRS.out _ hH.out).mono ?_
  rintro e1 w1 ⟨Ar, cr, rfl, hs1, hb1⟩
  have HS := Lib.hid hs1.sp
  have HB1 := Lib.hid hb1
  have lr := resL_length n L
  have HE : Hid (∃ R, resL n L = R) := ⟨_, rfl⟩
  obtain ⟨R, hRe⟩ := HE.out
  rw [hRe] at HS HIN lr ⊢
  have HRE := Lib.hid hRe
  clear hs1 hb1 HRS hH HE hRe
  go_wp2_with fail
  go_loopw [7, 11, 20] (fun s _ i wr => ∃ (k : Nat) (acc : Int), k ≤ R.length ∧ i = .int .i64 k ∧ s = .int .i64 acc ∧ 0 ≤ acc ∧ acc ≤ 2 * n ∧ overL n acc (R.drop k) = overL n 0 R ∧ Below w1.heap.size w1 wr) (fun _ _ i _ => R.length - (intOf i).toNat)
  case atStart => exact ⟨0, 0, Nat.zero_le _, rfl, rfl, by omega, by omega, rfl, Below.refl _ _⟩
  case round =>
    obtain ⟨k, acc, hk, rfl, rfl, ha0, ha1, hov, hbw⟩ := hrel
    have HV := Lib.hid hov
    have HBW := Lib.hid hbw
    clear hov hbw
    by_cases hlt : k < R.length
    · obtain ⟨b, off, e, hb, c1, c2⟩ := (HS.out.below HBW.out).at_ hlt
      have hin := HIN.out _ (List.getElem_mem hlt)
      have HST := Lib.hid (over_step (n := n) (acc := acc) hlt)
      obtain ⟨⟨x1, x2⟩, hx⟩ : ∃ x, R[k] = x := ⟨_, rfl⟩
      rw [hx] at c1 c2 hin HST
      clear hx
      simp only at hin c1 c2
      obtain ⟨hi0, hi1, hi2⟩ := hin
      rw [e]
      by_cases hc : 2 * n < acc + x2 - x1
      · have HT : Hid (overL n 0 R = true) := by simp only [Hid]; rw [← HV.out, HST.out, Bool.or_eq_true]; left; simp; omega
        go_wp2_with fail
        go_ret
        exact ⟨ret_bool (by simp [costB, HRE.out, HT.out]), bel_chain (bel_alloc HBW.out _) HB1.out⟩
      · have HT : Hid (overL n (acc + x2 - x1) (R.drop (k + 1)) = overL n 0 R) := by
          simp only [Hid]; rw [← HV.out, HST.out]
          have e2 : decide (2 * n < acc + (x2 - x1)) = false := by simp; omega
          show overL n (acc + x2 - x1) (R.drop (k + 1)) = (decide (2 * n < acc + (x2 - x1)) || overL n (acc + (x2 - x1)) (R.drop (k + 1)))
          first | (rw [e2, Bool.false_or]; done) | (rw [e2, Bool.false_or, show acc + x2 - x1 = acc + (x2 - x1) by omega])
        go_wp2_with fail
        go_roundw
        case rel => exact ⟨k + 1, acc + x2 - x1, by omega, by go_num, rfl, by omega, by omega, HT.out, bel_alloc HBW.out _⟩
        case measure => simp [intOf]; omega
    · have HT : Hid (overL n 0 R = false) := by simp only [Hid]; rw [← HV.out, List.drop_eq_nil_of_le (by omega)]; rfl
      go_wp2_with fail
      go_ret
      exact ⟨ret_bool (by simp [costB, HRE.out, HT.out]), bel_chain HBW.out HB1.out⟩
end Go.Proofs.YtdomakklbcpnjaaDoor
