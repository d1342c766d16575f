/- The walk of SpecResolves. -/
import Derived.Test.YtdomakklbcpnjaaDoorT3
namespace Go.Proofs.YtdomakklbcpnjaaDoor
open Go.RowKit

theorem aw04_end (w W : World) (HB : Below w.heap.size w W) : Calls Tryd.prog 32 #[] W fun e w' => e = .returned (.bool true) ∧ Below w.heap.size w w' :=
  Calls.mono (awake04_any W) fun _ _ ⟨h, hb⟩ => ⟨h, bel_chain hb HB⟩
set_option maxHeartbeats 4000000 in
set_option maxRecDepth 100000 in
theorem specResolves_any (A : Option Addr) (c : Nat) (L : List (Int × Int)) (n : Int) (w : World) (h : Sp w A c L) (hl : L.length ≤ 9223372036854775807) (_hn : (Lit.int .i64 n).wf = true) :
    Calls Tryd.prog 7 #[.slice A L.length c, .int .i64 n] w fun e w' => e = .returned (.bool true) ∧ Below w.heap.size w w' := by
  have H0 := Lib.hid h
  clear h
  go_enter Tryd.func7, Tryd.ntmps7
  by_cases hbig : 100 < L.length
  · have hb : decide ((100 : Int) < (L.length : Int)) = true := by simp; omega
    go_wp2_with fail
    refine (aw04_end w _ (Below.refl _ _)).mono ?_
    rintro e1 w1 ⟨rfl, hb1⟩
    go_wp2_with fail
    go_ret
    exact ⟨rfl, hb1⟩
  · have hb : decide ((100 : Int) < (L.length : Int)) = false := by simp; omega
    go_wp2_with fail
    refine (r4all_any A c L _ H0.out (by omega)).mono ?_
    rintro e1 w1 ⟨rfl, hb1⟩
    have HB1 := Lib.hid hb1
    have S1 := Lib.hid (H0.out.below hb1)
    clear hb1 H0
    cases hR : allR L
    · go_wp2_with fail
      refine (aw04_end w _ HB1.out).mono ?_
      rintro e1 w1 ⟨rfl, hb1⟩
      go_wp2_with fail
      go_ret
      exact ⟨rfl, hb1⟩
    · by_cases h0 : n < 0
      · go_wp2_with fail
        refine (aw04_end w _ HB1.out).mono ?_
        rintro e1 w1 ⟨rfl, hb1⟩
        go_wp2_with fail
        go_ret
        exact ⟨rfl, hb1⟩
      · by_cases h1 : 1099511627776 < n
        · go_wp2_with fail
          refine (aw04_end w _ HB1.out).mono ?_
          rintro e1 w1 ⟨rfl, hb1⟩
          go_wp2_with fail
          go_ret
          exact ⟨rfl, hb1⟩
        · have h0' : 0 ≤ n := by omega
          have h1' : n ≤ 1099511627776 := by omega
          have HRR := Lib.hid hR
          have HIN := Lib.hid (fun y hy => resL_in (n := n) h0' hR (y := y) hy)
          have lR := resL_length n L
          clear hR
          go_wp2_with fail
          refine (sresolve_any A c L n _ S1.out (by omega) HRR.out h0' (by omega)).mono ?_
          rintro e2 w2 ⟨A2, c2, rfl, ho2, hb2⟩
          have HB2 := Lib.hid (bel_chain hb2 HB1.out)
          have S2 := Lib.hid (S1.out.below hb2)
          have R2 := Lib.hid ho2.sp
          clear hb2 ho2 HB1 S1
          go_wp2_with fail
          refine (r4resolve_any A c L n _ S2.out (by omega) HRR.out h0' (by omega)).mono ?_
          rintro e3 w3 ⟨A3, c3, rfl, ho3, hb3⟩
          have HB3 := Lib.hid (bel_chain hb3 HB2.out)
          have R3 := Lib.hid (R2.out.below hb3)
          have Q3 := Lib.hid ho3.sp
          clear hb3 ho3 HB2 S2 R2 HRR
          generalize resL n L = R at *
          go_wp2_with fail
          refine (r4spans_any A2 c2 R A3 c3 R _ R3.out Q3.out (by omega)).mono ?_
          rintro e4 w4 ⟨rfl, k4, rfl⟩
          have hde : decide (R = R) = true := decide_eq_true rfl
          rw [hde]
          have HB4 : Hid (Below w.heap.size w (w3.drewN k4)) := bel_drewN HB3.out _
          have R4 : Hid (Sp (w3.drewN k4) A2 c2 R) := R3.out.drewN _
          clear HB3 R3 Q3
          generalize w3.drewN k4 = w4 at *
          go_wp2_with fail
          go_loopw [10, 51] (fun _ i wr => ∃ k : Nat, k ≤ R.length ∧ i = .int .i64 k ∧ Below w4.heap.size w4 wr) (fun _ i _ => R.length - (intOf i).toNat)
          case atStart => exact ⟨0, Nat.zero_le _, rfl, Below.refl _ _⟩
          case round =>
            obtain ⟨k, hk, rfl, hbw⟩ := hrel
            have HW := Lib.hid hbw
            clear hbw
            by_cases hlt : k < R.length
            · obtain ⟨b, off, e, hb, k1, k2⟩ := (R4.out.below HW.out).at_ hlt
              have hin := HIN.out _ (List.getElem_mem hlt)
              obtain ⟨⟨x1, x2⟩, hx⟩ : ∃ x, R[k] = x := ⟨_, rfl⟩
              rw [hx] at k1 k2 hin
              obtain ⟨i1, i2, i3⟩ := hin
              simp only at k1 k2 i1 i2 i3
              have t1 : decide (x1 < 0) = false := by simp; omega
              have t2 : decide (x2 ≤ x1) = false := by simp; omega
              have t3 : decide (n < x2) = false := by simp; omega
              rw [e]
              clear hx
              go_wp2_with fail
              go_roundw
              case rel => exact ⟨k + 1, by omega, by go_num, bel_alloc HW.out _⟩
              case measure => simp [intOf]; omega
            · go_wp2_with fail
              refine (aw04_end w _ (bel_chain HW.out HB4.out)).mono ?_
              rintro e1 w1 ⟨rfl, hb1⟩
              go_wp2_with fail
              go_ret
              exact ⟨rfl, hb1⟩
end Go.Proofs.YtdomakklbcpnjaaDoor
