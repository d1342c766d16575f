/- The walk of SpecParses. -/
import Derived.Test.YtdomakklbcpnjaaDoorT4
import Derived.Test.YtdomakklbcpnjaaDoorV2
namespace Go.Proofs.YtdomakklbcpnjaaDoor
open Go.RowKit

theorem parseT_few (o : Option (List (Int × Int))) : (parseT o).1.length ≤ 64 := by
  match o with
  | none => simp [parseT]
  | some [] => simp [parseT]
  | some (x :: r) =>
    rw [parseT_pos (by simp)]
    by_cases h : 64 < (x :: r).length
    · rw [if_pos h]; simp
    · rw [if_neg h]; exact Nat.le_of_not_lt h
theorem parseL_few (l : List UInt8) : (parseL l).1.length ≤ 64 := by
  cases h : headB l
  · unfold parseL; rw [h]; simp
  · rw [parseL_eq h]; exact parseT_few _
set_option maxHeartbeats 4000000 in
set_option maxRecDepth 100000 in
theorem specParses_any (s : ByteArray) (w : World) :
    Calls Tryd.prog 6 #[.string s] w fun e w' => e = .returned (.bool true) ∧ Below w.heap.size w w' := by
  obtain ⟨l, rfl⟩ : ∃ l : List UInt8, s = ⟨l.toArray⟩ := ⟨s.data.toList, ba_list s⟩
  have hz : (⟨l.toArray⟩ : ByteArray).size = l.length := ba_size l
  by_cases hbig : 600 < l.length
  · have hb : decide ((600 : Int) < (l.length : Int)) = true := by simp; omega
    go_enter Tryd.func6, Tryd.ntmps6
    go_wp2_with fail
    refine (aw04_end w _ (Below.refl _ _)).mono ?_
    rintro e1 w1 ⟨rfl, hb1⟩
    go_wp2_with fail
    go_ret
    exact ⟨rfl, hb1⟩
  · have hb : decide ((600 : Int) < (l.length : Int)) = false := by simp; omega
    have hll : l.length ≤ 100000 := by omega
    have H1 := fun W => Lib.hid (sParse_any l W hll)
    have H2 := fun W => Lib.hid (r4Parse_any l W hll)
    have hpl : (parseL l).1.length ≤ 64 := parseL_few l
    obtain ⟨⟨R, c⟩, hR⟩ : ∃ p, parseL l = p := ⟨_, rfl⟩
    rw [hR] at H1 H2 hpl
    clear hR
    go_enter Tryd.func6, Tryd.ntmps6
    go_wp2_with fail
    refine (H1 _).out.mono ?_
    rintro e1 w1 ⟨A1, c1, rfl, hs1, hb1⟩
    have HB1 := Lib.hid hb1
    have HS1 := Lib.hid hs1
    clear hs1 hb1 H1
    go_wp2_with fail
    refine (H2 _).out.mono ?_
    rintro e2 w2 ⟨A2, c2, rfl, hs2, hb2⟩
    have HB2 := Lib.hid (bel_chain hb2 HB1.out)
    have HS2 := Lib.hid (HS1.out.below hb2)
    have HT2 := Lib.hid hs2
    clear hs2 hb2 H2 HB1 HS1
    simp only at hpl ⊢
    go_wp2_with fail
    refine (r4same_any A1 c1 R A2 c2 R _ HS2.out HT2.out (by omega)).mono ?_
    rintro e3 w3 ⟨rfl, n3, rfl⟩
    rw [decide_eq_true (rfl : R = R)]
    have HB3 : Hid (Below w.heap.size w (w2.drewN n3)) := bel_drewN HB2.out _
    clear HB2 HS2 HT2
    generalize w2.drewN n3 = w3 at *
    go_wp2_with fail
    refine (aw04_end w _ HB3.out).mono ?_
    rintro e1 w1 ⟨rfl, hb1⟩
    go_wp2_with fail
    go_ret
    exact ⟨rfl, hb1⟩
end Go.Proofs.YtdomakklbcpnjaaDoor
