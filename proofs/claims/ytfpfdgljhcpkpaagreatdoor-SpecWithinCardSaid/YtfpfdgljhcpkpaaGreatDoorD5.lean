/- Contracts of the reference's Holds, Near and Same. -/
import Derived.Test.YtfpfdgljhcpkpaaGreatDoorB14
import Derived.Test.YtfpfdgljhcpkpaaGreatDoorD1
import Derived.IntWalk
namespace Go.Proofs.YtfpfdgljhcpkpaaGreatDoor
open Go.RowKit

theorem rlist_b (A : Option Addr) (c : Nat) (L : List (Int × Int)) (A' : Option Addr) (c' : Nat) (L' : List (Int × Int)) (w : World) (h : Sp w A c L) (h' : Sp w A' c' L') (hl : L.length ≤ 1000000) :
    Calls Tryz.prog 31 #[.slice A L.length c, .slice A' L'.length c'] w fun e w' => e = .returned (.bool (decide (L = L'))) ∧ Below w.heap.size w w' :=
  (rlist_any A c L A' c' L' w h h' hl).mono fun _ _ ⟨he, n, hw⟩ => ⟨he, by rw [← hw]; exact bel_drewN (Below.refl _ _) n⟩
theorem rlist_same (A : Option Addr) (c : Nat) (L : List (Int × Int)) (A' : Option Addr) (c' : Nat) (w : World) (h : Sp w A c L) (h' : Sp w A' c' L) (hl : L.length ≤ 1000000) :
    Calls Tryz.prog 31 #[.slice A L.length c, .slice A' L.length c'] w fun e w' => e = .returned (.bool true) ∧ Below w.heap.size w w' :=
  (rlist_b A c L A' c' L w h h' hl).mono fun _ _ ⟨he, hb⟩ => ⟨by rw [he]; simp, hb⟩
theorem same_same (A : Option Addr) (c : Nat) (L : List (Int × Int)) (A' : Option Addr) (c' : Nat) (w : World) (h : Sp w A c L) (h' : Sp w A' c' L) (hl : L.length ≤ 1000000) :
    Calls Tryz.prog 29 #[.agg #[.slice A L.length c], .agg #[.slice A' L.length c']] w fun e w' => e = .returned (.bool true) ∧ Below w.heap.size w w' :=
  (same_any A c L A' c' L w h h' hl).mono fun _ _ ⟨he, hb⟩ => ⟨by rw [he]; simp, hb⟩

theorem gap_step {gap : Int} {L T D : List (Int × Int)} {k : Nat} {x y : Int × Int} (hk : k < L.length) (hk1 : k + 1 < L.length) (hx : L[k] = x) (hy : L[k + 1] = y) (h : y.1 - x.2 ≤ gap) (he : D ++ gapsL gap (L.drop k) = T) : (D ++ [(x.2, y.1)]) ++ gapsL gap (L.drop (k + 1)) = T := by
  rw [drop_at hk, drop_at hk1, hx, hy, gapsL_yes h] at he
  rw [drop_at hk1, hy, ← he]; simp
theorem gap_skip {gap : Int} {L T D : List (Int × Int)} {k : Nat} {x y : Int × Int} (hk : k < L.length) (hk1 : k + 1 < L.length) (hx : L[k] = x) (hy : L[k + 1] = y) (h : ¬ y.1 - x.2 ≤ gap) (he : D ++ gapsL gap (L.drop k) = T) : D ++ gapsL gap (L.drop (k + 1)) = T := by
  rw [drop_at hk, drop_at hk1, hx, hy, gapsL_no h] at he
  rw [drop_at hk1, hy, ← he]
theorem gap_end {gap : Int} {L T D : List (Int × Int)} {k : Nat} (hk : ¬ k + 1 < L.length) (he : D ++ gapsL gap (L.drop k) = T) : D = T := by
  by_cases h : k < L.length
  · rw [drop_at h, drop_end hk] at he
    simpa [gapsL] using he
  · rw [drop_end h] at he
    simpa [gapsL] using he

set_option maxHeartbeats 2000000 in
theorem rsame_any (A : Option Addr) (c : Nat) (L : List (Int × Int)) (B : Option Addr) (d : Nat) (M : List (Int × Int)) (w : World) (h : Sp w A c L) (h' : Sp w B d M) (hl : L.length ≤ 100000) (hl' : M.length ≤ 100000) :
    Calls Tryz.prog 21 #[.slice A L.length c, .slice B M.length d] w fun e w' => e = .returned (.bool (decide (cano L = cano M))) ∧ Below w.heap.size w w' := by
  have HO1 := Lib.hid (rOf_any A c L w h hl)
  have HO2 := fun W hW => Lib.hid (rOf_any B d M W hW hl')
  have hH' := Lib.hid h'
  have hcl := cano_length L
  have hcm := cano_length M
  clear h h'
  go_enter Tryz.func21, Tryz.ntmps21
  go_wp2_with fail
  refine HO1.out.mono ?_
  rintro e w1 ⟨A1, c1, rfl, ho1, hb1⟩
  have H1 := Lib.hid (Own.sp ho1)
  have HB1 := Lib.hid hb1
  clear ho1 hb1 HO1
  go_wp2_with fail
  refine (HO2 _ (hH'.out.below HB1.out)).out.mono ?_
  rintro e w2 ⟨A2, c2, rfl, ho2, hb2⟩
  have H2 := Lib.hid (Own.sp ho2)
  have H1' := Lib.hid (H1.out.below hb2)
  have HB2 := Lib.hid (bel_chain hb2 HB1.out)
  clear ho2 hb2 HO2 H1 HB1 hH'
  generalize hXX : cano L = X at *
  generalize hYY : cano M = Y at *
  have HXX := Lib.hid hXX
  have HYY := Lib.hid hYY
  clear hXX hYY
  by_cases hll : X.length = Y.length
  · have hbb : ((X.length : Int) != (Y.length : Int)) = false := by simp [hll]
    have hle : X.length ≤ Y.length := by omega
    have hge : Y.length ≤ X.length := by omega
    clear hll
    go_wp2_with fail
    clear hbb
    go_loopw [7] (fun i wr => ∃ k n : Nat, k ≤ X.length ∧ i = .int .i64 k ∧ X.take k = Y.take k ∧ wr = w2.drewN n) (fun i _ => X.length - (intOf i).toNat)
    case atStart => exact ⟨0, 0, Nat.zero_le _, rfl, by simp, rfl⟩
    case round =>
      obtain ⟨k, n, hk, rfl, hin, rfl⟩ := hrel
      have HI := Lib.hid hin
      clear hin
      by_cases hlt : k < X.length
      · have hlt' : k < Y.length := by omega
        obtain ⟨b, off, e, hb, c1, c2⟩ := H1'.out.at_ hlt
        obtain ⟨b', off', e', hb', c1', c2'⟩ := H2.out.at_ hlt'
        obtain ⟨⟨x1, x2⟩, hx⟩ : ∃ x, X[k] = x := ⟨_, rfl⟩
        obtain ⟨⟨y1, y2⟩, hy⟩ : ∃ x, Y[k] = x := ⟨_, rfl⟩
        rw [hx] at c1 c2
        rw [hy] at c1' c2'
        have HX := Lib.hid hx
        have HY := Lib.hid hy
        clear hx hy
        subst e
        subst e'
        by_cases exy : x1 = y1 ∧ x2 = y2
        · obtain ⟨rfl, rfl⟩ := exy
          go_wp2_with fail
          go_quiet (fail)
          go_wp2_with fail
          go_roundw
          case rel => exact ⟨k + 1, _, by omega, by go_num, take_eq_step hlt hlt' HI.out (by rw [HX.out, HY.out]), rfl⟩
          case measure => simp [intOf]; omega
        · have HE : Hid (X[k] ≠ Y[k]) := by
            simp only [Hid]; rw [HX.out, HY.out]; intro h; injection h with h1 h2; exact exy ⟨h1, h2⟩
          have exy' : x1 = y1 → (x2 == y2) = false := fun h => by simpa using fun h2 => exy ⟨h, h2⟩
          clear exy
          by_cases e1 : x1 = y1
          · have e2 := exy' e1
            subst e1
            clear exy'
            go_wp2_with fail
            go_quiet (fail)
            go_wp2_with fail
            go_ret
            exact ⟨ret_bool (by rw [HXX.out, HYY.out]; exact (ne_of_at hlt hlt' HE.out).symm), bel_drewN (bel_drewN HB2.out _) _⟩
          · have e2 : (x1 == y1) = false := by simpa using e1
            clear exy' e1
            go_wp2_with fail
            go_quiet (fail)
            go_wp2_with fail
            go_ret
            exact ⟨ret_bool (by rw [HXX.out, HYY.out]; exact (ne_of_at hlt hlt' HE.out).symm), bel_drewN (bel_drewN HB2.out _) _⟩
      · go_wp2
        go_ret
        refine ⟨ret_bool ?_, bel_drewN HB2.out _⟩
        have h1 := HI.out
        rw [List.take_of_length_le (by omega), List.take_of_length_le (by omega)] at h1
        rw [HXX.out, HYY.out]
        simp [h1]
  · have hbb : ((X.length : Int) != (Y.length : Int)) = true := by rw [bne_iff_ne]; omega
    have H : Hid (decide (X = Y) = false) := by
      simp only [Hid, decide_eq_false_iff_not]; rintro rfl; exact hll rfl
    clear hll
    go_wp2_with fail
    go_ret
    exact ⟨ret_bool (by rw [HXX.out, HYY.out, H.out]), HB2.out⟩
end Go.Proofs.YtfpfdgljhcpkpaaGreatDoor
