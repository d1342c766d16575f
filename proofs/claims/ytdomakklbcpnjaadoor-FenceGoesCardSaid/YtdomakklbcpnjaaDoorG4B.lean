/- The walk of FenceGoes, in part. -/
import Derived.Test.YtdomakklbcpnjaaDoorG4A
namespace Go.Proofs.YtdomakklbcpnjaaDoor
open Go.RowKit

set_option maxHeartbeats 4000000 in
set_option maxRecDepth 100000 in
theorem fenceGoes_false (he : Bool) (A1 : Option Addr) (c1 : Nat) (R : List (Int × Int)) (A2 : Option Addr) (c2 : Nat) (H : List (Int × Int)) (A3 : Option Addr) (c3 : Nat) (F : List (Int × Int)) (tu fa : Bool) (ag : Int) (jo : Bool) (Am : Option Addr) (cm : Nat) (M : List (Int × Int)) (w : World) (h1 : Sp w A1 c1 R) (h2 : Sp w A2 c2 H) (h3 : Sp w A3 c3 F) (n1 : R.length ≤ 9223372036854775807) (n2 : H.length ≤ 9223372036854775807) (n3 : F.length ≤ 9223372036854775807) (h4 : Sp w Am cm M) (n4 : M.length ≤ 9223372036854775807) (hn : Names w) :
    Calls Tryd.prog 4 #[.agg #[.bool he, .slice A1 R.length c1, .slice A2 H.length c2, .slice A3 F.length c3, .bool tu, .bool fa, .int .i64 ag, .bool jo], .slice Am M.length cm, .bool false] w fun e w' => e = .returned (.bool true) ∧ Below w.heap.size w w' := by
  have S1_0 := Lib.hid (h1)
  have S2_0 := Lib.hid (h2)
  have S3_0 := Lib.hid (h3)
  have S4_0 := Lib.hid (h4)
  clear h1 h2 h3 h4
  have HN := Lib.hid hn
  clear hn
  go_enter Tryd.func4, Tryd.ntmps4
  go_wp2_with fail
  refine (awake_any _ (HN.out.alloc _)).mono ?_
  rintro e1 w1 ⟨rfl, hb1⟩
  have HB_1 : Hid (Below w.heap.size w w1) := bel_chain hb1 (by repeat (first | exact Below.refl _ _ | refine bel_drewN ?_ _ | refine bel_drew ?_ | refine bel_alloc ?_ _))
  have S1_1 : Hid (Sp w1 A1 c1 (R)) := Sp.below (by repeat (first | exact S1_0.out | refine Sp.alloc ?_ _ | refine Sp.drewN ?_ _ | refine Sp.drew ?_)) hb1
  have S2_1 : Hid (Sp w1 A2 c2 (H)) := Sp.below (by repeat (first | exact S2_0.out | refine Sp.alloc ?_ _ | refine Sp.drewN ?_ _ | refine Sp.drew ?_)) hb1
  have S3_1 : Hid (Sp w1 A3 c3 (F)) := Sp.below (by repeat (first | exact S3_0.out | refine Sp.alloc ?_ _ | refine Sp.drewN ?_ _ | refine Sp.drew ?_)) hb1
  have S4_1 : Hid (Sp w1 Am cm (M)) := Sp.below (by repeat (first | exact S4_0.out | refine Sp.alloc ?_ _ | refine Sp.drewN ?_ _ | refine Sp.drew ?_)) hb1
  have Bs_1 : Hid (w1.heap[w.heap.size]? = some (.cells #[.bool he, .slice A1 R.length c1, .slice A2 H.length c2, .slice A3 F.length c3, .bool tu, .bool fa, .int .i64 ag, .bool jo] 37 (0, 0))) := blk_keep hb1 (by repeat (first | exact blk_new (by first | rfl | (simp; done) | (simp; omega)) | refine blk_skip ?_ | refine blk_drewN ?_ | refine blk_drew ?_))
  have s0_1 : w1.cell? ⟨w.heap.size, 0, none⟩ = some (.bool he) := blk_cell Bs_1.out rfl
  have s1_1 : w1.cell? ⟨w.heap.size, 1, none⟩ = some (.slice A1 R.length c1) := blk_cell Bs_1.out rfl
  have s2_1 : w1.cell? ⟨w.heap.size, 2, none⟩ = some (.slice A2 H.length c2) := blk_cell Bs_1.out rfl
  have s3_1 : w1.cell? ⟨w.heap.size, 3, none⟩ = some (.slice A3 F.length c3) := blk_cell Bs_1.out rfl
  have s4_1 : w1.cell? ⟨w.heap.size, 4, none⟩ = some (.bool tu) := blk_cell Bs_1.out rfl
  have s5_1 : w1.cell? ⟨w.heap.size, 5, none⟩ = some (.bool fa) := blk_cell Bs_1.out rfl
  have s6_1 : w1.cell? ⟨w.heap.size, 6, none⟩ = some (.int .i64 ag) := blk_cell Bs_1.out rfl
  have s7_1 : w1.cell? ⟨w.heap.size, 7, none⟩ = some (.bool jo) := blk_cell Bs_1.out rfl
  have sz_1 : w.heap.size < w1.heap.size := blk_lt Bs_1.out
  clear S1_0 S2_0 S3_0 S4_0 hb1
  go_wp2_with fail
  refine (rgreat_any he A1 c1 R A2 c2 H A3 c3 F tu fa ag jo _ n1 n2 n3).mono ?_
  rintro e2 w2 ⟨rfl, hb2⟩
  have HB_2 : Hid (Below w.heap.size w w2) := bel_chain hb2 (by repeat (first | exact HB_1.out | refine bel_drewN ?_ _ | refine bel_drew ?_ | refine bel_alloc ?_ _))
  have S1_2 : Hid (Sp w2 A1 c1 (R)) := Sp.below (by repeat (first | exact S1_1.out | refine Sp.alloc ?_ _ | refine Sp.drewN ?_ _ | refine Sp.drew ?_)) hb2
  have S2_2 : Hid (Sp w2 A2 c2 (H)) := Sp.below (by repeat (first | exact S2_1.out | refine Sp.alloc ?_ _ | refine Sp.drewN ?_ _ | refine Sp.drew ?_)) hb2
  have S3_2 : Hid (Sp w2 A3 c3 (F)) := Sp.below (by repeat (first | exact S3_1.out | refine Sp.alloc ?_ _ | refine Sp.drewN ?_ _ | refine Sp.drew ?_)) hb2
  have S4_2 : Hid (Sp w2 Am cm (M)) := Sp.below (by repeat (first | exact S4_1.out | refine Sp.alloc ?_ _ | refine Sp.drewN ?_ _ | refine Sp.drew ?_)) hb2
  have Bs_2 : Hid (w2.heap[w.heap.size]? = some (.cells #[.bool he, .slice A1 R.length c1, .slice A2 H.length c2, .slice A3 F.length c3, .bool tu, .bool fa, .int .i64 ag, .bool jo] 37 (0, 0))) := blk_keep hb2 (blk_keep (W := w1) (by (repeat (first | exact Below.refl _ _ | refine bel_drewN ?_ _ | refine bel_drew ?_ | refine bel_alloc ?_ _ | refine bel_set ?_ (by simp) _))) Bs_1.out)
  have s0_2 : w2.cell? ⟨w.heap.size, 0, none⟩ = some (.bool he) := blk_cell Bs_2.out rfl
  have s1_2 : w2.cell? ⟨w.heap.size, 1, none⟩ = some (.slice A1 R.length c1) := blk_cell Bs_2.out rfl
  have s2_2 : w2.cell? ⟨w.heap.size, 2, none⟩ = some (.slice A2 H.length c2) := blk_cell Bs_2.out rfl
  have s3_2 : w2.cell? ⟨w.heap.size, 3, none⟩ = some (.slice A3 F.length c3) := blk_cell Bs_2.out rfl
  have s4_2 : w2.cell? ⟨w.heap.size, 4, none⟩ = some (.bool tu) := blk_cell Bs_2.out rfl
  have s5_2 : w2.cell? ⟨w.heap.size, 5, none⟩ = some (.bool fa) := blk_cell Bs_2.out rfl
  have s6_2 : w2.cell? ⟨w.heap.size, 6, none⟩ = some (.int .i64 ag) := blk_cell Bs_2.out rfl
  have s7_2 : w2.cell? ⟨w.heap.size, 7, none⟩ = some (.bool jo) := blk_cell Bs_2.out rfl
  have sz_2 : w.heap.size < w2.heap.size := blk_lt Bs_2.out
  clear S1_1 S2_1 S3_1 S4_1 Bs_1 s0_1 s1_1 s2_1 s3_1 s4_1 s5_1 s6_1 s7_1 sz_1 HB_1 hb2
  cases hg : greatS R H F
  rotate_left
  · go_wp2_with fail
    refine (awake_any _ (HN.out.below HB_2.out)).mono ?_
    rintro e3 w3 ⟨rfl, hb3⟩
    have HB_3 : Hid (Below w.heap.size w w3) := bel_chain hb3 (by repeat (first | exact HB_2.out | refine bel_drewN ?_ _ | refine bel_drew ?_ | refine bel_alloc ?_ _))
    have S1_3 : Hid (Sp w3 A1 c1 (R)) := Sp.below (by repeat (first | exact S1_2.out | refine Sp.alloc ?_ _ | refine Sp.drewN ?_ _ | refine Sp.drew ?_)) hb3
    have S2_3 : Hid (Sp w3 A2 c2 (H)) := Sp.below (by repeat (first | exact S2_2.out | refine Sp.alloc ?_ _ | refine Sp.drewN ?_ _ | refine Sp.drew ?_)) hb3
    have S3_3 : Hid (Sp w3 A3 c3 (F)) := Sp.below (by repeat (first | exact S3_2.out | refine Sp.alloc ?_ _ | refine Sp.drewN ?_ _ | refine Sp.drew ?_)) hb3
    have S4_3 : Hid (Sp w3 Am cm (M)) := Sp.below (by repeat (first | exact S4_2.out | refine Sp.alloc ?_ _ | refine Sp.drewN ?_ _ | refine Sp.drew ?_)) hb3
    have Bs_3 : Hid (w3.heap[w.heap.size]? = some (.cells #[.bool he, .slice A1 R.length c1, .slice A2 H.length c2, .slice A3 F.length c3, .bool tu, .bool fa, .int .i64 ag, .bool jo] 37 (0, 0))) := blk_keep hb3 (blk_keep (W := w2) (by (repeat (first | exact Below.refl _ _ | refine bel_drewN ?_ _ | refine bel_drew ?_ | refine bel_alloc ?_ _ | refine bel_set ?_ (by simp) _))) Bs_2.out)
    have s0_3 : w3.cell? ⟨w.heap.size, 0, none⟩ = some (.bool he) := blk_cell Bs_3.out rfl
    have s1_3 : w3.cell? ⟨w.heap.size, 1, none⟩ = some (.slice A1 R.length c1) := blk_cell Bs_3.out rfl
    have s2_3 : w3.cell? ⟨w.heap.size, 2, none⟩ = some (.slice A2 H.length c2) := blk_cell Bs_3.out rfl
    have s3_3 : w3.cell? ⟨w.heap.size, 3, none⟩ = some (.slice A3 F.length c3) := blk_cell Bs_3.out rfl
    have s4_3 : w3.cell? ⟨w.heap.size, 4, none⟩ = some (.bool tu) := blk_cell Bs_3.out rfl
    have s5_3 : w3.cell? ⟨w.heap.size, 5, none⟩ = some (.bool fa) := blk_cell Bs_3.out rfl
    have s6_3 : w3.cell? ⟨w.heap.size, 6, none⟩ = some (.int .i64 ag) := blk_cell Bs_3.out rfl
    have s7_3 : w3.cell? ⟨w.heap.size, 7, none⟩ = some (.bool jo) := blk_cell Bs_3.out rfl
    have sz_3 : w.heap.size < w3.heap.size := blk_lt Bs_3.out
    clear S1_2 S2_2 S3_2 S4_2 Bs_2 s0_2 s1_2 s2_2 s3_2 s4_2 s5_2 s6_2 s7_2 sz_2 HB_2 hb3
    go_wp2_with fail
    go_ret
    exact ⟨rfl, (by repeat (first | (with_reducible exact HB_3.out) | (with_reducible refine bel_drewN ?_ _) | (with_reducible refine bel_drew ?_) | (with_reducible refine bel_alloc ?_ _) | (with_reducible refine bel_set ?_ (by first | omega | (dsimp only; omega)) _)))⟩
  · have hgs : R.length ≤ 12 ∧ H.length ≤ 12 ∧ F.length ≤ 12 := by simp [greatS] at hg; omega
    by_cases hm5 : 5 < M.length
    · have hm5b : decide (5 < M.length) = true := by simpa using hm5
      go_wp2_with fail
      refine (awake_any _ (HN.out.below HB_2.out)).mono ?_
      rintro e3 w3 ⟨rfl, hb3⟩
      have HB_3 : Hid (Below w.heap.size w w3) := bel_chain hb3 (by repeat (first | exact HB_2.out | refine bel_drewN ?_ _ | refine bel_drew ?_ | refine bel_alloc ?_ _))
      have S1_3 : Hid (Sp w3 A1 c1 (R)) := Sp.below (by repeat (first | exact S1_2.out | refine Sp.alloc ?_ _ | refine Sp.drewN ?_ _ | refine Sp.drew ?_)) hb3
      have S2_3 : Hid (Sp w3 A2 c2 (H)) := Sp.below (by repeat (first | exact S2_2.out | refine Sp.alloc ?_ _ | refine Sp.drewN ?_ _ | refine Sp.drew ?_)) hb3
      have S3_3 : Hid (Sp w3 A3 c3 (F)) := Sp.below (by repeat (first | exact S3_2.out | refine Sp.alloc ?_ _ | refine Sp.drewN ?_ _ | refine Sp.drew ?_)) hb3
      have S4_3 : Hid (Sp w3 Am cm (M)) := Sp.below (by repeat (first | exact S4_2.out | refine Sp.alloc ?_ _ | refine Sp.drewN ?_ _ | refine Sp.drew ?_)) hb3
      have Bs_3 : Hid (w3.heap[w.heap.size]? = some (.cells #[.bool he, .slice A1 R.length c1, .slice A2 H.length c2, .slice A3 F.length c3, .bool tu, .bool fa, .int .i64 ag, .bool jo] 37 (0, 0))) := blk_keep hb3 (blk_keep (W := w2) (by (repeat (first | exact Below.refl _ _ | refine bel_drewN ?_ _ | refine bel_drew ?_ | refine bel_alloc ?_ _ | refine bel_set ?_ (by simp) _))) Bs_2.out)
      have s0_3 : w3.cell? ⟨w.heap.size, 0, none⟩ = some (.bool he) := blk_cell Bs_3.out rfl
      have s1_3 : w3.cell? ⟨w.heap.size, 1, none⟩ = some (.slice A1 R.length c1) := blk_cell Bs_3.out rfl
      have s2_3 : w3.cell? ⟨w.heap.size, 2, none⟩ = some (.slice A2 H.length c2) := blk_cell Bs_3.out rfl
      have s3_3 : w3.cell? ⟨w.heap.size, 3, none⟩ = some (.slice A3 F.length c3) := blk_cell Bs_3.out rfl
      have s4_3 : w3.cell? ⟨w.heap.size, 4, none⟩ = some (.bool tu) := blk_cell Bs_3.out rfl
      have s5_3 : w3.cell? ⟨w.heap.size, 5, none⟩ = some (.bool fa) := blk_cell Bs_3.out rfl
      have s6_3 : w3.cell? ⟨w.heap.size, 6, none⟩ = some (.int .i64 ag) := blk_cell Bs_3.out rfl
      have s7_3 : w3.cell? ⟨w.heap.size, 7, none⟩ = some (.bool jo) := blk_cell Bs_3.out rfl
      have sz_3 : w.heap.size < w3.heap.size := blk_lt Bs_3.out
      clear S1_2 S2_2 S3_2 S4_2 Bs_2 s0_2 s1_2 s2_2 s3_2 s4_2 s5_2 s6_2 s7_2 sz_2 HB_2 hb3
      go_wp2_with fail
      go_ret
      exact ⟨rfl, (by repeat (first | (with_reducible exact HB_3.out) | (with_reducible refine bel_drewN ?_ _) | (with_reducible refine bel_drew ?_) | (with_reducible refine bel_alloc ?_ _) | (with_reducible refine bel_set ?_ (by first | omega | (dsimp only; omega)) _)))⟩
    · have hm5b : decide (5 < M.length) = false := by simpa using hm5
      obtain ⟨l1, l2, l3⟩ := hgs
      have m1 := cano_length R
      have m2 := cano_length H
      have m3 := cano_length F
      have m4 := cano_length M
      have K1 := Lib.hid (cano_canon R)
      have K2 := Lib.hid (cano_canon H)
      have K3 := Lib.hid (cano_canon F)
      have K4 := Lib.hid (cano_canon M)
      obtain ⟨X, hX⟩ : ∃ X, cano R = X := ⟨_, rfl⟩
      obtain ⟨U, hU⟩ : ∃ U, cano H = U := ⟨_, rfl⟩
      obtain ⟨V, hV⟩ : ∃ V, cano F = V := ⟨_, rfl⟩
      rw [hX] at K1 m1
      rw [hU] at K2 m2
      rw [hV] at K3 m3
      have HX := Lib.hid hX
      have HU := Lib.hid hU
      have HV := Lib.hid hV
      clear hX hU hV hg
      go_wp2_with fail
      refine (own_as he A1 c1 R A2 c2 H A3 c3 F tu fa ag jo X U V HX.out HU.out HV.out _ (by repeat (first | exact S1_2.out | refine Sp.alloc ?_ _ | refine Sp.drewN ?_ _ | refine Sp.drew ?_)) (by repeat (first | exact S2_2.out | refine Sp.alloc ?_ _ | refine Sp.drewN ?_ _ | refine Sp.drew ?_)) (by repeat (first | exact S3_2.out | refine Sp.alloc ?_ _ | refine Sp.drewN ?_ _ | refine Sp.drew ?_)) (by omega) (by omega) (by omega)).mono ?_
      rintro e3 w3 ⟨B1, d1, B2, d2, B3, d3, rfl, hs3, ht3, hu3, hb3⟩
      have HB_3 : Hid (Below w.heap.size w w3) := bel_chain hb3 (by repeat (first | exact HB_2.out | refine bel_drewN ?_ _ | refine bel_drew ?_ | refine bel_alloc ?_ _))
      have S1_3 : Hid (Sp w3 A1 c1 (R)) := Sp.below (by repeat (first | exact S1_2.out | refine Sp.alloc ?_ _ | refine Sp.drewN ?_ _ | refine Sp.drew ?_)) hb3
      have S2_3 : Hid (Sp w3 A2 c2 (H)) := Sp.below (by repeat (first | exact S2_2.out | refine Sp.alloc ?_ _ | refine Sp.drewN ?_ _ | refine Sp.drew ?_)) hb3
      have S3_3 : Hid (Sp w3 A3 c3 (F)) := Sp.below (by repeat (first | exact S3_2.out | refine Sp.alloc ?_ _ | refine Sp.drewN ?_ _ | refine Sp.drew ?_)) hb3
      have S4_3 : Hid (Sp w3 Am cm (M)) := Sp.below (by repeat (first | exact S4_2.out | refine Sp.alloc ?_ _ | refine Sp.drewN ?_ _ | refine Sp.drew ?_)) hb3
      have Bs_3 : Hid (w3.heap[w.heap.size]? = some (.cells #[.bool he, .slice A1 R.length c1, .slice A2 H.length c2, .slice A3 F.length c3, .bool tu, .bool fa, .int .i64 ag, .bool jo] 37 (0, 0))) := blk_keep hb3 (blk_keep (W := w2) (by (repeat (first | exact Below.refl _ _ | refine bel_drewN ?_ _ | refine bel_drew ?_ | refine bel_alloc ?_ _ | refine bel_set ?_ (by simp) _))) Bs_2.out)
      have s0_3 : w3.cell? ⟨w.heap.size, 0, none⟩ = some (.bool he) := blk_cell Bs_3.out rfl
      have s1_3 : w3.cell? ⟨w.heap.size, 1, none⟩ = some (.slice A1 R.length c1) := blk_cell Bs_3.out rfl
      have s2_3 : w3.cell? ⟨w.heap.size, 2, none⟩ = some (.slice A2 H.length c2) := blk_cell Bs_3.out rfl
      have s3_3 : w3.cell? ⟨w.heap.size, 3, none⟩ = some (.slice A3 F.length c3) := blk_cell Bs_3.out rfl
      have s4_3 : w3.cell? ⟨w.heap.size, 4, none⟩ = some (.bool tu) := blk_cell Bs_3.out rfl
      have s5_3 : w3.cell? ⟨w.heap.size, 5, none⟩ = some (.bool fa) := blk_cell Bs_3.out rfl
      have s6_3 : w3.cell? ⟨w.heap.size, 6, none⟩ = some (.int .i64 ag) := blk_cell Bs_3.out rfl
      have s7_3 : w3.cell? ⟨w.heap.size, 7, none⟩ = some (.bool jo) := blk_cell Bs_3.out rfl
      have sz_3 : w.heap.size < w3.heap.size := blk_lt Bs_3.out
      have Sa1_3 : Hid (Sp w3 B1 d1 (X)) := hs3
      have Sa2_3 : Hid (Sp w3 B2 d2 (U)) := ht3
      have Sa3_3 : Hid (Sp w3 B3 d3 (V)) := hu3
      clear S1_2 S2_2 S3_2 S4_2 Bs_2 s0_2 s1_2 s2_2 s3_2 s4_2 s5_2 s6_2 s7_2 sz_2 hs3 ht3 hu3 HB_2 hb3
      clear S1_3
      clear S2_3
      clear S3_3
      clear s0_3 s1_3 s2_3 s3_3 s4_3 s5_3 s6_3 s7_3 sz_3 Bs_3
      go_upto_region 7 with fail
      obtain ⟨w4, hw4⟩ : ∃ w4, World.alloc (World.alloc w3 (.cells #[.bool he, .slice B1 X.length d1, .slice B2 U.length d2, .slice B3 V.length d3, .bool tu, .bool fa, .int .i64 ag, .bool jo] 40)) (.cells #[.bool he, .slice B1 X.length d1, .slice B2 U.length d2, .slice B3 V.length d3, .bool tu, .bool fa, .int .i64 ag, .bool jo] 40) = w4 := ⟨_, rfl⟩
      rw [hw4]
      have hb4 : Below w3.heap.size w3 w4 := by rw [← hw4]; exact bel_alloc (bel_alloc (Below.refl _ _) _) _
      have Bx_4 : Hid (w4.heap[w3.heap.size]? = some (.cells #[.bool he, .slice B1 X.length d1, .slice B2 U.length d2, .slice B3 V.length d3, .bool tu, .bool fa, .int .i64 ag, .bool jo] 40 (0, 0))) := by simp only [Hid]; rw [← hw4]; exact blk_skip (blk_new rfl)
      have By_4 : Hid (w4.heap[w3.heap.size + 1]? = some (.cells #[.bool he, .slice B1 X.length d1, .slice B2 U.length d2, .slice B3 V.length d3, .bool tu, .bool fa, .int .i64 ag, .bool jo] 40 (0, 0))) := by simp only [Hid]; rw [← hw4]; exact blk_new (by simp)
      have HB_4 : Hid (Below w.heap.size w w4) := bel_chain hb4 HB_3.out
      have S4_4 := Lib.hid (S4_3.out.below hb4)
      have Sa1_4 := Lib.hid (Sa1_3.out.below hb4)
      have Sa2_4 := Lib.hid (Sa2_3.out.below hb4)
      have Sa3_4 := Lib.hid (Sa3_3.out.below hb4)
      have y_4 : w4.cell? ⟨w3.heap.size + 1, 2, none⟩ = some (.slice B2 U.length d2) := blk_cell By_4.out rfl
      have zw : w.heap.size ≤ w3.heap.size := HB_3.out.size
      have lN := ofOp_length U (cano M) 1
      clear hw4 hb4 HB_3 S4_3 Sa1_3 Sa2_3 Sa3_3
      go_cut [24] (fun s24 wx => s24 = .bool false ∧ ∃ (An : Option Addr) (cn : Nat), wx.heap[w3.heap.size + 1]? = some (.cells #[.bool he, .slice B1 X.length d1, .slice An (ofOp U (cano M) 1).length cn, .slice B3 V.length d3, .bool tu, .bool fa, .int .i64 ag, .bool jo] 40 (0, 0)) ∧ wx.heap[w3.heap.size]? = some (.cells #[.bool he, .slice B1 X.length d1, .slice B2 U.length d2, .slice B3 V.length d3, .bool tu, .bool fa, .int .i64 ag, .bool jo] 40 (0, 0)) ∧ Sp wx An cn (ofOp U (cano M) 1) ∧ Sp wx B1 d1 X ∧ Sp wx B2 d2 U ∧ Sp wx B3 d3 V ∧ Below w.heap.size w wx)
      case first =>
        first
          | (go_region_with ((first
              | (go_at_call 16; refine (of_any Am cm M _ (by repeat (first | exact S4_4.out | refine Sp.drew ?_)) (by omega)).mono ?_; rintro e5 w5 ⟨Ao, co, rfl, hs5, hb5⟩; have hq5 : Below w4.heap.size w4 w5 := bel_chain hb5 (by repeat (first | exact Below.refl _ _ | refine bel_drew ?_)); have So_5 := Lib.hid hs5; have y_5 := cell_keep hq5 y_4; have Q5 := Lib.hid hq5; clear hs5 hb5 hq5)
              | (go_at_call 18; refine (or_any B2 d2 U Ao co (cano M) _ (by exact Sa2_4.out.below Q5.out) (by exact So_5.out) K2.out K4.out (by omega) (by omega)).mono ?_; rintro e6 w6 ⟨An, cn, rfl, hs6, hb6⟩; have hq6 : Below w4.heap.size w4 w6 := bel_chain hb6 Q5.out; have Sn_6 := Lib.hid hs6; have By_6 := Lib.hid (blk_keep hq6 By_4.out); have y_6 : w6.cell? ⟨w3.heap.size + 1, 2, none⟩ = some (.slice B2 U.length d2) := blk_cell By_6.out rfl; have yf_6 : w6.frozen? ⟨w3.heap.size + 1, 2, none⟩ = false := blk_frozen By_6.out; have yz_6 : w3.heap.size + 1 < w6.heap.size := blk_lt By_6.out; have Q6 := Lib.hid hq6; clear hs6 hb6 hq6))))
          | fail
        all_goals go_wp2_with fail
        all_goals go_meet
        all_goals exact ⟨rfl, An, cn, blk_set By_6.out, blk_set_ne (by show w3.heap.size ≠ w3.heap.size + 1; omega) (blk_keep Q6.out Bx_4.out), Sn_6.out.setOff (fun h0 => Sn_6.out.off_blk h0 By_6.out (noPair8 ..)) _, (Sa1_4.out.below Q6.out).setOff (fun h0 => (Sa1_4.out.below Q6.out).off_blk h0 By_6.out (noPair8 ..)) _, (Sa2_4.out.below Q6.out).setOff (fun h0 => (Sa2_4.out.below Q6.out).off_blk h0 By_6.out (noPair8 ..)) _, (Sa3_4.out.below Q6.out).setOff (fun h0 => (Sa3_4.out.below Q6.out).off_blk h0 By_6.out (noPair8 ..)) _, bel_set (bel_chain Q6.out HB_4.out) (by show w.heap.size ≤ w3.heap.size + 1; omega) _⟩
      case rest =>
        obtain ⟨rfl, An, cn, hBy, hBx, hSn, hS1, hS2, hS3, hbx⟩ := hcut
        obtain ⟨w7, rfl⟩ : ∃ w7, w7 = wc := ⟨_, rfl⟩
        have HSV := Lib.hid (SubL.refl V)
        have HSU := Lib.hid (SubL.or U (cano M))
        have KN := Lib.hid (ofOp_canon U (cano M) 1)
        generalize ofOp U (cano M) 1 = N at *
        have By_7 := Lib.hid hBy
        have Bx_7 := Lib.hid hBx
        have Sn_7 := Lib.hid hSn
        have Sa1_7 := Lib.hid hS1
        have Sa2_7 := Lib.hid hS2
        have Sa3_7 := Lib.hid hS3
        have HB_7 := Lib.hid hbx
        have xz_7 : w3.heap.size < w7.heap.size := blk_lt hBx
        have yz_7 : w3.heap.size + 1 < w7.heap.size := blk_lt hBy
        clear hBy hBx hSn hS1 hS2 hS3 hbx Bx_4 By_4 HB_4 S4_4 Sa1_4 Sa2_4 Sa3_4 y_4
        have ly := lostL_length tu fa jo X N V
        have lx := lostL_length tu fa jo X U V
        have HGL := Lib.hid (goes_lost (R := X) tu fa jo HSU.out HSV.out)
        have HGD := Lib.hid (goes_decide (R := X) he tu fa jo ag HSU.out HSV.out)
        have HGS := Lib.hid (goes_sure (R := X) HSU.out HSV.out)
        cases hsu : (wantL X U V).isEmpty
        · have HSUR := Lib.hid hsu
          clear hsu
          by_cases hd : decideL he tu fa jo ag X U V = 1
          · have hd1 := Lib.hid hd
            clear hd
            have x0_7 : w7.cell? ⟨w3.heap.size, 0, none⟩ = some (.bool he) := blk_cell Bx_7.out rfl
            have x1_7 : w7.cell? ⟨w3.heap.size, 1, none⟩ = some (.slice B1 X.length d1) := blk_cell Bx_7.out rfl
            have x2_7 : w7.cell? ⟨w3.heap.size, 2, none⟩ = some (.slice B2 U.length d2) := blk_cell Bx_7.out rfl
            have x3_7 : w7.cell? ⟨w3.heap.size, 3, none⟩ = some (.slice B3 V.length d3) := blk_cell Bx_7.out rfl
            have x4_7 : w7.cell? ⟨w3.heap.size, 4, none⟩ = some (.bool tu) := blk_cell Bx_7.out rfl
            have x5_7 : w7.cell? ⟨w3.heap.size, 5, none⟩ = some (.bool fa) := blk_cell Bx_7.out rfl
            have x6_7 : w7.cell? ⟨w3.heap.size, 6, none⟩ = some (.int .i64 ag) := blk_cell Bx_7.out rfl
            have x7_7 : w7.cell? ⟨w3.heap.size, 7, none⟩ = some (.bool jo) := blk_cell Bx_7.out rfl
            have xz_7 : w3.heap.size < w7.heap.size := blk_lt Bx_7.out
            have y0_7 : w7.cell? ⟨w3.heap.size + 1, 0, none⟩ = some (.bool he) := blk_cell By_7.out rfl
            have y1_7 : w7.cell? ⟨w3.heap.size + 1, 1, none⟩ = some (.slice B1 X.length d1) := blk_cell By_7.out rfl
            have y2_7 : w7.cell? ⟨w3.heap.size + 1, 2, none⟩ = some (.slice An N.length cn) := blk_cell By_7.out rfl
            have y3_7 : w7.cell? ⟨w3.heap.size + 1, 3, none⟩ = some (.slice B3 V.length d3) := blk_cell By_7.out rfl
            have y4_7 : w7.cell? ⟨w3.heap.size + 1, 4, none⟩ = some (.bool tu) := blk_cell By_7.out rfl
            have y5_7 : w7.cell? ⟨w3.heap.size + 1, 5, none⟩ = some (.bool fa) := blk_cell By_7.out rfl
            have y6_7 : w7.cell? ⟨w3.heap.size + 1, 6, none⟩ = some (.int .i64 ag) := blk_cell By_7.out rfl
            have y7_7 : w7.cell? ⟨w3.heap.size + 1, 7, none⟩ = some (.bool jo) := blk_cell By_7.out rfl
            have yz_7 : w3.heap.size + 1 < w7.heap.size := blk_lt By_7.out
            have tok8 : True := trivial
            go_wp2_with fail
            first
              | (go_region_with ((first
                    | (go_at_call 25
                       have _tk := tok8
                       clear _tk tok8
                       refine (lost_any he B1 d1 X An cn N B3 d3 V tu fa ag jo _ (by repeat (first | exact Sa1_7.out | refine Sp.alloc ?_ _ | refine Sp.drewN ?_ _ | refine Sp.drew ?_)) (by repeat (first | exact Sn_7.out | refine Sp.alloc ?_ _ | refine Sp.drewN ?_ _ | refine Sp.drew ?_)) (by repeat (first | exact Sa3_7.out | refine Sp.alloc ?_ _ | refine Sp.drewN ?_ _ | refine Sp.drew ?_)) K1.out KN.out K3.out (by omega) (by omega) (by omega)).mono ?_
                       rintro e8 w8 ⟨Ap, cp, rfl, hs8, hb8⟩
                       have HB_8 : Hid (Below w.heap.size w w8) := bel_chain hb8 (by repeat (first | exact HB_7.out | refine bel_drewN ?_ _ | refine bel_drew ?_ | refine bel_alloc ?_ _))
                       have Sa1_8 : Hid (Sp w8 B1 d1 (X)) := Sp.below (by repeat (first | exact Sa1_7.out | refine Sp.alloc ?_ _ | refine Sp.drewN ?_ _ | refine Sp.drew ?_)) hb8
                       have Sa2_8 : Hid (Sp w8 B2 d2 (U)) := Sp.below (by repeat (first | exact Sa2_7.out | refine Sp.alloc ?_ _ | refine Sp.drewN ?_ _ | refine Sp.drew ?_)) hb8
                       have Sa3_8 : Hid (Sp w8 B3 d3 (V)) := Sp.below (by repeat (first | exact Sa3_7.out | refine Sp.alloc ?_ _ | refine Sp.drewN ?_ _ | refine Sp.drew ?_)) hb8
                       have Sn_8 : Hid (Sp w8 An cn (N)) := Sp.below (by repeat (first | exact Sn_7.out | refine Sp.alloc ?_ _ | refine Sp.drewN ?_ _ | refine Sp.drew ?_)) hb8
                       have Bx_8 : Hid (w8.heap[w3.heap.size]? = some (.cells #[.bool he, .slice B1 X.length d1, .slice B2 U.length d2, .slice B3 V.length d3, .bool tu, .bool fa, .int .i64 ag, .bool jo] 40 (0, 0))) := blk_keep hb8 (blk_keep (W := w7) (by (repeat (first | exact Below.refl _ _ | refine bel_drewN ?_ _ | refine bel_drew ?_ | refine bel_alloc ?_ _ | refine bel_set ?_ (by simp) _))) Bx_7.out)
                       have By_8 : Hid (w8.heap[w3.heap.size + 1]? = some (.cells #[.bool he, .slice B1 X.length d1, .slice An N.length cn, .slice B3 V.length d3, .bool tu, .bool fa, .int .i64 ag, .bool jo] 40 (0, 0))) := blk_keep hb8 (blk_keep (W := w7) (by (repeat (first | exact Below.refl _ _ | refine bel_drewN ?_ _ | refine bel_drew ?_ | refine bel_alloc ?_ _ | refine bel_set ?_ (by simp) _))) By_7.out)
                       have x0_8 : w8.cell? ⟨w3.heap.size, 0, none⟩ = some (.bool he) := blk_cell Bx_8.out rfl
                       have x1_8 : w8.cell? ⟨w3.heap.size, 1, none⟩ = some (.slice B1 X.length d1) := blk_cell Bx_8.out rfl
                       have x2_8 : w8.cell? ⟨w3.heap.size, 2, none⟩ = some (.slice B2 U.length d2) := blk_cell Bx_8.out rfl
                       have x3_8 : w8.cell? ⟨w3.heap.size, 3, none⟩ = some (.slice B3 V.length d3) := blk_cell Bx_8.out rfl
                       have x4_8 : w8.cell? ⟨w3.heap.size, 4, none⟩ = some (.bool tu) := blk_cell Bx_8.out rfl
                       have x5_8 : w8.cell? ⟨w3.heap.size, 5, none⟩ = some (.bool fa) := blk_cell Bx_8.out rfl
                       have x6_8 : w8.cell? ⟨w3.heap.size, 6, none⟩ = some (.int .i64 ag) := blk_cell Bx_8.out rfl
                       have x7_8 : w8.cell? ⟨w3.heap.size, 7, none⟩ = some (.bool jo) := blk_cell Bx_8.out rfl
                       have xz_8 : w3.heap.size < w8.heap.size := blk_lt Bx_8.out
                       have y0_8 : w8.cell? ⟨w3.heap.size + 1, 0, none⟩ = some (.bool he) := blk_cell By_8.out rfl
                       have y1_8 : w8.cell? ⟨w3.heap.size + 1, 1, none⟩ = some (.slice B1 X.length d1) := blk_cell By_8.out rfl
                       have y2_8 : w8.cell? ⟨w3.heap.size + 1, 2, none⟩ = some (.slice An N.length cn) := blk_cell By_8.out rfl
                       have y3_8 : w8.cell? ⟨w3.heap.size + 1, 3, none⟩ = some (.slice B3 V.length d3) := blk_cell By_8.out rfl
                       have y4_8 : w8.cell? ⟨w3.heap.size + 1, 4, none⟩ = some (.bool tu) := blk_cell By_8.out rfl
                       have y5_8 : w8.cell? ⟨w3.heap.size + 1, 5, none⟩ = some (.bool fa) := blk_cell By_8.out rfl
                       have y6_8 : w8.cell? ⟨w3.heap.size + 1, 6, none⟩ = some (.int .i64 ag) := blk_cell By_8.out rfl
                       have y7_8 : w8.cell? ⟨w3.heap.size + 1, 7, none⟩ = some (.bool jo) := blk_cell By_8.out rfl
                       have yz_8 : w3.heap.size + 1 < w8.heap.size := blk_lt By_8.out
                       have Sp_8 : Hid (Sp w8 Ap cp (lostL tu fa jo X N V)) := hs8
                       clear Sa1_7 Sa2_7 Sa3_7 Sn_7 Bx_7 x0_7 x1_7 x2_7 x3_7 x4_7 x5_7 x6_7 x7_7 xz_7 By_7 y0_7 y1_7 y2_7 y3_7 y4_7 y5_7 y6_7 y7_7 yz_7 hs8 HB_7 hb8
                       have tok9 : True := trivial)
                    | (go_at_call 25
                       have _tk := tok9
                       clear _tk tok9
                       refine (lost_any he B1 d1 X B2 d2 U B3 d3 V tu fa ag jo _ (by repeat (first | exact Sa1_8.out | refine Sp.alloc ?_ _ | refine Sp.drewN ?_ _ | refine Sp.drew ?_)) (by repeat (first | exact Sa2_8.out | refine Sp.alloc ?_ _ | refine Sp.drewN ?_ _ | refine Sp.drew ?_)) (by repeat (first | exact Sa3_8.out | refine Sp.alloc ?_ _ | refine Sp.drewN ?_ _ | refine Sp.drew ?_)) K1.out K2.out K3.out (by omega) (by omega) (by omega)).mono ?_
                       rintro e9 w9 ⟨Aq, cq, rfl, hs9, hb9⟩
                       have HB_9 : Hid (Below w.heap.size w w9) := bel_chain hb9 (by repeat (first | exact HB_8.out | refine bel_drewN ?_ _ | refine bel_drew ?_ | refine bel_alloc ?_ _))
                       have Sa1_9 : Hid (Sp w9 B1 d1 (X)) := Sp.below (by repeat (first | exact Sa1_8.out | refine Sp.alloc ?_ _ | refine Sp.drewN ?_ _ | refine Sp.drew ?_)) hb9
                       have Sa2_9 : Hid (Sp w9 B2 d2 (U)) := Sp.below (by repeat (first | exact Sa2_8.out | refine Sp.alloc ?_ _ | refine Sp.drewN ?_ _ | refine Sp.drew ?_)) hb9
                       have Sa3_9 : Hid (Sp w9 B3 d3 (V)) := Sp.below (by repeat (first | exact Sa3_8.out | refine Sp.alloc ?_ _ | refine Sp.drewN ?_ _ | refine Sp.drew ?_)) hb9
                       have Sn_9 : Hid (Sp w9 An cn (N)) := Sp.below (by repeat (first | exact Sn_8.out | refine Sp.alloc ?_ _ | refine Sp.drewN ?_ _ | refine Sp.drew ?_)) hb9
                       have Sp_9 : Hid (Sp w9 Ap cp (lostL tu fa jo X N V)) := Sp.below (by repeat (first | exact Sp_8.out | refine Sp.alloc ?_ _ | refine Sp.drewN ?_ _ | refine Sp.drew ?_)) hb9
                       have Bx_9 : Hid (w9.heap[w3.heap.size]? = some (.cells #[.bool he, .slice B1 X.length d1, .slice B2 U.length d2, .slice B3 V.length d3, .bool tu, .bool fa, .int .i64 ag, .bool jo] 40 (0, 0))) := blk_keep hb9 (blk_keep (W := w8) (by (repeat (first | exact Below.refl _ _ | refine bel_drewN ?_ _ | refine bel_drew ?_ | refine bel_alloc ?_ _ | refine bel_set ?_ (by simp) _))) Bx_8.out)
                       have By_9 : Hid (w9.heap[w3.heap.size + 1]? = some (.cells #[.bool he, .slice B1 X.length d1, .slice An N.length cn, .slice B3 V.length d3, .bool tu, .bool fa, .int .i64 ag, .bool jo] 40 (0, 0))) := blk_keep hb9 (blk_keep (W := w8) (by (repeat (first | exact Below.refl _ _ | refine bel_drewN ?_ _ | refine bel_drew ?_ | refine bel_alloc ?_ _ | refine bel_set ?_ (by simp) _))) By_8.out)
                       have x0_9 : w9.cell? ⟨w3.heap.size, 0, none⟩ = some (.bool he) := blk_cell Bx_9.out rfl
                       have x1_9 : w9.cell? ⟨w3.heap.size, 1, none⟩ = some (.slice B1 X.length d1) := blk_cell Bx_9.out rfl
                       have x2_9 : w9.cell? ⟨w3.heap.size, 2, none⟩ = some (.slice B2 U.length d2) := blk_cell Bx_9.out rfl
                       have x3_9 : w9.cell? ⟨w3.heap.size, 3, none⟩ = some (.slice B3 V.length d3) := blk_cell Bx_9.out rfl
                       have x4_9 : w9.cell? ⟨w3.heap.size, 4, none⟩ = some (.bool tu) := blk_cell Bx_9.out rfl
                       have x5_9 : w9.cell? ⟨w3.heap.size, 5, none⟩ = some (.bool fa) := blk_cell Bx_9.out rfl
                       have x6_9 : w9.cell? ⟨w3.heap.size, 6, none⟩ = some (.int .i64 ag) := blk_cell Bx_9.out rfl
                       have x7_9 : w9.cell? ⟨w3.heap.size, 7, none⟩ = some (.bool jo) := blk_cell Bx_9.out rfl
                       have xz_9 : w3.heap.size < w9.heap.size := blk_lt Bx_9.out
                       have y0_9 : w9.cell? ⟨w3.heap.size + 1, 0, none⟩ = some (.bool he) := blk_cell By_9.out rfl
                       have y1_9 : w9.cell? ⟨w3.heap.size + 1, 1, none⟩ = some (.slice B1 X.length d1) := blk_cell By_9.out rfl
                       have y2_9 : w9.cell? ⟨w3.heap.size + 1, 2, none⟩ = some (.slice An N.length cn) := blk_cell By_9.out rfl
                       have y3_9 : w9.cell? ⟨w3.heap.size + 1, 3, none⟩ = some (.slice B3 V.length d3) := blk_cell By_9.out rfl
                       have y4_9 : w9.cell? ⟨w3.heap.size + 1, 4, none⟩ = some (.bool tu) := blk_cell By_9.out rfl
                       have y5_9 : w9.cell? ⟨w3.heap.size + 1, 5, none⟩ = some (.bool fa) := blk_cell By_9.out rfl
                       have y6_9 : w9.cell? ⟨w3.heap.size + 1, 6, none⟩ = some (.int .i64 ag) := blk_cell By_9.out rfl
                       have y7_9 : w9.cell? ⟨w3.heap.size + 1, 7, none⟩ = some (.bool jo) := blk_cell By_9.out rfl
                       have yz_9 : w3.heap.size + 1 < w9.heap.size := blk_lt By_9.out
                       have Sq_9 : Hid (Sp w9 Aq cq (lostL tu fa jo X U V)) := hs9
                       clear Sa1_8 Sa2_8 Sa3_8 Sn_8 Sp_8 Bx_8 x0_8 x1_8 x2_8 x3_8 x4_8 x5_8 x6_8 x7_8 xz_8 By_8 y0_8 y1_8 y2_8 y3_8 y4_8 y5_8 y6_8 y7_8 yz_8 hs9 HB_8 hb9
                       have tok10 : True := trivial)
                    | (go_at_call 26
                       have _tk := tok10
                       clear _tk tok10
                       refine (less_nil Ap cp (lostL tu fa jo X N V) Aq cq (lostL tu fa jo X U V) HGL.out _ (by repeat (first | exact Sp_9.out | refine Sp.alloc ?_ _ | refine Sp.drewN ?_ _ | refine Sp.drew ?_)) (by repeat (first | exact Sq_9.out | refine Sp.alloc ?_ _ | refine Sp.drewN ?_ _ | refine Sp.drew ?_)) (lostL_canon ..) (lostL_canon ..) (by omega) (by omega)).mono ?_
                       rintro e10 w10 ⟨Ar, cr, rfl, hs10, hb10⟩
                       have HB_10 : Hid (Below w.heap.size w w10) := bel_chain hb10 (by repeat (first | exact HB_9.out | refine bel_drewN ?_ _ | refine bel_drew ?_ | refine bel_alloc ?_ _))
                       have Sa1_10 : Hid (Sp w10 B1 d1 (X)) := Sp.below (by repeat (first | exact Sa1_9.out | refine Sp.alloc ?_ _ | refine Sp.drewN ?_ _ | refine Sp.drew ?_)) hb10
                       have Sa2_10 : Hid (Sp w10 B2 d2 (U)) := Sp.below (by repeat (first | exact Sa2_9.out | refine Sp.alloc ?_ _ | refine Sp.drewN ?_ _ | refine Sp.drew ?_)) hb10
                       have Sa3_10 : Hid (Sp w10 B3 d3 (V)) := Sp.below (by repeat (first | exact Sa3_9.out | refine Sp.alloc ?_ _ | refine Sp.drewN ?_ _ | refine Sp.drew ?_)) hb10
                       have Sn_10 : Hid (Sp w10 An cn (N)) := Sp.below (by repeat (first | exact Sn_9.out | refine Sp.alloc ?_ _ | refine Sp.drewN ?_ _ | refine Sp.drew ?_)) hb10
                       have Sp_10 : Hid (Sp w10 Ap cp (lostL tu fa jo X N V)) := Sp.below (by repeat (first | exact Sp_9.out | refine Sp.alloc ?_ _ | refine Sp.drewN ?_ _ | refine Sp.drew ?_)) hb10
                       have Sq_10 : Hid (Sp w10 Aq cq (lostL tu fa jo X U V)) := Sp.below (by repeat (first | exact Sq_9.out | refine Sp.alloc ?_ _ | refine Sp.drewN ?_ _ | refine Sp.drew ?_)) hb10
                       have Bx_10 : Hid (w10.heap[w3.heap.size]? = some (.cells #[.bool he, .slice B1 X.length d1, .slice B2 U.length d2, .slice B3 V.length d3, .bool tu, .bool fa, .int .i64 ag, .bool jo] 40 (0, 0))) := blk_keep hb10 (blk_keep (W := w9) (by (repeat (first | exact Below.refl _ _ | refine bel_drewN ?_ _ | refine bel_drew ?_ | refine bel_alloc ?_ _ | refine bel_set ?_ (by simp) _))) Bx_9.out)
                       have By_10 : Hid (w10.heap[w3.heap.size + 1]? = some (.cells #[.bool he, .slice B1 X.length d1, .slice An N.length cn, .slice B3 V.length d3, .bool tu, .bool fa, .int .i64 ag, .bool jo] 40 (0, 0))) := blk_keep hb10 (blk_keep (W := w9) (by (repeat (first | exact Below.refl _ _ | refine bel_drewN ?_ _ | refine bel_drew ?_ | refine bel_alloc ?_ _ | refine bel_set ?_ (by simp) _))) By_9.out)
                       have x0_10 : w10.cell? ⟨w3.heap.size, 0, none⟩ = some (.bool he) := blk_cell Bx_10.out rfl
                       have x1_10 : w10.cell? ⟨w3.heap.size, 1, none⟩ = some (.slice B1 X.length d1) := blk_cell Bx_10.out rfl
                       have x2_10 : w10.cell? ⟨w3.heap.size, 2, none⟩ = some (.slice B2 U.length d2) := blk_cell Bx_10.out rfl
                       have x3_10 : w10.cell? ⟨w3.heap.size, 3, none⟩ = some (.slice B3 V.length d3) := blk_cell Bx_10.out rfl
                       have x4_10 : w10.cell? ⟨w3.heap.size, 4, none⟩ = some (.bool tu) := blk_cell Bx_10.out rfl
                       have x5_10 : w10.cell? ⟨w3.heap.size, 5, none⟩ = some (.bool fa) := blk_cell Bx_10.out rfl
                       have x6_10 : w10.cell? ⟨w3.heap.size, 6, none⟩ = some (.int .i64 ag) := blk_cell Bx_10.out rfl
                       have x7_10 : w10.cell? ⟨w3.heap.size, 7, none⟩ = some (.bool jo) := blk_cell Bx_10.out rfl
                       have xz_10 : w3.heap.size < w10.heap.size := blk_lt Bx_10.out
                       have y0_10 : w10.cell? ⟨w3.heap.size + 1, 0, none⟩ = some (.bool he) := blk_cell By_10.out rfl
                       have y1_10 : w10.cell? ⟨w3.heap.size + 1, 1, none⟩ = some (.slice B1 X.length d1) := blk_cell By_10.out rfl
                       have y2_10 : w10.cell? ⟨w3.heap.size + 1, 2, none⟩ = some (.slice An N.length cn) := blk_cell By_10.out rfl
                       have y3_10 : w10.cell? ⟨w3.heap.size + 1, 3, none⟩ = some (.slice B3 V.length d3) := blk_cell By_10.out rfl
                       have y4_10 : w10.cell? ⟨w3.heap.size + 1, 4, none⟩ = some (.bool tu) := blk_cell By_10.out rfl
                       have y5_10 : w10.cell? ⟨w3.heap.size + 1, 5, none⟩ = some (.bool fa) := blk_cell By_10.out rfl
                       have y6_10 : w10.cell? ⟨w3.heap.size + 1, 6, none⟩ = some (.int .i64 ag) := blk_cell By_10.out rfl
                       have y7_10 : w10.cell? ⟨w3.heap.size + 1, 7, none⟩ = some (.bool jo) := blk_cell By_10.out rfl
                       have yz_10 : w3.heap.size + 1 < w10.heap.size := blk_lt By_10.out
                       have Sr_10 : Hid (Sp w10 Ar cr ([])) := hs10
                       clear Sa1_9 Sa2_9 Sa3_9 Sn_9 Sp_9 Sq_9 Bx_9 x0_9 x1_9 x2_9 x3_9 x4_9 x5_9 x6_9 x7_9 xz_9 By_9 y0_9 y1_9 y2_9 y3_9 y4_9 y5_9 y6_9 y7_9 yz_9 hs10 HB_9 hb10
                       clear Sp_10
                       clear Sq_10
                       have tok11 : True := trivial)
                    | (go_at_call 27
                       have _tk := tok11
                       clear _tk tok11
                       refine (len_nil Ar cr _ (by repeat (first | exact Sr_10.out | refine Sp.alloc ?_ _ | refine Sp.drewN ?_ _ | refine Sp.drew ?_))).mono ?_
                       rintro e11 w11 ⟨rfl, hb11⟩
                       have HB_11 : Hid (Below w.heap.size w w11) := bel_chain hb11 (by repeat (first | exact HB_10.out | refine bel_drewN ?_ _ | refine bel_drew ?_ | refine bel_alloc ?_ _))
                       have Sa1_11 : Hid (Sp w11 B1 d1 (X)) := Sp.below (by repeat (first | exact Sa1_10.out | refine Sp.alloc ?_ _ | refine Sp.drewN ?_ _ | refine Sp.drew ?_)) hb11
                       have Sa2_11 : Hid (Sp w11 B2 d2 (U)) := Sp.below (by repeat (first | exact Sa2_10.out | refine Sp.alloc ?_ _ | refine Sp.drewN ?_ _ | refine Sp.drew ?_)) hb11
                       have Sa3_11 : Hid (Sp w11 B3 d3 (V)) := Sp.below (by repeat (first | exact Sa3_10.out | refine Sp.alloc ?_ _ | refine Sp.drewN ?_ _ | refine Sp.drew ?_)) hb11
                       have Sn_11 : Hid (Sp w11 An cn (N)) := Sp.below (by repeat (first | exact Sn_10.out | refine Sp.alloc ?_ _ | refine Sp.drewN ?_ _ | refine Sp.drew ?_)) hb11
                       have Sr_11 : Hid (Sp w11 Ar cr ([])) := Sp.below (by repeat (first | exact Sr_10.out | refine Sp.alloc ?_ _ | refine Sp.drewN ?_ _ | refine Sp.drew ?_)) hb11
                       have Bx_11 : Hid (w11.heap[w3.heap.size]? = some (.cells #[.bool he, .slice B1 X.length d1, .slice B2 U.length d2, .slice B3 V.length d3, .bool tu, .bool fa, .int .i64 ag, .bool jo] 40 (0, 0))) := blk_keep hb11 (blk_keep (W := w10) (by (repeat (first | exact Below.refl _ _ | refine bel_drewN ?_ _ | refine bel_drew ?_ | refine bel_alloc ?_ _ | refine bel_set ?_ (by simp) _))) Bx_10.out)
                       have By_11 : Hid (w11.heap[w3.heap.size + 1]? = some (.cells #[.bool he, .slice B1 X.length d1, .slice An N.length cn, .slice B3 V.length d3, .bool tu, .bool fa, .int .i64 ag, .bool jo] 40 (0, 0))) := blk_keep hb11 (blk_keep (W := w10) (by (repeat (first | exact Below.refl _ _ | refine bel_drewN ?_ _ | refine bel_drew ?_ | refine bel_alloc ?_ _ | refine bel_set ?_ (by simp) _))) By_10.out)
                       have x0_11 : w11.cell? ⟨w3.heap.size, 0, none⟩ = some (.bool he) := blk_cell Bx_11.out rfl
                       have x1_11 : w11.cell? ⟨w3.heap.size, 1, none⟩ = some (.slice B1 X.length d1) := blk_cell Bx_11.out rfl
                       have x2_11 : w11.cell? ⟨w3.heap.size, 2, none⟩ = some (.slice B2 U.length d2) := blk_cell Bx_11.out rfl
                       have x3_11 : w11.cell? ⟨w3.heap.size, 3, none⟩ = some (.slice B3 V.length d3) := blk_cell Bx_11.out rfl
                       have x4_11 : w11.cell? ⟨w3.heap.size, 4, none⟩ = some (.bool tu) := blk_cell Bx_11.out rfl
                       have x5_11 : w11.cell? ⟨w3.heap.size, 5, none⟩ = some (.bool fa) := blk_cell Bx_11.out rfl
                       have x6_11 : w11.cell? ⟨w3.heap.size, 6, none⟩ = some (.int .i64 ag) := blk_cell Bx_11.out rfl
                       have x7_11 : w11.cell? ⟨w3.heap.size, 7, none⟩ = some (.bool jo) := blk_cell Bx_11.out rfl
                       have xz_11 : w3.heap.size < w11.heap.size := blk_lt Bx_11.out
                       have y0_11 : w11.cell? ⟨w3.heap.size + 1, 0, none⟩ = some (.bool he) := blk_cell By_11.out rfl
                       have y1_11 : w11.cell? ⟨w3.heap.size + 1, 1, none⟩ = some (.slice B1 X.length d1) := blk_cell By_11.out rfl
                       have y2_11 : w11.cell? ⟨w3.heap.size + 1, 2, none⟩ = some (.slice An N.length cn) := blk_cell By_11.out rfl
                       have y3_11 : w11.cell? ⟨w3.heap.size + 1, 3, none⟩ = some (.slice B3 V.length d3) := blk_cell By_11.out rfl
                       have y4_11 : w11.cell? ⟨w3.heap.size + 1, 4, none⟩ = some (.bool tu) := blk_cell By_11.out rfl
                       have y5_11 : w11.cell? ⟨w3.heap.size + 1, 5, none⟩ = some (.bool fa) := blk_cell By_11.out rfl
                       have y6_11 : w11.cell? ⟨w3.heap.size + 1, 6, none⟩ = some (.int .i64 ag) := blk_cell By_11.out rfl
                       have y7_11 : w11.cell? ⟨w3.heap.size + 1, 7, none⟩ = some (.bool jo) := blk_cell By_11.out rfl
                       have yz_11 : w3.heap.size + 1 < w11.heap.size := blk_lt By_11.out
                       clear Sa1_10 Sa2_10 Sa3_10 Sn_10 Sr_10 Bx_10 x0_10 x1_10 x2_10 x3_10 x4_10 x5_10 x6_10 x7_10 xz_10 By_10 y0_10 y1_10 y2_10 y3_10 y4_10 y5_10 y6_10 y7_10 yz_10 HB_10 hb11
                       clear Sr_11
                       have tok12 : True := trivial)
                    | (go_at_call 28
                       have _tk := tok12
                       clear _tk tok12
                       refine (sure_as he B1 d1 X B2 d2 U B3 d3 V tu fa ag jo false HSUR.out _ (by repeat (first | exact Sa1_11.out | refine Sp.alloc ?_ _ | refine Sp.drewN ?_ _ | refine Sp.drew ?_)) (by repeat (first | exact Sa2_11.out | refine Sp.alloc ?_ _ | refine Sp.drewN ?_ _ | refine Sp.drew ?_)) (by repeat (first | exact Sa3_11.out | refine Sp.alloc ?_ _ | refine Sp.drewN ?_ _ | refine Sp.drew ?_)) K1.out K2.out K3.out (by omega) (by omega) (by omega)).mono ?_
                       rintro e12 w12 ⟨rfl, hb12⟩
                       have HB_12 : Hid (Below w.heap.size w w12) := bel_chain hb12 (by repeat (first | exact HB_11.out | refine bel_drewN ?_ _ | refine bel_drew ?_ | refine bel_alloc ?_ _))
                       have Sa1_12 : Hid (Sp w12 B1 d1 (X)) := Sp.below (by repeat (first | exact Sa1_11.out | refine Sp.alloc ?_ _ | refine Sp.drewN ?_ _ | refine Sp.drew ?_)) hb12
                       have Sa2_12 : Hid (Sp w12 B2 d2 (U)) := Sp.below (by repeat (first | exact Sa2_11.out | refine Sp.alloc ?_ _ | refine Sp.drewN ?_ _ | refine Sp.drew ?_)) hb12
                       have Sa3_12 : Hid (Sp w12 B3 d3 (V)) := Sp.below (by repeat (first | exact Sa3_11.out | refine Sp.alloc ?_ _ | refine Sp.drewN ?_ _ | refine Sp.drew ?_)) hb12
                       have Sn_12 : Hid (Sp w12 An cn (N)) := Sp.below (by repeat (first | exact Sn_11.out | refine Sp.alloc ?_ _ | refine Sp.drewN ?_ _ | refine Sp.drew ?_)) hb12
                       have Bx_12 : Hid (w12.heap[w3.heap.size]? = some (.cells #[.bool he, .slice B1 X.length d1, .slice B2 U.length d2, .slice B3 V.length d3, .bool tu, .bool fa, .int .i64 ag, .bool jo] 40 (0, 0))) := blk_keep hb12 (blk_keep (W := w11) (by (repeat (first | exact Below.refl _ _ | refine bel_drewN ?_ _ | refine bel_drew ?_ | refine bel_alloc ?_ _ | refine bel_set ?_ (by simp) _))) Bx_11.out)
                       have By_12 : Hid (w12.heap[w3.heap.size + 1]? = some (.cells #[.bool he, .slice B1 X.length d1, .slice An N.length cn, .slice B3 V.length d3, .bool tu, .bool fa, .int .i64 ag, .bool jo] 40 (0, 0))) := blk_keep hb12 (blk_keep (W := w11) (by (repeat (first | exact Below.refl _ _ | refine bel_drewN ?_ _ | refine bel_drew ?_ | refine bel_alloc ?_ _ | refine bel_set ?_ (by simp) _))) By_11.out)
                       have x0_12 : w12.cell? ⟨w3.heap.size, 0, none⟩ = some (.bool he) := blk_cell Bx_12.out rfl
                       have x1_12 : w12.cell? ⟨w3.heap.size, 1, none⟩ = some (.slice B1 X.length d1) := blk_cell Bx_12.out rfl
                       have x2_12 : w12.cell? ⟨w3.heap.size, 2, none⟩ = some (.slice B2 U.length d2) := blk_cell Bx_12.out rfl
                       have x3_12 : w12.cell? ⟨w3.heap.size, 3, none⟩ = some (.slice B3 V.length d3) := blk_cell Bx_12.out rfl
                       have x4_12 : w12.cell? ⟨w3.heap.size, 4, none⟩ = some (.bool tu) := blk_cell Bx_12.out rfl
                       have x5_12 : w12.cell? ⟨w3.heap.size, 5, none⟩ = some (.bool fa) := blk_cell Bx_12.out rfl
                       have x6_12 : w12.cell? ⟨w3.heap.size, 6, none⟩ = some (.int .i64 ag) := blk_cell Bx_12.out rfl
                       have x7_12 : w12.cell? ⟨w3.heap.size, 7, none⟩ = some (.bool jo) := blk_cell Bx_12.out rfl
                       have xz_12 : w3.heap.size < w12.heap.size := blk_lt Bx_12.out
                       have y0_12 : w12.cell? ⟨w3.heap.size + 1, 0, none⟩ = some (.bool he) := blk_cell By_12.out rfl
                       have y1_12 : w12.cell? ⟨w3.heap.size + 1, 1, none⟩ = some (.slice B1 X.length d1) := blk_cell By_12.out rfl
                       have y2_12 : w12.cell? ⟨w3.heap.size + 1, 2, none⟩ = some (.slice An N.length cn) := blk_cell By_12.out rfl
                       have y3_12 : w12.cell? ⟨w3.heap.size + 1, 3, none⟩ = some (.slice B3 V.length d3) := blk_cell By_12.out rfl
                       have y4_12 : w12.cell? ⟨w3.heap.size + 1, 4, none⟩ = some (.bool tu) := blk_cell By_12.out rfl
                       have y5_12 : w12.cell? ⟨w3.heap.size + 1, 5, none⟩ = some (.bool fa) := blk_cell By_12.out rfl
                       have y6_12 : w12.cell? ⟨w3.heap.size + 1, 6, none⟩ = some (.int .i64 ag) := blk_cell By_12.out rfl
                       have y7_12 : w12.cell? ⟨w3.heap.size + 1, 7, none⟩ = some (.bool jo) := blk_cell By_12.out rfl
                       have yz_12 : w3.heap.size + 1 < w12.heap.size := blk_lt By_12.out
                       clear Sa1_11 Sa2_11 Sa3_11 Sn_11 Bx_11 x0_11 x1_11 x2_11 x3_11 x4_11 x5_11 x6_11 x7_11 xz_11 By_11 y0_11 y1_11 y2_11 y3_11 y4_11 y5_11 y6_11 y7_11 yz_11 HB_11 hb12
                       have tok13 : True := trivial))))
              | fail
            all_goals
              go_wp2_with fail
              refine (decide_as he B1 d1 X B2 d2 U B3 d3 V tu fa ag jo 1 hd1.out _ (by repeat (first | exact Sa1_12.out | refine Sp.alloc ?_ _ | refine Sp.drewN ?_ _ | refine Sp.drew ?_)) (by repeat (first | exact Sa2_12.out | refine Sp.alloc ?_ _ | refine Sp.drewN ?_ _ | refine Sp.drew ?_)) (by repeat (first | exact Sa3_12.out | refine Sp.alloc ?_ _ | refine Sp.drewN ?_ _ | refine Sp.drew ?_)) K1.out K2.out K3.out (by omega) (by omega) (by omega)).mono ?_
              rintro e13 w13 ⟨rfl, hb13⟩
              have HB_13 : Hid (Below w.heap.size w w13) := bel_chain hb13 (by repeat (first | exact HB_12.out | refine bel_drewN ?_ _ | refine bel_drew ?_ | refine bel_alloc ?_ _))
              have Sa1_13 : Hid (Sp w13 B1 d1 (X)) := Sp.below (by repeat (first | exact Sa1_12.out | refine Sp.alloc ?_ _ | refine Sp.drewN ?_ _ | refine Sp.drew ?_)) hb13
              have Sa2_13 : Hid (Sp w13 B2 d2 (U)) := Sp.below (by repeat (first | exact Sa2_12.out | refine Sp.alloc ?_ _ | refine Sp.drewN ?_ _ | refine Sp.drew ?_)) hb13
              have Sa3_13 : Hid (Sp w13 B3 d3 (V)) := Sp.below (by repeat (first | exact Sa3_12.out | refine Sp.alloc ?_ _ | refine Sp.drewN ?_ _ | refine Sp.drew ?_)) hb13
              have Sn_13 : Hid (Sp w13 An cn (N)) := Sp.below (by repeat (first | exact Sn_12.out | refine Sp.alloc ?_ _ | refine Sp.drewN ?_ _ | refine Sp.drew ?_)) hb13
              have Bx_13 : Hid (w13.heap[w3.heap.size]? = some (.cells #[.bool he, .slice B1 X.length d1, .slice B2 U.length d2, .slice B3 V.length d3, .bool tu, .bool fa, .int .i64 ag, .bool jo] 40 (0, 0))) := blk_keep hb13 (blk_keep (W := w12) (by (repeat (first | exact Below.refl _ _ | refine bel_drewN ?_ _ | refine bel_drew ?_ | refine bel_alloc ?_ _ | refine bel_set ?_ (by simp) _))) Bx_12.out)
              have By_13 : Hid (w13.heap[w3.heap.size + 1]? = some (.cells #[.bool he, .slice B1 X.length d1, .slice An N.length cn, .slice B3 V.length d3, .bool tu, .bool fa, .int .i64 ag, .bool jo] 40 (0, 0))) := blk_keep hb13 (blk_keep (W := w12) (by (repeat (first | exact Below.refl _ _ | refine bel_drewN ?_ _ | refine bel_drew ?_ | refine bel_alloc ?_ _ | refine bel_set ?_ (by simp) _))) By_12.out)
              have x0_13 : w13.cell? ⟨w3.heap.size, 0, none⟩ = some (.bool he) := blk_cell Bx_13.out rfl
              have x1_13 : w13.cell? ⟨w3.heap.size, 1, none⟩ = some (.slice B1 X.length d1) := blk_cell Bx_13.out rfl
              have x2_13 : w13.cell? ⟨w3.heap.size, 2, none⟩ = some (.slice B2 U.length d2) := blk_cell Bx_13.out rfl
              have x3_13 : w13.cell? ⟨w3.heap.size, 3, none⟩ = some (.slice B3 V.length d3) := blk_cell Bx_13.out rfl
              have x4_13 : w13.cell? ⟨w3.heap.size, 4, none⟩ = some (.bool tu) := blk_cell Bx_13.out rfl
              have x5_13 : w13.cell? ⟨w3.heap.size, 5, none⟩ = some (.bool fa) := blk_cell Bx_13.out rfl
              have x6_13 : w13.cell? ⟨w3.heap.size, 6, none⟩ = some (.int .i64 ag) := blk_cell Bx_13.out rfl
              have x7_13 : w13.cell? ⟨w3.heap.size, 7, none⟩ = some (.bool jo) := blk_cell Bx_13.out rfl
              have xz_13 : w3.heap.size < w13.heap.size := blk_lt Bx_13.out
              have y0_13 : w13.cell? ⟨w3.heap.size + 1, 0, none⟩ = some (.bool he) := blk_cell By_13.out rfl
              have y1_13 : w13.cell? ⟨w3.heap.size + 1, 1, none⟩ = some (.slice B1 X.length d1) := blk_cell By_13.out rfl
              have y2_13 : w13.cell? ⟨w3.heap.size + 1, 2, none⟩ = some (.slice An N.length cn) := blk_cell By_13.out rfl
              have y3_13 : w13.cell? ⟨w3.heap.size + 1, 3, none⟩ = some (.slice B3 V.length d3) := blk_cell By_13.out rfl
              have y4_13 : w13.cell? ⟨w3.heap.size + 1, 4, none⟩ = some (.bool tu) := blk_cell By_13.out rfl
              have y5_13 : w13.cell? ⟨w3.heap.size + 1, 5, none⟩ = some (.bool fa) := blk_cell By_13.out rfl
              have y6_13 : w13.cell? ⟨w3.heap.size + 1, 6, none⟩ = some (.int .i64 ag) := blk_cell By_13.out rfl
              have y7_13 : w13.cell? ⟨w3.heap.size + 1, 7, none⟩ = some (.bool jo) := blk_cell By_13.out rfl
              have yz_13 : w3.heap.size + 1 < w13.heap.size := blk_lt By_13.out
              clear Sa1_12 Sa2_12 Sa3_12 Sn_12 Bx_12 x0_12 x1_12 x2_12 x3_12 x4_12 x5_12 x6_12 x7_12 xz_12 By_12 y0_12 y1_12 y2_12 y3_12 y4_12 y5_12 y6_12 y7_12 yz_12 HB_12 hb13
              go_wp2_with fail
              refine (decide_as he B1 d1 X An cn N B3 d3 V tu fa ag jo 1 (HGD.out hd1.out) _ (by repeat (first | exact Sa1_13.out | refine Sp.alloc ?_ _ | refine Sp.drewN ?_ _ | refine Sp.drew ?_)) (by repeat (first | exact Sn_13.out | refine Sp.alloc ?_ _ | refine Sp.drewN ?_ _ | refine Sp.drew ?_)) (by repeat (first | exact Sa3_13.out | refine Sp.alloc ?_ _ | refine Sp.drewN ?_ _ | refine Sp.drew ?_)) K1.out KN.out K3.out (by omega) (by omega) (by omega)).mono ?_
              rintro e14 w14 ⟨rfl, hb14⟩
              have HB_14 : Hid (Below w.heap.size w w14) := bel_chain hb14 (by repeat (first | exact HB_13.out | refine bel_drewN ?_ _ | refine bel_drew ?_ | refine bel_alloc ?_ _))
              have Sa1_14 : Hid (Sp w14 B1 d1 (X)) := Sp.below (by repeat (first | exact Sa1_13.out | refine Sp.alloc ?_ _ | refine Sp.drewN ?_ _ | refine Sp.drew ?_)) hb14
              have Sa2_14 : Hid (Sp w14 B2 d2 (U)) := Sp.below (by repeat (first | exact Sa2_13.out | refine Sp.alloc ?_ _ | refine Sp.drewN ?_ _ | refine Sp.drew ?_)) hb14
              have Sa3_14 : Hid (Sp w14 B3 d3 (V)) := Sp.below (by repeat (first | exact Sa3_13.out | refine Sp.alloc ?_ _ | refine Sp.drewN ?_ _ | refine Sp.drew ?_)) hb14
              have Sn_14 : Hid (Sp w14 An cn (N)) := Sp.below (by repeat (first | exact Sn_13.out | refine Sp.alloc ?_ _ | refine Sp.drewN ?_ _ | refine Sp.drew ?_)) hb14
              have Bx_14 : Hid (w14.heap[w3.heap.size]? = some (.cells #[.bool he, .slice B1 X.length d1, .slice B2 U.length d2, .slice B3 V.length d3, .bool tu, .bool fa, .int .i64 ag, .bool jo] 40 (0, 0))) := blk_keep hb14 (blk_keep (W := w13) (by (repeat (first | exact Below.refl _ _ | refine bel_drewN ?_ _ | refine bel_drew ?_ | refine bel_alloc ?_ _ | refine bel_set ?_ (by simp) _))) Bx_13.out)
              have By_14 : Hid (w14.heap[w3.heap.size + 1]? = some (.cells #[.bool he, .slice B1 X.length d1, .slice An N.length cn, .slice B3 V.length d3, .bool tu, .bool fa, .int .i64 ag, .bool jo] 40 (0, 0))) := blk_keep hb14 (blk_keep (W := w13) (by (repeat (first | exact Below.refl _ _ | refine bel_drewN ?_ _ | refine bel_drew ?_ | refine bel_alloc ?_ _ | refine bel_set ?_ (by simp) _))) By_13.out)
              have x0_14 : w14.cell? ⟨w3.heap.size, 0, none⟩ = some (.bool he) := blk_cell Bx_14.out rfl
              have x1_14 : w14.cell? ⟨w3.heap.size, 1, none⟩ = some (.slice B1 X.length d1) := blk_cell Bx_14.out rfl
              have x2_14 : w14.cell? ⟨w3.heap.size, 2, none⟩ = some (.slice B2 U.length d2) := blk_cell Bx_14.out rfl
              have x3_14 : w14.cell? ⟨w3.heap.size, 3, none⟩ = some (.slice B3 V.length d3) := blk_cell Bx_14.out rfl
              have x4_14 : w14.cell? ⟨w3.heap.size, 4, none⟩ = some (.bool tu) := blk_cell Bx_14.out rfl
              have x5_14 : w14.cell? ⟨w3.heap.size, 5, none⟩ = some (.bool fa) := blk_cell Bx_14.out rfl
              have x6_14 : w14.cell? ⟨w3.heap.size, 6, none⟩ = some (.int .i64 ag) := blk_cell Bx_14.out rfl
              have x7_14 : w14.cell? ⟨w3.heap.size, 7, none⟩ = some (.bool jo) := blk_cell Bx_14.out rfl
              have xz_14 : w3.heap.size < w14.heap.size := blk_lt Bx_14.out
              have y0_14 : w14.cell? ⟨w3.heap.size + 1, 0, none⟩ = some (.bool he) := blk_cell By_14.out rfl
              have y1_14 : w14.cell? ⟨w3.heap.size + 1, 1, none⟩ = some (.slice B1 X.length d1) := blk_cell By_14.out rfl
              have y2_14 : w14.cell? ⟨w3.heap.size + 1, 2, none⟩ = some (.slice An N.length cn) := blk_cell By_14.out rfl
              have y3_14 : w14.cell? ⟨w3.heap.size + 1, 3, none⟩ = some (.slice B3 V.length d3) := blk_cell By_14.out rfl
              have y4_14 : w14.cell? ⟨w3.heap.size + 1, 4, none⟩ = some (.bool tu) := blk_cell By_14.out rfl
              have y5_14 : w14.cell? ⟨w3.heap.size + 1, 5, none⟩ = some (.bool fa) := blk_cell By_14.out rfl
              have y6_14 : w14.cell? ⟨w3.heap.size + 1, 6, none⟩ = some (.int .i64 ag) := blk_cell By_14.out rfl
              have y7_14 : w14.cell? ⟨w3.heap.size + 1, 7, none⟩ = some (.bool jo) := blk_cell By_14.out rfl
              have yz_14 : w3.heap.size + 1 < w14.heap.size := blk_lt By_14.out
              clear Sa1_13 Sa2_13 Sa3_13 Sn_13 Bx_13 x0_13 x1_13 x2_13 x3_13 x4_13 x5_13 x6_13 x7_13 xz_13 By_13 y0_13 y1_13 y2_13 y3_13 y4_13 y5_13 y6_13 y7_13 yz_13 HB_13 hb14
              go_wp2_with fail
              go_ret
              exact ⟨rfl, (by repeat (first | (with_reducible exact HB_14.out) | (with_reducible refine bel_drewN ?_ _) | (with_reducible refine bel_drew ?_) | (with_reducible refine bel_alloc ?_ _) | (with_reducible refine bel_set ?_ (by first | omega | (dsimp only; omega)) _)))⟩
          · obtain ⟨dv, hdv0⟩ : ∃ dv, decideL he tu fa jo ag X U V = dv := ⟨_, rfl⟩
            rw [hdv0] at hd
            have hdv := Lib.hid hdv0
            have hdn : (dv != 1) = true := by simpa using hd
            clear hd hdv0
            have x0_7 : w7.cell? ⟨w3.heap.size, 0, none⟩ = some (.bool he) := blk_cell Bx_7.out rfl
            have x1_7 : w7.cell? ⟨w3.heap.size, 1, none⟩ = some (.slice B1 X.length d1) := blk_cell Bx_7.out rfl
            have x2_7 : w7.cell? ⟨w3.heap.size, 2, none⟩ = some (.slice B2 U.length d2) := blk_cell Bx_7.out rfl
            have x3_7 : w7.cell? ⟨w3.heap.size, 3, none⟩ = some (.slice B3 V.length d3) := blk_cell Bx_7.out rfl
            have x4_7 : w7.cell? ⟨w3.heap.size, 4, none⟩ = some (.bool tu) := blk_cell Bx_7.out rfl
            have x5_7 : w7.cell? ⟨w3.heap.size, 5, none⟩ = some (.bool fa) := blk_cell Bx_7.out rfl
            have x6_7 : w7.cell? ⟨w3.heap.size, 6, none⟩ = some (.int .i64 ag) := blk_cell Bx_7.out rfl
            have x7_7 : w7.cell? ⟨w3.heap.size, 7, none⟩ = some (.bool jo) := blk_cell Bx_7.out rfl
            have xz_7 : w3.heap.size < w7.heap.size := blk_lt Bx_7.out
            have y0_7 : w7.cell? ⟨w3.heap.size + 1, 0, none⟩ = some (.bool he) := blk_cell By_7.out rfl
            have y1_7 : w7.cell? ⟨w3.heap.size + 1, 1, none⟩ = some (.slice B1 X.length d1) := blk_cell By_7.out rfl
            have y2_7 : w7.cell? ⟨w3.heap.size + 1, 2, none⟩ = some (.slice An N.length cn) := blk_cell By_7.out rfl
            have y3_7 : w7.cell? ⟨w3.heap.size + 1, 3, none⟩ = some (.slice B3 V.length d3) := blk_cell By_7.out rfl
            have y4_7 : w7.cell? ⟨w3.heap.size + 1, 4, none⟩ = some (.bool tu) := blk_cell By_7.out rfl
            have y5_7 : w7.cell? ⟨w3.heap.size + 1, 5, none⟩ = some (.bool fa) := blk_cell By_7.out rfl
            have y6_7 : w7.cell? ⟨w3.heap.size + 1, 6, none⟩ = some (.int .i64 ag) := blk_cell By_7.out rfl
            have y7_7 : w7.cell? ⟨w3.heap.size + 1, 7, none⟩ = some (.bool jo) := blk_cell By_7.out rfl
            have yz_7 : w3.heap.size + 1 < w7.heap.size := blk_lt By_7.out
            have tok8 : True := trivial
            go_wp2_with fail
            first
              | (go_region_with ((first
                    | (go_at_call 25
                       have _tk := tok8
                       clear _tk tok8
                       refine (lost_any he B1 d1 X An cn N B3 d3 V tu fa ag jo _ (by repeat (first | exact Sa1_7.out | refine Sp.alloc ?_ _ | refine Sp.drewN ?_ _ | refine Sp.drew ?_)) (by repeat (first | exact Sn_7.out | refine Sp.alloc ?_ _ | refine Sp.drewN ?_ _ | refine Sp.drew ?_)) (by repeat (first | exact Sa3_7.out | refine Sp.alloc ?_ _ | refine Sp.drewN ?_ _ | refine Sp.drew ?_)) K1.out KN.out K3.out (by omega) (by omega) (by omega)).mono ?_
                       rintro e8 w8 ⟨Ap, cp, rfl, hs8, hb8⟩
                       have HB_8 : Hid (Below w.heap.size w w8) := bel_chain hb8 (by repeat (first | exact HB_7.out | refine bel_drewN ?_ _ | refine bel_drew ?_ | refine bel_alloc ?_ _))
                       have Sa1_8 : Hid (Sp w8 B1 d1 (X)) := Sp.below (by repeat (first | exact Sa1_7.out | refine Sp.alloc ?_ _ | refine Sp.drewN ?_ _ | refine Sp.drew ?_)) hb8
                       have Sa2_8 : Hid (Sp w8 B2 d2 (U)) := Sp.below (by repeat (first | exact Sa2_7.out | refine Sp.alloc ?_ _ | refine Sp.drewN ?_ _ | refine Sp.drew ?_)) hb8
                       have Sa3_8 : Hid (Sp w8 B3 d3 (V)) := Sp.below (by repeat (first | exact Sa3_7.out | refine Sp.alloc ?_ _ | refine Sp.drewN ?_ _ | refine Sp.drew ?_)) hb8
                       have Sn_8 : Hid (Sp w8 An cn (N)) := Sp.below (by repeat (first | exact Sn_7.out | refine Sp.alloc ?_ _ | refine Sp.drewN ?_ _ | refine Sp.drew ?_)) hb8
                       have Bx_8 : Hid (w8.heap[w3.heap.size]? = some (.cells #[.bool he, .slice B1 X.length d1, .slice B2 U.length d2, .slice B3 V.length d3, .bool tu, .bool fa, .int .i64 ag, .bool jo] 40 (0, 0))) := blk_keep hb8 (blk_keep (W := w7) (by (repeat (first | exact Below.refl _ _ | refine bel_drewN ?_ _ | refine bel_drew ?_ | refine bel_alloc ?_ _ | refine bel_set ?_ (by simp) _))) Bx_7.out)
                       have By_8 : Hid (w8.heap[w3.heap.size + 1]? = some (.cells #[.bool he, .slice B1 X.length d1, .slice An N.length cn, .slice B3 V.length d3, .bool tu, .bool fa, .int .i64 ag, .bool jo] 40 (0, 0))) := blk_keep hb8 (blk_keep (W := w7) (by (repeat (first | exact Below.refl _ _ | refine bel_drewN ?_ _ | refine bel_drew ?_ | refine bel_alloc ?_ _ | refine bel_set ?_ (by simp) _))) By_7.out)
                       have x0_8 : w8.cell? ⟨w3.heap.size, 0, none⟩ = some (.bool he) := blk_cell Bx_8.out rfl
                       have x1_8 : w8.cell? ⟨w3.heap.size, 1, none⟩ = some (.slice B1 X.length d1) := blk_cell Bx_8.out rfl
                       have x2_8 : w8.cell? ⟨w3.heap.size, 2, none⟩ = some (.slice B2 U.length d2) := blk_cell Bx_8.out rfl
                       have x3_8 : w8.cell? ⟨w3.heap.size, 3, none⟩ = some (.slice B3 V.length d3) := blk_cell Bx_8.out rfl
                       have x4_8 : w8.cell? ⟨w3.heap.size, 4, none⟩ = some (.bool tu) := blk_cell Bx_8.out rfl
                       have x5_8 : w8.cell? ⟨w3.heap.size, 5, none⟩ = some (.bool fa) := blk_cell Bx_8.out rfl
                       have x6_8 : w8.cell? ⟨w3.heap.size, 6, none⟩ = some (.int .i64 ag) := blk_cell Bx_8.out rfl
                       have x7_8 : w8.cell? ⟨w3.heap.size, 7, none⟩ = some (.bool jo) := blk_cell Bx_8.out rfl
                       have xz_8 : w3.heap.size < w8.heap.size := blk_lt Bx_8.out
                       have y0_8 : w8.cell? ⟨w3.heap.size + 1, 0, none⟩ = some (.bool he) := blk_cell By_8.out rfl
                       have y1_8 : w8.cell? ⟨w3.heap.size + 1, 1, none⟩ = some (.slice B1 X.length d1) := blk_cell By_8.out rfl
                       have y2_8 : w8.cell? ⟨w3.heap.size + 1, 2, none⟩ = some (.slice An N.length cn) := blk_cell By_8.out rfl
                       have y3_8 : w8.cell? ⟨w3.heap.size + 1, 3, none⟩ = some (.slice B3 V.length d3) := blk_cell By_8.out rfl
                       have y4_8 : w8.cell? ⟨w3.heap.size + 1, 4, none⟩ = some (.bool tu) := blk_cell By_8.out rfl
                       have y5_8 : w8.cell? ⟨w3.heap.size + 1, 5, none⟩ = some (.bool fa) := blk_cell By_8.out rfl
                       have y6_8 : w8.cell? ⟨w3.heap.size + 1, 6, none⟩ = some (.int .i64 ag) := blk_cell By_8.out rfl
                       have y7_8 : w8.cell? ⟨w3.heap.size + 1, 7, none⟩ = some (.bool jo) := blk_cell By_8.out rfl
                       have yz_8 : w3.heap.size + 1 < w8.heap.size := blk_lt By_8.out
                       have Sp_8 : Hid (Sp w8 Ap cp (lostL tu fa jo X N V)) := hs8
                       clear Sa1_7 Sa2_7 Sa3_7 Sn_7 Bx_7 x0_7 x1_7 x2_7 x3_7 x4_7 x5_7 x6_7 x7_7 xz_7 By_7 y0_7 y1_7 y2_7 y3_7 y4_7 y5_7 y6_7 y7_7 yz_7 hs8 HB_7 hb8
                       have tok9 : True := trivial)
                    | (go_at_call 25
                       have _tk := tok9
                       clear _tk tok9
                       refine (lost_any he B1 d1 X B2 d2 U B3 d3 V tu fa ag jo _ (by repeat (first | exact Sa1_8.out | refine Sp.alloc ?_ _ | refine Sp.drewN ?_ _ | refine Sp.drew ?_)) (by repeat (first | exact Sa2_8.out | refine Sp.alloc ?_ _ | refine Sp.drewN ?_ _ | refine Sp.drew ?_)) (by repeat (first | exact Sa3_8.out | refine Sp.alloc ?_ _ | refine Sp.drewN ?_ _ | refine Sp.drew ?_)) K1.out K2.out K3.out (by omega) (by omega) (by omega)).mono ?_
                       rintro e9 w9 ⟨Aq, cq, rfl, hs9, hb9⟩
                       have HB_9 : Hid (Below w.heap.size w w9) := bel_chain hb9 (by repeat (first | exact HB_8.out | refine bel_drewN ?_ _ | refine bel_drew ?_ | refine bel_alloc ?_ _))
                       have Sa1_9 : Hid (Sp w9 B1 d1 (X)) := Sp.below (by repeat (first | exact Sa1_8.out | refine Sp.alloc ?_ _ | refine Sp.drewN ?_ _ | refine Sp.drew ?_)) hb9
                       have Sa2_9 : Hid (Sp w9 B2 d2 (U)) := Sp.below (by repeat (first | exact Sa2_8.out | refine Sp.alloc ?_ _ | refine Sp.drewN ?_ _ | refine Sp.drew ?_)) hb9
                       have Sa3_9 : Hid (Sp w9 B3 d3 (V)) := Sp.below (by repeat (first | exact Sa3_8.out | refine Sp.alloc ?_ _ | refine Sp.drewN ?_ _ | refine Sp.drew ?_)) hb9
                       have Sn_9 : Hid (Sp w9 An cn (N)) := Sp.below (by repeat (first | exact Sn_8.out | refine Sp.alloc ?_ _ | refine Sp.drewN ?_ _ | refine Sp.drew ?_)) hb9
                       have Sp_9 : Hid (Sp w9 Ap cp (lostL tu fa jo X N V)) := Sp.below (by repeat (first | exact Sp_8.out | refine Sp.alloc ?_ _ | refine Sp.drewN ?_ _ | refine Sp.drew ?_)) hb9
                       have Bx_9 : Hid (w9.heap[w3.heap.size]? = some (.cells #[.bool he, .slice B1 X.length d1, .slice B2 U.length d2, .slice B3 V.length d3, .bool tu, .bool fa, .int .i64 ag, .bool jo] 40 (0, 0))) := blk_keep hb9 (blk_keep (W := w8) (by (repeat (first | exact Below.refl _ _ | refine bel_drewN ?_ _ | refine bel_drew ?_ | refine bel_alloc ?_ _ | refine bel_set ?_ (by simp) _))) Bx_8.out)
                       have By_9 : Hid (w9.heap[w3.heap.size + 1]? = some (.cells #[.bool he, .slice B1 X.length d1, .slice An N.length cn, .slice B3 V.length d3, .bool tu, .bool fa, .int .i64 ag, .bool jo] 40 (0, 0))) := blk_keep hb9 (blk_keep (W := w8) (by (repeat (first | exact Below.refl _ _ | refine bel_drewN ?_ _ | refine bel_drew ?_ | refine bel_alloc ?_ _ | refine bel_set ?_ (by simp) _))) By_8.out)
                       have x0_9 : w9.cell? ⟨w3.heap.size, 0, none⟩ = some (.bool he) := blk_cell Bx_9.out rfl
                       have x1_9 : w9.cell? ⟨w3.heap.size, 1, none⟩ = some (.slice B1 X.length d1) := blk_cell Bx_9.out rfl
                       have x2_9 : w9.cell? ⟨w3.heap.size, 2, none⟩ = some (.slice B2 U.length d2) := blk_cell Bx_9.out rfl
                       have x3_9 : w9.cell? ⟨w3.heap.size, 3, none⟩ = some (.slice B3 V.length d3) := blk_cell Bx_9.out rfl
                       have x4_9 : w9.cell? ⟨w3.heap.size, 4, none⟩ = some (.bool tu) := blk_cell Bx_9.out rfl
                       have x5_9 : w9.cell? ⟨w3.heap.size, 5, none⟩ = some (.bool fa) := blk_cell Bx_9.out rfl
                       have x6_9 : w9.cell? ⟨w3.heap.size, 6, none⟩ = some (.int .i64 ag) := blk_cell Bx_9.out rfl
                       have x7_9 : w9.cell? ⟨w3.heap.size, 7, none⟩ = some (.bool jo) := blk_cell Bx_9.out rfl
                       have xz_9 : w3.heap.size < w9.heap.size := blk_lt Bx_9.out
                       have y0_9 : w9.cell? ⟨w3.heap.size + 1, 0, none⟩ = some (.bool he) := blk_cell By_9.out rfl
                       have y1_9 : w9.cell? ⟨w3.heap.size + 1, 1, none⟩ = some (.slice B1 X.length d1) := blk_cell By_9.out rfl
                       have y2_9 : w9.cell? ⟨w3.heap.size + 1, 2, none⟩ = some (.slice An N.length cn) := blk_cell By_9.out rfl
                       have y3_9 : w9.cell? ⟨w3.heap.size + 1, 3, none⟩ = some (.slice B3 V.length d3) := blk_cell By_9.out rfl
                       have y4_9 : w9.cell? ⟨w3.heap.size + 1, 4, none⟩ = some (.bool tu) := blk_cell By_9.out rfl
                       have y5_9 : w9.cell? ⟨w3.heap.size + 1, 5, none⟩ = some (.bool fa) := blk_cell By_9.out rfl
                       have y6_9 : w9.cell? ⟨w3.heap.size + 1, 6, none⟩ = some (.int .i64 ag) := blk_cell By_9.out rfl
                       have y7_9 : w9.cell? ⟨w3.heap.size + 1, 7, none⟩ = some (.bool jo) := blk_cell By_9.out rfl
                       have yz_9 : w3.heap.size + 1 < w9.heap.size := blk_lt By_9.out
                       have Sq_9 : Hid (Sp w9 Aq cq (lostL tu fa jo X U V)) := hs9
                       clear Sa1_8 Sa2_8 Sa3_8 Sn_8 Sp_8 Bx_8 x0_8 x1_8 x2_8 x3_8 x4_8 x5_8 x6_8 x7_8 xz_8 By_8 y0_8 y1_8 y2_8 y3_8 y4_8 y5_8 y6_8 y7_8 yz_8 hs9 HB_8 hb9
                       have tok10 : True := trivial)
                    | (go_at_call 26
                       have _tk := tok10
                       clear _tk tok10
                       refine (less_nil Ap cp (lostL tu fa jo X N V) Aq cq (lostL tu fa jo X U V) HGL.out _ (by repeat (first | exact Sp_9.out | refine Sp.alloc ?_ _ | refine Sp.drewN ?_ _ | refine Sp.drew ?_)) (by repeat (first | exact Sq_9.out | refine Sp.alloc ?_ _ | refine Sp.drewN ?_ _ | refine Sp.drew ?_)) (lostL_canon ..) (lostL_canon ..) (by omega) (by omega)).mono ?_
                       rintro e10 w10 ⟨Ar, cr, rfl, hs10, hb10⟩
                       have HB_10 : Hid (Below w.heap.size w w10) := bel_chain hb10 (by repeat (first | exact HB_9.out | refine bel_drewN ?_ _ | refine bel_drew ?_ | refine bel_alloc ?_ _))
                       have Sa1_10 : Hid (Sp w10 B1 d1 (X)) := Sp.below (by repeat (first | exact Sa1_9.out | refine Sp.alloc ?_ _ | refine Sp.drewN ?_ _ | refine Sp.drew ?_)) hb10
                       have Sa2_10 : Hid (Sp w10 B2 d2 (U)) := Sp.below (by repeat (first | exact Sa2_9.out | refine Sp.alloc ?_ _ | refine Sp.drewN ?_ _ | refine Sp.drew ?_)) hb10
                       have Sa3_10 : Hid (Sp w10 B3 d3 (V)) := Sp.below (by repeat (first | exact Sa3_9.out | refine Sp.alloc ?_ _ | refine Sp.drewN ?_ _ | refine Sp.drew ?_)) hb10
                       have Sn_10 : Hid (Sp w10 An cn (N)) := Sp.below (by repeat (first | exact Sn_9.out | refine Sp.alloc ?_ _ | refine Sp.drewN ?_ _ | refine Sp.drew ?_)) hb10
                       have Sp_10 : Hid (Sp w10 Ap cp (lostL tu fa jo X N V)) := Sp.below (by repeat (first | exact Sp_9.out | refine Sp.alloc ?_ _ | refine Sp.drewN ?_ _ | refine Sp.drew ?_)) hb10
                       have Sq_10 : Hid (Sp w10 Aq cq (lostL tu fa jo X U V)) := Sp.below (by repeat (first | exact Sq_9.out | refine Sp.alloc ?_ _ | refine Sp.drewN ?_ _ | refine Sp.drew ?_)) hb10
                       have Bx_10 : Hid (w10.heap[w3.heap.size]? = some (.cells #[.bool he, .slice B1 X.length d1, .slice B2 U.length d2, .slice B3 V.length d3, .bool tu, .bool fa, .int .i64 ag, .bool jo] 40 (0, 0))) := blk_keep hb10 (blk_keep (W := w9) (by (repeat (first | exact Below.refl _ _ | refine bel_drewN ?_ _ | refine bel_drew ?_ | refine bel_alloc ?_ _ | refine bel_set ?_ (by simp) _))) Bx_9.out)
                       have By_10 : Hid (w10.heap[w3.heap.size + 1]? = some (.cells #[.bool he, .slice B1 X.length d1, .slice An N.length cn, .slice B3 V.length d3, .bool tu, .bool fa, .int .i64 ag, .bool jo] 40 (0, 0))) := blk_keep hb10 (blk_keep (W := w9) (by (repeat (first | exact Below.refl _ _ | refine bel_drewN ?_ _ | refine bel_drew ?_ | refine bel_alloc ?_ _ | refine bel_set ?_ (by simp) _))) By_9.out)
                       have x0_10 : w10.cell? ⟨w3.heap.size, 0, none⟩ = some (.bool he) := blk_cell Bx_10.out rfl
                       have x1_10 : w10.cell? ⟨w3.heap.size, 1, none⟩ = some (.slice B1 X.length d1) := blk_cell Bx_10.out rfl
                       have x2_10 : w10.cell? ⟨w3.heap.size, 2, none⟩ = some (.slice B2 U.length d2) := blk_cell Bx_10.out rfl
                       have x3_10 : w10.cell? ⟨w3.heap.size, 3, none⟩ = some (.slice B3 V.length d3) := blk_cell Bx_10.out rfl
                       have x4_10 : w10.cell? ⟨w3.heap.size, 4, none⟩ = some (.bool tu) := blk_cell Bx_10.out rfl
                       have x5_10 : w10.cell? ⟨w3.heap.size, 5, none⟩ = some (.bool fa) := blk_cell Bx_10.out rfl
                       have x6_10 : w10.cell? ⟨w3.heap.size, 6, none⟩ = some (.int .i64 ag) := blk_cell Bx_10.out rfl
                       have x7_10 : w10.cell? ⟨w3.heap.size, 7, none⟩ = some (.bool jo) := blk_cell Bx_10.out rfl
                       have xz_10 : w3.heap.size < w10.heap.size := blk_lt Bx_10.out
                       have y0_10 : w10.cell? ⟨w3.heap.size + 1, 0, none⟩ = some (.bool he) := blk_cell By_10.out rfl
                       have y1_10 : w10.cell? ⟨w3.heap.size + 1, 1, none⟩ = some (.slice B1 X.length d1) := blk_cell By_10.out rfl
                       have y2_10 : w10.cell? ⟨w3.heap.size + 1, 2, none⟩ = some (.slice An N.length cn) := blk_cell By_10.out rfl
                       have y3_10 : w10.cell? ⟨w3.heap.size + 1, 3, none⟩ = some (.slice B3 V.length d3) := blk_cell By_10.out rfl
                       have y4_10 : w10.cell? ⟨w3.heap.size + 1, 4, none⟩ = some (.bool tu) := blk_cell By_10.out rfl
                       have y5_10 : w10.cell? ⟨w3.heap.size + 1, 5, none⟩ = some (.bool fa) := blk_cell By_10.out rfl
                       have y6_10 : w10.cell? ⟨w3.heap.size + 1, 6, none⟩ = some (.int .i64 ag) := blk_cell By_10.out rfl
                       have y7_10 : w10.cell? ⟨w3.heap.size + 1, 7, none⟩ = some (.bool jo) := blk_cell By_10.out rfl
                       have yz_10 : w3.heap.size + 1 < w10.heap.size := blk_lt By_10.out
                       have Sr_10 : Hid (Sp w10 Ar cr ([])) := hs10
                       clear Sa1_9 Sa2_9 Sa3_9 Sn_9 Sp_9 Sq_9 Bx_9 x0_9 x1_9 x2_9 x3_9 x4_9 x5_9 x6_9 x7_9 xz_9 By_9 y0_9 y1_9 y2_9 y3_9 y4_9 y5_9 y6_9 y7_9 yz_9 hs10 HB_9 hb10
                       clear Sp_10
                       clear Sq_10
                       have tok11 : True := trivial)
                    | (go_at_call 27
                       have _tk := tok11
                       clear _tk tok11
                       refine (len_nil Ar cr _ (by repeat (first | exact Sr_10.out | refine Sp.alloc ?_ _ | refine Sp.drewN ?_ _ | refine Sp.drew ?_))).mono ?_
                       rintro e11 w11 ⟨rfl, hb11⟩
                       have HB_11 : Hid (Below w.heap.size w w11) := bel_chain hb11 (by repeat (first | exact HB_10.out | refine bel_drewN ?_ _ | refine bel_drew ?_ | refine bel_alloc ?_ _))
                       have Sa1_11 : Hid (Sp w11 B1 d1 (X)) := Sp.below (by repeat (first | exact Sa1_10.out | refine Sp.alloc ?_ _ | refine Sp.drewN ?_ _ | refine Sp.drew ?_)) hb11
                       have Sa2_11 : Hid (Sp w11 B2 d2 (U)) := Sp.below (by repeat (first | exact Sa2_10.out | refine Sp.alloc ?_ _ | refine Sp.drewN ?_ _ | refine Sp.drew ?_)) hb11
                       have Sa3_11 : Hid (Sp w11 B3 d3 (V)) := Sp.below (by repeat (first | exact Sa3_10.out | refine Sp.alloc ?_ _ | refine Sp.drewN ?_ _ | refine Sp.drew ?_)) hb11
                       have Sn_11 : Hid (Sp w11 An cn (N)) := Sp.below (by repeat (first | exact Sn_10.out | refine Sp.alloc ?_ _ | refine Sp.drewN ?_ _ | refine Sp.drew ?_)) hb11
                       have Sr_11 : Hid (Sp w11 Ar cr ([])) := Sp.below (by repeat (first | exact Sr_10.out | refine Sp.alloc ?_ _ | refine Sp.drewN ?_ _ | refine Sp.drew ?_)) hb11
                       have Bx_11 : Hid (w11.heap[w3.heap.size]? = some (.cells #[.bool he, .slice B1 X.length d1, .slice B2 U.length d2, .slice B3 V.length d3, .bool tu, .bool fa, .int .i64 ag, .bool jo] 40 (0, 0))) := blk_keep hb11 (blk_keep (W := w10) (by (repeat (first | exact Below.refl _ _ | refine bel_drewN ?_ _ | refine bel_drew ?_ | refine bel_alloc ?_ _ | refine bel_set ?_ (by simp) _))) Bx_10.out)
                       have By_11 : Hid (w11.heap[w3.heap.size + 1]? = some (.cells #[.bool he, .slice B1 X.length d1, .slice An N.length cn, .slice B3 V.length d3, .bool tu, .bool fa, .int .i64 ag, .bool jo] 40 (0, 0))) := blk_keep hb11 (blk_keep (W := w10) (by (repeat (first | exact Below.refl _ _ | refine bel_drewN ?_ _ | refine bel_drew ?_ | refine bel_alloc ?_ _ | refine bel_set ?_ (by simp) _))) By_10.out)
                       have x0_11 : w11.cell? ⟨w3.heap.size, 0, none⟩ = some (.bool he) := blk_cell Bx_11.out rfl
                       have x1_11 : w11.cell? ⟨w3.heap.size, 1, none⟩ = some (.slice B1 X.length d1) := blk_cell Bx_11.out rfl
                       have x2_11 : w11.cell? ⟨w3.heap.size, 2, none⟩ = some (.slice B2 U.length d2) := blk_cell Bx_11.out rfl
                       have x3_11 : w11.cell? ⟨w3.heap.size, 3, none⟩ = some (.slice B3 V.length d3) := blk_cell Bx_11.out rfl
                       have x4_11 : w11.cell? ⟨w3.heap.size, 4, none⟩ = some (.bool tu) := blk_cell Bx_11.out rfl
                       have x5_11 : w11.cell? ⟨w3.heap.size, 5, none⟩ = some (.bool fa) := blk_cell Bx_11.out rfl
                       have x6_11 : w11.cell? ⟨w3.heap.size, 6, none⟩ = some (.int .i64 ag) := blk_cell Bx_11.out rfl
                       have x7_11 : w11.cell? ⟨w3.heap.size, 7, none⟩ = some (.bool jo) := blk_cell Bx_11.out rfl
                       have xz_11 : w3.heap.size < w11.heap.size := blk_lt Bx_11.out
                       have y0_11 : w11.cell? ⟨w3.heap.size + 1, 0, none⟩ = some (.bool he) := blk_cell By_11.out rfl
                       have y1_11 : w11.cell? ⟨w3.heap.size + 1, 1, none⟩ = some (.slice B1 X.length d1) := blk_cell By_11.out rfl
                       have y2_11 : w11.cell? ⟨w3.heap.size + 1, 2, none⟩ = some (.slice An N.length cn) := blk_cell By_11.out rfl
                       have y3_11 : w11.cell? ⟨w3.heap.size + 1, 3, none⟩ = some (.slice B3 V.length d3) := blk_cell By_11.out rfl
                       have y4_11 : w11.cell? ⟨w3.heap.size + 1, 4, none⟩ = some (.bool tu) := blk_cell By_11.out rfl
                       have y5_11 : w11.cell? ⟨w3.heap.size + 1, 5, none⟩ = some (.bool fa) := blk_cell By_11.out rfl
                       have y6_11 : w11.cell? ⟨w3.heap.size + 1, 6, none⟩ = some (.int .i64 ag) := blk_cell By_11.out rfl
                       have y7_11 : w11.cell? ⟨w3.heap.size + 1, 7, none⟩ = some (.bool jo) := blk_cell By_11.out rfl
                       have yz_11 : w3.heap.size + 1 < w11.heap.size := blk_lt By_11.out
                       clear Sa1_10 Sa2_10 Sa3_10 Sn_10 Sr_10 Bx_10 x0_10 x1_10 x2_10 x3_10 x4_10 x5_10 x6_10 x7_10 xz_10 By_10 y0_10 y1_10 y2_10 y3_10 y4_10 y5_10 y6_10 y7_10 yz_10 HB_10 hb11
                       clear Sr_11
                       have tok12 : True := trivial)
                    | (go_at_call 28
                       have _tk := tok12
                       clear _tk tok12
                       refine (sure_as he B1 d1 X B2 d2 U B3 d3 V tu fa ag jo false HSUR.out _ (by repeat (first | exact Sa1_11.out | refine Sp.alloc ?_ _ | refine Sp.drewN ?_ _ | refine Sp.drew ?_)) (by repeat (first | exact Sa2_11.out | refine Sp.alloc ?_ _ | refine Sp.drewN ?_ _ | refine Sp.drew ?_)) (by repeat (first | exact Sa3_11.out | refine Sp.alloc ?_ _ | refine Sp.drewN ?_ _ | refine Sp.drew ?_)) K1.out K2.out K3.out (by omega) (by omega) (by omega)).mono ?_
                       rintro e12 w12 ⟨rfl, hb12⟩
                       have HB_12 : Hid (Below w.heap.size w w12) := bel_chain hb12 (by repeat (first | exact HB_11.out | refine bel_drewN ?_ _ | refine bel_drew ?_ | refine bel_alloc ?_ _))
                       have Sa1_12 : Hid (Sp w12 B1 d1 (X)) := Sp.below (by repeat (first | exact Sa1_11.out | refine Sp.alloc ?_ _ | refine Sp.drewN ?_ _ | refine Sp.drew ?_)) hb12
                       have Sa2_12 : Hid (Sp w12 B2 d2 (U)) := Sp.below (by repeat (first | exact Sa2_11.out | refine Sp.alloc ?_ _ | refine Sp.drewN ?_ _ | refine Sp.drew ?_)) hb12
                       have Sa3_12 : Hid (Sp w12 B3 d3 (V)) := Sp.below (by repeat (first | exact Sa3_11.out | refine Sp.alloc ?_ _ | refine Sp.drewN ?_ _ | refine Sp.drew ?_)) hb12
                       have Sn_12 : Hid (Sp w12 An cn (N)) := Sp.below (by repeat (first | exact Sn_11.out | refine Sp.alloc ?_ _ | refine Sp.drewN ?_ _ | refine Sp.drew ?_)) hb12
                       have Bx_12 : Hid (w12.heap[w3.heap.size]? = some (.cells #[.bool he, .slice B1 X.length d1, .slice B2 U.length d2, .slice B3 V.length d3, .bool tu, .bool fa, .int .i64 ag, .bool jo] 40 (0, 0))) := blk_keep hb12 (blk_keep (W := w11) (by (repeat (first | exact Below.refl _ _ | refine bel_drewN ?_ _ | refine bel_drew ?_ | refine bel_alloc ?_ _ | refine bel_set ?_ (by simp) _))) Bx_11.out)
                       have By_12 : Hid (w12.heap[w3.heap.size + 1]? = some (.cells #[.bool he, .slice B1 X.length d1, .slice An N.length cn, .slice B3 V.length d3, .bool tu, .bool fa, .int .i64 ag, .bool jo] 40 (0, 0))) := blk_keep hb12 (blk_keep (W := w11) (by (repeat (first | exact Below.refl _ _ | refine bel_drewN ?_ _ | refine bel_drew ?_ | refine bel_alloc ?_ _ | refine bel_set ?_ (by simp) _))) By_11.out)
                       have x0_12 : w12.cell? ⟨w3.heap.size, 0, none⟩ = some (.bool he) := blk_cell Bx_12.out rfl
                       have x1_12 : w12.cell? ⟨w3.heap.size, 1, none⟩ = some (.slice B1 X.length d1) := blk_cell Bx_12.out rfl
                       have x2_12 : w12.cell? ⟨w3.heap.size, 2, none⟩ = some (.slice B2 U.length d2) := blk_cell Bx_12.out rfl
                       have x3_12 : w12.cell? ⟨w3.heap.size, 3, none⟩ = some (.slice B3 V.length d3) := blk_cell Bx_12.out rfl
                       have x4_12 : w12.cell? ⟨w3.heap.size, 4, none⟩ = some (.bool tu) := blk_cell Bx_12.out rfl
                       have x5_12 : w12.cell? ⟨w3.heap.size, 5, none⟩ = some (.bool fa) := blk_cell Bx_12.out rfl
                       have x6_12 : w12.cell? ⟨w3.heap.size, 6, none⟩ = some (.int .i64 ag) := blk_cell Bx_12.out rfl
                       have x7_12 : w12.cell? ⟨w3.heap.size, 7, none⟩ = some (.bool jo) := blk_cell Bx_12.out rfl
                       have xz_12 : w3.heap.size < w12.heap.size := blk_lt Bx_12.out
                       have y0_12 : w12.cell? ⟨w3.heap.size + 1, 0, none⟩ = some (.bool he) := blk_cell By_12.out rfl
                       have y1_12 : w12.cell? ⟨w3.heap.size + 1, 1, none⟩ = some (.slice B1 X.length d1) := blk_cell By_12.out rfl
                       have y2_12 : w12.cell? ⟨w3.heap.size + 1, 2, none⟩ = some (.slice An N.length cn) := blk_cell By_12.out rfl
                       have y3_12 : w12.cell? ⟨w3.heap.size + 1, 3, none⟩ = some (.slice B3 V.length d3) := blk_cell By_12.out rfl
                       have y4_12 : w12.cell? ⟨w3.heap.size + 1, 4, none⟩ = some (.bool tu) := blk_cell By_12.out rfl
                       have y5_12 : w12.cell? ⟨w3.heap.size + 1, 5, none⟩ = some (.bool fa) := blk_cell By_12.out rfl
                       have y6_12 : w12.cell? ⟨w3.heap.size + 1, 6, none⟩ = some (.int .i64 ag) := blk_cell By_12.out rfl
                       have y7_12 : w12.cell? ⟨w3.heap.size + 1, 7, none⟩ = some (.bool jo) := blk_cell By_12.out rfl
                       have yz_12 : w3.heap.size + 1 < w12.heap.size := blk_lt By_12.out
                       clear Sa1_11 Sa2_11 Sa3_11 Sn_11 Bx_11 x0_11 x1_11 x2_11 x3_11 x4_11 x5_11 x6_11 x7_11 xz_11 By_11 y0_11 y1_11 y2_11 y3_11 y4_11 y5_11 y6_11 y7_11 yz_11 HB_11 hb12
                       have tok13 : True := trivial))))
              | fail
            all_goals
              go_wp2_with fail
              refine (decide_as he B1 d1 X B2 d2 U B3 d3 V tu fa ag jo dv hdv.out _ (by repeat (first | exact Sa1_12.out | refine Sp.alloc ?_ _ | refine Sp.drewN ?_ _ | refine Sp.drew ?_)) (by repeat (first | exact Sa2_12.out | refine Sp.alloc ?_ _ | refine Sp.drewN ?_ _ | refine Sp.drew ?_)) (by repeat (first | exact Sa3_12.out | refine Sp.alloc ?_ _ | refine Sp.drewN ?_ _ | refine Sp.drew ?_)) K1.out K2.out K3.out (by omega) (by omega) (by omega)).mono ?_
              rintro e13 w13 ⟨rfl, hb13⟩
              have HB_13 : Hid (Below w.heap.size w w13) := bel_chain hb13 (by repeat (first | exact HB_12.out | refine bel_drewN ?_ _ | refine bel_drew ?_ | refine bel_alloc ?_ _))
              have Sa1_13 : Hid (Sp w13 B1 d1 (X)) := Sp.below (by repeat (first | exact Sa1_12.out | refine Sp.alloc ?_ _ | refine Sp.drewN ?_ _ | refine Sp.drew ?_)) hb13
              have Sa2_13 : Hid (Sp w13 B2 d2 (U)) := Sp.below (by repeat (first | exact Sa2_12.out | refine Sp.alloc ?_ _ | refine Sp.drewN ?_ _ | refine Sp.drew ?_)) hb13
              have Sa3_13 : Hid (Sp w13 B3 d3 (V)) := Sp.below (by repeat (first | exact Sa3_12.out | refine Sp.alloc ?_ _ | refine Sp.drewN ?_ _ | refine Sp.drew ?_)) hb13
              have Sn_13 : Hid (Sp w13 An cn (N)) := Sp.below (by repeat (first | exact Sn_12.out | refine Sp.alloc ?_ _ | refine Sp.drewN ?_ _ | refine Sp.drew ?_)) hb13
              have Bx_13 : Hid (w13.heap[w3.heap.size]? = some (.cells #[.bool he, .slice B1 X.length d1, .slice B2 U.length d2, .slice B3 V.length d3, .bool tu, .bool fa, .int .i64 ag, .bool jo] 40 (0, 0))) := blk_keep hb13 (blk_keep (W := w12) (by (repeat (first | exact Below.refl _ _ | refine bel_drewN ?_ _ | refine bel_drew ?_ | refine bel_alloc ?_ _ | refine bel_set ?_ (by simp) _))) Bx_12.out)
              have By_13 : Hid (w13.heap[w3.heap.size + 1]? = some (.cells #[.bool he, .slice B1 X.length d1, .slice An N.length cn, .slice B3 V.length d3, .bool tu, .bool fa, .int .i64 ag, .bool jo] 40 (0, 0))) := blk_keep hb13 (blk_keep (W := w12) (by (repeat (first | exact Below.refl _ _ | refine bel_drewN ?_ _ | refine bel_drew ?_ | refine bel_alloc ?_ _ | refine bel_set ?_ (by simp) _))) By_12.out)
              have x0_13 : w13.cell? ⟨w3.heap.size, 0, none⟩ = some (.bool he) := blk_cell Bx_13.out rfl
              have x1_13 : w13.cell? ⟨w3.heap.size, 1, none⟩ = some (.slice B1 X.length d1) := blk_cell Bx_13.out rfl
              have x2_13 : w13.cell? ⟨w3.heap.size, 2, none⟩ = some (.slice B2 U.length d2) := blk_cell Bx_13.out rfl
              have x3_13 : w13.cell? ⟨w3.heap.size, 3, none⟩ = some (.slice B3 V.length d3) := blk_cell Bx_13.out rfl
              have x4_13 : w13.cell? ⟨w3.heap.size, 4, none⟩ = some (.bool tu) := blk_cell Bx_13.out rfl
              have x5_13 : w13.cell? ⟨w3.heap.size, 5, none⟩ = some (.bool fa) := blk_cell Bx_13.out rfl
              have x6_13 : w13.cell? ⟨w3.heap.size, 6, none⟩ = some (.int .i64 ag) := blk_cell Bx_13.out rfl
              have x7_13 : w13.cell? ⟨w3.heap.size, 7, none⟩ = some (.bool jo) := blk_cell Bx_13.out rfl
              have xz_13 : w3.heap.size < w13.heap.size := blk_lt Bx_13.out
              have y0_13 : w13.cell? ⟨w3.heap.size + 1, 0, none⟩ = some (.bool he) := blk_cell By_13.out rfl
              have y1_13 : w13.cell? ⟨w3.heap.size + 1, 1, none⟩ = some (.slice B1 X.length d1) := blk_cell By_13.out rfl
              have y2_13 : w13.cell? ⟨w3.heap.size + 1, 2, none⟩ = some (.slice An N.length cn) := blk_cell By_13.out rfl
              have y3_13 : w13.cell? ⟨w3.heap.size + 1, 3, none⟩ = some (.slice B3 V.length d3) := blk_cell By_13.out rfl
              have y4_13 : w13.cell? ⟨w3.heap.size + 1, 4, none⟩ = some (.bool tu) := blk_cell By_13.out rfl
              have y5_13 : w13.cell? ⟨w3.heap.size + 1, 5, none⟩ = some (.bool fa) := blk_cell By_13.out rfl
              have y6_13 : w13.cell? ⟨w3.heap.size + 1, 6, none⟩ = some (.int .i64 ag) := blk_cell By_13.out rfl
              have y7_13 : w13.cell? ⟨w3.heap.size + 1, 7, none⟩ = some (.bool jo) := blk_cell By_13.out rfl
              have yz_13 : w3.heap.size + 1 < w13.heap.size := blk_lt By_13.out
              clear Sa1_12 Sa2_12 Sa3_12 Sn_12 Bx_12 x0_12 x1_12 x2_12 x3_12 x4_12 x5_12 x6_12 x7_12 xz_12 By_12 y0_12 y1_12 y2_12 y3_12 y4_12 y5_12 y6_12 y7_12 yz_12 HB_12 hb13
              go_wp2_with fail
              go_ret
              exact ⟨rfl, (by repeat (first | (with_reducible exact HB_13.out) | (with_reducible refine bel_drewN ?_ _) | (with_reducible refine bel_drew ?_) | (with_reducible refine bel_alloc ?_ _) | (with_reducible refine bel_set ?_ (by first | omega | (dsimp only; omega)) _)))⟩
        · have HSUR := Lib.hid hsu
          clear hsu
          by_cases hd : decideL he tu fa jo ag X U V = 1
          · have hd1 := Lib.hid hd
            clear hd
            have tok8 : True := trivial
            go_wp2_with fail
            go_region_held3 (fun w' => w'.cell? ⟨w3.heap.size, 0, none⟩ = some (.bool he) ∧ w'.cell? ⟨w3.heap.size, 1, none⟩ = some (.slice B1 X.length d1) ∧ w'.cell? ⟨w3.heap.size, 2, none⟩ = some (.slice B2 U.length d2) ∧ w'.cell? ⟨w3.heap.size, 3, none⟩ = some (.slice B3 V.length d3) ∧ w'.cell? ⟨w3.heap.size, 4, none⟩ = some (.bool tu) ∧ w'.cell? ⟨w3.heap.size, 5, none⟩ = some (.bool fa) ∧ w'.cell? ⟨w3.heap.size, 6, none⟩ = some (.int .i64 ag) ∧ w'.cell? ⟨w3.heap.size, 7, none⟩ = some (.bool jo) ∧ w'.cell? ⟨w3.heap.size + 1, 0, none⟩ = some (.bool he) ∧ w'.cell? ⟨w3.heap.size + 1, 1, none⟩ = some (.slice B1 X.length d1) ∧ w'.cell? ⟨w3.heap.size + 1, 2, none⟩ = some (.slice An N.length cn) ∧ w'.cell? ⟨w3.heap.size + 1, 3, none⟩ = some (.slice B3 V.length d3) ∧ w'.cell? ⟨w3.heap.size + 1, 4, none⟩ = some (.bool tu) ∧ w'.cell? ⟨w3.heap.size + 1, 5, none⟩ = some (.bool fa) ∧ w'.cell? ⟨w3.heap.size + 1, 6, none⟩ = some (.int .i64 ag) ∧ w'.cell? ⟨w3.heap.size + 1, 7, none⟩ = some (.bool jo))
              (first | ((refine and16 (cells8 (t := 40) (f := (0, 0)) (a0 := .bool he) (a1 := .slice B1 X.length d1) (a2 := .slice B2 U.length d2) (a3 := .slice B3 V.length d3) (a4 := .bool tu) (a5 := .bool fa) (a6 := .int .i64 ag) (a7 := .bool jo) ?_) (cells8 (t := 40) (f := (0, 0)) (a0 := .bool he) (a1 := .slice B1 X.length d1) (a2 := .slice An N.length cn) (a3 := .slice B3 V.length d3) (a4 := .bool tu) (a5 := .bool fa) (a6 := .int .i64 ag) (a7 := .bool jo) ?_)) <;> (repeat (first | (with_reducible exact Bx_13.out) | (with_reducible exact Bx_12.out) | (with_reducible exact Bx_11.out) | (with_reducible exact Bx_10.out) | (with_reducible exact Bx_9.out) | (with_reducible exact Bx_8.out) | (with_reducible exact Bx_7.out) | (with_reducible exact By_13.out) | (with_reducible exact By_12.out) | (with_reducible exact By_11.out) | (with_reducible exact By_10.out) | (with_reducible exact By_9.out) | (with_reducible exact By_8.out) | (with_reducible exact By_7.out) | (with_reducible refine blk_drew ?_) | (with_reducible refine blk_drewN ?_) | (with_reducible refine blk_skip ?_)))))
              (first
                | (go_at_call 25
                   have _tk := tok8
                   clear _tk tok8
                   refine (lost_any he B1 d1 X An cn N B3 d3 V tu fa ag jo _ (by repeat (first | exact Sa1_7.out | refine Sp.alloc ?_ _ | refine Sp.drewN ?_ _ | refine Sp.drew ?_)) (by repeat (first | exact Sn_7.out | refine Sp.alloc ?_ _ | refine Sp.drewN ?_ _ | refine Sp.drew ?_)) (by repeat (first | exact Sa3_7.out | refine Sp.alloc ?_ _ | refine Sp.drewN ?_ _ | refine Sp.drew ?_)) K1.out KN.out K3.out (by omega) (by omega) (by omega)).mono ?_
                   rintro e8 w8 ⟨Ap, cp, rfl, hs8, hb8⟩
                   have HB_8 : Hid (Below w.heap.size w w8) := bel_chain hb8 (by repeat (first | exact HB_7.out | refine bel_drewN ?_ _ | refine bel_drew ?_ | refine bel_alloc ?_ _))
                   have Sa1_8 : Hid (Sp w8 B1 d1 (X)) := Sp.below (by repeat (first | exact Sa1_7.out | refine Sp.alloc ?_ _ | refine Sp.drewN ?_ _ | refine Sp.drew ?_)) hb8
                   have Sa2_8 : Hid (Sp w8 B2 d2 (U)) := Sp.below (by repeat (first | exact Sa2_7.out | refine Sp.alloc ?_ _ | refine Sp.drewN ?_ _ | refine Sp.drew ?_)) hb8
                   have Sa3_8 : Hid (Sp w8 B3 d3 (V)) := Sp.below (by repeat (first | exact Sa3_7.out | refine Sp.alloc ?_ _ | refine Sp.drewN ?_ _ | refine Sp.drew ?_)) hb8
                   have Sn_8 : Hid (Sp w8 An cn (N)) := Sp.below (by repeat (first | exact Sn_7.out | refine Sp.alloc ?_ _ | refine Sp.drewN ?_ _ | refine Sp.drew ?_)) hb8
                   have Bx_8 : Hid (w8.heap[w3.heap.size]? = some (.cells #[.bool he, .slice B1 X.length d1, .slice B2 U.length d2, .slice B3 V.length d3, .bool tu, .bool fa, .int .i64 ag, .bool jo] 40 (0, 0))) := blk_keep hb8 (blk_keep (W := w7) (by (repeat (first | exact Below.refl _ _ | refine bel_drewN ?_ _ | refine bel_drew ?_ | refine bel_alloc ?_ _ | refine bel_set ?_ (by simp) _))) Bx_7.out)
                   have By_8 : Hid (w8.heap[w3.heap.size + 1]? = some (.cells #[.bool he, .slice B1 X.length d1, .slice An N.length cn, .slice B3 V.length d3, .bool tu, .bool fa, .int .i64 ag, .bool jo] 40 (0, 0))) := blk_keep hb8 (blk_keep (W := w7) (by (repeat (first | exact Below.refl _ _ | refine bel_drewN ?_ _ | refine bel_drew ?_ | refine bel_alloc ?_ _ | refine bel_set ?_ (by simp) _))) By_7.out)
                   have xz_8 : w3.heap.size < w8.heap.size := blk_lt Bx_8.out
                   have yz_8 : w3.heap.size + 1 < w8.heap.size := blk_lt By_8.out
                   have Sp_8 : Hid (Sp w8 Ap cp (lostL tu fa jo X N V)) := hs8
                   clear Sa1_7 Sa2_7 Sa3_7 Sn_7 Bx_7 xz_7 By_7 yz_7 hs8 HB_7 hb8
                   have tok9 : True := trivial)
                | (go_at_call 25
                   have _tk := tok9
                   clear _tk tok9
                   refine (lost_any he B1 d1 X B2 d2 U B3 d3 V tu fa ag jo _ (by repeat (first | exact Sa1_8.out | refine Sp.alloc ?_ _ | refine Sp.drewN ?_ _ | refine Sp.drew ?_)) (by repeat (first | exact Sa2_8.out | refine Sp.alloc ?_ _ | refine Sp.drewN ?_ _ | refine Sp.drew ?_)) (by repeat (first | exact Sa3_8.out | refine Sp.alloc ?_ _ | refine Sp.drewN ?_ _ | refine Sp.drew ?_)) K1.out K2.out K3.out (by omega) (by omega) (by omega)).mono ?_
                   rintro e9 w9 ⟨Aq, cq, rfl, hs9, hb9⟩
                   have HB_9 : Hid (Below w.heap.size w w9) := bel_chain hb9 (by repeat (first | exact HB_8.out | refine bel_drewN ?_ _ | refine bel_drew ?_ | refine bel_alloc ?_ _))
                   have Sa1_9 : Hid (Sp w9 B1 d1 (X)) := Sp.below (by repeat (first | exact Sa1_8.out | refine Sp.alloc ?_ _ | refine Sp.drewN ?_ _ | refine Sp.drew ?_)) hb9
                   have Sa2_9 : Hid (Sp w9 B2 d2 (U)) := Sp.below (by repeat (first | exact Sa2_8.out | refine Sp.alloc ?_ _ | refine Sp.drewN ?_ _ | refine Sp.drew ?_)) hb9
                   have Sa3_9 : Hid (Sp w9 B3 d3 (V)) := Sp.below (by repeat (first | exact Sa3_8.out | refine Sp.alloc ?_ _ | refine Sp.drewN ?_ _ | refine Sp.drew ?_)) hb9
                   have Sn_9 : Hid (Sp w9 An cn (N)) := Sp.below (by repeat (first | exact Sn_8.out | refine Sp.alloc ?_ _ | refine Sp.drewN ?_ _ | refine Sp.drew ?_)) hb9
                   have Sp_9 : Hid (Sp w9 Ap cp (lostL tu fa jo X N V)) := Sp.below (by repeat (first | exact Sp_8.out | refine Sp.alloc ?_ _ | refine Sp.drewN ?_ _ | refine Sp.drew ?_)) hb9
                   have Bx_9 : Hid (w9.heap[w3.heap.size]? = some (.cells #[.bool he, .slice B1 X.length d1, .slice B2 U.length d2, .slice B3 V.length d3, .bool tu, .bool fa, .int .i64 ag, .bool jo] 40 (0, 0))) := blk_keep hb9 (blk_keep (W := w8) (by (repeat (first | exact Below.refl _ _ | refine bel_drewN ?_ _ | refine bel_drew ?_ | refine bel_alloc ?_ _ | refine bel_set ?_ (by simp) _))) Bx_8.out)
                   have By_9 : Hid (w9.heap[w3.heap.size + 1]? = some (.cells #[.bool he, .slice B1 X.length d1, .slice An N.length cn, .slice B3 V.length d3, .bool tu, .bool fa, .int .i64 ag, .bool jo] 40 (0, 0))) := blk_keep hb9 (blk_keep (W := w8) (by (repeat (first | exact Below.refl _ _ | refine bel_drewN ?_ _ | refine bel_drew ?_ | refine bel_alloc ?_ _ | refine bel_set ?_ (by simp) _))) By_8.out)
                   have xz_9 : w3.heap.size < w9.heap.size := blk_lt Bx_9.out
                   have yz_9 : w3.heap.size + 1 < w9.heap.size := blk_lt By_9.out
                   have Sq_9 : Hid (Sp w9 Aq cq (lostL tu fa jo X U V)) := hs9
                   clear Sa1_8 Sa2_8 Sa3_8 Sn_8 Sp_8 Bx_8 xz_8 By_8 yz_8 hs9 HB_8 hb9
                   have tok10 : True := trivial)
                | (go_at_call 26
                   have _tk := tok10
                   clear _tk tok10
                   refine (less_nil Ap cp (lostL tu fa jo X N V) Aq cq (lostL tu fa jo X U V) HGL.out _ (by repeat (first | exact Sp_9.out | refine Sp.alloc ?_ _ | refine Sp.drewN ?_ _ | refine Sp.drew ?_)) (by repeat (first | exact Sq_9.out | refine Sp.alloc ?_ _ | refine Sp.drewN ?_ _ | refine Sp.drew ?_)) (lostL_canon ..) (lostL_canon ..) (by omega) (by omega)).mono ?_
                   rintro e10 w10 ⟨Ar, cr, rfl, hs10, hb10⟩
                   have HB_10 : Hid (Below w.heap.size w w10) := bel_chain hb10 (by repeat (first | exact HB_9.out | refine bel_drewN ?_ _ | refine bel_drew ?_ | refine bel_alloc ?_ _))
                   have Sa1_10 : Hid (Sp w10 B1 d1 (X)) := Sp.below (by repeat (first | exact Sa1_9.out | refine Sp.alloc ?_ _ | refine Sp.drewN ?_ _ | refine Sp.drew ?_)) hb10
                   have Sa2_10 : Hid (Sp w10 B2 d2 (U)) := Sp.below (by repeat (first | exact Sa2_9.out | refine Sp.alloc ?_ _ | refine Sp.drewN ?_ _ | refine Sp.drew ?_)) hb10
                   have Sa3_10 : Hid (Sp w10 B3 d3 (V)) := Sp.below (by repeat (first | exact Sa3_9.out | refine Sp.alloc ?_ _ | refine Sp.drewN ?_ _ | refine Sp.drew ?_)) hb10
                   have Sn_10 : Hid (Sp w10 An cn (N)) := Sp.below (by repeat (first | exact Sn_9.out | refine Sp.alloc ?_ _ | refine Sp.drewN ?_ _ | refine Sp.drew ?_)) hb10
                   have Sp_10 : Hid (Sp w10 Ap cp (lostL tu fa jo X N V)) := Sp.below (by repeat (first | exact Sp_9.out | refine Sp.alloc ?_ _ | refine Sp.drewN ?_ _ | refine Sp.drew ?_)) hb10
                   have Sq_10 : Hid (Sp w10 Aq cq (lostL tu fa jo X U V)) := Sp.below (by repeat (first | exact Sq_9.out | refine Sp.alloc ?_ _ | refine Sp.drewN ?_ _ | refine Sp.drew ?_)) hb10
                   have Bx_10 : Hid (w10.heap[w3.heap.size]? = some (.cells #[.bool he, .slice B1 X.length d1, .slice B2 U.length d2, .slice B3 V.length d3, .bool tu, .bool fa, .int .i64 ag, .bool jo] 40 (0, 0))) := blk_keep hb10 (blk_keep (W := w9) (by (repeat (first | exact Below.refl _ _ | refine bel_drewN ?_ _ | refine bel_drew ?_ | refine bel_alloc ?_ _ | refine bel_set ?_ (by simp) _))) Bx_9.out)
                   have By_10 : Hid (w10.heap[w3.heap.size + 1]? = some (.cells #[.bool he, .slice B1 X.length d1, .slice An N.length cn, .slice B3 V.length d3, .bool tu, .bool fa, .int .i64 ag, .bool jo] 40 (0, 0))) := blk_keep hb10 (blk_keep (W := w9) (by (repeat (first | exact Below.refl _ _ | refine bel_drewN ?_ _ | refine bel_drew ?_ | refine bel_alloc ?_ _ | refine bel_set ?_ (by simp) _))) By_9.out)
                   have xz_10 : w3.heap.size < w10.heap.size := blk_lt Bx_10.out
                   have yz_10 : w3.heap.size + 1 < w10.heap.size := blk_lt By_10.out
                   have Sr_10 : Hid (Sp w10 Ar cr ([])) := hs10
                   clear Sa1_9 Sa2_9 Sa3_9 Sn_9 Sp_9 Sq_9 Bx_9 xz_9 By_9 yz_9 hs10 HB_9 hb10
                   clear Sp_10
                   clear Sq_10
                   have tok11 : True := trivial)
                | (go_at_call 27
                   have _tk := tok11
                   clear _tk tok11
                   refine (len_nil Ar cr _ (by repeat (first | exact Sr_10.out | refine Sp.alloc ?_ _ | refine Sp.drewN ?_ _ | refine Sp.drew ?_))).mono ?_
                   rintro e11 w11 ⟨rfl, hb11⟩
                   have HB_11 : Hid (Below w.heap.size w w11) := bel_chain hb11 (by repeat (first | exact HB_10.out | refine bel_drewN ?_ _ | refine bel_drew ?_ | refine bel_alloc ?_ _))
                   have Sa1_11 : Hid (Sp w11 B1 d1 (X)) := Sp.below (by repeat (first | exact Sa1_10.out | refine Sp.alloc ?_ _ | refine Sp.drewN ?_ _ | refine Sp.drew ?_)) hb11
                   have Sa2_11 : Hid (Sp w11 B2 d2 (U)) := Sp.below (by repeat (first | exact Sa2_10.out | refine Sp.alloc ?_ _ | refine Sp.drewN ?_ _ | refine Sp.drew ?_)) hb11
                   have Sa3_11 : Hid (Sp w11 B3 d3 (V)) := Sp.below (by repeat (first | exact Sa3_10.out | refine Sp.alloc ?_ _ | refine Sp.drewN ?_ _ | refine Sp.drew ?_)) hb11
                   have Sn_11 : Hid (Sp w11 An cn (N)) := Sp.below (by repeat (first | exact Sn_10.out | refine Sp.alloc ?_ _ | refine Sp.drewN ?_ _ | refine Sp.drew ?_)) hb11
                   have Sr_11 : Hid (Sp w11 Ar cr ([])) := Sp.below (by repeat (first | exact Sr_10.out | refine Sp.alloc ?_ _ | refine Sp.drewN ?_ _ | refine Sp.drew ?_)) hb11
                   have Bx_11 : Hid (w11.heap[w3.heap.size]? = some (.cells #[.bool he, .slice B1 X.length d1, .slice B2 U.length d2, .slice B3 V.length d3, .bool tu, .bool fa, .int .i64 ag, .bool jo] 40 (0, 0))) := blk_keep hb11 (blk_keep (W := w10) (by (repeat (first | exact Below.refl _ _ | refine bel_drewN ?_ _ | refine bel_drew ?_ | refine bel_alloc ?_ _ | refine bel_set ?_ (by simp) _))) Bx_10.out)
                   have By_11 : Hid (w11.heap[w3.heap.size + 1]? = some (.cells #[.bool he, .slice B1 X.length d1, .slice An N.length cn, .slice B3 V.length d3, .bool tu, .bool fa, .int .i64 ag, .bool jo] 40 (0, 0))) := blk_keep hb11 (blk_keep (W := w10) (by (repeat (first | exact Below.refl _ _ | refine bel_drewN ?_ _ | refine bel_drew ?_ | refine bel_alloc ?_ _ | refine bel_set ?_ (by simp) _))) By_10.out)
                   have xz_11 : w3.heap.size < w11.heap.size := blk_lt Bx_11.out
                   have yz_11 : w3.heap.size + 1 < w11.heap.size := blk_lt By_11.out
                   clear Sa1_10 Sa2_10 Sa3_10 Sn_10 Sr_10 Bx_10 xz_10 By_10 yz_10 HB_10 hb11
                   clear Sr_11
                   have tok12 : True := trivial)
                | (go_at_call 28
                   have _tk := tok12
                   clear _tk tok12
                   refine (sure_as he B1 d1 X B2 d2 U B3 d3 V tu fa ag jo true HSUR.out _ (by repeat (first | exact Sa1_11.out | refine Sp.alloc ?_ _ | refine Sp.drewN ?_ _ | refine Sp.drew ?_)) (by repeat (first | exact Sa2_11.out | refine Sp.alloc ?_ _ | refine Sp.drewN ?_ _ | refine Sp.drew ?_)) (by repeat (first | exact Sa3_11.out | refine Sp.alloc ?_ _ | refine Sp.drewN ?_ _ | refine Sp.drew ?_)) K1.out K2.out K3.out (by omega) (by omega) (by omega)).mono ?_
                   rintro e12 w12 ⟨rfl, hb12⟩
                   have HB_12 : Hid (Below w.heap.size w w12) := bel_chain hb12 (by repeat (first | exact HB_11.out | refine bel_drewN ?_ _ | refine bel_drew ?_ | refine bel_alloc ?_ _))
                   have Sa1_12 : Hid (Sp w12 B1 d1 (X)) := Sp.below (by repeat (first | exact Sa1_11.out | refine Sp.alloc ?_ _ | refine Sp.drewN ?_ _ | refine Sp.drew ?_)) hb12
                   have Sa2_12 : Hid (Sp w12 B2 d2 (U)) := Sp.below (by repeat (first | exact Sa2_11.out | refine Sp.alloc ?_ _ | refine Sp.drewN ?_ _ | refine Sp.drew ?_)) hb12
                   have Sa3_12 : Hid (Sp w12 B3 d3 (V)) := Sp.below (by repeat (first | exact Sa3_11.out | refine Sp.alloc ?_ _ | refine Sp.drewN ?_ _ | refine Sp.drew ?_)) hb12
                   have Sn_12 : Hid (Sp w12 An cn (N)) := Sp.below (by repeat (first | exact Sn_11.out | refine Sp.alloc ?_ _ | refine Sp.drewN ?_ _ | refine Sp.drew ?_)) hb12
                   have Bx_12 : Hid (w12.heap[w3.heap.size]? = some (.cells #[.bool he, .slice B1 X.length d1, .slice B2 U.length d2, .slice B3 V.length d3, .bool tu, .bool fa, .int .i64 ag, .bool jo] 40 (0, 0))) := blk_keep hb12 (blk_keep (W := w11) (by (repeat (first | exact Below.refl _ _ | refine bel_drewN ?_ _ | refine bel_drew ?_ | refine bel_alloc ?_ _ | refine bel_set ?_ (by simp) _))) Bx_11.out)
                   have By_12 : Hid (w12.heap[w3.heap.size + 1]? = some (.cells #[.bool he, .slice B1 X.length d1, .slice An N.length cn, .slice B3 V.length d3, .bool tu, .bool fa, .int .i64 ag, .bool jo] 40 (0, 0))) := blk_keep hb12 (blk_keep (W := w11) (by (repeat (first | exact Below.refl _ _ | refine bel_drewN ?_ _ | refine bel_drew ?_ | refine bel_alloc ?_ _ | refine bel_set ?_ (by simp) _))) By_11.out)
                   have xz_12 : w3.heap.size < w12.heap.size := blk_lt Bx_12.out
                   have yz_12 : w3.heap.size + 1 < w12.heap.size := blk_lt By_12.out
                   clear Sa1_11 Sa2_11 Sa3_11 Sn_11 Bx_11 xz_11 By_11 yz_11 HB_11 hb12
                   have tok13 : True := trivial)
                | (go_at_call 28
                   have _tk := tok13
                   clear _tk tok13
                   refine (sure_as he B1 d1 X An cn N B3 d3 V tu fa ag jo true (HGS.out HSUR.out) _ (by repeat (first | exact Sa1_12.out | refine Sp.alloc ?_ _ | refine Sp.drewN ?_ _ | refine Sp.drew ?_)) (by repeat (first | exact Sn_12.out | refine Sp.alloc ?_ _ | refine Sp.drewN ?_ _ | refine Sp.drew ?_)) (by repeat (first | exact Sa3_12.out | refine Sp.alloc ?_ _ | refine Sp.drewN ?_ _ | refine Sp.drew ?_)) K1.out KN.out K3.out (by omega) (by omega) (by omega)).mono ?_
                   rintro e13 w13 ⟨rfl, hb13⟩
                   have HB_13 : Hid (Below w.heap.size w w13) := bel_chain hb13 (by repeat (first | exact HB_12.out | refine bel_drewN ?_ _ | refine bel_drew ?_ | refine bel_alloc ?_ _))
                   have Sa1_13 : Hid (Sp w13 B1 d1 (X)) := Sp.below (by repeat (first | exact Sa1_12.out | refine Sp.alloc ?_ _ | refine Sp.drewN ?_ _ | refine Sp.drew ?_)) hb13
                   have Sa2_13 : Hid (Sp w13 B2 d2 (U)) := Sp.below (by repeat (first | exact Sa2_12.out | refine Sp.alloc ?_ _ | refine Sp.drewN ?_ _ | refine Sp.drew ?_)) hb13
                   have Sa3_13 : Hid (Sp w13 B3 d3 (V)) := Sp.below (by repeat (first | exact Sa3_12.out | refine Sp.alloc ?_ _ | refine Sp.drewN ?_ _ | refine Sp.drew ?_)) hb13
                   have Sn_13 : Hid (Sp w13 An cn (N)) := Sp.below (by repeat (first | exact Sn_12.out | refine Sp.alloc ?_ _ | refine Sp.drewN ?_ _ | refine Sp.drew ?_)) hb13
                   have Bx_13 : Hid (w13.heap[w3.heap.size]? = some (.cells #[.bool he, .slice B1 X.length d1, .slice B2 U.length d2, .slice B3 V.length d3, .bool tu, .bool fa, .int .i64 ag, .bool jo] 40 (0, 0))) := blk_keep hb13 (blk_keep (W := w12) (by (repeat (first | exact Below.refl _ _ | refine bel_drewN ?_ _ | refine bel_drew ?_ | refine bel_alloc ?_ _ | refine bel_set ?_ (by simp) _))) Bx_12.out)
                   have By_13 : Hid (w13.heap[w3.heap.size + 1]? = some (.cells #[.bool he, .slice B1 X.length d1, .slice An N.length cn, .slice B3 V.length d3, .bool tu, .bool fa, .int .i64 ag, .bool jo] 40 (0, 0))) := blk_keep hb13 (blk_keep (W := w12) (by (repeat (first | exact Below.refl _ _ | refine bel_drewN ?_ _ | refine bel_drew ?_ | refine bel_alloc ?_ _ | refine bel_set ?_ (by simp) _))) By_12.out)
                   have xz_13 : w3.heap.size < w13.heap.size := blk_lt Bx_13.out
                   have yz_13 : w3.heap.size + 1 < w13.heap.size := blk_lt By_13.out
                   clear Sa1_12 Sa2_12 Sa3_12 Sn_12 Bx_12 xz_12 By_12 yz_12 HB_12 hb13
                   have tok14 : True := trivial))
            have x0_13 : w13.cell? ⟨w3.heap.size, 0, none⟩ = some (.bool he) := blk_cell Bx_13.out rfl
            have x1_13 : w13.cell? ⟨w3.heap.size, 1, none⟩ = some (.slice B1 X.length d1) := blk_cell Bx_13.out rfl
            have x2_13 : w13.cell? ⟨w3.heap.size, 2, none⟩ = some (.slice B2 U.length d2) := blk_cell Bx_13.out rfl
            have x3_13 : w13.cell? ⟨w3.heap.size, 3, none⟩ = some (.slice B3 V.length d3) := blk_cell Bx_13.out rfl
            have x4_13 : w13.cell? ⟨w3.heap.size, 4, none⟩ = some (.bool tu) := blk_cell Bx_13.out rfl
            have x5_13 : w13.cell? ⟨w3.heap.size, 5, none⟩ = some (.bool fa) := blk_cell Bx_13.out rfl
            have x6_13 : w13.cell? ⟨w3.heap.size, 6, none⟩ = some (.int .i64 ag) := blk_cell Bx_13.out rfl
            have x7_13 : w13.cell? ⟨w3.heap.size, 7, none⟩ = some (.bool jo) := blk_cell Bx_13.out rfl
            have xz_13 : w3.heap.size < w13.heap.size := blk_lt Bx_13.out
            have y0_13 : w13.cell? ⟨w3.heap.size + 1, 0, none⟩ = some (.bool he) := blk_cell By_13.out rfl
            have y1_13 : w13.cell? ⟨w3.heap.size + 1, 1, none⟩ = some (.slice B1 X.length d1) := blk_cell By_13.out rfl
            have y2_13 : w13.cell? ⟨w3.heap.size + 1, 2, none⟩ = some (.slice An N.length cn) := blk_cell By_13.out rfl
            have y3_13 : w13.cell? ⟨w3.heap.size + 1, 3, none⟩ = some (.slice B3 V.length d3) := blk_cell By_13.out rfl
            have y4_13 : w13.cell? ⟨w3.heap.size + 1, 4, none⟩ = some (.bool tu) := blk_cell By_13.out rfl
            have y5_13 : w13.cell? ⟨w3.heap.size + 1, 5, none⟩ = some (.bool fa) := blk_cell By_13.out rfl
            have y6_13 : w13.cell? ⟨w3.heap.size + 1, 6, none⟩ = some (.int .i64 ag) := blk_cell By_13.out rfl
            have y7_13 : w13.cell? ⟨w3.heap.size + 1, 7, none⟩ = some (.bool jo) := blk_cell By_13.out rfl
            have yz_13 : w3.heap.size + 1 < w13.heap.size := blk_lt By_13.out
            go_wp2_with fail
            refine (decide_as he B1 d1 X B2 d2 U B3 d3 V tu fa ag jo 1 hd1.out _ (by repeat (first | exact Sa1_13.out | refine Sp.alloc ?_ _ | refine Sp.drewN ?_ _ | refine Sp.drew ?_)) (by repeat (first | exact Sa2_13.out | refine Sp.alloc ?_ _ | refine Sp.drewN ?_ _ | refine Sp.drew ?_)) (by repeat (first | exact Sa3_13.out | refine Sp.alloc ?_ _ | refine Sp.drewN ?_ _ | refine Sp.drew ?_)) K1.out K2.out K3.out (by omega) (by omega) (by omega)).mono ?_
            rintro e14 w14 ⟨rfl, hb14⟩
            have HB_14 : Hid (Below w.heap.size w w14) := bel_chain hb14 (by repeat (first | exact HB_13.out | refine bel_drewN ?_ _ | refine bel_drew ?_ | refine bel_alloc ?_ _))
            have Sa1_14 : Hid (Sp w14 B1 d1 (X)) := Sp.below (by repeat (first | exact Sa1_13.out | refine Sp.alloc ?_ _ | refine Sp.drewN ?_ _ | refine Sp.drew ?_)) hb14
            have Sa2_14 : Hid (Sp w14 B2 d2 (U)) := Sp.below (by repeat (first | exact Sa2_13.out | refine Sp.alloc ?_ _ | refine Sp.drewN ?_ _ | refine Sp.drew ?_)) hb14
            have Sa3_14 : Hid (Sp w14 B3 d3 (V)) := Sp.below (by repeat (first | exact Sa3_13.out | refine Sp.alloc ?_ _ | refine Sp.drewN ?_ _ | refine Sp.drew ?_)) hb14
            have Sn_14 : Hid (Sp w14 An cn (N)) := Sp.below (by repeat (first | exact Sn_13.out | refine Sp.alloc ?_ _ | refine Sp.drewN ?_ _ | refine Sp.drew ?_)) hb14
            have Bx_14 : Hid (w14.heap[w3.heap.size]? = some (.cells #[.bool he, .slice B1 X.length d1, .slice B2 U.length d2, .slice B3 V.length d3, .bool tu, .bool fa, .int .i64 ag, .bool jo] 40 (0, 0))) := blk_keep hb14 (blk_keep (W := w13) (by (repeat (first | exact Below.refl _ _ | refine bel_drewN ?_ _ | refine bel_drew ?_ | refine bel_alloc ?_ _ | refine bel_set ?_ (by simp) _))) Bx_13.out)
            have By_14 : Hid (w14.heap[w3.heap.size + 1]? = some (.cells #[.bool he, .slice B1 X.length d1, .slice An N.length cn, .slice B3 V.length d3, .bool tu, .bool fa, .int .i64 ag, .bool jo] 40 (0, 0))) := blk_keep hb14 (blk_keep (W := w13) (by (repeat (first | exact Below.refl _ _ | refine bel_drewN ?_ _ | refine bel_drew ?_ | refine bel_alloc ?_ _ | refine bel_set ?_ (by simp) _))) By_13.out)
            have x0_14 : w14.cell? ⟨w3.heap.size, 0, none⟩ = some (.bool he) := blk_cell Bx_14.out rfl
            have x1_14 : w14.cell? ⟨w3.heap.size, 1, none⟩ = some (.slice B1 X.length d1) := blk_cell Bx_14.out rfl
            have x2_14 : w14.cell? ⟨w3.heap.size, 2, none⟩ = some (.slice B2 U.length d2) := blk_cell Bx_14.out rfl
            have x3_14 : w14.cell? ⟨w3.heap.size, 3, none⟩ = some (.slice B3 V.length d3) := blk_cell Bx_14.out rfl
            have x4_14 : w14.cell? ⟨w3.heap.size, 4, none⟩ = some (.bool tu) := blk_cell Bx_14.out rfl
            have x5_14 : w14.cell? ⟨w3.heap.size, 5, none⟩ = some (.bool fa) := blk_cell Bx_14.out rfl
            have x6_14 : w14.cell? ⟨w3.heap.size, 6, none⟩ = some (.int .i64 ag) := blk_cell Bx_14.out rfl
            have x7_14 : w14.cell? ⟨w3.heap.size, 7, none⟩ = some (.bool jo) := blk_cell Bx_14.out rfl
            have xz_14 : w3.heap.size < w14.heap.size := blk_lt Bx_14.out
            have y0_14 : w14.cell? ⟨w3.heap.size + 1, 0, none⟩ = some (.bool he) := blk_cell By_14.out rfl
            have y1_14 : w14.cell? ⟨w3.heap.size + 1, 1, none⟩ = some (.slice B1 X.length d1) := blk_cell By_14.out rfl
            have y2_14 : w14.cell? ⟨w3.heap.size + 1, 2, none⟩ = some (.slice An N.length cn) := blk_cell By_14.out rfl
            have y3_14 : w14.cell? ⟨w3.heap.size + 1, 3, none⟩ = some (.slice B3 V.length d3) := blk_cell By_14.out rfl
            have y4_14 : w14.cell? ⟨w3.heap.size + 1, 4, none⟩ = some (.bool tu) := blk_cell By_14.out rfl
            have y5_14 : w14.cell? ⟨w3.heap.size + 1, 5, none⟩ = some (.bool fa) := blk_cell By_14.out rfl
            have y6_14 : w14.cell? ⟨w3.heap.size + 1, 6, none⟩ = some (.int .i64 ag) := blk_cell By_14.out rfl
            have y7_14 : w14.cell? ⟨w3.heap.size + 1, 7, none⟩ = some (.bool jo) := blk_cell By_14.out rfl
            have yz_14 : w3.heap.size + 1 < w14.heap.size := blk_lt By_14.out
            clear Sa1_13 Sa2_13 Sa3_13 Sn_13 Bx_13 x0_13 x1_13 x2_13 x3_13 x4_13 x5_13 x6_13 x7_13 xz_13 By_13 y0_13 y1_13 y2_13 y3_13 y4_13 y5_13 y6_13 y7_13 yz_13 HB_13 hb14
            go_wp2_with fail
            refine (decide_as he B1 d1 X An cn N B3 d3 V tu fa ag jo 1 (HGD.out hd1.out) _ (by repeat (first | exact Sa1_14.out | refine Sp.alloc ?_ _ | refine Sp.drewN ?_ _ | refine Sp.drew ?_)) (by repeat (first | exact Sn_14.out | refine Sp.alloc ?_ _ | refine Sp.drewN ?_ _ | refine Sp.drew ?_)) (by repeat (first | exact Sa3_14.out | refine Sp.alloc ?_ _ | refine Sp.drewN ?_ _ | refine Sp.drew ?_)) K1.out KN.out K3.out (by omega) (by omega) (by omega)).mono ?_
            rintro e15 w15 ⟨rfl, hb15⟩
            have HB_15 : Hid (Below w.heap.size w w15) := bel_chain hb15 (by repeat (first | exact HB_14.out | refine bel_drewN ?_ _ | refine bel_drew ?_ | refine bel_alloc ?_ _))
            have Sa1_15 : Hid (Sp w15 B1 d1 (X)) := Sp.below (by repeat (first | exact Sa1_14.out | refine Sp.alloc ?_ _ | refine Sp.drewN ?_ _ | refine Sp.drew ?_)) hb15
            have Sa2_15 : Hid (Sp w15 B2 d2 (U)) := Sp.below (by repeat (first | exact Sa2_14.out | refine Sp.alloc ?_ _ | refine Sp.drewN ?_ _ | refine Sp.drew ?_)) hb15
            have Sa3_15 : Hid (Sp w15 B3 d3 (V)) := Sp.below (by repeat (first | exact Sa3_14.out | refine Sp.alloc ?_ _ | refine Sp.drewN ?_ _ | refine Sp.drew ?_)) hb15
            have Sn_15 : Hid (Sp w15 An cn (N)) := Sp.below (by repeat (first | exact Sn_14.out | refine Sp.alloc ?_ _ | refine Sp.drewN ?_ _ | refine Sp.drew ?_)) hb15
            have Bx_15 : Hid (w15.heap[w3.heap.size]? = some (.cells #[.bool he, .slice B1 X.length d1, .slice B2 U.length d2, .slice B3 V.length d3, .bool tu, .bool fa, .int .i64 ag, .bool jo] 40 (0, 0))) := blk_keep hb15 (blk_keep (W := w14) (by (repeat (first | exact Below.refl _ _ | refine bel_drewN ?_ _ | refine bel_drew ?_ | refine bel_alloc ?_ _ | refine bel_set ?_ (by simp) _))) Bx_14.out)
            have By_15 : Hid (w15.heap[w3.heap.size + 1]? = some (.cells #[.bool he, .slice B1 X.length d1, .slice An N.length cn, .slice B3 V.length d3, .bool tu, .bool fa, .int .i64 ag, .bool jo] 40 (0, 0))) := blk_keep hb15 (blk_keep (W := w14) (by (repeat (first | exact Below.refl _ _ | refine bel_drewN ?_ _ | refine bel_drew ?_ | refine bel_alloc ?_ _ | refine bel_set ?_ (by simp) _))) By_14.out)
            have x0_15 : w15.cell? ⟨w3.heap.size, 0, none⟩ = some (.bool he) := blk_cell Bx_15.out rfl
            have x1_15 : w15.cell? ⟨w3.heap.size, 1, none⟩ = some (.slice B1 X.length d1) := blk_cell Bx_15.out rfl
            have x2_15 : w15.cell? ⟨w3.heap.size, 2, none⟩ = some (.slice B2 U.length d2) := blk_cell Bx_15.out rfl
            have x3_15 : w15.cell? ⟨w3.heap.size, 3, none⟩ = some (.slice B3 V.length d3) := blk_cell Bx_15.out rfl
            have x4_15 : w15.cell? ⟨w3.heap.size, 4, none⟩ = some (.bool tu) := blk_cell Bx_15.out rfl
            have x5_15 : w15.cell? ⟨w3.heap.size, 5, none⟩ = some (.bool fa) := blk_cell Bx_15.out rfl
            have x6_15 : w15.cell? ⟨w3.heap.size, 6, none⟩ = some (.int .i64 ag) := blk_cell Bx_15.out rfl
            have x7_15 : w15.cell? ⟨w3.heap.size, 7, none⟩ = some (.bool jo) := blk_cell Bx_15.out rfl
            have xz_15 : w3.heap.size < w15.heap.size := blk_lt Bx_15.out
            have y0_15 : w15.cell? ⟨w3.heap.size + 1, 0, none⟩ = some (.bool he) := blk_cell By_15.out rfl
            have y1_15 : w15.cell? ⟨w3.heap.size + 1, 1, none⟩ = some (.slice B1 X.length d1) := blk_cell By_15.out rfl
            have y2_15 : w15.cell? ⟨w3.heap.size + 1, 2, none⟩ = some (.slice An N.length cn) := blk_cell By_15.out rfl
            have y3_15 : w15.cell? ⟨w3.heap.size + 1, 3, none⟩ = some (.slice B3 V.length d3) := blk_cell By_15.out rfl
            have y4_15 : w15.cell? ⟨w3.heap.size + 1, 4, none⟩ = some (.bool tu) := blk_cell By_15.out rfl
            have y5_15 : w15.cell? ⟨w3.heap.size + 1, 5, none⟩ = some (.bool fa) := blk_cell By_15.out rfl
            have y6_15 : w15.cell? ⟨w3.heap.size + 1, 6, none⟩ = some (.int .i64 ag) := blk_cell By_15.out rfl
            have y7_15 : w15.cell? ⟨w3.heap.size + 1, 7, none⟩ = some (.bool jo) := blk_cell By_15.out rfl
            have yz_15 : w3.heap.size + 1 < w15.heap.size := blk_lt By_15.out
            clear Sa1_14 Sa2_14 Sa3_14 Sn_14 Bx_14 x0_14 x1_14 x2_14 x3_14 x4_14 x5_14 x6_14 x7_14 xz_14 By_14 y0_14 y1_14 y2_14 y3_14 y4_14 y5_14 y6_14 y7_14 yz_14 HB_14 hb15
            go_wp2_with fail
            go_ret
            exact ⟨rfl, (by repeat (first | (with_reducible exact HB_15.out) | (with_reducible refine bel_drewN ?_ _) | (with_reducible refine bel_drew ?_) | (with_reducible refine bel_alloc ?_ _) | (with_reducible refine bel_set ?_ (by first | omega | (dsimp only; omega)) _)))⟩
          · obtain ⟨dv, hdv0⟩ : ∃ dv, decideL he tu fa jo ag X U V = dv := ⟨_, rfl⟩
            rw [hdv0] at hd
            have hdv := Lib.hid hdv0
            have hdn : (dv != 1) = true := by simpa using hd
            clear hd hdv0
            have tok8 : True := trivial
            go_wp2_with fail
            go_region_held3 (fun w' => w'.cell? ⟨w3.heap.size, 0, none⟩ = some (.bool he) ∧ w'.cell? ⟨w3.heap.size, 1, none⟩ = some (.slice B1 X.length d1) ∧ w'.cell? ⟨w3.heap.size, 2, none⟩ = some (.slice B2 U.length d2) ∧ w'.cell? ⟨w3.heap.size, 3, none⟩ = some (.slice B3 V.length d3) ∧ w'.cell? ⟨w3.heap.size, 4, none⟩ = some (.bool tu) ∧ w'.cell? ⟨w3.heap.size, 5, none⟩ = some (.bool fa) ∧ w'.cell? ⟨w3.heap.size, 6, none⟩ = some (.int .i64 ag) ∧ w'.cell? ⟨w3.heap.size, 7, none⟩ = some (.bool jo) ∧ w'.cell? ⟨w3.heap.size + 1, 0, none⟩ = some (.bool he) ∧ w'.cell? ⟨w3.heap.size + 1, 1, none⟩ = some (.slice B1 X.length d1) ∧ w'.cell? ⟨w3.heap.size + 1, 2, none⟩ = some (.slice An N.length cn) ∧ w'.cell? ⟨w3.heap.size + 1, 3, none⟩ = some (.slice B3 V.length d3) ∧ w'.cell? ⟨w3.heap.size + 1, 4, none⟩ = some (.bool tu) ∧ w'.cell? ⟨w3.heap.size + 1, 5, none⟩ = some (.bool fa) ∧ w'.cell? ⟨w3.heap.size + 1, 6, none⟩ = some (.int .i64 ag) ∧ w'.cell? ⟨w3.heap.size + 1, 7, none⟩ = some (.bool jo))
              (first | ((refine and16 (cells8 (t := 40) (f := (0, 0)) (a0 := .bool he) (a1 := .slice B1 X.length d1) (a2 := .slice B2 U.length d2) (a3 := .slice B3 V.length d3) (a4 := .bool tu) (a5 := .bool fa) (a6 := .int .i64 ag) (a7 := .bool jo) ?_) (cells8 (t := 40) (f := (0, 0)) (a0 := .bool he) (a1 := .slice B1 X.length d1) (a2 := .slice An N.length cn) (a3 := .slice B3 V.length d3) (a4 := .bool tu) (a5 := .bool fa) (a6 := .int .i64 ag) (a7 := .bool jo) ?_)) <;> (repeat (first | (with_reducible exact Bx_13.out) | (with_reducible exact Bx_12.out) | (with_reducible exact Bx_11.out) | (with_reducible exact Bx_10.out) | (with_reducible exact Bx_9.out) | (with_reducible exact Bx_8.out) | (with_reducible exact Bx_7.out) | (with_reducible exact By_13.out) | (with_reducible exact By_12.out) | (with_reducible exact By_11.out) | (with_reducible exact By_10.out) | (with_reducible exact By_9.out) | (with_reducible exact By_8.out) | (with_reducible exact By_7.out) | (with_reducible refine blk_drew ?_) | (with_reducible refine blk_drewN ?_) | (with_reducible refine blk_skip ?_)))))
              (first
                | (go_at_call 25
                   have _tk := tok8
                   clear _tk tok8
                   refine (lost_any he B1 d1 X An cn N B3 d3 V tu fa ag jo _ (by repeat (first | exact Sa1_7.out | refine Sp.alloc ?_ _ | refine Sp.drewN ?_ _ | refine Sp.drew ?_)) (by repeat (first | exact Sn_7.out | refine Sp.alloc ?_ _ | refine Sp.drewN ?_ _ | refine Sp.drew ?_)) (by repeat (first | exact Sa3_7.out | refine Sp.alloc ?_ _ | refine Sp.drewN ?_ _ | refine Sp.drew ?_)) K1.out KN.out K3.out (by omega) (by omega) (by omega)).mono ?_
                   rintro e8 w8 ⟨Ap, cp, rfl, hs8, hb8⟩
                   have HB_8 : Hid (Below w.heap.size w w8) := bel_chain hb8 (by repeat (first | exact HB_7.out | refine bel_drewN ?_ _ | refine bel_drew ?_ | refine bel_alloc ?_ _))
                   have Sa1_8 : Hid (Sp w8 B1 d1 (X)) := Sp.below (by repeat (first | exact Sa1_7.out | refine Sp.alloc ?_ _ | refine Sp.drewN ?_ _ | refine Sp.drew ?_)) hb8
                   have Sa2_8 : Hid (Sp w8 B2 d2 (U)) := Sp.below (by repeat (first | exact Sa2_7.out | refine Sp.alloc ?_ _ | refine Sp.drewN ?_ _ | refine Sp.drew ?_)) hb8
                   have Sa3_8 : Hid (Sp w8 B3 d3 (V)) := Sp.below (by repeat (first | exact Sa3_7.out | refine Sp.alloc ?_ _ | refine Sp.drewN ?_ _ | refine Sp.drew ?_)) hb8
                   have Sn_8 : Hid (Sp w8 An cn (N)) := Sp.below (by repeat (first | exact Sn_7.out | refine Sp.alloc ?_ _ | refine Sp.drewN ?_ _ | refine Sp.drew ?_)) hb8
                   have Bx_8 : Hid (w8.heap[w3.heap.size]? = some (.cells #[.bool he, .slice B1 X.length d1, .slice B2 U.length d2, .slice B3 V.length d3, .bool tu, .bool fa, .int .i64 ag, .bool jo] 40 (0, 0))) := blk_keep hb8 (blk_keep (W := w7) (by (repeat (first | exact Below.refl _ _ | refine bel_drewN ?_ _ | refine bel_drew ?_ | refine bel_alloc ?_ _ | refine bel_set ?_ (by simp) _))) Bx_7.out)
                   have By_8 : Hid (w8.heap[w3.heap.size + 1]? = some (.cells #[.bool he, .slice B1 X.length d1, .slice An N.length cn, .slice B3 V.length d3, .bool tu, .bool fa, .int .i64 ag, .bool jo] 40 (0, 0))) := blk_keep hb8 (blk_keep (W := w7) (by (repeat (first | exact Below.refl _ _ | refine bel_drewN ?_ _ | refine bel_drew ?_ | refine bel_alloc ?_ _ | refine bel_set ?_ (by simp) _))) By_7.out)
                   have xz_8 : w3.heap.size < w8.heap.size := blk_lt Bx_8.out
                   have yz_8 : w3.heap.size + 1 < w8.heap.size := blk_lt By_8.out
                   have Sp_8 : Hid (Sp w8 Ap cp (lostL tu fa jo X N V)) := hs8
                   clear Sa1_7 Sa2_7 Sa3_7 Sn_7 Bx_7 xz_7 By_7 yz_7 hs8 HB_7 hb8
                   have tok9 : True := trivial)
                | (go_at_call 25
                   have _tk := tok9
                   clear _tk tok9
                   refine (lost_any he B1 d1 X B2 d2 U B3 d3 V tu fa ag jo _ (by repeat (first | exact Sa1_8.out | refine Sp.alloc ?_ _ | refine Sp.drewN ?_ _ | refine Sp.drew ?_)) (by repeat (first | exact Sa2_8.out | refine Sp.alloc ?_ _ | refine Sp.drewN ?_ _ | refine Sp.drew ?_)) (by repeat (first | exact Sa3_8.out | refine Sp.alloc ?_ _ | refine Sp.drewN ?_ _ | refine Sp.drew ?_)) K1.out K2.out K3.out (by omega) (by omega) (by omega)).mono ?_
                   rintro e9 w9 ⟨Aq, cq, rfl, hs9, hb9⟩
                   have HB_9 : Hid (Below w.heap.size w w9) := bel_chain hb9 (by repeat (first | exact HB_8.out | refine bel_drewN ?_ _ | refine bel_drew ?_ | refine bel_alloc ?_ _))
                   have Sa1_9 : Hid (Sp w9 B1 d1 (X)) := Sp.below (by repeat (first | exact Sa1_8.out | refine Sp.alloc ?_ _ | refine Sp.drewN ?_ _ | refine Sp.drew ?_)) hb9
                   have Sa2_9 : Hid (Sp w9 B2 d2 (U)) := Sp.below (by repeat (first | exact Sa2_8.out | refine Sp.alloc ?_ _ | refine Sp.drewN ?_ _ | refine Sp.drew ?_)) hb9
                   have Sa3_9 : Hid (Sp w9 B3 d3 (V)) := Sp.below (by repeat (first | exact Sa3_8.out | refine Sp.alloc ?_ _ | refine Sp.drewN ?_ _ | refine Sp.drew ?_)) hb9
                   have Sn_9 : Hid (Sp w9 An cn (N)) := Sp.below (by repeat (first | exact Sn_8.out | refine Sp.alloc ?_ _ | refine Sp.drewN ?_ _ | refine Sp.drew ?_)) hb9
                   have Sp_9 : Hid (Sp w9 Ap cp (lostL tu fa jo X N V)) := Sp.below (by repeat (first | exact Sp_8.out | refine Sp.alloc ?_ _ | refine Sp.drewN ?_ _ | refine Sp.drew ?_)) hb9
                   have Bx_9 : Hid (w9.heap[w3.heap.size]? = some (.cells #[.bool he, .slice B1 X.length d1, .slice B2 U.length d2, .slice B3 V.length d3, .bool tu, .bool fa, .int .i64 ag, .bool jo] 40 (0, 0))) := blk_keep hb9 (blk_keep (W := w8) (by (repeat (first | exact Below.refl _ _ | refine bel_drewN ?_ _ | refine bel_drew ?_ | refine bel_alloc ?_ _ | refine bel_set ?_ (by simp) _))) Bx_8.out)
                   have By_9 : Hid (w9.heap[w3.heap.size + 1]? = some (.cells #[.bool he, .slice B1 X.length d1, .slice An N.length cn, .slice B3 V.length d3, .bool tu, .bool fa, .int .i64 ag, .bool jo] 40 (0, 0))) := blk_keep hb9 (blk_keep (W := w8) (by (repeat (first | exact Below.refl _ _ | refine bel_drewN ?_ _ | refine bel_drew ?_ | refine bel_alloc ?_ _ | refine bel_set ?_ (by simp) _))) By_8.out)
                   have xz_9 : w3.heap.size < w9.heap.size := blk_lt Bx_9.out
                   have yz_9 : w3.heap.size + 1 < w9.heap.size := blk_lt By_9.out
                   have Sq_9 : Hid (Sp w9 Aq cq (lostL tu fa jo X U V)) := hs9
                   clear Sa1_8 Sa2_8 Sa3_8 Sn_8 Sp_8 Bx_8 xz_8 By_8 yz_8 hs9 HB_8 hb9
                   have tok10 : True := trivial)
                | (go_at_call 26
                   have _tk := tok10
                   clear _tk tok10
                   refine (less_nil Ap cp (lostL tu fa jo X N V) Aq cq (lostL tu fa jo X U V) HGL.out _ (by repeat (first | exact Sp_9.out | refine Sp.alloc ?_ _ | refine Sp.drewN ?_ _ | refine Sp.drew ?_)) (by repeat (first | exact Sq_9.out | refine Sp.alloc ?_ _ | refine Sp.drewN ?_ _ | refine Sp.drew ?_)) (lostL_canon ..) (lostL_canon ..) (by omega) (by omega)).mono ?_
                   rintro e10 w10 ⟨Ar, cr, rfl, hs10, hb10⟩
                   have HB_10 : Hid (Below w.heap.size w w10) := bel_chain hb10 (by repeat (first | exact HB_9.out | refine bel_drewN ?_ _ | refine bel_drew ?_ | refine bel_alloc ?_ _))
                   have Sa1_10 : Hid (Sp w10 B1 d1 (X)) := Sp.below (by repeat (first | exact Sa1_9.out | refine Sp.alloc ?_ _ | refine Sp.drewN ?_ _ | refine Sp.drew ?_)) hb10
                   have Sa2_10 : Hid (Sp w10 B2 d2 (U)) := Sp.below (by repeat (first | exact Sa2_9.out | refine Sp.alloc ?_ _ | refine Sp.drewN ?_ _ | refine Sp.drew ?_)) hb10
                   have Sa3_10 : Hid (Sp w10 B3 d3 (V)) := Sp.below (by repeat (first | exact Sa3_9.out | refine Sp.alloc ?_ _ | refine Sp.drewN ?_ _ | refine Sp.drew ?_)) hb10
                   have Sn_10 : Hid (Sp w10 An cn (N)) := Sp.below (by repeat (first | exact Sn_9.out | refine Sp.alloc ?_ _ | refine Sp.drewN ?_ _ | refine Sp.drew ?_)) hb10
                   have Sp_10 : Hid (Sp w10 Ap cp (lostL tu fa jo X N V)) := Sp.below (by repeat (first | exact Sp_9.out | refine Sp.alloc ?_ _ | refine Sp.drewN ?_ _ | refine Sp.drew ?_)) hb10
                   have Sq_10 : Hid (Sp w10 Aq cq (lostL tu fa jo X U V)) := Sp.below (by repeat (first | exact Sq_9.out | refine Sp.alloc ?_ _ | refine Sp.drewN ?_ _ | refine Sp.drew ?_)) hb10
                   have Bx_10 : Hid (w10.heap[w3.heap.size]? = some (.cells #[.bool he, .slice B1 X.length d1, .slice B2 U.length d2, .slice B3 V.length d3, .bool tu, .bool fa, .int .i64 ag, .bool jo] 40 (0, 0))) := blk_keep hb10 (blk_keep (W := w9) (by (repeat (first | exact Below.refl _ _ | refine bel_drewN ?_ _ | refine bel_drew ?_ | refine bel_alloc ?_ _ | refine bel_set ?_ (by simp) _))) Bx_9.out)
                   have By_10 : Hid (w10.heap[w3.heap.size + 1]? = some (.cells #[.bool he, .slice B1 X.length d1, .slice An N.length cn, .slice B3 V.length d3, .bool tu, .bool fa, .int .i64 ag, .bool jo] 40 (0, 0))) := blk_keep hb10 (blk_keep (W := w9) (by (repeat (first | exact Below.refl _ _ | refine bel_drewN ?_ _ | refine bel_drew ?_ | refine bel_alloc ?_ _ | refine bel_set ?_ (by simp) _))) By_9.out)
                   have xz_10 : w3.heap.size < w10.heap.size := blk_lt Bx_10.out
                   have yz_10 : w3.heap.size + 1 < w10.heap.size := blk_lt By_10.out
                   have Sr_10 : Hid (Sp w10 Ar cr ([])) := hs10
                   clear Sa1_9 Sa2_9 Sa3_9 Sn_9 Sp_9 Sq_9 Bx_9 xz_9 By_9 yz_9 hs10 HB_9 hb10
                   clear Sp_10
                   clear Sq_10
                   have tok11 : True := trivial)
                | (go_at_call 27
                   have _tk := tok11
                   clear _tk tok11
                   refine (len_nil Ar cr _ (by repeat (first | exact Sr_10.out | refine Sp.alloc ?_ _ | refine Sp.drewN ?_ _ | refine Sp.drew ?_))).mono ?_
                   rintro e11 w11 ⟨rfl, hb11⟩
                   have HB_11 : Hid (Below w.heap.size w w11) := bel_chain hb11 (by repeat (first | exact HB_10.out | refine bel_drewN ?_ _ | refine bel_drew ?_ | refine bel_alloc ?_ _))
                   have Sa1_11 : Hid (Sp w11 B1 d1 (X)) := Sp.below (by repeat (first | exact Sa1_10.out | refine Sp.alloc ?_ _ | refine Sp.drewN ?_ _ | refine Sp.drew ?_)) hb11
                   have Sa2_11 : Hid (Sp w11 B2 d2 (U)) := Sp.below (by repeat (first | exact Sa2_10.out | refine Sp.alloc ?_ _ | refine Sp.drewN ?_ _ | refine Sp.drew ?_)) hb11
                   have Sa3_11 : Hid (Sp w11 B3 d3 (V)) := Sp.below (by repeat (first | exact Sa3_10.out | refine Sp.alloc ?_ _ | refine Sp.drewN ?_ _ | refine Sp.drew ?_)) hb11
                   have Sn_11 : Hid (Sp w11 An cn (N)) := Sp.below (by repeat (first | exact Sn_10.out | refine Sp.alloc ?_ _ | refine Sp.drewN ?_ _ | refine Sp.drew ?_)) hb11
                   have Sr_11 : Hid (Sp w11 Ar cr ([])) := Sp.below (by repeat (first | exact Sr_10.out | refine Sp.alloc ?_ _ | refine Sp.drewN ?_ _ | refine Sp.drew ?_)) hb11
                   have Bx_11 : Hid (w11.heap[w3.heap.size]? = some (.cells #[.bool he, .slice B1 X.length d1, .slice B2 U.length d2, .slice B3 V.length d3, .bool tu, .bool fa, .int .i64 ag, .bool jo] 40 (0, 0))) := blk_keep hb11 (blk_keep (W := w10) (by (repeat (first | exact Below.refl _ _ | refine bel_drewN ?_ _ | refine bel_drew ?_ | refine bel_alloc ?_ _ | refine bel_set ?_ (by simp) _))) Bx_10.out)
                   have By_11 : Hid (w11.heap[w3.heap.size + 1]? = some (.cells #[.bool he, .slice B1 X.length d1, .slice An N.length cn, .slice B3 V.length d3, .bool tu, .bool fa, .int .i64 ag, .bool jo] 40 (0, 0))) := blk_keep hb11 (blk_keep (W := w10) (by (repeat (first | exact Below.refl _ _ | refine bel_drewN ?_ _ | refine bel_drew ?_ | refine bel_alloc ?_ _ | refine bel_set ?_ (by simp) _))) By_10.out)
                   have xz_11 : w3.heap.size < w11.heap.size := blk_lt Bx_11.out
                   have yz_11 : w3.heap.size + 1 < w11.heap.size := blk_lt By_11.out
                   clear Sa1_10 Sa2_10 Sa3_10 Sn_10 Sr_10 Bx_10 xz_10 By_10 yz_10 HB_10 hb11
                   clear Sr_11
                   have tok12 : True := trivial)
                | (go_at_call 28
                   have _tk := tok12
                   clear _tk tok12
                   refine (sure_as he B1 d1 X B2 d2 U B3 d3 V tu fa ag jo true HSUR.out _ (by repeat (first | exact Sa1_11.out | refine Sp.alloc ?_ _ | refine Sp.drewN ?_ _ | refine Sp.drew ?_)) (by repeat (first | exact Sa2_11.out | refine Sp.alloc ?_ _ | refine Sp.drewN ?_ _ | refine Sp.drew ?_)) (by repeat (first | exact Sa3_11.out | refine Sp.alloc ?_ _ | refine Sp.drewN ?_ _ | refine Sp.drew ?_)) K1.out K2.out K3.out (by omega) (by omega) (by omega)).mono ?_
                   rintro e12 w12 ⟨rfl, hb12⟩
                   have HB_12 : Hid (Below w.heap.size w w12) := bel_chain hb12 (by repeat (first | exact HB_11.out | refine bel_drewN ?_ _ | refine bel_drew ?_ | refine bel_alloc ?_ _))
                   have Sa1_12 : Hid (Sp w12 B1 d1 (X)) := Sp.below (by repeat (first | exact Sa1_11.out | refine Sp.alloc ?_ _ | refine Sp.drewN ?_ _ | refine Sp.drew ?_)) hb12
                   have Sa2_12 : Hid (Sp w12 B2 d2 (U)) := Sp.below (by repeat (first | exact Sa2_11.out | refine Sp.alloc ?_ _ | refine Sp.drewN ?_ _ | refine Sp.drew ?_)) hb12
                   have Sa3_12 : Hid (Sp w12 B3 d3 (V)) := Sp.below (by repeat (first | exact Sa3_11.out | refine Sp.alloc ?_ _ | refine Sp.drewN ?_ _ | refine Sp.drew ?_)) hb12
                   have Sn_12 : Hid (Sp w12 An cn (N)) := Sp.below (by repeat (first | exact Sn_11.out | refine Sp.alloc ?_ _ | refine Sp.drewN ?_ _ | refine Sp.drew ?_)) hb12
                   have Bx_12 : Hid (w12.heap[w3.heap.size]? = some (.cells #[.bool he, .slice B1 X.length d1, .slice B2 U.length d2, .slice B3 V.length d3, .bool tu, .bool fa, .int .i64 ag, .bool jo] 40 (0, 0))) := blk_keep hb12 (blk_keep (W := w11) (by (repeat (first | exact Below.refl _ _ | refine bel_drewN ?_ _ | refine bel_drew ?_ | refine bel_alloc ?_ _ | refine bel_set ?_ (by simp) _))) Bx_11.out)
                   have By_12 : Hid (w12.heap[w3.heap.size + 1]? = some (.cells #[.bool he, .slice B1 X.length d1, .slice An N.length cn, .slice B3 V.length d3, .bool tu, .bool fa, .int .i64 ag, .bool jo] 40 (0, 0))) := blk_keep hb12 (blk_keep (W := w11) (by (repeat (first | exact Below.refl _ _ | refine bel_drewN ?_ _ | refine bel_drew ?_ | refine bel_alloc ?_ _ | refine bel_set ?_ (by simp) _))) By_11.out)
                   have xz_12 : w3.heap.size < w12.heap.size := blk_lt Bx_12.out
                   have yz_12 : w3.heap.size + 1 < w12.heap.size := blk_lt By_12.out
                   clear Sa1_11 Sa2_11 Sa3_11 Sn_11 Bx_11 xz_11 By_11 yz_11 HB_11 hb12
                   have tok13 : True := trivial)
                | (go_at_call 28
                   have _tk := tok13
                   clear _tk tok13
                   refine (sure_as he B1 d1 X An cn N B3 d3 V tu fa ag jo true (HGS.out HSUR.out) _ (by repeat (first | exact Sa1_12.out | refine Sp.alloc ?_ _ | refine Sp.drewN ?_ _ | refine Sp.drew ?_)) (by repeat (first | exact Sn_12.out | refine Sp.alloc ?_ _ | refine Sp.drewN ?_ _ | refine Sp.drew ?_)) (by repeat (first | exact Sa3_12.out | refine Sp.alloc ?_ _ | refine Sp.drewN ?_ _ | refine Sp.drew ?_)) K1.out KN.out K3.out (by omega) (by omega) (by omega)).mono ?_
                   rintro e13 w13 ⟨rfl, hb13⟩
                   have HB_13 : Hid (Below w.heap.size w w13) := bel_chain hb13 (by repeat (first | exact HB_12.out | refine bel_drewN ?_ _ | refine bel_drew ?_ | refine bel_alloc ?_ _))
                   have Sa1_13 : Hid (Sp w13 B1 d1 (X)) := Sp.below (by repeat (first | exact Sa1_12.out | refine Sp.alloc ?_ _ | refine Sp.drewN ?_ _ | refine Sp.drew ?_)) hb13
                   have Sa2_13 : Hid (Sp w13 B2 d2 (U)) := Sp.below (by repeat (first | exact Sa2_12.out | refine Sp.alloc ?_ _ | refine Sp.drewN ?_ _ | refine Sp.drew ?_)) hb13
                   have Sa3_13 : Hid (Sp w13 B3 d3 (V)) := Sp.below (by repeat (first | exact Sa3_12.out | refine Sp.alloc ?_ _ | refine Sp.drewN ?_ _ | refine Sp.drew ?_)) hb13
                   have Sn_13 : Hid (Sp w13 An cn (N)) := Sp.below (by repeat (first | exact Sn_12.out | refine Sp.alloc ?_ _ | refine Sp.drewN ?_ _ | refine Sp.drew ?_)) hb13
                   have Bx_13 : Hid (w13.heap[w3.heap.size]? = some (.cells #[.bool he, .slice B1 X.length d1, .slice B2 U.length d2, .slice B3 V.length d3, .bool tu, .bool fa, .int .i64 ag, .bool jo] 40 (0, 0))) := blk_keep hb13 (blk_keep (W := w12) (by (repeat (first | exact Below.refl _ _ | refine bel_drewN ?_ _ | refine bel_drew ?_ | refine bel_alloc ?_ _ | refine bel_set ?_ (by simp) _))) Bx_12.out)
                   have By_13 : Hid (w13.heap[w3.heap.size + 1]? = some (.cells #[.bool he, .slice B1 X.length d1, .slice An N.length cn, .slice B3 V.length d3, .bool tu, .bool fa, .int .i64 ag, .bool jo] 40 (0, 0))) := blk_keep hb13 (blk_keep (W := w12) (by (repeat (first | exact Below.refl _ _ | refine bel_drewN ?_ _ | refine bel_drew ?_ | refine bel_alloc ?_ _ | refine bel_set ?_ (by simp) _))) By_12.out)
                   have xz_13 : w3.heap.size < w13.heap.size := blk_lt Bx_13.out
                   have yz_13 : w3.heap.size + 1 < w13.heap.size := blk_lt By_13.out
                   clear Sa1_12 Sa2_12 Sa3_12 Sn_12 Bx_12 xz_12 By_12 yz_12 HB_12 hb13
                   have tok14 : True := trivial))
            have x0_13 : w13.cell? ⟨w3.heap.size, 0, none⟩ = some (.bool he) := blk_cell Bx_13.out rfl
            have x1_13 : w13.cell? ⟨w3.heap.size, 1, none⟩ = some (.slice B1 X.length d1) := blk_cell Bx_13.out rfl
            have x2_13 : w13.cell? ⟨w3.heap.size, 2, none⟩ = some (.slice B2 U.length d2) := blk_cell Bx_13.out rfl
            have x3_13 : w13.cell? ⟨w3.heap.size, 3, none⟩ = some (.slice B3 V.length d3) := blk_cell Bx_13.out rfl
            have x4_13 : w13.cell? ⟨w3.heap.size, 4, none⟩ = some (.bool tu) := blk_cell Bx_13.out rfl
            have x5_13 : w13.cell? ⟨w3.heap.size, 5, none⟩ = some (.bool fa) := blk_cell Bx_13.out rfl
            have x6_13 : w13.cell? ⟨w3.heap.size, 6, none⟩ = some (.int .i64 ag) := blk_cell Bx_13.out rfl
            have x7_13 : w13.cell? ⟨w3.heap.size, 7, none⟩ = some (.bool jo) := blk_cell Bx_13.out rfl
            have xz_13 : w3.heap.size < w13.heap.size := blk_lt Bx_13.out
            have y0_13 : w13.cell? ⟨w3.heap.size + 1, 0, none⟩ = some (.bool he) := blk_cell By_13.out rfl
            have y1_13 : w13.cell? ⟨w3.heap.size + 1, 1, none⟩ = some (.slice B1 X.length d1) := blk_cell By_13.out rfl
            have y2_13 : w13.cell? ⟨w3.heap.size + 1, 2, none⟩ = some (.slice An N.length cn) := blk_cell By_13.out rfl
            have y3_13 : w13.cell? ⟨w3.heap.size + 1, 3, none⟩ = some (.slice B3 V.length d3) := blk_cell By_13.out rfl
            have y4_13 : w13.cell? ⟨w3.heap.size + 1, 4, none⟩ = some (.bool tu) := blk_cell By_13.out rfl
            have y5_13 : w13.cell? ⟨w3.heap.size + 1, 5, none⟩ = some (.bool fa) := blk_cell By_13.out rfl
            have y6_13 : w13.cell? ⟨w3.heap.size + 1, 6, none⟩ = some (.int .i64 ag) := blk_cell By_13.out rfl
            have y7_13 : w13.cell? ⟨w3.heap.size + 1, 7, none⟩ = some (.bool jo) := blk_cell By_13.out rfl
            have yz_13 : w3.heap.size + 1 < w13.heap.size := blk_lt By_13.out
            go_wp2_with fail
            refine (decide_as he B1 d1 X B2 d2 U B3 d3 V tu fa ag jo dv hdv.out _ (by repeat (first | exact Sa1_13.out | refine Sp.alloc ?_ _ | refine Sp.drewN ?_ _ | refine Sp.drew ?_)) (by repeat (first | exact Sa2_13.out | refine Sp.alloc ?_ _ | refine Sp.drewN ?_ _ | refine Sp.drew ?_)) (by repeat (first | exact Sa3_13.out | refine Sp.alloc ?_ _ | refine Sp.drewN ?_ _ | refine Sp.drew ?_)) K1.out K2.out K3.out (by omega) (by omega) (by omega)).mono ?_
            rintro e14 w14 ⟨rfl, hb14⟩
            have HB_14 : Hid (Below w.heap.size w w14) := bel_chain hb14 (by repeat (first | exact HB_13.out | refine bel_drewN ?_ _ | refine bel_drew ?_ | refine bel_alloc ?_ _))
            have Sa1_14 : Hid (Sp w14 B1 d1 (X)) := Sp.below (by repeat (first | exact Sa1_13.out | refine Sp.alloc ?_ _ | refine Sp.drewN ?_ _ | refine Sp.drew ?_)) hb14
            have Sa2_14 : Hid (Sp w14 B2 d2 (U)) := Sp.below (by repeat (first | exact Sa2_13.out | refine Sp.alloc ?_ _ | refine Sp.drewN ?_ _ | refine Sp.drew ?_)) hb14
            have Sa3_14 : Hid (Sp w14 B3 d3 (V)) := Sp.below (by repeat (first | exact Sa3_13.out | refine Sp.alloc ?_ _ | refine Sp.drewN ?_ _ | refine Sp.drew ?_)) hb14
            have Sn_14 : Hid (Sp w14 An cn (N)) := Sp.below (by repeat (first | exact Sn_13.out | refine Sp.alloc ?_ _ | refine Sp.drewN ?_ _ | refine Sp.drew ?_)) hb14
            have Bx_14 : Hid (w14.heap[w3.heap.size]? = some (.cells #[.bool he, .slice B1 X.length d1, .slice B2 U.length d2, .slice B3 V.length d3, .bool tu, .bool fa, .int .i64 ag, .bool jo] 40 (0, 0))) := blk_keep hb14 (blk_keep (W := w13) (by (repeat (first | exact Below.refl _ _ | refine bel_drewN ?_ _ | refine bel_drew ?_ | refine bel_alloc ?_ _ | refine bel_set ?_ (by simp) _))) Bx_13.out)
            have By_14 : Hid (w14.heap[w3.heap.size + 1]? = some (.cells #[.bool he, .slice B1 X.length d1, .slice An N.length cn, .slice B3 V.length d3, .bool tu, .bool fa, .int .i64 ag, .bool jo] 40 (0, 0))) := blk_keep hb14 (blk_keep (W := w13) (by (repeat (first | exact Below.refl _ _ | refine bel_drewN ?_ _ | refine bel_drew ?_ | refine bel_alloc ?_ _ | refine bel_set ?_ (by simp) _))) By_13.out)
            have x0_14 : w14.cell? ⟨w3.heap.size, 0, none⟩ = some (.bool he) := blk_cell Bx_14.out rfl
            have x1_14 : w14.cell? ⟨w3.heap.size, 1, none⟩ = some (.slice B1 X.length d1) := blk_cell Bx_14.out rfl
            have x2_14 : w14.cell? ⟨w3.heap.size, 2, none⟩ = some (.slice B2 U.length d2) := blk_cell Bx_14.out rfl
            have x3_14 : w14.cell? ⟨w3.heap.size, 3, none⟩ = some (.slice B3 V.length d3) := blk_cell Bx_14.out rfl
            have x4_14 : w14.cell? ⟨w3.heap.size, 4, none⟩ = some (.bool tu) := blk_cell Bx_14.out rfl
            have x5_14 : w14.cell? ⟨w3.heap.size, 5, none⟩ = some (.bool fa) := blk_cell Bx_14.out rfl
            have x6_14 : w14.cell? ⟨w3.heap.size, 6, none⟩ = some (.int .i64 ag) := blk_cell Bx_14.out rfl
            have x7_14 : w14.cell? ⟨w3.heap.size, 7, none⟩ = some (.bool jo) := blk_cell Bx_14.out rfl
            have xz_14 : w3.heap.size < w14.heap.size := blk_lt Bx_14.out
            have y0_14 : w14.cell? ⟨w3.heap.size + 1, 0, none⟩ = some (.bool he) := blk_cell By_14.out rfl
            have y1_14 : w14.cell? ⟨w3.heap.size + 1, 1, none⟩ = some (.slice B1 X.length d1) := blk_cell By_14.out rfl
            have y2_14 : w14.cell? ⟨w3.heap.size + 1, 2, none⟩ = some (.slice An N.length cn) := blk_cell By_14.out rfl
            have y3_14 : w14.cell? ⟨w3.heap.size + 1, 3, none⟩ = some (.slice B3 V.length d3) := blk_cell By_14.out rfl
            have y4_14 : w14.cell? ⟨w3.heap.size + 1, 4, none⟩ = some (.bool tu) := blk_cell By_14.out rfl
            have y5_14 : w14.cell? ⟨w3.heap.size + 1, 5, none⟩ = some (.bool fa) := blk_cell By_14.out rfl
            have y6_14 : w14.cell? ⟨w3.heap.size + 1, 6, none⟩ = some (.int .i64 ag) := blk_cell By_14.out rfl
            have y7_14 : w14.cell? ⟨w3.heap.size + 1, 7, none⟩ = some (.bool jo) := blk_cell By_14.out rfl
            have yz_14 : w3.heap.size + 1 < w14.heap.size := blk_lt By_14.out
            clear Sa1_13 Sa2_13 Sa3_13 Sn_13 Bx_13 x0_13 x1_13 x2_13 x3_13 x4_13 x5_13 x6_13 x7_13 xz_13 By_13 y0_13 y1_13 y2_13 y3_13 y4_13 y5_13 y6_13 y7_13 yz_13 HB_13 hb14
            go_wp2_with fail
            go_ret
            exact ⟨rfl, (by repeat (first | (with_reducible exact HB_14.out) | (with_reducible refine bel_drewN ?_ _) | (with_reducible refine bel_drew ?_) | (with_reducible refine bel_alloc ?_ _) | (with_reducible refine bel_set ?_ (by first | omega | (dsimp only; omega)) _)))⟩
end Go.Proofs.YtdomakklbcpnjaaDoor
