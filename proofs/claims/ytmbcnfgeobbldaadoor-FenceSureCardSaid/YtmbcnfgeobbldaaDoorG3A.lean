/- The walk of FenceSure, in part. -/
import Derived.Test.YtmbcnfgeobbldaaDoorG3
namespace Go.Proofs.YtmbcnfgeobbldaaDoor
open Go.RowKit

set_option maxHeartbeats 4000000 in
set_option maxRecDepth 100000 in
theorem fenceSure_false (he : Bool) (A1 : Option Addr) (c1 : Nat) (R : List (Int × Int)) (A2 : Option Addr) (c2 : Nat) (H : List (Int × Int)) (A3 : Option Addr) (c3 : Nat) (F : List (Int × Int)) (tu fa : Bool) (ag : Int) (jo : Bool) (w : World) (h1 : Sp w A1 c1 R) (h2 : Sp w A2 c2 H) (h3 : Sp w A3 c3 F) (n1 : R.length ≤ 9223372036854775807) (n2 : H.length ≤ 9223372036854775807) (n3 : F.length ≤ 9223372036854775807) (hn : Names w) (hbw : (wantL (cano R) (cano H) (cano F)).isEmpty = false) :
    Calls Tryd.prog 13 #[.agg #[.bool he, .slice A1 R.length c1, .slice A2 H.length c2, .slice A3 F.length c3, .bool tu, .bool fa, .int .i64 ag, .bool jo]] w fun e w' => e = .returned (.bool true) ∧ Below w.heap.size w w' := by
  have HBW0 := Lib.hid hbw
  clear hbw
  have S1_0 := Lib.hid (h1)
  have S2_0 := Lib.hid (h2)
  have S3_0 := Lib.hid (h3)
  clear h1 h2 h3
  have HN := Lib.hid hn
  clear hn
  go_enter Tryd.func13, Tryd.ntmps13
  go_wp2_with fail
  refine (awake_any _ (HN.out.alloc _)).mono ?_
  rintro e1 w1 ⟨rfl, hb1⟩
  have HB_1 : Hid (Below w.heap.size w w1) := bel_chain hb1 (by repeat (first | exact Below.refl _ _ | refine bel_drewN ?_ _ | refine bel_drew ?_ | refine bel_alloc ?_ _))
  have S1_1 : Hid (Sp w1 A1 c1 (R)) := Sp.below (by repeat (first | exact S1_0.out | refine Sp.alloc ?_ _ | refine Sp.drewN ?_ _ | refine Sp.drew ?_)) hb1
  have S2_1 : Hid (Sp w1 A2 c2 (H)) := Sp.below (by repeat (first | exact S2_0.out | refine Sp.alloc ?_ _ | refine Sp.drewN ?_ _ | refine Sp.drew ?_)) hb1
  have S3_1 : Hid (Sp w1 A3 c3 (F)) := Sp.below (by repeat (first | exact S3_0.out | refine Sp.alloc ?_ _ | refine Sp.drewN ?_ _ | refine Sp.drew ?_)) hb1
  have Bs_1 : Hid (w1.heap[w.heap.size]? = some (.cells #[.bool he, .slice A1 R.length c1, .slice A2 H.length c2, .slice A3 F.length c3, .bool tu, .bool fa, .int .i64 ag, .bool jo] 52 (0, 0))) := blk_keep hb1 (by repeat (first | exact blk_new (by first | rfl | (simp; done) | (simp; omega)) | refine blk_skip ?_ | refine blk_drewN ?_ | refine blk_drew ?_))
  have s0_1 : w1.cell? ⟨w.heap.size, 0, none⟩ = some (.bool he) := blk_cell Bs_1.out rfl
  have s1_1 : w1.cell? ⟨w.heap.size, 1, none⟩ = some (.slice A1 R.length c1) := blk_cell Bs_1.out rfl
  have s2_1 : w1.cell? ⟨w.heap.size, 2, none⟩ = some (.slice A2 H.length c2) := blk_cell Bs_1.out rfl
  have s3_1 : w1.cell? ⟨w.heap.size, 3, none⟩ = some (.slice A3 F.length c3) := blk_cell Bs_1.out rfl
  have s4_1 : w1.cell? ⟨w.heap.size, 4, none⟩ = some (.bool tu) := blk_cell Bs_1.out rfl
  have s5_1 : w1.cell? ⟨w.heap.size, 5, none⟩ = some (.bool fa) := blk_cell Bs_1.out rfl
  have s6_1 : w1.cell? ⟨w.heap.size, 6, none⟩ = some (.int .i64 ag) := blk_cell Bs_1.out rfl
  have s7_1 : w1.cell? ⟨w.heap.size, 7, none⟩ = some (.bool jo) := blk_cell Bs_1.out rfl
  have sz_1 : w.heap.size < w1.heap.size := blk_lt Bs_1.out
  clear S1_0 S2_0 S3_0 hb1
  go_wp2_with fail
  refine (rgreat_any he A1 c1 R A2 c2 H A3 c3 F tu fa ag jo _ n1 n2 n3).mono ?_
  rintro e2 w2 ⟨rfl, hb2⟩
  have HB_2 : Hid (Below w.heap.size w w2) := bel_chain hb2 (by repeat (first | exact HB_1.out | refine bel_drewN ?_ _ | refine bel_drew ?_ | refine bel_alloc ?_ _))
  have S1_2 : Hid (Sp w2 A1 c1 (R)) := Sp.below (by repeat (first | exact S1_1.out | refine Sp.alloc ?_ _ | refine Sp.drewN ?_ _ | refine Sp.drew ?_)) hb2
  have S2_2 : Hid (Sp w2 A2 c2 (H)) := Sp.below (by repeat (first | exact S2_1.out | refine Sp.alloc ?_ _ | refine Sp.drewN ?_ _ | refine Sp.drew ?_)) hb2
  have S3_2 : Hid (Sp w2 A3 c3 (F)) := Sp.below (by repeat (first | exact S3_1.out | refine Sp.alloc ?_ _ | refine Sp.drewN ?_ _ | refine Sp.drew ?_)) hb2
  have Bs_2 : Hid (w2.heap[w.heap.size]? = some (.cells #[.bool he, .slice A1 R.length c1, .slice A2 H.length c2, .slice A3 F.length c3, .bool tu, .bool fa, .int .i64 ag, .bool jo] 52 (0, 0))) := blk_keep hb2 (blk_keep (W := w1) (by (repeat (first | exact Below.refl _ _ | refine bel_drewN ?_ _ | refine bel_drew ?_ | refine bel_alloc ?_ _ | refine bel_set ?_ (by simp) _))) Bs_1.out)
  have s0_2 : w2.cell? ⟨w.heap.size, 0, none⟩ = some (.bool he) := blk_cell Bs_2.out rfl
  have s1_2 : w2.cell? ⟨w.heap.size, 1, none⟩ = some (.slice A1 R.length c1) := blk_cell Bs_2.out rfl
  have s2_2 : w2.cell? ⟨w.heap.size, 2, none⟩ = some (.slice A2 H.length c2) := blk_cell Bs_2.out rfl
  have s3_2 : w2.cell? ⟨w.heap.size, 3, none⟩ = some (.slice A3 F.length c3) := blk_cell Bs_2.out rfl
  have s4_2 : w2.cell? ⟨w.heap.size, 4, none⟩ = some (.bool tu) := blk_cell Bs_2.out rfl
  have s5_2 : w2.cell? ⟨w.heap.size, 5, none⟩ = some (.bool fa) := blk_cell Bs_2.out rfl
  have s6_2 : w2.cell? ⟨w.heap.size, 6, none⟩ = some (.int .i64 ag) := blk_cell Bs_2.out rfl
  have s7_2 : w2.cell? ⟨w.heap.size, 7, none⟩ = some (.bool jo) := blk_cell Bs_2.out rfl
  have sz_2 : w.heap.size < w2.heap.size := blk_lt Bs_2.out
  clear S1_1 S2_1 S3_1 Bs_1 s0_1 s1_1 s2_1 s3_1 s4_1 s5_1 s6_1 s7_1 sz_1 HB_1 hb2
  cases hg : greatS R H F
  rotate_left
  · go_wp2_with fail
    refine (awake_any _ (HN.out.below HB_2.out)).mono ?_
    rintro e3 w3 ⟨rfl, hb3⟩
    have HB_3 : Hid (Below w.heap.size w w3) := bel_chain hb3 (by repeat (first | exact HB_2.out | refine bel_drewN ?_ _ | refine bel_drew ?_ | refine bel_alloc ?_ _))
    have S1_3 : Hid (Sp w3 A1 c1 (R)) := Sp.below (by repeat (first | exact S1_2.out | refine Sp.alloc ?_ _ | refine Sp.drewN ?_ _ | refine Sp.drew ?_)) hb3
    have S2_3 : Hid (Sp w3 A2 c2 (H)) := Sp.below (by repeat (first | exact S2_2.out | refine Sp.alloc ?_ _ | refine Sp.drewN ?_ _ | refine Sp.drew ?_)) hb3
    have S3_3 : Hid (Sp w3 A3 c3 (F)) := Sp.below (by repeat (first | exact S3_2.out | refine Sp.alloc ?_ _ | refine Sp.drewN ?_ _ | refine Sp.drew ?_)) hb3
    have Bs_3 : Hid (w3.heap[w.heap.size]? = some (.cells #[.bool he, .slice A1 R.length c1, .slice A2 H.length c2, .slice A3 F.length c3, .bool tu, .bool fa, .int .i64 ag, .bool jo] 52 (0, 0))) := blk_keep hb3 (blk_keep (W := w2) (by (repeat (first | exact Below.refl _ _ | refine bel_drewN ?_ _ | refine bel_drew ?_ | refine bel_alloc ?_ _ | refine bel_set ?_ (by simp) _))) Bs_2.out)
    have s0_3 : w3.cell? ⟨w.heap.size, 0, none⟩ = some (.bool he) := blk_cell Bs_3.out rfl
    have s1_3 : w3.cell? ⟨w.heap.size, 1, none⟩ = some (.slice A1 R.length c1) := blk_cell Bs_3.out rfl
    have s2_3 : w3.cell? ⟨w.heap.size, 2, none⟩ = some (.slice A2 H.length c2) := blk_cell Bs_3.out rfl
    have s3_3 : w3.cell? ⟨w.heap.size, 3, none⟩ = some (.slice A3 F.length c3) := blk_cell Bs_3.out rfl
    have s4_3 : w3.cell? ⟨w.heap.size, 4, none⟩ = some (.bool tu) := blk_cell Bs_3.out rfl
    have s5_3 : w3.cell? ⟨w.heap.size, 5, none⟩ = some (.bool fa) := blk_cell Bs_3.out rfl
    have s6_3 : w3.cell? ⟨w.heap.size, 6, none⟩ = some (.int .i64 ag) := blk_cell Bs_3.out rfl
    have s7_3 : w3.cell? ⟨w.heap.size, 7, none⟩ = some (.bool jo) := blk_cell Bs_3.out rfl
    have sz_3 : w.heap.size < w3.heap.size := blk_lt Bs_3.out
    clear S1_2 S2_2 S3_2 Bs_2 s0_2 s1_2 s2_2 s3_2 s4_2 s5_2 s6_2 s7_2 sz_2 HB_2 hb3
    go_wp2_with fail
    go_ret
    exact ⟨rfl, (by repeat (first | (with_reducible exact HB_3.out) | (with_reducible refine bel_drewN ?_ _) | (with_reducible refine bel_drew ?_) | (with_reducible refine bel_alloc ?_ _) | (with_reducible refine bel_set ?_ (by first | omega | (dsimp only; omega)) _)))⟩
  · have hgs : R.length ≤ 12 ∧ H.length ≤ 12 ∧ F.length ≤ 12 := by simp [greatS] at hg; omega
    obtain ⟨l1, l2, l3⟩ := hgs
    have m1 := cano_length R
    have m2 := cano_length H
    have m3 := cano_length F
    have K1 := Lib.hid (cano_canon R)
    have K2 := Lib.hid (cano_canon H)
    have K3 := Lib.hid (cano_canon F)
    clear hg
    obtain ⟨X, hX⟩ : ∃ X, cano R = X := ⟨_, rfl⟩
    obtain ⟨U, hU⟩ : ∃ U, cano H = U := ⟨_, rfl⟩
    obtain ⟨V, hV⟩ : ∃ V, cano F = V := ⟨_, rfl⟩
    have hbw := HBW0.out
    rw [hX] at K1 m1 hbw
    rw [hU] at K2 m2 hbw
    rw [hV] at K3 m3 hbw
    have HX := Lib.hid hX
    have HU := Lib.hid hU
    have HV := Lib.hid hV
    have HBW := Lib.hid hbw
    clear hX hU hV hbw HBW0
    go_wp2_with fail
    refine (own_as he A1 c1 R A2 c2 H A3 c3 F tu fa ag jo X U V HX.out HU.out HV.out _ (by repeat (first | exact S1_2.out | refine Sp.alloc ?_ _ | refine Sp.drewN ?_ _ | refine Sp.drew ?_)) (by repeat (first | exact S2_2.out | refine Sp.alloc ?_ _ | refine Sp.drewN ?_ _ | refine Sp.drew ?_)) (by repeat (first | exact S3_2.out | refine Sp.alloc ?_ _ | refine Sp.drewN ?_ _ | refine Sp.drew ?_)) (by omega) (by omega) (by omega)).mono ?_
    rintro e3 w3 ⟨B1, d1, B2, d2, B3, d3, rfl, hs3, ht3, hu3, hb3⟩
    have HB_3 : Hid (Below w.heap.size w w3) := bel_chain hb3 (by repeat (first | exact HB_2.out | refine bel_drewN ?_ _ | refine bel_drew ?_ | refine bel_alloc ?_ _))
    have S1_3 : Hid (Sp w3 A1 c1 (R)) := Sp.below (by repeat (first | exact S1_2.out | refine Sp.alloc ?_ _ | refine Sp.drewN ?_ _ | refine Sp.drew ?_)) hb3
    have S2_3 : Hid (Sp w3 A2 c2 (H)) := Sp.below (by repeat (first | exact S2_2.out | refine Sp.alloc ?_ _ | refine Sp.drewN ?_ _ | refine Sp.drew ?_)) hb3
    have S3_3 : Hid (Sp w3 A3 c3 (F)) := Sp.below (by repeat (first | exact S3_2.out | refine Sp.alloc ?_ _ | refine Sp.drewN ?_ _ | refine Sp.drew ?_)) hb3
    have Bs_3 : Hid (w3.heap[w.heap.size]? = some (.cells #[.bool he, .slice A1 R.length c1, .slice A2 H.length c2, .slice A3 F.length c3, .bool tu, .bool fa, .int .i64 ag, .bool jo] 52 (0, 0))) := blk_keep hb3 (blk_keep (W := w2) (by (repeat (first | exact Below.refl _ _ | refine bel_drewN ?_ _ | refine bel_drew ?_ | refine bel_alloc ?_ _ | refine bel_set ?_ (by simp) _))) Bs_2.out)
    have s0_3 : w3.cell? ⟨w.heap.size, 0, none⟩ = some (.bool he) := blk_cell Bs_3.out rfl
    have s1_3 : w3.cell? ⟨w.heap.size, 1, none⟩ = some (.slice A1 R.length c1) := blk_cell Bs_3.out rfl
    have s2_3 : w3.cell? ⟨w.heap.size, 2, none⟩ = some (.slice A2 H.length c2) := blk_cell Bs_3.out rfl
    have s3_3 : w3.cell? ⟨w.heap.size, 3, none⟩ = some (.slice A3 F.length c3) := blk_cell Bs_3.out rfl
    have s4_3 : w3.cell? ⟨w.heap.size, 4, none⟩ = some (.bool tu) := blk_cell Bs_3.out rfl
    have s5_3 : w3.cell? ⟨w.heap.size, 5, none⟩ = some (.bool fa) := blk_cell Bs_3.out rfl
    have s6_3 : w3.cell? ⟨w.heap.size, 6, none⟩ = some (.int .i64 ag) := blk_cell Bs_3.out rfl
    have s7_3 : w3.cell? ⟨w.heap.size, 7, none⟩ = some (.bool jo) := blk_cell Bs_3.out rfl
    have sz_3 : w.heap.size < w3.heap.size := blk_lt Bs_3.out
    have Sa1_3 : Hid (Sp w3 B1 d1 (X)) := hs3
    have Sa2_3 : Hid (Sp w3 B2 d2 (U)) := ht3
    have Sa3_3 : Hid (Sp w3 B3 d3 (V)) := hu3
    clear S1_2 S2_2 S3_2 Bs_2 s0_2 s1_2 s2_2 s3_2 s4_2 s5_2 s6_2 s7_2 sz_2 hs3 ht3 hu3 HB_2 hb3
    go_wp2_with fail
    refine (sure_as he B1 d1 X B2 d2 U B3 d3 V tu fa ag jo false HBW.out _ (by repeat (first | exact Sa1_3.out | refine Sp.alloc ?_ _ | refine Sp.drewN ?_ _ | refine Sp.drew ?_)) (by repeat (first | exact Sa2_3.out | refine Sp.alloc ?_ _ | refine Sp.drewN ?_ _ | refine Sp.drew ?_)) (by repeat (first | exact Sa3_3.out | refine Sp.alloc ?_ _ | refine Sp.drewN ?_ _ | refine Sp.drew ?_)) K1.out K2.out K3.out (by omega) (by omega) (by omega)).mono ?_
    rintro e4 w4 ⟨rfl, hb4⟩
    have HB_4 : Hid (Below w.heap.size w w4) := bel_chain hb4 (by repeat (first | exact HB_3.out | refine bel_drewN ?_ _ | refine bel_drew ?_ | refine bel_alloc ?_ _))
    have S1_4 : Hid (Sp w4 A1 c1 (R)) := Sp.below (by repeat (first | exact S1_3.out | refine Sp.alloc ?_ _ | refine Sp.drewN ?_ _ | refine Sp.drew ?_)) hb4
    have S2_4 : Hid (Sp w4 A2 c2 (H)) := Sp.below (by repeat (first | exact S2_3.out | refine Sp.alloc ?_ _ | refine Sp.drewN ?_ _ | refine Sp.drew ?_)) hb4
    have S3_4 : Hid (Sp w4 A3 c3 (F)) := Sp.below (by repeat (first | exact S3_3.out | refine Sp.alloc ?_ _ | refine Sp.drewN ?_ _ | refine Sp.drew ?_)) hb4
    have Sa1_4 : Hid (Sp w4 B1 d1 (X)) := Sp.below (by repeat (first | exact Sa1_3.out | refine Sp.alloc ?_ _ | refine Sp.drewN ?_ _ | refine Sp.drew ?_)) hb4
    have Sa2_4 : Hid (Sp w4 B2 d2 (U)) := Sp.below (by repeat (first | exact Sa2_3.out | refine Sp.alloc ?_ _ | refine Sp.drewN ?_ _ | refine Sp.drew ?_)) hb4
    have Sa3_4 : Hid (Sp w4 B3 d3 (V)) := Sp.below (by repeat (first | exact Sa3_3.out | refine Sp.alloc ?_ _ | refine Sp.drewN ?_ _ | refine Sp.drew ?_)) hb4
    have Bs_4 : Hid (w4.heap[w.heap.size]? = some (.cells #[.bool he, .slice A1 R.length c1, .slice A2 H.length c2, .slice A3 F.length c3, .bool tu, .bool fa, .int .i64 ag, .bool jo] 52 (0, 0))) := blk_keep hb4 (blk_keep (W := w3) (by (repeat (first | exact Below.refl _ _ | refine bel_drewN ?_ _ | refine bel_drew ?_ | refine bel_alloc ?_ _ | refine bel_set ?_ (by simp) _))) Bs_3.out)
    have s0_4 : w4.cell? ⟨w.heap.size, 0, none⟩ = some (.bool he) := blk_cell Bs_4.out rfl
    have s1_4 : w4.cell? ⟨w.heap.size, 1, none⟩ = some (.slice A1 R.length c1) := blk_cell Bs_4.out rfl
    have s2_4 : w4.cell? ⟨w.heap.size, 2, none⟩ = some (.slice A2 H.length c2) := blk_cell Bs_4.out rfl
    have s3_4 : w4.cell? ⟨w.heap.size, 3, none⟩ = some (.slice A3 F.length c3) := blk_cell Bs_4.out rfl
    have s4_4 : w4.cell? ⟨w.heap.size, 4, none⟩ = some (.bool tu) := blk_cell Bs_4.out rfl
    have s5_4 : w4.cell? ⟨w.heap.size, 5, none⟩ = some (.bool fa) := blk_cell Bs_4.out rfl
    have s6_4 : w4.cell? ⟨w.heap.size, 6, none⟩ = some (.int .i64 ag) := blk_cell Bs_4.out rfl
    have s7_4 : w4.cell? ⟨w.heap.size, 7, none⟩ = some (.bool jo) := blk_cell Bs_4.out rfl
    have sz_4 : w.heap.size < w4.heap.size := blk_lt Bs_4.out
    clear S1_3 S2_3 S3_3 Sa1_3 Sa2_3 Sa3_3 Bs_3 s0_3 s1_3 s2_3 s3_3 s4_3 s5_3 s6_3 s7_3 sz_3 HB_3 hb4
    clear Sa1_4
    clear Sa2_4
    clear Sa3_4
    go_wp2_with fail
    refine (r37Of_as he A1 c1 R A2 c2 H A3 c3 F tu fa ag jo X U V HX.out HU.out HV.out _ (by repeat (first | exact S1_4.out | refine Sp.alloc ?_ _ | refine Sp.drewN ?_ _ | refine Sp.drew ?_)) (by repeat (first | exact S2_4.out | refine Sp.alloc ?_ _ | refine Sp.drewN ?_ _ | refine Sp.drew ?_)) (by repeat (first | exact S3_4.out | refine Sp.alloc ?_ _ | refine Sp.drewN ?_ _ | refine Sp.drew ?_)) (by omega) (by omega) (by omega)).mono ?_
    rintro e5 w5 ⟨C1, e1, C2, e2, C3, e3, rfl, hs5, ht5, hu5, hb5⟩
    have HB_5 : Hid (Below w.heap.size w w5) := bel_chain hb5 (by repeat (first | exact HB_4.out | refine bel_drewN ?_ _ | refine bel_drew ?_ | refine bel_alloc ?_ _))
    have S1_5 : Hid (Sp w5 A1 c1 (R)) := Sp.below (by repeat (first | exact S1_4.out | refine Sp.alloc ?_ _ | refine Sp.drewN ?_ _ | refine Sp.drew ?_)) hb5
    have S2_5 : Hid (Sp w5 A2 c2 (H)) := Sp.below (by repeat (first | exact S2_4.out | refine Sp.alloc ?_ _ | refine Sp.drewN ?_ _ | refine Sp.drew ?_)) hb5
    have S3_5 : Hid (Sp w5 A3 c3 (F)) := Sp.below (by repeat (first | exact S3_4.out | refine Sp.alloc ?_ _ | refine Sp.drewN ?_ _ | refine Sp.drew ?_)) hb5
    have Bs_5 : Hid (w5.heap[w.heap.size]? = some (.cells #[.bool he, .slice A1 R.length c1, .slice A2 H.length c2, .slice A3 F.length c3, .bool tu, .bool fa, .int .i64 ag, .bool jo] 52 (0, 0))) := blk_keep hb5 (blk_keep (W := w4) (by (repeat (first | exact Below.refl _ _ | refine bel_drewN ?_ _ | refine bel_drew ?_ | refine bel_alloc ?_ _ | refine bel_set ?_ (by simp) _))) Bs_4.out)
    have s0_5 : w5.cell? ⟨w.heap.size, 0, none⟩ = some (.bool he) := blk_cell Bs_5.out rfl
    have s1_5 : w5.cell? ⟨w.heap.size, 1, none⟩ = some (.slice A1 R.length c1) := blk_cell Bs_5.out rfl
    have s2_5 : w5.cell? ⟨w.heap.size, 2, none⟩ = some (.slice A2 H.length c2) := blk_cell Bs_5.out rfl
    have s3_5 : w5.cell? ⟨w.heap.size, 3, none⟩ = some (.slice A3 F.length c3) := blk_cell Bs_5.out rfl
    have s4_5 : w5.cell? ⟨w.heap.size, 4, none⟩ = some (.bool tu) := blk_cell Bs_5.out rfl
    have s5_5 : w5.cell? ⟨w.heap.size, 5, none⟩ = some (.bool fa) := blk_cell Bs_5.out rfl
    have s6_5 : w5.cell? ⟨w.heap.size, 6, none⟩ = some (.int .i64 ag) := blk_cell Bs_5.out rfl
    have s7_5 : w5.cell? ⟨w.heap.size, 7, none⟩ = some (.bool jo) := blk_cell Bs_5.out rfl
    have sz_5 : w.heap.size < w5.heap.size := blk_lt Bs_5.out
    have Sa1_5 : Hid (Sp w5 C1 e1 (X)) := hs5
    have Sa2_5 : Hid (Sp w5 C2 e2 (U)) := ht5
    have Sa3_5 : Hid (Sp w5 C3 e3 (V)) := hu5
    clear S1_4 S2_4 S3_4 Bs_4 s0_4 s1_4 s2_4 s3_4 s4_4 s5_4 s6_4 s7_4 sz_4 hs5 ht5 hu5 HB_4 hb5
    go_wp2_with fail
    refine (rsure_as he C1 e1 X C2 e2 U C3 e3 V tu fa ag jo false HBW.out _ (by repeat (first | exact Sa1_5.out | refine Sp.alloc ?_ _ | refine Sp.drewN ?_ _ | refine Sp.drew ?_)) (by repeat (first | exact Sa2_5.out | refine Sp.alloc ?_ _ | refine Sp.drewN ?_ _ | refine Sp.drew ?_)) (by repeat (first | exact Sa3_5.out | refine Sp.alloc ?_ _ | refine Sp.drewN ?_ _ | refine Sp.drew ?_)) (by omega) (by omega) (by omega)).mono ?_
    rintro e6 w6 ⟨rfl, hb6⟩
    have HB_6 : Hid (Below w.heap.size w w6) := bel_chain hb6 (by repeat (first | exact HB_5.out | refine bel_drewN ?_ _ | refine bel_drew ?_ | refine bel_alloc ?_ _))
    have S1_6 : Hid (Sp w6 A1 c1 (R)) := Sp.below (by repeat (first | exact S1_5.out | refine Sp.alloc ?_ _ | refine Sp.drewN ?_ _ | refine Sp.drew ?_)) hb6
    have S2_6 : Hid (Sp w6 A2 c2 (H)) := Sp.below (by repeat (first | exact S2_5.out | refine Sp.alloc ?_ _ | refine Sp.drewN ?_ _ | refine Sp.drew ?_)) hb6
    have S3_6 : Hid (Sp w6 A3 c3 (F)) := Sp.below (by repeat (first | exact S3_5.out | refine Sp.alloc ?_ _ | refine Sp.drewN ?_ _ | refine Sp.drew ?_)) hb6
    have Sa1_6 : Hid (Sp w6 C1 e1 (X)) := Sp.below (by repeat (first | exact Sa1_5.out | refine Sp.alloc ?_ _ | refine Sp.drewN ?_ _ | refine Sp.drew ?_)) hb6
    have Sa2_6 : Hid (Sp w6 C2 e2 (U)) := Sp.below (by repeat (first | exact Sa2_5.out | refine Sp.alloc ?_ _ | refine Sp.drewN ?_ _ | refine Sp.drew ?_)) hb6
    have Sa3_6 : Hid (Sp w6 C3 e3 (V)) := Sp.below (by repeat (first | exact Sa3_5.out | refine Sp.alloc ?_ _ | refine Sp.drewN ?_ _ | refine Sp.drew ?_)) hb6
    have Bs_6 : Hid (w6.heap[w.heap.size]? = some (.cells #[.bool he, .slice A1 R.length c1, .slice A2 H.length c2, .slice A3 F.length c3, .bool tu, .bool fa, .int .i64 ag, .bool jo] 52 (0, 0))) := blk_keep hb6 (blk_keep (W := w5) (by (repeat (first | exact Below.refl _ _ | refine bel_drewN ?_ _ | refine bel_drew ?_ | refine bel_alloc ?_ _ | refine bel_set ?_ (by simp) _))) Bs_5.out)
    have s0_6 : w6.cell? ⟨w.heap.size, 0, none⟩ = some (.bool he) := blk_cell Bs_6.out rfl
    have s1_6 : w6.cell? ⟨w.heap.size, 1, none⟩ = some (.slice A1 R.length c1) := blk_cell Bs_6.out rfl
    have s2_6 : w6.cell? ⟨w.heap.size, 2, none⟩ = some (.slice A2 H.length c2) := blk_cell Bs_6.out rfl
    have s3_6 : w6.cell? ⟨w.heap.size, 3, none⟩ = some (.slice A3 F.length c3) := blk_cell Bs_6.out rfl
    have s4_6 : w6.cell? ⟨w.heap.size, 4, none⟩ = some (.bool tu) := blk_cell Bs_6.out rfl
    have s5_6 : w6.cell? ⟨w.heap.size, 5, none⟩ = some (.bool fa) := blk_cell Bs_6.out rfl
    have s6_6 : w6.cell? ⟨w.heap.size, 6, none⟩ = some (.int .i64 ag) := blk_cell Bs_6.out rfl
    have s7_6 : w6.cell? ⟨w.heap.size, 7, none⟩ = some (.bool jo) := blk_cell Bs_6.out rfl
    have sz_6 : w.heap.size < w6.heap.size := blk_lt Bs_6.out
    clear S1_5 S2_5 S3_5 Sa1_5 Sa2_5 Sa3_5 Bs_5 s0_5 s1_5 s2_5 s3_5 s4_5 s5_5 s6_5 s7_5 sz_5 HB_5 hb6
    clear Sa1_6
    clear Sa2_6
    clear Sa3_6
    have zw6 : w.heap.size < w6.heap.size := sz_6
    have zw6b : w.heap.size ≤ w6.heap.size := HB_6.out.size
    go_wp2_with fail
    go_loopw [5, 7, 8, 26] (fun _ _ _ si wr => ∃ (i : Nat) (t1 f1 : Bool), i ≤ 2 ∧ si = .int .i64 i ∧ SureAt w wr (w6.heap.size) he A1 c1 R A2 c2 H A3 c3 F t1 f1 ag jo) (fun _ _ _ si _ => 2 - (intOf si).toNat)
    case atStart => exact ⟨0, tu, fa, by omega, rfl, ⟨blk_skip Bs_6.out, blk_new rfl, S1_6.out.alloc _, S2_6.out.alloc _, S3_6.out.alloc _, bel_alloc HB_6.out _⟩⟩
    case round =>
      clear Bs_6 S1_6 S2_6 S3_6 HB_6 s0_6 s1_6 s2_6 s3_6 s4_6 s5_6 s6_6 s7_6
      obtain ⟨i, t1, f1, hi, rfl, hsa⟩ := hrel
      obtain ⟨wo, rfl⟩ : ∃ wo : World, wo = wr := ⟨_, rfl⟩
      have HSA := Lib.hid hsa
      have zo : w6.heap.size < wo.heap.size := blk_lt hsa.bs
      clear hsa
      rcases (show i = 0 ∨ i = 1 ∨ i = 2 by omega) with rfl | rfl | rfl
      · have ti : wo.cell? ⟨w6.heap.size, 0, none⟩ = some (.bool false) := blk_cell HSA.out.bs rfl
        go_wp2_with fail
        go_loopw [7, 8, 32] (fun _ _ sj wr => ∃ (j : Nat) (t1 f1 : Bool), j ≤ 2 ∧ sj = .int .i64 j ∧ SureAt w wr (w6.heap.size) he A1 c1 R A2 c2 H A3 c3 F t1 f1 ag jo ∧ wr.heap[wo.heap.size]? = some (.cells #[.bool false, .bool true] 4 (0, 0))) (fun _ _ sj _ => 2 - (intOf sj).toNat)
        case atStart => exact ⟨0, t1, f1, by omega, rfl, ⟨blk_skip HSA.out.st, blk_skip HSA.out.bs, HSA.out.s1.alloc _, HSA.out.s2.alloc _, HSA.out.s3.alloc _, bel_alloc HSA.out.bel _⟩, blk_new rfl⟩
        case round =>
          clear ti
          obtain ⟨j, t2, f2, hj, rfl, hsb, hbb⟩ := hrel
          obtain ⟨w20, rfl⟩ : ∃ w20 : World, w20 = wr := ⟨_, rfl⟩
          have HB_20 := Lib.hid hsb.bel
          have S1_20 := Lib.hid hsb.s1
          have S2_20 := Lib.hid hsb.s2
          have S3_20 := Lib.hid hsb.s3
          have Bs_20 := Lib.hid hsb.st
          have Bp_20 := Lib.hid hsb.bs
          have Bq_20 := Lib.hid hbb
          clear hsb hbb
          rcases (show j = 0 ∨ j = 1 ∨ j = 2 by omega) with rfl | rfl | rfl
          · have s0_20 : w20.cell? ⟨w.heap.size, 0, none⟩ = some (.bool he) := blk_cell Bs_20.out rfl
            have sf0_20 : w20.frozen? ⟨w.heap.size, 0, none⟩ = false := blk_frozen Bs_20.out
            have s1_20 : w20.cell? ⟨w.heap.size, 1, none⟩ = some (.slice A1 R.length c1) := blk_cell Bs_20.out rfl
            have sf1_20 : w20.frozen? ⟨w.heap.size, 1, none⟩ = false := blk_frozen Bs_20.out
            have s2_20 : w20.cell? ⟨w.heap.size, 2, none⟩ = some (.slice A2 H.length c2) := blk_cell Bs_20.out rfl
            have sf2_20 : w20.frozen? ⟨w.heap.size, 2, none⟩ = false := blk_frozen Bs_20.out
            have s3_20 : w20.cell? ⟨w.heap.size, 3, none⟩ = some (.slice A3 F.length c3) := blk_cell Bs_20.out rfl
            have sf3_20 : w20.frozen? ⟨w.heap.size, 3, none⟩ = false := blk_frozen Bs_20.out
            have s4_20 : w20.cell? ⟨w.heap.size, 4, none⟩ = some (.bool t2) := blk_cell Bs_20.out rfl
            have sf4_20 : w20.frozen? ⟨w.heap.size, 4, none⟩ = false := blk_frozen Bs_20.out
            have s5_20 : w20.cell? ⟨w.heap.size, 5, none⟩ = some (.bool f2) := blk_cell Bs_20.out rfl
            have sf5_20 : w20.frozen? ⟨w.heap.size, 5, none⟩ = false := blk_frozen Bs_20.out
            have s6_20 : w20.cell? ⟨w.heap.size, 6, none⟩ = some (.int .i64 ag) := blk_cell Bs_20.out rfl
            have sf6_20 : w20.frozen? ⟨w.heap.size, 6, none⟩ = false := blk_frozen Bs_20.out
            have s7_20 : w20.cell? ⟨w.heap.size, 7, none⟩ = some (.bool jo) := blk_cell Bs_20.out rfl
            have sf7_20 : w20.frozen? ⟨w.heap.size, 7, none⟩ = false := blk_frozen Bs_20.out
            have sz_20 : w.heap.size < w20.heap.size := blk_lt Bs_20.out
            have pz_20 : w6.heap.size < w20.heap.size := blk_lt Bp_20.out
            have qz_20 : wo.heap.size < w20.heap.size := blk_lt Bq_20.out
            have tj : w20.cell? ⟨wo.heap.size, 0, none⟩ = some (.bool false) := blk_cell Bq_20.out rfl
            go_wp2_with fail
            obtain ⟨w21, hw21⟩ : ∃ w21, World.setCell w20 ⟨w.heap.size, 4, none⟩ (.bool false) = w21 := ⟨_, rfl⟩
            rw [hw21]
            have hg21 : w20.grownBy w21 (some (w.heap.size)) := by rw [← hw21]; exact grown_set (p := ⟨w.heap.size, 4, none⟩) (World.grownBy.refl _ _) _
            have HB_21 : Hid (Below w.heap.size w w21) := Below.grown HB_20.out hg21 HB_20.out.size (fun j hj => by injection hj with hj; omega)
            have S1_21 : Hid (Sp w21 A1 c1 (R)) := S1_20.out.grown' (fun h0 => S1_20.out.off_blk h0 Bs_20.out (noPair8 ..)) hg21
            have S2_21 : Hid (Sp w21 A2 c2 (H)) := S2_20.out.grown' (fun h0 => S2_20.out.off_blk h0 Bs_20.out (noPair8 ..)) hg21
            have S3_21 : Hid (Sp w21 A3 c3 (F)) := S3_20.out.grown' (fun h0 => S3_20.out.off_blk h0 Bs_20.out (noPair8 ..)) hg21
            have Bs_21 : Hid (w21.heap[w.heap.size]? = some (.cells #[.bool he, .slice A1 R.length c1, .slice A2 H.length c2, .slice A3 F.length c3, .bool false, .bool f2, .int .i64 ag, .bool jo] 52 (0, 0))) := by simp only [Hid]; rw [← hw21]; exact blk_set Bs_20.out
            have Bp_21 : Hid (w21.heap[w6.heap.size]? = some (.cells #[.bool false, .bool true] 4 (0, 0))) := (hg21.block _ (by omega) (by intro e; injection e with e; omega)).trans Bp_20.out
            have Bq_21 : Hid (w21.heap[wo.heap.size]? = some (.cells #[.bool false, .bool true] 4 (0, 0))) := (hg21.block _ (by omega) (by intro e; injection e with e; omega)).trans Bq_20.out
            have s0_21 : w21.cell? ⟨w.heap.size, 0, none⟩ = some (.bool he) := blk_cell Bs_21.out rfl
            have sf0_21 : w21.frozen? ⟨w.heap.size, 0, none⟩ = false := blk_frozen Bs_21.out
            have s1_21 : w21.cell? ⟨w.heap.size, 1, none⟩ = some (.slice A1 R.length c1) := blk_cell Bs_21.out rfl
            have sf1_21 : w21.frozen? ⟨w.heap.size, 1, none⟩ = false := blk_frozen Bs_21.out
            have s2_21 : w21.cell? ⟨w.heap.size, 2, none⟩ = some (.slice A2 H.length c2) := blk_cell Bs_21.out rfl
            have sf2_21 : w21.frozen? ⟨w.heap.size, 2, none⟩ = false := blk_frozen Bs_21.out
            have s3_21 : w21.cell? ⟨w.heap.size, 3, none⟩ = some (.slice A3 F.length c3) := blk_cell Bs_21.out rfl
            have sf3_21 : w21.frozen? ⟨w.heap.size, 3, none⟩ = false := blk_frozen Bs_21.out
            have s4_21 : w21.cell? ⟨w.heap.size, 4, none⟩ = some (.bool false) := blk_cell Bs_21.out rfl
            have sf4_21 : w21.frozen? ⟨w.heap.size, 4, none⟩ = false := blk_frozen Bs_21.out
            have s5_21 : w21.cell? ⟨w.heap.size, 5, none⟩ = some (.bool f2) := blk_cell Bs_21.out rfl
            have sf5_21 : w21.frozen? ⟨w.heap.size, 5, none⟩ = false := blk_frozen Bs_21.out
            have s6_21 : w21.cell? ⟨w.heap.size, 6, none⟩ = some (.int .i64 ag) := blk_cell Bs_21.out rfl
            have sf6_21 : w21.frozen? ⟨w.heap.size, 6, none⟩ = false := blk_frozen Bs_21.out
            have s7_21 : w21.cell? ⟨w.heap.size, 7, none⟩ = some (.bool jo) := blk_cell Bs_21.out rfl
            have sf7_21 : w21.frozen? ⟨w.heap.size, 7, none⟩ = false := blk_frozen Bs_21.out
            have sz_21 : w.heap.size < w21.heap.size := blk_lt Bs_21.out
            have pz_21 : w6.heap.size < w21.heap.size := blk_lt Bp_21.out
            have qz_21 : wo.heap.size < w21.heap.size := blk_lt Bq_21.out
            clear HB_20 hw21 hg21 S1_20 S2_20 S3_20 Bs_20 s0_20 s1_20 s2_20 s3_20 s4_20 s5_20 s6_20 s7_20 sf0_20 sf1_20 sf2_20 sf3_20 sf4_20 sf5_20 sf6_20 sf7_20 sz_20 Bp_20 pz_20 Bq_20 qz_20
            clear tj
            obtain ⟨w22, hw22⟩ : ∃ w22, World.setCell w21 ⟨w.heap.size, 5, none⟩ (.bool false) = w22 := ⟨_, rfl⟩
            rw [hw22]
            have hg22 : w21.grownBy w22 (some (w.heap.size)) := by rw [← hw22]; exact grown_set (p := ⟨w.heap.size, 5, none⟩) (World.grownBy.refl _ _) _
            have HB_22 : Hid (Below w.heap.size w w22) := Below.grown HB_21.out hg22 HB_21.out.size (fun j hj => by injection hj with hj; omega)
            have S1_22 : Hid (Sp w22 A1 c1 (R)) := S1_21.out.grown' (fun h0 => S1_21.out.off_blk h0 Bs_21.out (noPair8 ..)) hg22
            have S2_22 : Hid (Sp w22 A2 c2 (H)) := S2_21.out.grown' (fun h0 => S2_21.out.off_blk h0 Bs_21.out (noPair8 ..)) hg22
            have S3_22 : Hid (Sp w22 A3 c3 (F)) := S3_21.out.grown' (fun h0 => S3_21.out.off_blk h0 Bs_21.out (noPair8 ..)) hg22
            have Bs_22 : Hid (w22.heap[w.heap.size]? = some (.cells #[.bool he, .slice A1 R.length c1, .slice A2 H.length c2, .slice A3 F.length c3, .bool false, .bool false, .int .i64 ag, .bool jo] 52 (0, 0))) := by simp only [Hid]; rw [← hw22]; exact blk_set Bs_21.out
            have Bp_22 : Hid (w22.heap[w6.heap.size]? = some (.cells #[.bool false, .bool true] 4 (0, 0))) := (hg22.block _ (by omega) (by intro e; injection e with e; omega)).trans Bp_21.out
            have Bq_22 : Hid (w22.heap[wo.heap.size]? = some (.cells #[.bool false, .bool true] 4 (0, 0))) := (hg22.block _ (by omega) (by intro e; injection e with e; omega)).trans Bq_21.out
            have s0_22 : w22.cell? ⟨w.heap.size, 0, none⟩ = some (.bool he) := blk_cell Bs_22.out rfl
            have sf0_22 : w22.frozen? ⟨w.heap.size, 0, none⟩ = false := blk_frozen Bs_22.out
            have s1_22 : w22.cell? ⟨w.heap.size, 1, none⟩ = some (.slice A1 R.length c1) := blk_cell Bs_22.out rfl
            have sf1_22 : w22.frozen? ⟨w.heap.size, 1, none⟩ = false := blk_frozen Bs_22.out
            have s2_22 : w22.cell? ⟨w.heap.size, 2, none⟩ = some (.slice A2 H.length c2) := blk_cell Bs_22.out rfl
            have sf2_22 : w22.frozen? ⟨w.heap.size, 2, none⟩ = false := blk_frozen Bs_22.out
            have s3_22 : w22.cell? ⟨w.heap.size, 3, none⟩ = some (.slice A3 F.length c3) := blk_cell Bs_22.out rfl
            have sf3_22 : w22.frozen? ⟨w.heap.size, 3, none⟩ = false := blk_frozen Bs_22.out
            have s4_22 : w22.cell? ⟨w.heap.size, 4, none⟩ = some (.bool false) := blk_cell Bs_22.out rfl
            have sf4_22 : w22.frozen? ⟨w.heap.size, 4, none⟩ = false := blk_frozen Bs_22.out
            have s5_22 : w22.cell? ⟨w.heap.size, 5, none⟩ = some (.bool false) := blk_cell Bs_22.out rfl
            have sf5_22 : w22.frozen? ⟨w.heap.size, 5, none⟩ = false := blk_frozen Bs_22.out
            have s6_22 : w22.cell? ⟨w.heap.size, 6, none⟩ = some (.int .i64 ag) := blk_cell Bs_22.out rfl
            have sf6_22 : w22.frozen? ⟨w.heap.size, 6, none⟩ = false := blk_frozen Bs_22.out
            have s7_22 : w22.cell? ⟨w.heap.size, 7, none⟩ = some (.bool jo) := blk_cell Bs_22.out rfl
            have sf7_22 : w22.frozen? ⟨w.heap.size, 7, none⟩ = false := blk_frozen Bs_22.out
            have sz_22 : w.heap.size < w22.heap.size := blk_lt Bs_22.out
            have pz_22 : w6.heap.size < w22.heap.size := blk_lt Bp_22.out
            have qz_22 : wo.heap.size < w22.heap.size := blk_lt Bq_22.out
            clear HB_21 hw22 hg22 S1_21 S2_21 S3_21 Bs_21 s0_21 s1_21 s2_21 s3_21 s4_21 s5_21 s6_21 s7_21 sf0_21 sf1_21 sf2_21 sf3_21 sf4_21 sf5_21 sf6_21 sf7_21 sz_21 Bp_21 pz_21 Bq_21 qz_21
            refine (own_as he A1 c1 R A2 c2 H A3 c3 F false false ag jo X U V HX.out HU.out HV.out _ (by repeat (first | exact S1_22.out | refine Sp.alloc ?_ _ | refine Sp.drewN ?_ _ | refine Sp.drew ?_)) (by repeat (first | exact S2_22.out | refine Sp.alloc ?_ _ | refine Sp.drewN ?_ _ | refine Sp.drew ?_)) (by repeat (first | exact S3_22.out | refine Sp.alloc ?_ _ | refine Sp.drewN ?_ _ | refine Sp.drew ?_)) (by omega) (by omega) (by omega)).mono ?_
            rintro e23 w23 ⟨B4, d4, B5, d5, B6, d6, rfl, hs23, ht23, hu23, hb23⟩
            have HB_23 : Hid (Below w.heap.size w w23) := bel_chain hb23 (by repeat (first | exact HB_22.out | refine bel_drewN ?_ _ | refine bel_drew ?_ | refine bel_alloc ?_ _))
            have S1_23 : Hid (Sp w23 A1 c1 (R)) := Sp.below (by repeat (first | exact S1_22.out | refine Sp.alloc ?_ _ | refine Sp.drewN ?_ _ | refine Sp.drew ?_)) hb23
            have S2_23 : Hid (Sp w23 A2 c2 (H)) := Sp.below (by repeat (first | exact S2_22.out | refine Sp.alloc ?_ _ | refine Sp.drewN ?_ _ | refine Sp.drew ?_)) hb23
            have S3_23 : Hid (Sp w23 A3 c3 (F)) := Sp.below (by repeat (first | exact S3_22.out | refine Sp.alloc ?_ _ | refine Sp.drewN ?_ _ | refine Sp.drew ?_)) hb23
            have Bs_23 : Hid (w23.heap[w.heap.size]? = some (.cells #[.bool he, .slice A1 R.length c1, .slice A2 H.length c2, .slice A3 F.length c3, .bool false, .bool false, .int .i64 ag, .bool jo] 52 (0, 0))) := blk_keep hb23 (blk_keep (W := w22) (by (repeat (first | exact Below.refl _ _ | refine bel_drewN ?_ _ | refine bel_drew ?_ | refine bel_alloc ?_ _ | refine bel_set ?_ (by simp) _))) Bs_22.out)
            have Bp_23 : Hid (w23.heap[w6.heap.size]? = some (.cells #[.bool false, .bool true] 4 (0, 0))) := blk_keep hb23 (blk_keep (W := w22) (by (repeat (first | exact Below.refl _ _ | refine bel_drewN ?_ _ | refine bel_drew ?_ | refine bel_alloc ?_ _ | refine bel_set ?_ (by simp) _))) Bp_22.out)
            have Bq_23 : Hid (w23.heap[wo.heap.size]? = some (.cells #[.bool false, .bool true] 4 (0, 0))) := blk_keep hb23 (blk_keep (W := w22) (by (repeat (first | exact Below.refl _ _ | refine bel_drewN ?_ _ | refine bel_drew ?_ | refine bel_alloc ?_ _ | refine bel_set ?_ (by simp) _))) Bq_22.out)
            have s0_23 : w23.cell? ⟨w.heap.size, 0, none⟩ = some (.bool he) := blk_cell Bs_23.out rfl
            have sf0_23 : w23.frozen? ⟨w.heap.size, 0, none⟩ = false := blk_frozen Bs_23.out
            have s1_23 : w23.cell? ⟨w.heap.size, 1, none⟩ = some (.slice A1 R.length c1) := blk_cell Bs_23.out rfl
            have sf1_23 : w23.frozen? ⟨w.heap.size, 1, none⟩ = false := blk_frozen Bs_23.out
            have s2_23 : w23.cell? ⟨w.heap.size, 2, none⟩ = some (.slice A2 H.length c2) := blk_cell Bs_23.out rfl
            have sf2_23 : w23.frozen? ⟨w.heap.size, 2, none⟩ = false := blk_frozen Bs_23.out
            have s3_23 : w23.cell? ⟨w.heap.size, 3, none⟩ = some (.slice A3 F.length c3) := blk_cell Bs_23.out rfl
            have sf3_23 : w23.frozen? ⟨w.heap.size, 3, none⟩ = false := blk_frozen Bs_23.out
            have s4_23 : w23.cell? ⟨w.heap.size, 4, none⟩ = some (.bool false) := blk_cell Bs_23.out rfl
            have sf4_23 : w23.frozen? ⟨w.heap.size, 4, none⟩ = false := blk_frozen Bs_23.out
            have s5_23 : w23.cell? ⟨w.heap.size, 5, none⟩ = some (.bool false) := blk_cell Bs_23.out rfl
            have sf5_23 : w23.frozen? ⟨w.heap.size, 5, none⟩ = false := blk_frozen Bs_23.out
            have s6_23 : w23.cell? ⟨w.heap.size, 6, none⟩ = some (.int .i64 ag) := blk_cell Bs_23.out rfl
            have sf6_23 : w23.frozen? ⟨w.heap.size, 6, none⟩ = false := blk_frozen Bs_23.out
            have s7_23 : w23.cell? ⟨w.heap.size, 7, none⟩ = some (.bool jo) := blk_cell Bs_23.out rfl
            have sf7_23 : w23.frozen? ⟨w.heap.size, 7, none⟩ = false := blk_frozen Bs_23.out
            have sz_23 : w.heap.size < w23.heap.size := blk_lt Bs_23.out
            have pz_23 : w6.heap.size < w23.heap.size := blk_lt Bp_23.out
            have qz_23 : wo.heap.size < w23.heap.size := blk_lt Bq_23.out
            have Sa1_23 : Hid (Sp w23 B4 d4 (X)) := hs23
            have Sa2_23 : Hid (Sp w23 B5 d5 (U)) := ht23
            have Sa3_23 : Hid (Sp w23 B6 d6 (V)) := hu23
            clear S1_22 S2_22 S3_22 Bs_22 s0_22 s1_22 s2_22 s3_22 s4_22 s5_22 s6_22 s7_22 sf0_22 sf1_22 sf2_22 sf3_22 sf4_22 sf5_22 sf6_22 sf7_22 sz_22 Bp_22 pz_22 Bq_22 qz_22 hs23 ht23 hu23 HB_22 hb23
            go_wp2_with fail
            refine (sure_as he B4 d4 X B5 d5 U B6 d6 V false false ag jo false HBW.out _ (by repeat (first | exact Sa1_23.out | refine Sp.alloc ?_ _ | refine Sp.drewN ?_ _ | refine Sp.drew ?_)) (by repeat (first | exact Sa2_23.out | refine Sp.alloc ?_ _ | refine Sp.drewN ?_ _ | refine Sp.drew ?_)) (by repeat (first | exact Sa3_23.out | refine Sp.alloc ?_ _ | refine Sp.drewN ?_ _ | refine Sp.drew ?_)) K1.out K2.out K3.out (by omega) (by omega) (by omega)).mono ?_
            rintro e24 w24 ⟨rfl, hb24⟩
            have HB_24 : Hid (Below w.heap.size w w24) := bel_chain hb24 (by repeat (first | exact HB_23.out | refine bel_drewN ?_ _ | refine bel_drew ?_ | refine bel_alloc ?_ _))
            have S1_24 : Hid (Sp w24 A1 c1 (R)) := Sp.below (by repeat (first | exact S1_23.out | refine Sp.alloc ?_ _ | refine Sp.drewN ?_ _ | refine Sp.drew ?_)) hb24
            have S2_24 : Hid (Sp w24 A2 c2 (H)) := Sp.below (by repeat (first | exact S2_23.out | refine Sp.alloc ?_ _ | refine Sp.drewN ?_ _ | refine Sp.drew ?_)) hb24
            have S3_24 : Hid (Sp w24 A3 c3 (F)) := Sp.below (by repeat (first | exact S3_23.out | refine Sp.alloc ?_ _ | refine Sp.drewN ?_ _ | refine Sp.drew ?_)) hb24
            have Sa1_24 : Hid (Sp w24 B4 d4 (X)) := Sp.below (by repeat (first | exact Sa1_23.out | refine Sp.alloc ?_ _ | refine Sp.drewN ?_ _ | refine Sp.drew ?_)) hb24
            have Sa2_24 : Hid (Sp w24 B5 d5 (U)) := Sp.below (by repeat (first | exact Sa2_23.out | refine Sp.alloc ?_ _ | refine Sp.drewN ?_ _ | refine Sp.drew ?_)) hb24
            have Sa3_24 : Hid (Sp w24 B6 d6 (V)) := Sp.below (by repeat (first | exact Sa3_23.out | refine Sp.alloc ?_ _ | refine Sp.drewN ?_ _ | refine Sp.drew ?_)) hb24
            have Bs_24 : Hid (w24.heap[w.heap.size]? = some (.cells #[.bool he, .slice A1 R.length c1, .slice A2 H.length c2, .slice A3 F.length c3, .bool false, .bool false, .int .i64 ag, .bool jo] 52 (0, 0))) := blk_keep hb24 (blk_keep (W := w23) (by (repeat (first | exact Below.refl _ _ | refine bel_drewN ?_ _ | refine bel_drew ?_ | refine bel_alloc ?_ _ | refine bel_set ?_ (by simp) _))) Bs_23.out)
            have Bp_24 : Hid (w24.heap[w6.heap.size]? = some (.cells #[.bool false, .bool true] 4 (0, 0))) := blk_keep hb24 (blk_keep (W := w23) (by (repeat (first | exact Below.refl _ _ | refine bel_drewN ?_ _ | refine bel_drew ?_ | refine bel_alloc ?_ _ | refine bel_set ?_ (by simp) _))) Bp_23.out)
            have Bq_24 : Hid (w24.heap[wo.heap.size]? = some (.cells #[.bool false, .bool true] 4 (0, 0))) := blk_keep hb24 (blk_keep (W := w23) (by (repeat (first | exact Below.refl _ _ | refine bel_drewN ?_ _ | refine bel_drew ?_ | refine bel_alloc ?_ _ | refine bel_set ?_ (by simp) _))) Bq_23.out)
            have s0_24 : w24.cell? ⟨w.heap.size, 0, none⟩ = some (.bool he) := blk_cell Bs_24.out rfl
            have sf0_24 : w24.frozen? ⟨w.heap.size, 0, none⟩ = false := blk_frozen Bs_24.out
            have s1_24 : w24.cell? ⟨w.heap.size, 1, none⟩ = some (.slice A1 R.length c1) := blk_cell Bs_24.out rfl
            have sf1_24 : w24.frozen? ⟨w.heap.size, 1, none⟩ = false := blk_frozen Bs_24.out
            have s2_24 : w24.cell? ⟨w.heap.size, 2, none⟩ = some (.slice A2 H.length c2) := blk_cell Bs_24.out rfl
            have sf2_24 : w24.frozen? ⟨w.heap.size, 2, none⟩ = false := blk_frozen Bs_24.out
            have s3_24 : w24.cell? ⟨w.heap.size, 3, none⟩ = some (.slice A3 F.length c3) := blk_cell Bs_24.out rfl
            have sf3_24 : w24.frozen? ⟨w.heap.size, 3, none⟩ = false := blk_frozen Bs_24.out
            have s4_24 : w24.cell? ⟨w.heap.size, 4, none⟩ = some (.bool false) := blk_cell Bs_24.out rfl
            have sf4_24 : w24.frozen? ⟨w.heap.size, 4, none⟩ = false := blk_frozen Bs_24.out
            have s5_24 : w24.cell? ⟨w.heap.size, 5, none⟩ = some (.bool false) := blk_cell Bs_24.out rfl
            have sf5_24 : w24.frozen? ⟨w.heap.size, 5, none⟩ = false := blk_frozen Bs_24.out
            have s6_24 : w24.cell? ⟨w.heap.size, 6, none⟩ = some (.int .i64 ag) := blk_cell Bs_24.out rfl
            have sf6_24 : w24.frozen? ⟨w.heap.size, 6, none⟩ = false := blk_frozen Bs_24.out
            have s7_24 : w24.cell? ⟨w.heap.size, 7, none⟩ = some (.bool jo) := blk_cell Bs_24.out rfl
            have sf7_24 : w24.frozen? ⟨w.heap.size, 7, none⟩ = false := blk_frozen Bs_24.out
            have sz_24 : w.heap.size < w24.heap.size := blk_lt Bs_24.out
            have pz_24 : w6.heap.size < w24.heap.size := blk_lt Bp_24.out
            have qz_24 : wo.heap.size < w24.heap.size := blk_lt Bq_24.out
            clear S1_23 S2_23 S3_23 Sa1_23 Sa2_23 Sa3_23 Bs_23 s0_23 s1_23 s2_23 s3_23 s4_23 s5_23 s6_23 s7_23 sf0_23 sf1_23 sf2_23 sf3_23 sf4_23 sf5_23 sf6_23 sf7_23 sz_23 Bp_23 pz_23 Bq_23 qz_23 HB_23 hb24
            clear Sa1_24
            clear Sa2_24
            clear Sa3_24
            go_wp2_with fail
            refine (own_as he A1 c1 R A2 c2 H A3 c3 F false false ag jo X U V HX.out HU.out HV.out _ (by repeat (first | exact S1_24.out | refine Sp.alloc ?_ _ | refine Sp.drewN ?_ _ | refine Sp.drew ?_)) (by repeat (first | exact S2_24.out | refine Sp.alloc ?_ _ | refine Sp.drewN ?_ _ | refine Sp.drew ?_)) (by repeat (first | exact S3_24.out | refine Sp.alloc ?_ _ | refine Sp.drewN ?_ _ | refine Sp.drew ?_)) (by omega) (by omega) (by omega)).mono ?_
            rintro e25 w25 ⟨C4, e4, C5, e5, C6, e6, rfl, hs25, ht25, hu25, hb25⟩
            have HB_25 : Hid (Below w.heap.size w w25) := bel_chain hb25 (by repeat (first | exact HB_24.out | refine bel_drewN ?_ _ | refine bel_drew ?_ | refine bel_alloc ?_ _))
            have S1_25 : Hid (Sp w25 A1 c1 (R)) := Sp.below (by repeat (first | exact S1_24.out | refine Sp.alloc ?_ _ | refine Sp.drewN ?_ _ | refine Sp.drew ?_)) hb25
            have S2_25 : Hid (Sp w25 A2 c2 (H)) := Sp.below (by repeat (first | exact S2_24.out | refine Sp.alloc ?_ _ | refine Sp.drewN ?_ _ | refine Sp.drew ?_)) hb25
            have S3_25 : Hid (Sp w25 A3 c3 (F)) := Sp.below (by repeat (first | exact S3_24.out | refine Sp.alloc ?_ _ | refine Sp.drewN ?_ _ | refine Sp.drew ?_)) hb25
            have Bs_25 : Hid (w25.heap[w.heap.size]? = some (.cells #[.bool he, .slice A1 R.length c1, .slice A2 H.length c2, .slice A3 F.length c3, .bool false, .bool false, .int .i64 ag, .bool jo] 52 (0, 0))) := blk_keep hb25 (blk_keep (W := w24) (by (repeat (first | exact Below.refl _ _ | refine bel_drewN ?_ _ | refine bel_drew ?_ | refine bel_alloc ?_ _ | refine bel_set ?_ (by simp) _))) Bs_24.out)
            have Bp_25 : Hid (w25.heap[w6.heap.size]? = some (.cells #[.bool false, .bool true] 4 (0, 0))) := blk_keep hb25 (blk_keep (W := w24) (by (repeat (first | exact Below.refl _ _ | refine bel_drewN ?_ _ | refine bel_drew ?_ | refine bel_alloc ?_ _ | refine bel_set ?_ (by simp) _))) Bp_24.out)
            have Bq_25 : Hid (w25.heap[wo.heap.size]? = some (.cells #[.bool false, .bool true] 4 (0, 0))) := blk_keep hb25 (blk_keep (W := w24) (by (repeat (first | exact Below.refl _ _ | refine bel_drewN ?_ _ | refine bel_drew ?_ | refine bel_alloc ?_ _ | refine bel_set ?_ (by simp) _))) Bq_24.out)
            have s0_25 : w25.cell? ⟨w.heap.size, 0, none⟩ = some (.bool he) := blk_cell Bs_25.out rfl
            have sf0_25 : w25.frozen? ⟨w.heap.size, 0, none⟩ = false := blk_frozen Bs_25.out
            have s1_25 : w25.cell? ⟨w.heap.size, 1, none⟩ = some (.slice A1 R.length c1) := blk_cell Bs_25.out rfl
            have sf1_25 : w25.frozen? ⟨w.heap.size, 1, none⟩ = false := blk_frozen Bs_25.out
            have s2_25 : w25.cell? ⟨w.heap.size, 2, none⟩ = some (.slice A2 H.length c2) := blk_cell Bs_25.out rfl
            have sf2_25 : w25.frozen? ⟨w.heap.size, 2, none⟩ = false := blk_frozen Bs_25.out
            have s3_25 : w25.cell? ⟨w.heap.size, 3, none⟩ = some (.slice A3 F.length c3) := blk_cell Bs_25.out rfl
            have sf3_25 : w25.frozen? ⟨w.heap.size, 3, none⟩ = false := blk_frozen Bs_25.out
            have s4_25 : w25.cell? ⟨w.heap.size, 4, none⟩ = some (.bool false) := blk_cell Bs_25.out rfl
            have sf4_25 : w25.frozen? ⟨w.heap.size, 4, none⟩ = false := blk_frozen Bs_25.out
            have s5_25 : w25.cell? ⟨w.heap.size, 5, none⟩ = some (.bool false) := blk_cell Bs_25.out rfl
            have sf5_25 : w25.frozen? ⟨w.heap.size, 5, none⟩ = false := blk_frozen Bs_25.out
            have s6_25 : w25.cell? ⟨w.heap.size, 6, none⟩ = some (.int .i64 ag) := blk_cell Bs_25.out rfl
            have sf6_25 : w25.frozen? ⟨w.heap.size, 6, none⟩ = false := blk_frozen Bs_25.out
            have s7_25 : w25.cell? ⟨w.heap.size, 7, none⟩ = some (.bool jo) := blk_cell Bs_25.out rfl
            have sf7_25 : w25.frozen? ⟨w.heap.size, 7, none⟩ = false := blk_frozen Bs_25.out
            have sz_25 : w.heap.size < w25.heap.size := blk_lt Bs_25.out
            have pz_25 : w6.heap.size < w25.heap.size := blk_lt Bp_25.out
            have qz_25 : wo.heap.size < w25.heap.size := blk_lt Bq_25.out
            have Sa1_25 : Hid (Sp w25 C4 e4 (X)) := hs25
            have Sa2_25 : Hid (Sp w25 C5 e5 (U)) := ht25
            have Sa3_25 : Hid (Sp w25 C6 e6 (V)) := hu25
            clear S1_24 S2_24 S3_24 Bs_24 s0_24 s1_24 s2_24 s3_24 s4_24 s5_24 s6_24 s7_24 sf0_24 sf1_24 sf2_24 sf3_24 sf4_24 sf5_24 sf6_24 sf7_24 sz_24 Bp_24 pz_24 Bq_24 qz_24 hs25 ht25 hu25 HB_24 hb25
            go_wp2_with fail
            refine (decide_any he C4 e4 X C5 e5 U C6 e6 V false false ag jo _ (by repeat (first | exact Sa1_25.out | refine Sp.alloc ?_ _ | refine Sp.drewN ?_ _ | refine Sp.drew ?_)) (by repeat (first | exact Sa2_25.out | refine Sp.alloc ?_ _ | refine Sp.drewN ?_ _ | refine Sp.drew ?_)) (by repeat (first | exact Sa3_25.out | refine Sp.alloc ?_ _ | refine Sp.drewN ?_ _ | refine Sp.drew ?_)) K1.out K2.out K3.out (by omega) (by omega) (by omega)).mono ?_
            rintro e26 w26 ⟨rfl, hb26⟩
            have HB_26 : Hid (Below w.heap.size w w26) := bel_chain hb26 (by repeat (first | exact HB_25.out | refine bel_drewN ?_ _ | refine bel_drew ?_ | refine bel_alloc ?_ _))
            have S1_26 : Hid (Sp w26 A1 c1 (R)) := Sp.below (by repeat (first | exact S1_25.out | refine Sp.alloc ?_ _ | refine Sp.drewN ?_ _ | refine Sp.drew ?_)) hb26
            have S2_26 : Hid (Sp w26 A2 c2 (H)) := Sp.below (by repeat (first | exact S2_25.out | refine Sp.alloc ?_ _ | refine Sp.drewN ?_ _ | refine Sp.drew ?_)) hb26
            have S3_26 : Hid (Sp w26 A3 c3 (F)) := Sp.below (by repeat (first | exact S3_25.out | refine Sp.alloc ?_ _ | refine Sp.drewN ?_ _ | refine Sp.drew ?_)) hb26
            have Sa1_26 : Hid (Sp w26 C4 e4 (X)) := Sp.below (by repeat (first | exact Sa1_25.out | refine Sp.alloc ?_ _ | refine Sp.drewN ?_ _ | refine Sp.drew ?_)) hb26
            have Sa2_26 : Hid (Sp w26 C5 e5 (U)) := Sp.below (by repeat (first | exact Sa2_25.out | refine Sp.alloc ?_ _ | refine Sp.drewN ?_ _ | refine Sp.drew ?_)) hb26
            have Sa3_26 : Hid (Sp w26 C6 e6 (V)) := Sp.below (by repeat (first | exact Sa3_25.out | refine Sp.alloc ?_ _ | refine Sp.drewN ?_ _ | refine Sp.drew ?_)) hb26
            have Bs_26 : Hid (w26.heap[w.heap.size]? = some (.cells #[.bool he, .slice A1 R.length c1, .slice A2 H.length c2, .slice A3 F.length c3, .bool false, .bool false, .int .i64 ag, .bool jo] 52 (0, 0))) := blk_keep hb26 (blk_keep (W := w25) (by (repeat (first | exact Below.refl _ _ | refine bel_drewN ?_ _ | refine bel_drew ?_ | refine bel_alloc ?_ _ | refine bel_set ?_ (by simp) _))) Bs_25.out)
            have Bp_26 : Hid (w26.heap[w6.heap.size]? = some (.cells #[.bool false, .bool true] 4 (0, 0))) := blk_keep hb26 (blk_keep (W := w25) (by (repeat (first | exact Below.refl _ _ | refine bel_drewN ?_ _ | refine bel_drew ?_ | refine bel_alloc ?_ _ | refine bel_set ?_ (by simp) _))) Bp_25.out)
            have Bq_26 : Hid (w26.heap[wo.heap.size]? = some (.cells #[.bool false, .bool true] 4 (0, 0))) := blk_keep hb26 (blk_keep (W := w25) (by (repeat (first | exact Below.refl _ _ | refine bel_drewN ?_ _ | refine bel_drew ?_ | refine bel_alloc ?_ _ | refine bel_set ?_ (by simp) _))) Bq_25.out)
            have s0_26 : w26.cell? ⟨w.heap.size, 0, none⟩ = some (.bool he) := blk_cell Bs_26.out rfl
            have sf0_26 : w26.frozen? ⟨w.heap.size, 0, none⟩ = false := blk_frozen Bs_26.out
            have s1_26 : w26.cell? ⟨w.heap.size, 1, none⟩ = some (.slice A1 R.length c1) := blk_cell Bs_26.out rfl
            have sf1_26 : w26.frozen? ⟨w.heap.size, 1, none⟩ = false := blk_frozen Bs_26.out
            have s2_26 : w26.cell? ⟨w.heap.size, 2, none⟩ = some (.slice A2 H.length c2) := blk_cell Bs_26.out rfl
            have sf2_26 : w26.frozen? ⟨w.heap.size, 2, none⟩ = false := blk_frozen Bs_26.out
            have s3_26 : w26.cell? ⟨w.heap.size, 3, none⟩ = some (.slice A3 F.length c3) := blk_cell Bs_26.out rfl
            have sf3_26 : w26.frozen? ⟨w.heap.size, 3, none⟩ = false := blk_frozen Bs_26.out
            have s4_26 : w26.cell? ⟨w.heap.size, 4, none⟩ = some (.bool false) := blk_cell Bs_26.out rfl
            have sf4_26 : w26.frozen? ⟨w.heap.size, 4, none⟩ = false := blk_frozen Bs_26.out
            have s5_26 : w26.cell? ⟨w.heap.size, 5, none⟩ = some (.bool false) := blk_cell Bs_26.out rfl
            have sf5_26 : w26.frozen? ⟨w.heap.size, 5, none⟩ = false := blk_frozen Bs_26.out
            have s6_26 : w26.cell? ⟨w.heap.size, 6, none⟩ = some (.int .i64 ag) := blk_cell Bs_26.out rfl
            have sf6_26 : w26.frozen? ⟨w.heap.size, 6, none⟩ = false := blk_frozen Bs_26.out
            have s7_26 : w26.cell? ⟨w.heap.size, 7, none⟩ = some (.bool jo) := blk_cell Bs_26.out rfl
            have sf7_26 : w26.frozen? ⟨w.heap.size, 7, none⟩ = false := blk_frozen Bs_26.out
            have sz_26 : w.heap.size < w26.heap.size := blk_lt Bs_26.out
            have pz_26 : w6.heap.size < w26.heap.size := blk_lt Bp_26.out
            have qz_26 : wo.heap.size < w26.heap.size := blk_lt Bq_26.out
            clear S1_25 S2_25 S3_25 Sa1_25 Sa2_25 Sa3_25 Bs_25 s0_25 s1_25 s2_25 s3_25 s4_25 s5_25 s6_25 s7_25 sf0_25 sf1_25 sf2_25 sf3_25 sf4_25 sf5_25 sf6_25 sf7_25 sz_25 Bp_25 pz_25 Bq_25 qz_25 HB_25 hb26
            clear Sa1_26
            clear Sa2_26
            clear Sa3_26
            go_wp2_with fail
            go_roundw
            case rel => first | exact ⟨1, false, false, by omega, by go_num, ⟨Bs_26.out, Bp_26.out, S1_26.out, S2_26.out, S3_26.out, HB_26.out⟩, Bq_26.out⟩ | ((repeat apply Exists.intro); exact ⟨⟨1, false, false, by omega, by go_num, ⟨Bs_26.out, Bp_26.out, S1_26.out, S2_26.out, S3_26.out, HB_26.out⟩, Bq_26.out⟩, rfl⟩)
            case measure => simp [intOf]
          · have s0_20 : w20.cell? ⟨w.heap.size, 0, none⟩ = some (.bool he) := blk_cell Bs_20.out rfl
            have sf0_20 : w20.frozen? ⟨w.heap.size, 0, none⟩ = false := blk_frozen Bs_20.out
            have s1_20 : w20.cell? ⟨w.heap.size, 1, none⟩ = some (.slice A1 R.length c1) := blk_cell Bs_20.out rfl
            have sf1_20 : w20.frozen? ⟨w.heap.size, 1, none⟩ = false := blk_frozen Bs_20.out
            have s2_20 : w20.cell? ⟨w.heap.size, 2, none⟩ = some (.slice A2 H.length c2) := blk_cell Bs_20.out rfl
            have sf2_20 : w20.frozen? ⟨w.heap.size, 2, none⟩ = false := blk_frozen Bs_20.out
            have s3_20 : w20.cell? ⟨w.heap.size, 3, none⟩ = some (.slice A3 F.length c3) := blk_cell Bs_20.out rfl
            have sf3_20 : w20.frozen? ⟨w.heap.size, 3, none⟩ = false := blk_frozen Bs_20.out
            have s4_20 : w20.cell? ⟨w.heap.size, 4, none⟩ = some (.bool t2) := blk_cell Bs_20.out rfl
            have sf4_20 : w20.frozen? ⟨w.heap.size, 4, none⟩ = false := blk_frozen Bs_20.out
            have s5_20 : w20.cell? ⟨w.heap.size, 5, none⟩ = some (.bool f2) := blk_cell Bs_20.out rfl
            have sf5_20 : w20.frozen? ⟨w.heap.size, 5, none⟩ = false := blk_frozen Bs_20.out
            have s6_20 : w20.cell? ⟨w.heap.size, 6, none⟩ = some (.int .i64 ag) := blk_cell Bs_20.out rfl
            have sf6_20 : w20.frozen? ⟨w.heap.size, 6, none⟩ = false := blk_frozen Bs_20.out
            have s7_20 : w20.cell? ⟨w.heap.size, 7, none⟩ = some (.bool jo) := blk_cell Bs_20.out rfl
            have sf7_20 : w20.frozen? ⟨w.heap.size, 7, none⟩ = false := blk_frozen Bs_20.out
            have sz_20 : w.heap.size < w20.heap.size := blk_lt Bs_20.out
            have pz_20 : w6.heap.size < w20.heap.size := blk_lt Bp_20.out
            have qz_20 : wo.heap.size < w20.heap.size := blk_lt Bq_20.out
            have tj : w20.cell? ⟨wo.heap.size, 1, none⟩ = some (.bool true) := blk_cell Bq_20.out rfl
            go_wp2_with fail
            obtain ⟨w21, hw21⟩ : ∃ w21, World.setCell w20 ⟨w.heap.size, 4, none⟩ (.bool false) = w21 := ⟨_, rfl⟩
            rw [hw21]
            have hg21 : w20.grownBy w21 (some (w.heap.size)) := by rw [← hw21]; exact grown_set (p := ⟨w.heap.size, 4, none⟩) (World.grownBy.refl _ _) _
            have HB_21 : Hid (Below w.heap.size w w21) := Below.grown HB_20.out hg21 HB_20.out.size (fun j hj => by injection hj with hj; omega)
            have S1_21 : Hid (Sp w21 A1 c1 (R)) := S1_20.out.grown' (fun h0 => S1_20.out.off_blk h0 Bs_20.out (noPair8 ..)) hg21
            have S2_21 : Hid (Sp w21 A2 c2 (H)) := S2_20.out.grown' (fun h0 => S2_20.out.off_blk h0 Bs_20.out (noPair8 ..)) hg21
            have S3_21 : Hid (Sp w21 A3 c3 (F)) := S3_20.out.grown' (fun h0 => S3_20.out.off_blk h0 Bs_20.out (noPair8 ..)) hg21
            have Bs_21 : Hid (w21.heap[w.heap.size]? = some (.cells #[.bool he, .slice A1 R.length c1, .slice A2 H.length c2, .slice A3 F.length c3, .bool false, .bool f2, .int .i64 ag, .bool jo] 52 (0, 0))) := by simp only [Hid]; rw [← hw21]; exact blk_set Bs_20.out
            have Bp_21 : Hid (w21.heap[w6.heap.size]? = some (.cells #[.bool false, .bool true] 4 (0, 0))) := (hg21.block _ (by omega) (by intro e; injection e with e; omega)).trans Bp_20.out
            have Bq_21 : Hid (w21.heap[wo.heap.size]? = some (.cells #[.bool false, .bool true] 4 (0, 0))) := (hg21.block _ (by omega) (by intro e; injection e with e; omega)).trans Bq_20.out
            have s0_21 : w21.cell? ⟨w.heap.size, 0, none⟩ = some (.bool he) := blk_cell Bs_21.out rfl
            have sf0_21 : w21.frozen? ⟨w.heap.size, 0, none⟩ = false := blk_frozen Bs_21.out
            have s1_21 : w21.cell? ⟨w.heap.size, 1, none⟩ = some (.slice A1 R.length c1) := blk_cell Bs_21.out rfl
            have sf1_21 : w21.frozen? ⟨w.heap.size, 1, none⟩ = false := blk_frozen Bs_21.out
            have s2_21 : w21.cell? ⟨w.heap.size, 2, none⟩ = some (.slice A2 H.length c2) := blk_cell Bs_21.out rfl
            have sf2_21 : w21.frozen? ⟨w.heap.size, 2, none⟩ = false := blk_frozen Bs_21.out
            have s3_21 : w21.cell? ⟨w.heap.size, 3, none⟩ = some (.slice A3 F.length c3) := blk_cell Bs_21.out rfl
            have sf3_21 : w21.frozen? ⟨w.heap.size, 3, none⟩ = false := blk_frozen Bs_21.out
            have s4_21 : w21.cell? ⟨w.heap.size, 4, none⟩ = some (.bool false) := blk_cell Bs_21.out rfl
            have sf4_21 : w21.frozen? ⟨w.heap.size, 4, none⟩ = false := blk_frozen Bs_21.out
            have s5_21 : w21.cell? ⟨w.heap.size, 5, none⟩ = some (.bool f2) := blk_cell Bs_21.out rfl
            have sf5_21 : w21.frozen? ⟨w.heap.size, 5, none⟩ = false := blk_frozen Bs_21.out
            have s6_21 : w21.cell? ⟨w.heap.size, 6, none⟩ = some (.int .i64 ag) := blk_cell Bs_21.out rfl
            have sf6_21 : w21.frozen? ⟨w.heap.size, 6, none⟩ = false := blk_frozen Bs_21.out
            have s7_21 : w21.cell? ⟨w.heap.size, 7, none⟩ = some (.bool jo) := blk_cell Bs_21.out rfl
            have sf7_21 : w21.frozen? ⟨w.heap.size, 7, none⟩ = false := blk_frozen Bs_21.out
            have sz_21 : w.heap.size < w21.heap.size := blk_lt Bs_21.out
            have pz_21 : w6.heap.size < w21.heap.size := blk_lt Bp_21.out
            have qz_21 : wo.heap.size < w21.heap.size := blk_lt Bq_21.out
            clear HB_20 hw21 hg21 S1_20 S2_20 S3_20 Bs_20 s0_20 s1_20 s2_20 s3_20 s4_20 s5_20 s6_20 s7_20 sf0_20 sf1_20 sf2_20 sf3_20 sf4_20 sf5_20 sf6_20 sf7_20 sz_20 Bp_20 pz_20 Bq_20 qz_20
            clear tj
            obtain ⟨w22, hw22⟩ : ∃ w22, World.setCell w21 ⟨w.heap.size, 5, none⟩ (.bool true) = w22 := ⟨_, rfl⟩
            rw [hw22]
            have hg22 : w21.grownBy w22 (some (w.heap.size)) := by rw [← hw22]; exact grown_set (p := ⟨w.heap.size, 5, none⟩) (World.grownBy.refl _ _) _
            have HB_22 : Hid (Below w.heap.size w w22) := Below.grown HB_21.out hg22 HB_21.out.size (fun j hj => by injection hj with hj; omega)
            have S1_22 : Hid (Sp w22 A1 c1 (R)) := S1_21.out.grown' (fun h0 => S1_21.out.off_blk h0 Bs_21.out (noPair8 ..)) hg22
            have S2_22 : Hid (Sp w22 A2 c2 (H)) := S2_21.out.grown' (fun h0 => S2_21.out.off_blk h0 Bs_21.out (noPair8 ..)) hg22
            have S3_22 : Hid (Sp w22 A3 c3 (F)) := S3_21.out.grown' (fun h0 => S3_21.out.off_blk h0 Bs_21.out (noPair8 ..)) hg22
            have Bs_22 : Hid (w22.heap[w.heap.size]? = some (.cells #[.bool he, .slice A1 R.length c1, .slice A2 H.length c2, .slice A3 F.length c3, .bool false, .bool true, .int .i64 ag, .bool jo] 52 (0, 0))) := by simp only [Hid]; rw [← hw22]; exact blk_set Bs_21.out
            have Bp_22 : Hid (w22.heap[w6.heap.size]? = some (.cells #[.bool false, .bool true] 4 (0, 0))) := (hg22.block _ (by omega) (by intro e; injection e with e; omega)).trans Bp_21.out
            have Bq_22 : Hid (w22.heap[wo.heap.size]? = some (.cells #[.bool false, .bool true] 4 (0, 0))) := (hg22.block _ (by omega) (by intro e; injection e with e; omega)).trans Bq_21.out
            have s0_22 : w22.cell? ⟨w.heap.size, 0, none⟩ = some (.bool he) := blk_cell Bs_22.out rfl
            have sf0_22 : w22.frozen? ⟨w.heap.size, 0, none⟩ = false := blk_frozen Bs_22.out
            have s1_22 : w22.cell? ⟨w.heap.size, 1, none⟩ = some (.slice A1 R.length c1) := blk_cell Bs_22.out rfl
            have sf1_22 : w22.frozen? ⟨w.heap.size, 1, none⟩ = false := blk_frozen Bs_22.out
            have s2_22 : w22.cell? ⟨w.heap.size, 2, none⟩ = some (.slice A2 H.length c2) := blk_cell Bs_22.out rfl
            have sf2_22 : w22.frozen? ⟨w.heap.size, 2, none⟩ = false := blk_frozen Bs_22.out
            have s3_22 : w22.cell? ⟨w.heap.size, 3, none⟩ = some (.slice A3 F.length c3) := blk_cell Bs_22.out rfl
            have sf3_22 : w22.frozen? ⟨w.heap.size, 3, none⟩ = false := blk_frozen Bs_22.out
            have s4_22 : w22.cell? ⟨w.heap.size, 4, none⟩ = some (.bool false) := blk_cell Bs_22.out rfl
            have sf4_22 : w22.frozen? ⟨w.heap.size, 4, none⟩ = false := blk_frozen Bs_22.out
            have s5_22 : w22.cell? ⟨w.heap.size, 5, none⟩ = some (.bool true) := blk_cell Bs_22.out rfl
            have sf5_22 : w22.frozen? ⟨w.heap.size, 5, none⟩ = false := blk_frozen Bs_22.out
            have s6_22 : w22.cell? ⟨w.heap.size, 6, none⟩ = some (.int .i64 ag) := blk_cell Bs_22.out rfl
            have sf6_22 : w22.frozen? ⟨w.heap.size, 6, none⟩ = false := blk_frozen Bs_22.out
            have s7_22 : w22.cell? ⟨w.heap.size, 7, none⟩ = some (.bool jo) := blk_cell Bs_22.out rfl
            have sf7_22 : w22.frozen? ⟨w.heap.size, 7, none⟩ = false := blk_frozen Bs_22.out
            have sz_22 : w.heap.size < w22.heap.size := blk_lt Bs_22.out
            have pz_22 : w6.heap.size < w22.heap.size := blk_lt Bp_22.out
            have qz_22 : wo.heap.size < w22.heap.size := blk_lt Bq_22.out
            clear HB_21 hw22 hg22 S1_21 S2_21 S3_21 Bs_21 s0_21 s1_21 s2_21 s3_21 s4_21 s5_21 s6_21 s7_21 sf0_21 sf1_21 sf2_21 sf3_21 sf4_21 sf5_21 sf6_21 sf7_21 sz_21 Bp_21 pz_21 Bq_21 qz_21
            refine (own_as he A1 c1 R A2 c2 H A3 c3 F false true ag jo X U V HX.out HU.out HV.out _ (by repeat (first | exact S1_22.out | refine Sp.alloc ?_ _ | refine Sp.drewN ?_ _ | refine Sp.drew ?_)) (by repeat (first | exact S2_22.out | refine Sp.alloc ?_ _ | refine Sp.drewN ?_ _ | refine Sp.drew ?_)) (by repeat (first | exact S3_22.out | refine Sp.alloc ?_ _ | refine Sp.drewN ?_ _ | refine Sp.drew ?_)) (by omega) (by omega) (by omega)).mono ?_
            rintro e23 w23 ⟨B4, d4, B5, d5, B6, d6, rfl, hs23, ht23, hu23, hb23⟩
            have HB_23 : Hid (Below w.heap.size w w23) := bel_chain hb23 (by repeat (first | exact HB_22.out | refine bel_drewN ?_ _ | refine bel_drew ?_ | refine bel_alloc ?_ _))
            have S1_23 : Hid (Sp w23 A1 c1 (R)) := Sp.below (by repeat (first | exact S1_22.out | refine Sp.alloc ?_ _ | refine Sp.drewN ?_ _ | refine Sp.drew ?_)) hb23
            have S2_23 : Hid (Sp w23 A2 c2 (H)) := Sp.below (by repeat (first | exact S2_22.out | refine Sp.alloc ?_ _ | refine Sp.drewN ?_ _ | refine Sp.drew ?_)) hb23
            have S3_23 : Hid (Sp w23 A3 c3 (F)) := Sp.below (by repeat (first | exact S3_22.out | refine Sp.alloc ?_ _ | refine Sp.drewN ?_ _ | refine Sp.drew ?_)) hb23
            have Bs_23 : Hid (w23.heap[w.heap.size]? = some (.cells #[.bool he, .slice A1 R.length c1, .slice A2 H.length c2, .slice A3 F.length c3, .bool false, .bool true, .int .i64 ag, .bool jo] 52 (0, 0))) := blk_keep hb23 (blk_keep (W := w22) (by (repeat (first | exact Below.refl _ _ | refine bel_drewN ?_ _ | refine bel_drew ?_ | refine bel_alloc ?_ _ | refine bel_set ?_ (by simp) _))) Bs_22.out)
            have Bp_23 : Hid (w23.heap[w6.heap.size]? = some (.cells #[.bool false, .bool true] 4 (0, 0))) := blk_keep hb23 (blk_keep (W := w22) (by (repeat (first | exact Below.refl _ _ | refine bel_drewN ?_ _ | refine bel_drew ?_ | refine bel_alloc ?_ _ | refine bel_set ?_ (by simp) _))) Bp_22.out)
            have Bq_23 : Hid (w23.heap[wo.heap.size]? = some (.cells #[.bool false, .bool true] 4 (0, 0))) := blk_keep hb23 (blk_keep (W := w22) (by (repeat (first | exact Below.refl _ _ | refine bel_drewN ?_ _ | refine bel_drew ?_ | refine bel_alloc ?_ _ | refine bel_set ?_ (by simp) _))) Bq_22.out)
            have s0_23 : w23.cell? ⟨w.heap.size, 0, none⟩ = some (.bool he) := blk_cell Bs_23.out rfl
            have sf0_23 : w23.frozen? ⟨w.heap.size, 0, none⟩ = false := blk_frozen Bs_23.out
            have s1_23 : w23.cell? ⟨w.heap.size, 1, none⟩ = some (.slice A1 R.length c1) := blk_cell Bs_23.out rfl
            have sf1_23 : w23.frozen? ⟨w.heap.size, 1, none⟩ = false := blk_frozen Bs_23.out
            have s2_23 : w23.cell? ⟨w.heap.size, 2, none⟩ = some (.slice A2 H.length c2) := blk_cell Bs_23.out rfl
            have sf2_23 : w23.frozen? ⟨w.heap.size, 2, none⟩ = false := blk_frozen Bs_23.out
            have s3_23 : w23.cell? ⟨w.heap.size, 3, none⟩ = some (.slice A3 F.length c3) := blk_cell Bs_23.out rfl
            have sf3_23 : w23.frozen? ⟨w.heap.size, 3, none⟩ = false := blk_frozen Bs_23.out
            have s4_23 : w23.cell? ⟨w.heap.size, 4, none⟩ = some (.bool false) := blk_cell Bs_23.out rfl
            have sf4_23 : w23.frozen? ⟨w.heap.size, 4, none⟩ = false := blk_frozen Bs_23.out
            have s5_23 : w23.cell? ⟨w.heap.size, 5, none⟩ = some (.bool true) := blk_cell Bs_23.out rfl
            have sf5_23 : w23.frozen? ⟨w.heap.size, 5, none⟩ = false := blk_frozen Bs_23.out
            have s6_23 : w23.cell? ⟨w.heap.size, 6, none⟩ = some (.int .i64 ag) := blk_cell Bs_23.out rfl
            have sf6_23 : w23.frozen? ⟨w.heap.size, 6, none⟩ = false := blk_frozen Bs_23.out
            have s7_23 : w23.cell? ⟨w.heap.size, 7, none⟩ = some (.bool jo) := blk_cell Bs_23.out rfl
            have sf7_23 : w23.frozen? ⟨w.heap.size, 7, none⟩ = false := blk_frozen Bs_23.out
            have sz_23 : w.heap.size < w23.heap.size := blk_lt Bs_23.out
            have pz_23 : w6.heap.size < w23.heap.size := blk_lt Bp_23.out
            have qz_23 : wo.heap.size < w23.heap.size := blk_lt Bq_23.out
            have Sa1_23 : Hid (Sp w23 B4 d4 (X)) := hs23
            have Sa2_23 : Hid (Sp w23 B5 d5 (U)) := ht23
            have Sa3_23 : Hid (Sp w23 B6 d6 (V)) := hu23
            clear S1_22 S2_22 S3_22 Bs_22 s0_22 s1_22 s2_22 s3_22 s4_22 s5_22 s6_22 s7_22 sf0_22 sf1_22 sf2_22 sf3_22 sf4_22 sf5_22 sf6_22 sf7_22 sz_22 Bp_22 pz_22 Bq_22 qz_22 hs23 ht23 hu23 HB_22 hb23
            go_wp2_with fail
            refine (sure_as he B4 d4 X B5 d5 U B6 d6 V false true ag jo false HBW.out _ (by repeat (first | exact Sa1_23.out | refine Sp.alloc ?_ _ | refine Sp.drewN ?_ _ | refine Sp.drew ?_)) (by repeat (first | exact Sa2_23.out | refine Sp.alloc ?_ _ | refine Sp.drewN ?_ _ | refine Sp.drew ?_)) (by repeat (first | exact Sa3_23.out | refine Sp.alloc ?_ _ | refine Sp.drewN ?_ _ | refine Sp.drew ?_)) K1.out K2.out K3.out (by omega) (by omega) (by omega)).mono ?_
            rintro e24 w24 ⟨rfl, hb24⟩
            have HB_24 : Hid (Below w.heap.size w w24) := bel_chain hb24 (by repeat (first | exact HB_23.out | refine bel_drewN ?_ _ | refine bel_drew ?_ | refine bel_alloc ?_ _))
            have S1_24 : Hid (Sp w24 A1 c1 (R)) := Sp.below (by repeat (first | exact S1_23.out | refine Sp.alloc ?_ _ | refine Sp.drewN ?_ _ | refine Sp.drew ?_)) hb24
            have S2_24 : Hid (Sp w24 A2 c2 (H)) := Sp.below (by repeat (first | exact S2_23.out | refine Sp.alloc ?_ _ | refine Sp.drewN ?_ _ | refine Sp.drew ?_)) hb24
            have S3_24 : Hid (Sp w24 A3 c3 (F)) := Sp.below (by repeat (first | exact S3_23.out | refine Sp.alloc ?_ _ | refine Sp.drewN ?_ _ | refine Sp.drew ?_)) hb24
            have Sa1_24 : Hid (Sp w24 B4 d4 (X)) := Sp.below (by repeat (first | exact Sa1_23.out | refine Sp.alloc ?_ _ | refine Sp.drewN ?_ _ | refine Sp.drew ?_)) hb24
            have Sa2_24 : Hid (Sp w24 B5 d5 (U)) := Sp.below (by repeat (first | exact Sa2_23.out | refine Sp.alloc ?_ _ | refine Sp.drewN ?_ _ | refine Sp.drew ?_)) hb24
            have Sa3_24 : Hid (Sp w24 B6 d6 (V)) := Sp.below (by repeat (first | exact Sa3_23.out | refine Sp.alloc ?_ _ | refine Sp.drewN ?_ _ | refine Sp.drew ?_)) hb24
            have Bs_24 : Hid (w24.heap[w.heap.size]? = some (.cells #[.bool he, .slice A1 R.length c1, .slice A2 H.length c2, .slice A3 F.length c3, .bool false, .bool true, .int .i64 ag, .bool jo] 52 (0, 0))) := blk_keep hb24 (blk_keep (W := w23) (by (repeat (first | exact Below.refl _ _ | refine bel_drewN ?_ _ | refine bel_drew ?_ | refine bel_alloc ?_ _ | refine bel_set ?_ (by simp) _))) Bs_23.out)
            have Bp_24 : Hid (w24.heap[w6.heap.size]? = some (.cells #[.bool false, .bool true] 4 (0, 0))) := blk_keep hb24 (blk_keep (W := w23) (by (repeat (first | exact Below.refl _ _ | refine bel_drewN ?_ _ | refine bel_drew ?_ | refine bel_alloc ?_ _ | refine bel_set ?_ (by simp) _))) Bp_23.out)
            have Bq_24 : Hid (w24.heap[wo.heap.size]? = some (.cells #[.bool false, .bool true] 4 (0, 0))) := blk_keep hb24 (blk_keep (W := w23) (by (repeat (first | exact Below.refl _ _ | refine bel_drewN ?_ _ | refine bel_drew ?_ | refine bel_alloc ?_ _ | refine bel_set ?_ (by simp) _))) Bq_23.out)
            have s0_24 : w24.cell? ⟨w.heap.size, 0, none⟩ = some (.bool he) := blk_cell Bs_24.out rfl
            have sf0_24 : w24.frozen? ⟨w.heap.size, 0, none⟩ = false := blk_frozen Bs_24.out
            have s1_24 : w24.cell? ⟨w.heap.size, 1, none⟩ = some (.slice A1 R.length c1) := blk_cell Bs_24.out rfl
            have sf1_24 : w24.frozen? ⟨w.heap.size, 1, none⟩ = false := blk_frozen Bs_24.out
            have s2_24 : w24.cell? ⟨w.heap.size, 2, none⟩ = some (.slice A2 H.length c2) := blk_cell Bs_24.out rfl
            have sf2_24 : w24.frozen? ⟨w.heap.size, 2, none⟩ = false := blk_frozen Bs_24.out
            have s3_24 : w24.cell? ⟨w.heap.size, 3, none⟩ = some (.slice A3 F.length c3) := blk_cell Bs_24.out rfl
            have sf3_24 : w24.frozen? ⟨w.heap.size, 3, none⟩ = false := blk_frozen Bs_24.out
            have s4_24 : w24.cell? ⟨w.heap.size, 4, none⟩ = some (.bool false) := blk_cell Bs_24.out rfl
            have sf4_24 : w24.frozen? ⟨w.heap.size, 4, none⟩ = false := blk_frozen Bs_24.out
            have s5_24 : w24.cell? ⟨w.heap.size, 5, none⟩ = some (.bool true) := blk_cell Bs_24.out rfl
            have sf5_24 : w24.frozen? ⟨w.heap.size, 5, none⟩ = false := blk_frozen Bs_24.out
            have s6_24 : w24.cell? ⟨w.heap.size, 6, none⟩ = some (.int .i64 ag) := blk_cell Bs_24.out rfl
            have sf6_24 : w24.frozen? ⟨w.heap.size, 6, none⟩ = false := blk_frozen Bs_24.out
            have s7_24 : w24.cell? ⟨w.heap.size, 7, none⟩ = some (.bool jo) := blk_cell Bs_24.out rfl
            have sf7_24 : w24.frozen? ⟨w.heap.size, 7, none⟩ = false := blk_frozen Bs_24.out
            have sz_24 : w.heap.size < w24.heap.size := blk_lt Bs_24.out
            have pz_24 : w6.heap.size < w24.heap.size := blk_lt Bp_24.out
            have qz_24 : wo.heap.size < w24.heap.size := blk_lt Bq_24.out
            clear S1_23 S2_23 S3_23 Sa1_23 Sa2_23 Sa3_23 Bs_23 s0_23 s1_23 s2_23 s3_23 s4_23 s5_23 s6_23 s7_23 sf0_23 sf1_23 sf2_23 sf3_23 sf4_23 sf5_23 sf6_23 sf7_23 sz_23 Bp_23 pz_23 Bq_23 qz_23 HB_23 hb24
            clear Sa1_24
            clear Sa2_24
            clear Sa3_24
            go_wp2_with fail
            refine (own_as he A1 c1 R A2 c2 H A3 c3 F false true ag jo X U V HX.out HU.out HV.out _ (by repeat (first | exact S1_24.out | refine Sp.alloc ?_ _ | refine Sp.drewN ?_ _ | refine Sp.drew ?_)) (by repeat (first | exact S2_24.out | refine Sp.alloc ?_ _ | refine Sp.drewN ?_ _ | refine Sp.drew ?_)) (by repeat (first | exact S3_24.out | refine Sp.alloc ?_ _ | refine Sp.drewN ?_ _ | refine Sp.drew ?_)) (by omega) (by omega) (by omega)).mono ?_
            rintro e25 w25 ⟨C4, e4, C5, e5, C6, e6, rfl, hs25, ht25, hu25, hb25⟩
            have HB_25 : Hid (Below w.heap.size w w25) := bel_chain hb25 (by repeat (first | exact HB_24.out | refine bel_drewN ?_ _ | refine bel_drew ?_ | refine bel_alloc ?_ _))
            have S1_25 : Hid (Sp w25 A1 c1 (R)) := Sp.below (by repeat (first | exact S1_24.out | refine Sp.alloc ?_ _ | refine Sp.drewN ?_ _ | refine Sp.drew ?_)) hb25
            have S2_25 : Hid (Sp w25 A2 c2 (H)) := Sp.below (by repeat (first | exact S2_24.out | refine Sp.alloc ?_ _ | refine Sp.drewN ?_ _ | refine Sp.drew ?_)) hb25
            have S3_25 : Hid (Sp w25 A3 c3 (F)) := Sp.below (by repeat (first | exact S3_24.out | refine Sp.alloc ?_ _ | refine Sp.drewN ?_ _ | refine Sp.drew ?_)) hb25
            have Bs_25 : Hid (w25.heap[w.heap.size]? = some (.cells #[.bool he, .slice A1 R.length c1, .slice A2 H.length c2, .slice A3 F.length c3, .bool false, .bool true, .int .i64 ag, .bool jo] 52 (0, 0))) := blk_keep hb25 (blk_keep (W := w24) (by (repeat (first | exact Below.refl _ _ | refine bel_drewN ?_ _ | refine bel_drew ?_ | refine bel_alloc ?_ _ | refine bel_set ?_ (by simp) _))) Bs_24.out)
            have Bp_25 : Hid (w25.heap[w6.heap.size]? = some (.cells #[.bool false, .bool true] 4 (0, 0))) := blk_keep hb25 (blk_keep (W := w24) (by (repeat (first | exact Below.refl _ _ | refine bel_drewN ?_ _ | refine bel_drew ?_ | refine bel_alloc ?_ _ | refine bel_set ?_ (by simp) _))) Bp_24.out)
            have Bq_25 : Hid (w25.heap[wo.heap.size]? = some (.cells #[.bool false, .bool true] 4 (0, 0))) := blk_keep hb25 (blk_keep (W := w24) (by (repeat (first | exact Below.refl _ _ | refine bel_drewN ?_ _ | refine bel_drew ?_ | refine bel_alloc ?_ _ | refine bel_set ?_ (by simp) _))) Bq_24.out)
            have s0_25 : w25.cell? ⟨w.heap.size, 0, none⟩ = some (.bool he) := blk_cell Bs_25.out rfl
            have sf0_25 : w25.frozen? ⟨w.heap.size, 0, none⟩ = false := blk_frozen Bs_25.out
            have s1_25 : w25.cell? ⟨w.heap.size, 1, none⟩ = some (.slice A1 R.length c1) := blk_cell Bs_25.out rfl
            have sf1_25 : w25.frozen? ⟨w.heap.size, 1, none⟩ = false := blk_frozen Bs_25.out
            have s2_25 : w25.cell? ⟨w.heap.size, 2, none⟩ = some (.slice A2 H.length c2) := blk_cell Bs_25.out rfl
            have sf2_25 : w25.frozen? ⟨w.heap.size, 2, none⟩ = false := blk_frozen Bs_25.out
            have s3_25 : w25.cell? ⟨w.heap.size, 3, none⟩ = some (.slice A3 F.length c3) := blk_cell Bs_25.out rfl
            have sf3_25 : w25.frozen? ⟨w.heap.size, 3, none⟩ = false := blk_frozen Bs_25.out
            have s4_25 : w25.cell? ⟨w.heap.size, 4, none⟩ = some (.bool false) := blk_cell Bs_25.out rfl
            have sf4_25 : w25.frozen? ⟨w.heap.size, 4, none⟩ = false := blk_frozen Bs_25.out
            have s5_25 : w25.cell? ⟨w.heap.size, 5, none⟩ = some (.bool true) := blk_cell Bs_25.out rfl
            have sf5_25 : w25.frozen? ⟨w.heap.size, 5, none⟩ = false := blk_frozen Bs_25.out
            have s6_25 : w25.cell? ⟨w.heap.size, 6, none⟩ = some (.int .i64 ag) := blk_cell Bs_25.out rfl
            have sf6_25 : w25.frozen? ⟨w.heap.size, 6, none⟩ = false := blk_frozen Bs_25.out
            have s7_25 : w25.cell? ⟨w.heap.size, 7, none⟩ = some (.bool jo) := blk_cell Bs_25.out rfl
            have sf7_25 : w25.frozen? ⟨w.heap.size, 7, none⟩ = false := blk_frozen Bs_25.out
            have sz_25 : w.heap.size < w25.heap.size := blk_lt Bs_25.out
            have pz_25 : w6.heap.size < w25.heap.size := blk_lt Bp_25.out
            have qz_25 : wo.heap.size < w25.heap.size := blk_lt Bq_25.out
            have Sa1_25 : Hid (Sp w25 C4 e4 (X)) := hs25
            have Sa2_25 : Hid (Sp w25 C5 e5 (U)) := ht25
            have Sa3_25 : Hid (Sp w25 C6 e6 (V)) := hu25
            clear S1_24 S2_24 S3_24 Bs_24 s0_24 s1_24 s2_24 s3_24 s4_24 s5_24 s6_24 s7_24 sf0_24 sf1_24 sf2_24 sf3_24 sf4_24 sf5_24 sf6_24 sf7_24 sz_24 Bp_24 pz_24 Bq_24 qz_24 hs25 ht25 hu25 HB_24 hb25
            go_wp2_with fail
            refine (decide_any he C4 e4 X C5 e5 U C6 e6 V false true ag jo _ (by repeat (first | exact Sa1_25.out | refine Sp.alloc ?_ _ | refine Sp.drewN ?_ _ | refine Sp.drew ?_)) (by repeat (first | exact Sa2_25.out | refine Sp.alloc ?_ _ | refine Sp.drewN ?_ _ | refine Sp.drew ?_)) (by repeat (first | exact Sa3_25.out | refine Sp.alloc ?_ _ | refine Sp.drewN ?_ _ | refine Sp.drew ?_)) K1.out K2.out K3.out (by omega) (by omega) (by omega)).mono ?_
            rintro e26 w26 ⟨rfl, hb26⟩
            have HB_26 : Hid (Below w.heap.size w w26) := bel_chain hb26 (by repeat (first | exact HB_25.out | refine bel_drewN ?_ _ | refine bel_drew ?_ | refine bel_alloc ?_ _))
            have S1_26 : Hid (Sp w26 A1 c1 (R)) := Sp.below (by repeat (first | exact S1_25.out | refine Sp.alloc ?_ _ | refine Sp.drewN ?_ _ | refine Sp.drew ?_)) hb26
            have S2_26 : Hid (Sp w26 A2 c2 (H)) := Sp.below (by repeat (first | exact S2_25.out | refine Sp.alloc ?_ _ | refine Sp.drewN ?_ _ | refine Sp.drew ?_)) hb26
            have S3_26 : Hid (Sp w26 A3 c3 (F)) := Sp.below (by repeat (first | exact S3_25.out | refine Sp.alloc ?_ _ | refine Sp.drewN ?_ _ | refine Sp.drew ?_)) hb26
            have Sa1_26 : Hid (Sp w26 C4 e4 (X)) := Sp.below (by repeat (first | exact Sa1_25.out | refine Sp.alloc ?_ _ | refine Sp.drewN ?_ _ | refine Sp.drew ?_)) hb26
            have Sa2_26 : Hid (Sp w26 C5 e5 (U)) := Sp.below (by repeat (first | exact Sa2_25.out | refine Sp.alloc ?_ _ | refine Sp.drewN ?_ _ | refine Sp.drew ?_)) hb26
            have Sa3_26 : Hid (Sp w26 C6 e6 (V)) := Sp.below (by repeat (first | exact Sa3_25.out | refine Sp.alloc ?_ _ | refine Sp.drewN ?_ _ | refine Sp.drew ?_)) hb26
            have Bs_26 : Hid (w26.heap[w.heap.size]? = some (.cells #[.bool he, .slice A1 R.length c1, .slice A2 H.length c2, .slice A3 F.length c3, .bool false, .bool true, .int .i64 ag, .bool jo] 52 (0, 0))) := blk_keep hb26 (blk_keep (W := w25) (by (repeat (first | exact Below.refl _ _ | refine bel_drewN ?_ _ | refine bel_drew ?_ | refine bel_alloc ?_ _ | refine bel_set ?_ (by simp) _))) Bs_25.out)
            have Bp_26 : Hid (w26.heap[w6.heap.size]? = some (.cells #[.bool false, .bool true] 4 (0, 0))) := blk_keep hb26 (blk_keep (W := w25) (by (repeat (first | exact Below.refl _ _ | refine bel_drewN ?_ _ | refine bel_drew ?_ | refine bel_alloc ?_ _ | refine bel_set ?_ (by simp) _))) Bp_25.out)
            have Bq_26 : Hid (w26.heap[wo.heap.size]? = some (.cells #[.bool false, .bool true] 4 (0, 0))) := blk_keep hb26 (blk_keep (W := w25) (by (repeat (first | exact Below.refl _ _ | refine bel_drewN ?_ _ | refine bel_drew ?_ | refine bel_alloc ?_ _ | refine bel_set ?_ (by simp) _))) Bq_25.out)
            have s0_26 : w26.cell? ⟨w.heap.size, 0, none⟩ = some (.bool he) := blk_cell Bs_26.out rfl
            have sf0_26 : w26.frozen? ⟨w.heap.size, 0, none⟩ = false := blk_frozen Bs_26.out
            have s1_26 : w26.cell? ⟨w.heap.size, 1, none⟩ = some (.slice A1 R.length c1) := blk_cell Bs_26.out rfl
            have sf1_26 : w26.frozen? ⟨w.heap.size, 1, none⟩ = false := blk_frozen Bs_26.out
            have s2_26 : w26.cell? ⟨w.heap.size, 2, none⟩ = some (.slice A2 H.length c2) := blk_cell Bs_26.out rfl
            have sf2_26 : w26.frozen? ⟨w.heap.size, 2, none⟩ = false := blk_frozen Bs_26.out
            have s3_26 : w26.cell? ⟨w.heap.size, 3, none⟩ = some (.slice A3 F.length c3) := blk_cell Bs_26.out rfl
            have sf3_26 : w26.frozen? ⟨w.heap.size, 3, none⟩ = false := blk_frozen Bs_26.out
            have s4_26 : w26.cell? ⟨w.heap.size, 4, none⟩ = some (.bool false) := blk_cell Bs_26.out rfl
            have sf4_26 : w26.frozen? ⟨w.heap.size, 4, none⟩ = false := blk_frozen Bs_26.out
            have s5_26 : w26.cell? ⟨w.heap.size, 5, none⟩ = some (.bool true) := blk_cell Bs_26.out rfl
            have sf5_26 : w26.frozen? ⟨w.heap.size, 5, none⟩ = false := blk_frozen Bs_26.out
            have s6_26 : w26.cell? ⟨w.heap.size, 6, none⟩ = some (.int .i64 ag) := blk_cell Bs_26.out rfl
            have sf6_26 : w26.frozen? ⟨w.heap.size, 6, none⟩ = false := blk_frozen Bs_26.out
            have s7_26 : w26.cell? ⟨w.heap.size, 7, none⟩ = some (.bool jo) := blk_cell Bs_26.out rfl
            have sf7_26 : w26.frozen? ⟨w.heap.size, 7, none⟩ = false := blk_frozen Bs_26.out
            have sz_26 : w.heap.size < w26.heap.size := blk_lt Bs_26.out
            have pz_26 : w6.heap.size < w26.heap.size := blk_lt Bp_26.out
            have qz_26 : wo.heap.size < w26.heap.size := blk_lt Bq_26.out
            clear S1_25 S2_25 S3_25 Sa1_25 Sa2_25 Sa3_25 Bs_25 s0_25 s1_25 s2_25 s3_25 s4_25 s5_25 s6_25 s7_25 sf0_25 sf1_25 sf2_25 sf3_25 sf4_25 sf5_25 sf6_25 sf7_25 sz_25 Bp_25 pz_25 Bq_25 qz_25 HB_25 hb26
            clear Sa1_26
            clear Sa2_26
            clear Sa3_26
            go_wp2_with fail
            go_roundw
            case rel => first | exact ⟨2, false, true, by omega, by go_num, ⟨Bs_26.out, Bp_26.out, S1_26.out, S2_26.out, S3_26.out, HB_26.out⟩, Bq_26.out⟩ | ((repeat apply Exists.intro); exact ⟨⟨2, false, true, by omega, by go_num, ⟨Bs_26.out, Bp_26.out, S1_26.out, S2_26.out, S3_26.out, HB_26.out⟩, Bq_26.out⟩, rfl⟩)
            case measure => simp [intOf]
          · go_wp2_with fail
            go_roundw
            case rel => exact ⟨1, t2, f2, by omega, by go_num, ⟨Bs_20.out, Bp_20.out, S1_20.out, S2_20.out, S3_20.out, HB_20.out⟩⟩
            case measure => simp [intOf]
      · have ti : wo.cell? ⟨w6.heap.size, 1, none⟩ = some (.bool true) := blk_cell HSA.out.bs rfl
        go_wp2_with fail
        go_loopw [7, 8, 32] (fun _ _ sj wr => ∃ (j : Nat) (t1 f1 : Bool), j ≤ 2 ∧ sj = .int .i64 j ∧ SureAt w wr (w6.heap.size) he A1 c1 R A2 c2 H A3 c3 F t1 f1 ag jo ∧ wr.heap[wo.heap.size]? = some (.cells #[.bool false, .bool true] 4 (0, 0))) (fun _ _ sj _ => 2 - (intOf sj).toNat)
        case atStart => exact ⟨0, t1, f1, by omega, rfl, ⟨blk_skip HSA.out.st, blk_skip HSA.out.bs, HSA.out.s1.alloc _, HSA.out.s2.alloc _, HSA.out.s3.alloc _, bel_alloc HSA.out.bel _⟩, blk_new rfl⟩
        case round =>
          clear ti
          obtain ⟨j, t2, f2, hj, rfl, hsb, hbb⟩ := hrel
          obtain ⟨w20, rfl⟩ : ∃ w20 : World, w20 = wr := ⟨_, rfl⟩
          have HB_20 := Lib.hid hsb.bel
          have S1_20 := Lib.hid hsb.s1
          have S2_20 := Lib.hid hsb.s2
          have S3_20 := Lib.hid hsb.s3
          have Bs_20 := Lib.hid hsb.st
          have Bp_20 := Lib.hid hsb.bs
          have Bq_20 := Lib.hid hbb
          clear hsb hbb
          rcases (show j = 0 ∨ j = 1 ∨ j = 2 by omega) with rfl | rfl | rfl
          · have s0_20 : w20.cell? ⟨w.heap.size, 0, none⟩ = some (.bool he) := blk_cell Bs_20.out rfl
            have sf0_20 : w20.frozen? ⟨w.heap.size, 0, none⟩ = false := blk_frozen Bs_20.out
            have s1_20 : w20.cell? ⟨w.heap.size, 1, none⟩ = some (.slice A1 R.length c1) := blk_cell Bs_20.out rfl
            have sf1_20 : w20.frozen? ⟨w.heap.size, 1, none⟩ = false := blk_frozen Bs_20.out
            have s2_20 : w20.cell? ⟨w.heap.size, 2, none⟩ = some (.slice A2 H.length c2) := blk_cell Bs_20.out rfl
            have sf2_20 : w20.frozen? ⟨w.heap.size, 2, none⟩ = false := blk_frozen Bs_20.out
            have s3_20 : w20.cell? ⟨w.heap.size, 3, none⟩ = some (.slice A3 F.length c3) := blk_cell Bs_20.out rfl
            have sf3_20 : w20.frozen? ⟨w.heap.size, 3, none⟩ = false := blk_frozen Bs_20.out
            have s4_20 : w20.cell? ⟨w.heap.size, 4, none⟩ = some (.bool t2) := blk_cell Bs_20.out rfl
            have sf4_20 : w20.frozen? ⟨w.heap.size, 4, none⟩ = false := blk_frozen Bs_20.out
            have s5_20 : w20.cell? ⟨w.heap.size, 5, none⟩ = some (.bool f2) := blk_cell Bs_20.out rfl
            have sf5_20 : w20.frozen? ⟨w.heap.size, 5, none⟩ = false := blk_frozen Bs_20.out
            have s6_20 : w20.cell? ⟨w.heap.size, 6, none⟩ = some (.int .i64 ag) := blk_cell Bs_20.out rfl
            have sf6_20 : w20.frozen? ⟨w.heap.size, 6, none⟩ = false := blk_frozen Bs_20.out
            have s7_20 : w20.cell? ⟨w.heap.size, 7, none⟩ = some (.bool jo) := blk_cell Bs_20.out rfl
            have sf7_20 : w20.frozen? ⟨w.heap.size, 7, none⟩ = false := blk_frozen Bs_20.out
            have sz_20 : w.heap.size < w20.heap.size := blk_lt Bs_20.out
            have pz_20 : w6.heap.size < w20.heap.size := blk_lt Bp_20.out
            have qz_20 : wo.heap.size < w20.heap.size := blk_lt Bq_20.out
            have tj : w20.cell? ⟨wo.heap.size, 0, none⟩ = some (.bool false) := blk_cell Bq_20.out rfl
            go_wp2_with fail
            obtain ⟨w21, hw21⟩ : ∃ w21, World.setCell w20 ⟨w.heap.size, 4, none⟩ (.bool true) = w21 := ⟨_, rfl⟩
            rw [hw21]
            have hg21 : w20.grownBy w21 (some (w.heap.size)) := by rw [← hw21]; exact grown_set (p := ⟨w.heap.size, 4, none⟩) (World.grownBy.refl _ _) _
            have HB_21 : Hid (Below w.heap.size w w21) := Below.grown HB_20.out hg21 HB_20.out.size (fun j hj => by injection hj with hj; omega)
            have S1_21 : Hid (Sp w21 A1 c1 (R)) := S1_20.out.grown' (fun h0 => S1_20.out.off_blk h0 Bs_20.out (noPair8 ..)) hg21
            have S2_21 : Hid (Sp w21 A2 c2 (H)) := S2_20.out.grown' (fun h0 => S2_20.out.off_blk h0 Bs_20.out (noPair8 ..)) hg21
            have S3_21 : Hid (Sp w21 A3 c3 (F)) := S3_20.out.grown' (fun h0 => S3_20.out.off_blk h0 Bs_20.out (noPair8 ..)) hg21
            have Bs_21 : Hid (w21.heap[w.heap.size]? = some (.cells #[.bool he, .slice A1 R.length c1, .slice A2 H.length c2, .slice A3 F.length c3, .bool true, .bool f2, .int .i64 ag, .bool jo] 52 (0, 0))) := by simp only [Hid]; rw [← hw21]; exact blk_set Bs_20.out
            have Bp_21 : Hid (w21.heap[w6.heap.size]? = some (.cells #[.bool false, .bool true] 4 (0, 0))) := (hg21.block _ (by omega) (by intro e; injection e with e; omega)).trans Bp_20.out
            have Bq_21 : Hid (w21.heap[wo.heap.size]? = some (.cells #[.bool false, .bool true] 4 (0, 0))) := (hg21.block _ (by omega) (by intro e; injection e with e; omega)).trans Bq_20.out
            have s0_21 : w21.cell? ⟨w.heap.size, 0, none⟩ = some (.bool he) := blk_cell Bs_21.out rfl
            have sf0_21 : w21.frozen? ⟨w.heap.size, 0, none⟩ = false := blk_frozen Bs_21.out
            have s1_21 : w21.cell? ⟨w.heap.size, 1, none⟩ = some (.slice A1 R.length c1) := blk_cell Bs_21.out rfl
            have sf1_21 : w21.frozen? ⟨w.heap.size, 1, none⟩ = false := blk_frozen Bs_21.out
            have s2_21 : w21.cell? ⟨w.heap.size, 2, none⟩ = some (.slice A2 H.length c2) := blk_cell Bs_21.out rfl
            have sf2_21 : w21.frozen? ⟨w.heap.size, 2, none⟩ = false := blk_frozen Bs_21.out
            have s3_21 : w21.cell? ⟨w.heap.size, 3, none⟩ = some (.slice A3 F.length c3) := blk_cell Bs_21.out rfl
            have sf3_21 : w21.frozen? ⟨w.heap.size, 3, none⟩ = false := blk_frozen Bs_21.out
            have s4_21 : w21.cell? ⟨w.heap.size, 4, none⟩ = some (.bool true) := blk_cell Bs_21.out rfl
            have sf4_21 : w21.frozen? ⟨w.heap.size, 4, none⟩ = false := blk_frozen Bs_21.out
            have s5_21 : w21.cell? ⟨w.heap.size, 5, none⟩ = some (.bool f2) := blk_cell Bs_21.out rfl
            have sf5_21 : w21.frozen? ⟨w.heap.size, 5, none⟩ = false := blk_frozen Bs_21.out
            have s6_21 : w21.cell? ⟨w.heap.size, 6, none⟩ = some (.int .i64 ag) := blk_cell Bs_21.out rfl
            have sf6_21 : w21.frozen? ⟨w.heap.size, 6, none⟩ = false := blk_frozen Bs_21.out
            have s7_21 : w21.cell? ⟨w.heap.size, 7, none⟩ = some (.bool jo) := blk_cell Bs_21.out rfl
            have sf7_21 : w21.frozen? ⟨w.heap.size, 7, none⟩ = false := blk_frozen Bs_21.out
            have sz_21 : w.heap.size < w21.heap.size := blk_lt Bs_21.out
            have pz_21 : w6.heap.size < w21.heap.size := blk_lt Bp_21.out
            have qz_21 : wo.heap.size < w21.heap.size := blk_lt Bq_21.out
            clear HB_20 hw21 hg21 S1_20 S2_20 S3_20 Bs_20 s0_20 s1_20 s2_20 s3_20 s4_20 s5_20 s6_20 s7_20 sf0_20 sf1_20 sf2_20 sf3_20 sf4_20 sf5_20 sf6_20 sf7_20 sz_20 Bp_20 pz_20 Bq_20 qz_20
            clear tj
            obtain ⟨w22, hw22⟩ : ∃ w22, World.setCell w21 ⟨w.heap.size, 5, none⟩ (.bool false) = w22 := ⟨_, rfl⟩
            rw [hw22]
            have hg22 : w21.grownBy w22 (some (w.heap.size)) := by rw [← hw22]; exact grown_set (p := ⟨w.heap.size, 5, none⟩) (World.grownBy.refl _ _) _
            have HB_22 : Hid (Below w.heap.size w w22) := Below.grown HB_21.out hg22 HB_21.out.size (fun j hj => by injection hj with hj; omega)
            have S1_22 : Hid (Sp w22 A1 c1 (R)) := S1_21.out.grown' (fun h0 => S1_21.out.off_blk h0 Bs_21.out (noPair8 ..)) hg22
            have S2_22 : Hid (Sp w22 A2 c2 (H)) := S2_21.out.grown' (fun h0 => S2_21.out.off_blk h0 Bs_21.out (noPair8 ..)) hg22
            have S3_22 : Hid (Sp w22 A3 c3 (F)) := S3_21.out.grown' (fun h0 => S3_21.out.off_blk h0 Bs_21.out (noPair8 ..)) hg22
            have Bs_22 : Hid (w22.heap[w.heap.size]? = some (.cells #[.bool he, .slice A1 R.length c1, .slice A2 H.length c2, .slice A3 F.length c3, .bool true, .bool false, .int .i64 ag, .bool jo] 52 (0, 0))) := by simp only [Hid]; rw [← hw22]; exact blk_set Bs_21.out
            have Bp_22 : Hid (w22.heap[w6.heap.size]? = some (.cells #[.bool false, .bool true] 4 (0, 0))) := (hg22.block _ (by omega) (by intro e; injection e with e; omega)).trans Bp_21.out
            have Bq_22 : Hid (w22.heap[wo.heap.size]? = some (.cells #[.bool false, .bool true] 4 (0, 0))) := (hg22.block _ (by omega) (by intro e; injection e with e; omega)).trans Bq_21.out
            have s0_22 : w22.cell? ⟨w.heap.size, 0, none⟩ = some (.bool he) := blk_cell Bs_22.out rfl
            have sf0_22 : w22.frozen? ⟨w.heap.size, 0, none⟩ = false := blk_frozen Bs_22.out
            have s1_22 : w22.cell? ⟨w.heap.size, 1, none⟩ = some (.slice A1 R.length c1) := blk_cell Bs_22.out rfl
            have sf1_22 : w22.frozen? ⟨w.heap.size, 1, none⟩ = false := blk_frozen Bs_22.out
            have s2_22 : w22.cell? ⟨w.heap.size, 2, none⟩ = some (.slice A2 H.length c2) := blk_cell Bs_22.out rfl
            have sf2_22 : w22.frozen? ⟨w.heap.size, 2, none⟩ = false := blk_frozen Bs_22.out
            have s3_22 : w22.cell? ⟨w.heap.size, 3, none⟩ = some (.slice A3 F.length c3) := blk_cell Bs_22.out rfl
            have sf3_22 : w22.frozen? ⟨w.heap.size, 3, none⟩ = false := blk_frozen Bs_22.out
            have s4_22 : w22.cell? ⟨w.heap.size, 4, none⟩ = some (.bool true) := blk_cell Bs_22.out rfl
            have sf4_22 : w22.frozen? ⟨w.heap.size, 4, none⟩ = false := blk_frozen Bs_22.out
            have s5_22 : w22.cell? ⟨w.heap.size, 5, none⟩ = some (.bool false) := blk_cell Bs_22.out rfl
            have sf5_22 : w22.frozen? ⟨w.heap.size, 5, none⟩ = false := blk_frozen Bs_22.out
            have s6_22 : w22.cell? ⟨w.heap.size, 6, none⟩ = some (.int .i64 ag) := blk_cell Bs_22.out rfl
            have sf6_22 : w22.frozen? ⟨w.heap.size, 6, none⟩ = false := blk_frozen Bs_22.out
            have s7_22 : w22.cell? ⟨w.heap.size, 7, none⟩ = some (.bool jo) := blk_cell Bs_22.out rfl
            have sf7_22 : w22.frozen? ⟨w.heap.size, 7, none⟩ = false := blk_frozen Bs_22.out
            have sz_22 : w.heap.size < w22.heap.size := blk_lt Bs_22.out
            have pz_22 : w6.heap.size < w22.heap.size := blk_lt Bp_22.out
            have qz_22 : wo.heap.size < w22.heap.size := blk_lt Bq_22.out
            clear HB_21 hw22 hg22 S1_21 S2_21 S3_21 Bs_21 s0_21 s1_21 s2_21 s3_21 s4_21 s5_21 s6_21 s7_21 sf0_21 sf1_21 sf2_21 sf3_21 sf4_21 sf5_21 sf6_21 sf7_21 sz_21 Bp_21 pz_21 Bq_21 qz_21
            refine (own_as he A1 c1 R A2 c2 H A3 c3 F true false ag jo X U V HX.out HU.out HV.out _ (by repeat (first | exact S1_22.out | refine Sp.alloc ?_ _ | refine Sp.drewN ?_ _ | refine Sp.drew ?_)) (by repeat (first | exact S2_22.out | refine Sp.alloc ?_ _ | refine Sp.drewN ?_ _ | refine Sp.drew ?_)) (by repeat (first | exact S3_22.out | refine Sp.alloc ?_ _ | refine Sp.drewN ?_ _ | refine Sp.drew ?_)) (by omega) (by omega) (by omega)).mono ?_
            rintro e23 w23 ⟨B4, d4, B5, d5, B6, d6, rfl, hs23, ht23, hu23, hb23⟩
            have HB_23 : Hid (Below w.heap.size w w23) := bel_chain hb23 (by repeat (first | exact HB_22.out | refine bel_drewN ?_ _ | refine bel_drew ?_ | refine bel_alloc ?_ _))
            have S1_23 : Hid (Sp w23 A1 c1 (R)) := Sp.below (by repeat (first | exact S1_22.out | refine Sp.alloc ?_ _ | refine Sp.drewN ?_ _ | refine Sp.drew ?_)) hb23
            have S2_23 : Hid (Sp w23 A2 c2 (H)) := Sp.below (by repeat (first | exact S2_22.out | refine Sp.alloc ?_ _ | refine Sp.drewN ?_ _ | refine Sp.drew ?_)) hb23
            have S3_23 : Hid (Sp w23 A3 c3 (F)) := Sp.below (by repeat (first | exact S3_22.out | refine Sp.alloc ?_ _ | refine Sp.drewN ?_ _ | refine Sp.drew ?_)) hb23
            have Bs_23 : Hid (w23.heap[w.heap.size]? = some (.cells #[.bool he, .slice A1 R.length c1, .slice A2 H.length c2, .slice A3 F.length c3, .bool true, .bool false, .int .i64 ag, .bool jo] 52 (0, 0))) := blk_keep hb23 (blk_keep (W := w22) (by (repeat (first | exact Below.refl _ _ | refine bel_drewN ?_ _ | refine bel_drew ?_ | refine bel_alloc ?_ _ | refine bel_set ?_ (by simp) _))) Bs_22.out)
            have Bp_23 : Hid (w23.heap[w6.heap.size]? = some (.cells #[.bool false, .bool true] 4 (0, 0))) := blk_keep hb23 (blk_keep (W := w22) (by (repeat (first | exact Below.refl _ _ | refine bel_drewN ?_ _ | refine bel_drew ?_ | refine bel_alloc ?_ _ | refine bel_set ?_ (by simp) _))) Bp_22.out)
            have Bq_23 : Hid (w23.heap[wo.heap.size]? = some (.cells #[.bool false, .bool true] 4 (0, 0))) := blk_keep hb23 (blk_keep (W := w22) (by (repeat (first | exact Below.refl _ _ | refine bel_drewN ?_ _ | refine bel_drew ?_ | refine bel_alloc ?_ _ | refine bel_set ?_ (by simp) _))) Bq_22.out)
            have s0_23 : w23.cell? ⟨w.heap.size, 0, none⟩ = some (.bool he) := blk_cell Bs_23.out rfl
            have sf0_23 : w23.frozen? ⟨w.heap.size, 0, none⟩ = false := blk_frozen Bs_23.out
            have s1_23 : w23.cell? ⟨w.heap.size, 1, none⟩ = some (.slice A1 R.length c1) := blk_cell Bs_23.out rfl
            have sf1_23 : w23.frozen? ⟨w.heap.size, 1, none⟩ = false := blk_frozen Bs_23.out
            have s2_23 : w23.cell? ⟨w.heap.size, 2, none⟩ = some (.slice A2 H.length c2) := blk_cell Bs_23.out rfl
            have sf2_23 : w23.frozen? ⟨w.heap.size, 2, none⟩ = false := blk_frozen Bs_23.out
            have s3_23 : w23.cell? ⟨w.heap.size, 3, none⟩ = some (.slice A3 F.length c3) := blk_cell Bs_23.out rfl
            have sf3_23 : w23.frozen? ⟨w.heap.size, 3, none⟩ = false := blk_frozen Bs_23.out
            have s4_23 : w23.cell? ⟨w.heap.size, 4, none⟩ = some (.bool true) := blk_cell Bs_23.out rfl
            have sf4_23 : w23.frozen? ⟨w.heap.size, 4, none⟩ = false := blk_frozen Bs_23.out
            have s5_23 : w23.cell? ⟨w.heap.size, 5, none⟩ = some (.bool false) := blk_cell Bs_23.out rfl
            have sf5_23 : w23.frozen? ⟨w.heap.size, 5, none⟩ = false := blk_frozen Bs_23.out
            have s6_23 : w23.cell? ⟨w.heap.size, 6, none⟩ = some (.int .i64 ag) := blk_cell Bs_23.out rfl
            have sf6_23 : w23.frozen? ⟨w.heap.size, 6, none⟩ = false := blk_frozen Bs_23.out
            have s7_23 : w23.cell? ⟨w.heap.size, 7, none⟩ = some (.bool jo) := blk_cell Bs_23.out rfl
            have sf7_23 : w23.frozen? ⟨w.heap.size, 7, none⟩ = false := blk_frozen Bs_23.out
            have sz_23 : w.heap.size < w23.heap.size := blk_lt Bs_23.out
            have pz_23 : w6.heap.size < w23.heap.size := blk_lt Bp_23.out
            have qz_23 : wo.heap.size < w23.heap.size := blk_lt Bq_23.out
            have Sa1_23 : Hid (Sp w23 B4 d4 (X)) := hs23
            have Sa2_23 : Hid (Sp w23 B5 d5 (U)) := ht23
            have Sa3_23 : Hid (Sp w23 B6 d6 (V)) := hu23
            clear S1_22 S2_22 S3_22 Bs_22 s0_22 s1_22 s2_22 s3_22 s4_22 s5_22 s6_22 s7_22 sf0_22 sf1_22 sf2_22 sf3_22 sf4_22 sf5_22 sf6_22 sf7_22 sz_22 Bp_22 pz_22 Bq_22 qz_22 hs23 ht23 hu23 HB_22 hb23
            go_wp2_with fail
            refine (sure_as he B4 d4 X B5 d5 U B6 d6 V true false ag jo false HBW.out _ (by repeat (first | exact Sa1_23.out | refine Sp.alloc ?_ _ | refine Sp.drewN ?_ _ | refine Sp.drew ?_)) (by repeat (first | exact Sa2_23.out | refine Sp.alloc ?_ _ | refine Sp.drewN ?_ _ | refine Sp.drew ?_)) (by repeat (first | exact Sa3_23.out | refine Sp.alloc ?_ _ | refine Sp.drewN ?_ _ | refine Sp.drew ?_)) K1.out K2.out K3.out (by omega) (by omega) (by omega)).mono ?_
            rintro e24 w24 ⟨rfl, hb24⟩
            have HB_24 : Hid (Below w.heap.size w w24) := bel_chain hb24 (by repeat (first | exact HB_23.out | refine bel_drewN ?_ _ | refine bel_drew ?_ | refine bel_alloc ?_ _))
            have S1_24 : Hid (Sp w24 A1 c1 (R)) := Sp.below (by repeat (first | exact S1_23.out | refine Sp.alloc ?_ _ | refine Sp.drewN ?_ _ | refine Sp.drew ?_)) hb24
            have S2_24 : Hid (Sp w24 A2 c2 (H)) := Sp.below (by repeat (first | exact S2_23.out | refine Sp.alloc ?_ _ | refine Sp.drewN ?_ _ | refine Sp.drew ?_)) hb24
            have S3_24 : Hid (Sp w24 A3 c3 (F)) := Sp.below (by repeat (first | exact S3_23.out | refine Sp.alloc ?_ _ | refine Sp.drewN ?_ _ | refine Sp.drew ?_)) hb24
            have Sa1_24 : Hid (Sp w24 B4 d4 (X)) := Sp.below (by repeat (first | exact Sa1_23.out | refine Sp.alloc ?_ _ | refine Sp.drewN ?_ _ | refine Sp.drew ?_)) hb24
            have Sa2_24 : Hid (Sp w24 B5 d5 (U)) := Sp.below (by repeat (first | exact Sa2_23.out | refine Sp.alloc ?_ _ | refine Sp.drewN ?_ _ | refine Sp.drew ?_)) hb24
            have Sa3_24 : Hid (Sp w24 B6 d6 (V)) := Sp.below (by repeat (first | exact Sa3_23.out | refine Sp.alloc ?_ _ | refine Sp.drewN ?_ _ | refine Sp.drew ?_)) hb24
            have Bs_24 : Hid (w24.heap[w.heap.size]? = some (.cells #[.bool he, .slice A1 R.length c1, .slice A2 H.length c2, .slice A3 F.length c3, .bool true, .bool false, .int .i64 ag, .bool jo] 52 (0, 0))) := blk_keep hb24 (blk_keep (W := w23) (by (repeat (first | exact Below.refl _ _ | refine bel_drewN ?_ _ | refine bel_drew ?_ | refine bel_alloc ?_ _ | refine bel_set ?_ (by simp) _))) Bs_23.out)
            have Bp_24 : Hid (w24.heap[w6.heap.size]? = some (.cells #[.bool false, .bool true] 4 (0, 0))) := blk_keep hb24 (blk_keep (W := w23) (by (repeat (first | exact Below.refl _ _ | refine bel_drewN ?_ _ | refine bel_drew ?_ | refine bel_alloc ?_ _ | refine bel_set ?_ (by simp) _))) Bp_23.out)
            have Bq_24 : Hid (w24.heap[wo.heap.size]? = some (.cells #[.bool false, .bool true] 4 (0, 0))) := blk_keep hb24 (blk_keep (W := w23) (by (repeat (first | exact Below.refl _ _ | refine bel_drewN ?_ _ | refine bel_drew ?_ | refine bel_alloc ?_ _ | refine bel_set ?_ (by simp) _))) Bq_23.out)
            have s0_24 : w24.cell? ⟨w.heap.size, 0, none⟩ = some (.bool he) := blk_cell Bs_24.out rfl
            have sf0_24 : w24.frozen? ⟨w.heap.size, 0, none⟩ = false := blk_frozen Bs_24.out
            have s1_24 : w24.cell? ⟨w.heap.size, 1, none⟩ = some (.slice A1 R.length c1) := blk_cell Bs_24.out rfl
            have sf1_24 : w24.frozen? ⟨w.heap.size, 1, none⟩ = false := blk_frozen Bs_24.out
            have s2_24 : w24.cell? ⟨w.heap.size, 2, none⟩ = some (.slice A2 H.length c2) := blk_cell Bs_24.out rfl
            have sf2_24 : w24.frozen? ⟨w.heap.size, 2, none⟩ = false := blk_frozen Bs_24.out
            have s3_24 : w24.cell? ⟨w.heap.size, 3, none⟩ = some (.slice A3 F.length c3) := blk_cell Bs_24.out rfl
            have sf3_24 : w24.frozen? ⟨w.heap.size, 3, none⟩ = false := blk_frozen Bs_24.out
            have s4_24 : w24.cell? ⟨w.heap.size, 4, none⟩ = some (.bool true) := blk_cell Bs_24.out rfl
            have sf4_24 : w24.frozen? ⟨w.heap.size, 4, none⟩ = false := blk_frozen Bs_24.out
            have s5_24 : w24.cell? ⟨w.heap.size, 5, none⟩ = some (.bool false) := blk_cell Bs_24.out rfl
            have sf5_24 : w24.frozen? ⟨w.heap.size, 5, none⟩ = false := blk_frozen Bs_24.out
            have s6_24 : w24.cell? ⟨w.heap.size, 6, none⟩ = some (.int .i64 ag) := blk_cell Bs_24.out rfl
            have sf6_24 : w24.frozen? ⟨w.heap.size, 6, none⟩ = false := blk_frozen Bs_24.out
            have s7_24 : w24.cell? ⟨w.heap.size, 7, none⟩ = some (.bool jo) := blk_cell Bs_24.out rfl
            have sf7_24 : w24.frozen? ⟨w.heap.size, 7, none⟩ = false := blk_frozen Bs_24.out
            have sz_24 : w.heap.size < w24.heap.size := blk_lt Bs_24.out
            have pz_24 : w6.heap.size < w24.heap.size := blk_lt Bp_24.out
            have qz_24 : wo.heap.size < w24.heap.size := blk_lt Bq_24.out
            clear S1_23 S2_23 S3_23 Sa1_23 Sa2_23 Sa3_23 Bs_23 s0_23 s1_23 s2_23 s3_23 s4_23 s5_23 s6_23 s7_23 sf0_23 sf1_23 sf2_23 sf3_23 sf4_23 sf5_23 sf6_23 sf7_23 sz_23 Bp_23 pz_23 Bq_23 qz_23 HB_23 hb24
            clear Sa1_24
            clear Sa2_24
            clear Sa3_24
            go_wp2_with fail
            refine (own_as he A1 c1 R A2 c2 H A3 c3 F true false ag jo X U V HX.out HU.out HV.out _ (by repeat (first | exact S1_24.out | refine Sp.alloc ?_ _ | refine Sp.drewN ?_ _ | refine Sp.drew ?_)) (by repeat (first | exact S2_24.out | refine Sp.alloc ?_ _ | refine Sp.drewN ?_ _ | refine Sp.drew ?_)) (by repeat (first | exact S3_24.out | refine Sp.alloc ?_ _ | refine Sp.drewN ?_ _ | refine Sp.drew ?_)) (by omega) (by omega) (by omega)).mono ?_
            rintro e25 w25 ⟨C4, e4, C5, e5, C6, e6, rfl, hs25, ht25, hu25, hb25⟩
            have HB_25 : Hid (Below w.heap.size w w25) := bel_chain hb25 (by repeat (first | exact HB_24.out | refine bel_drewN ?_ _ | refine bel_drew ?_ | refine bel_alloc ?_ _))
            have S1_25 : Hid (Sp w25 A1 c1 (R)) := Sp.below (by repeat (first | exact S1_24.out | refine Sp.alloc ?_ _ | refine Sp.drewN ?_ _ | refine Sp.drew ?_)) hb25
            have S2_25 : Hid (Sp w25 A2 c2 (H)) := Sp.below (by repeat (first | exact S2_24.out | refine Sp.alloc ?_ _ | refine Sp.drewN ?_ _ | refine Sp.drew ?_)) hb25
            have S3_25 : Hid (Sp w25 A3 c3 (F)) := Sp.below (by repeat (first | exact S3_24.out | refine Sp.alloc ?_ _ | refine Sp.drewN ?_ _ | refine Sp.drew ?_)) hb25
            have Bs_25 : Hid (w25.heap[w.heap.size]? = some (.cells #[.bool he, .slice A1 R.length c1, .slice A2 H.length c2, .slice A3 F.length c3, .bool true, .bool false, .int .i64 ag, .bool jo] 52 (0, 0))) := blk_keep hb25 (blk_keep (W := w24) (by (repeat (first | exact Below.refl _ _ | refine bel_drewN ?_ _ | refine bel_drew ?_ | refine bel_alloc ?_ _ | refine bel_set ?_ (by simp) _))) Bs_24.out)
            have Bp_25 : Hid (w25.heap[w6.heap.size]? = some (.cells #[.bool false, .bool true] 4 (0, 0))) := blk_keep hb25 (blk_keep (W := w24) (by (repeat (first | exact Below.refl _ _ | refine bel_drewN ?_ _ | refine bel_drew ?_ | refine bel_alloc ?_ _ | refine bel_set ?_ (by simp) _))) Bp_24.out)
            have Bq_25 : Hid (w25.heap[wo.heap.size]? = some (.cells #[.bool false, .bool true] 4 (0, 0))) := blk_keep hb25 (blk_keep (W := w24) (by (repeat (first | exact Below.refl _ _ | refine bel_drewN ?_ _ | refine bel_drew ?_ | refine bel_alloc ?_ _ | refine bel_set ?_ (by simp) _))) Bq_24.out)
            have s0_25 : w25.cell? ⟨w.heap.size, 0, none⟩ = some (.bool he) := blk_cell Bs_25.out rfl
            have sf0_25 : w25.frozen? ⟨w.heap.size, 0, none⟩ = false := blk_frozen Bs_25.out
            have s1_25 : w25.cell? ⟨w.heap.size, 1, none⟩ = some (.slice A1 R.length c1) := blk_cell Bs_25.out rfl
            have sf1_25 : w25.frozen? ⟨w.heap.size, 1, none⟩ = false := blk_frozen Bs_25.out
            have s2_25 : w25.cell? ⟨w.heap.size, 2, none⟩ = some (.slice A2 H.length c2) := blk_cell Bs_25.out rfl
            have sf2_25 : w25.frozen? ⟨w.heap.size, 2, none⟩ = false := blk_frozen Bs_25.out
            have s3_25 : w25.cell? ⟨w.heap.size, 3, none⟩ = some (.slice A3 F.length c3) := blk_cell Bs_25.out rfl
            have sf3_25 : w25.frozen? ⟨w.heap.size, 3, none⟩ = false := blk_frozen Bs_25.out
            have s4_25 : w25.cell? ⟨w.heap.size, 4, none⟩ = some (.bool true) := blk_cell Bs_25.out rfl
            have sf4_25 : w25.frozen? ⟨w.heap.size, 4, none⟩ = false := blk_frozen Bs_25.out
            have s5_25 : w25.cell? ⟨w.heap.size, 5, none⟩ = some (.bool false) := blk_cell Bs_25.out rfl
            have sf5_25 : w25.frozen? ⟨w.heap.size, 5, none⟩ = false := blk_frozen Bs_25.out
            have s6_25 : w25.cell? ⟨w.heap.size, 6, none⟩ = some (.int .i64 ag) := blk_cell Bs_25.out rfl
            have sf6_25 : w25.frozen? ⟨w.heap.size, 6, none⟩ = false := blk_frozen Bs_25.out
            have s7_25 : w25.cell? ⟨w.heap.size, 7, none⟩ = some (.bool jo) := blk_cell Bs_25.out rfl
            have sf7_25 : w25.frozen? ⟨w.heap.size, 7, none⟩ = false := blk_frozen Bs_25.out
            have sz_25 : w.heap.size < w25.heap.size := blk_lt Bs_25.out
            have pz_25 : w6.heap.size < w25.heap.size := blk_lt Bp_25.out
            have qz_25 : wo.heap.size < w25.heap.size := blk_lt Bq_25.out
            have Sa1_25 : Hid (Sp w25 C4 e4 (X)) := hs25
            have Sa2_25 : Hid (Sp w25 C5 e5 (U)) := ht25
            have Sa3_25 : Hid (Sp w25 C6 e6 (V)) := hu25
            clear S1_24 S2_24 S3_24 Bs_24 s0_24 s1_24 s2_24 s3_24 s4_24 s5_24 s6_24 s7_24 sf0_24 sf1_24 sf2_24 sf3_24 sf4_24 sf5_24 sf6_24 sf7_24 sz_24 Bp_24 pz_24 Bq_24 qz_24 hs25 ht25 hu25 HB_24 hb25
            go_wp2_with fail
            refine (decide_any he C4 e4 X C5 e5 U C6 e6 V true false ag jo _ (by repeat (first | exact Sa1_25.out | refine Sp.alloc ?_ _ | refine Sp.drewN ?_ _ | refine Sp.drew ?_)) (by repeat (first | exact Sa2_25.out | refine Sp.alloc ?_ _ | refine Sp.drewN ?_ _ | refine Sp.drew ?_)) (by repeat (first | exact Sa3_25.out | refine Sp.alloc ?_ _ | refine Sp.drewN ?_ _ | refine Sp.drew ?_)) K1.out K2.out K3.out (by omega) (by omega) (by omega)).mono ?_
            rintro e26 w26 ⟨rfl, hb26⟩
            have HB_26 : Hid (Below w.heap.size w w26) := bel_chain hb26 (by repeat (first | exact HB_25.out | refine bel_drewN ?_ _ | refine bel_drew ?_ | refine bel_alloc ?_ _))
            have S1_26 : Hid (Sp w26 A1 c1 (R)) := Sp.below (by repeat (first | exact S1_25.out | refine Sp.alloc ?_ _ | refine Sp.drewN ?_ _ | refine Sp.drew ?_)) hb26
            have S2_26 : Hid (Sp w26 A2 c2 (H)) := Sp.below (by repeat (first | exact S2_25.out | refine Sp.alloc ?_ _ | refine Sp.drewN ?_ _ | refine Sp.drew ?_)) hb26
            have S3_26 : Hid (Sp w26 A3 c3 (F)) := Sp.below (by repeat (first | exact S3_25.out | refine Sp.alloc ?_ _ | refine Sp.drewN ?_ _ | refine Sp.drew ?_)) hb26
            have Sa1_26 : Hid (Sp w26 C4 e4 (X)) := Sp.below (by repeat (first | exact Sa1_25.out | refine Sp.alloc ?_ _ | refine Sp.drewN ?_ _ | refine Sp.drew ?_)) hb26
            have Sa2_26 : Hid (Sp w26 C5 e5 (U)) := Sp.below (by repeat (first | exact Sa2_25.out | refine Sp.alloc ?_ _ | refine Sp.drewN ?_ _ | refine Sp.drew ?_)) hb26
            have Sa3_26 : Hid (Sp w26 C6 e6 (V)) := Sp.below (by repeat (first | exact Sa3_25.out | refine Sp.alloc ?_ _ | refine Sp.drewN ?_ _ | refine Sp.drew ?_)) hb26
            have Bs_26 : Hid (w26.heap[w.heap.size]? = some (.cells #[.bool he, .slice A1 R.length c1, .slice A2 H.length c2, .slice A3 F.length c3, .bool true, .bool false, .int .i64 ag, .bool jo] 52 (0, 0))) := blk_keep hb26 (blk_keep (W := w25) (by (repeat (first | exact Below.refl _ _ | refine bel_drewN ?_ _ | refine bel_drew ?_ | refine bel_alloc ?_ _ | refine bel_set ?_ (by simp) _))) Bs_25.out)
            have Bp_26 : Hid (w26.heap[w6.heap.size]? = some (.cells #[.bool false, .bool true] 4 (0, 0))) := blk_keep hb26 (blk_keep (W := w25) (by (repeat (first | exact Below.refl _ _ | refine bel_drewN ?_ _ | refine bel_drew ?_ | refine bel_alloc ?_ _ | refine bel_set ?_ (by simp) _))) Bp_25.out)
            have Bq_26 : Hid (w26.heap[wo.heap.size]? = some (.cells #[.bool false, .bool true] 4 (0, 0))) := blk_keep hb26 (blk_keep (W := w25) (by (repeat (first | exact Below.refl _ _ | refine bel_drewN ?_ _ | refine bel_drew ?_ | refine bel_alloc ?_ _ | refine bel_set ?_ (by simp) _))) Bq_25.out)
            have s0_26 : w26.cell? ⟨w.heap.size, 0, none⟩ = some (.bool he) := blk_cell Bs_26.out rfl
            have sf0_26 : w26.frozen? ⟨w.heap.size, 0, none⟩ = false := blk_frozen Bs_26.out
            have s1_26 : w26.cell? ⟨w.heap.size, 1, none⟩ = some (.slice A1 R.length c1) := blk_cell Bs_26.out rfl
            have sf1_26 : w26.frozen? ⟨w.heap.size, 1, none⟩ = false := blk_frozen Bs_26.out
            have s2_26 : w26.cell? ⟨w.heap.size, 2, none⟩ = some (.slice A2 H.length c2) := blk_cell Bs_26.out rfl
            have sf2_26 : w26.frozen? ⟨w.heap.size, 2, none⟩ = false := blk_frozen Bs_26.out
            have s3_26 : w26.cell? ⟨w.heap.size, 3, none⟩ = some (.slice A3 F.length c3) := blk_cell Bs_26.out rfl
            have sf3_26 : w26.frozen? ⟨w.heap.size, 3, none⟩ = false := blk_frozen Bs_26.out
            have s4_26 : w26.cell? ⟨w.heap.size, 4, none⟩ = some (.bool true) := blk_cell Bs_26.out rfl
            have sf4_26 : w26.frozen? ⟨w.heap.size, 4, none⟩ = false := blk_frozen Bs_26.out
            have s5_26 : w26.cell? ⟨w.heap.size, 5, none⟩ = some (.bool false) := blk_cell Bs_26.out rfl
            have sf5_26 : w26.frozen? ⟨w.heap.size, 5, none⟩ = false := blk_frozen Bs_26.out
            have s6_26 : w26.cell? ⟨w.heap.size, 6, none⟩ = some (.int .i64 ag) := blk_cell Bs_26.out rfl
            have sf6_26 : w26.frozen? ⟨w.heap.size, 6, none⟩ = false := blk_frozen Bs_26.out
            have s7_26 : w26.cell? ⟨w.heap.size, 7, none⟩ = some (.bool jo) := blk_cell Bs_26.out rfl
            have sf7_26 : w26.frozen? ⟨w.heap.size, 7, none⟩ = false := blk_frozen Bs_26.out
            have sz_26 : w.heap.size < w26.heap.size := blk_lt Bs_26.out
            have pz_26 : w6.heap.size < w26.heap.size := blk_lt Bp_26.out
            have qz_26 : wo.heap.size < w26.heap.size := blk_lt Bq_26.out
            clear S1_25 S2_25 S3_25 Sa1_25 Sa2_25 Sa3_25 Bs_25 s0_25 s1_25 s2_25 s3_25 s4_25 s5_25 s6_25 s7_25 sf0_25 sf1_25 sf2_25 sf3_25 sf4_25 sf5_25 sf6_25 sf7_25 sz_25 Bp_25 pz_25 Bq_25 qz_25 HB_25 hb26
            clear Sa1_26
            clear Sa2_26
            clear Sa3_26
            go_wp2_with fail
            go_roundw
            case rel => first | exact ⟨1, true, false, by omega, by go_num, ⟨Bs_26.out, Bp_26.out, S1_26.out, S2_26.out, S3_26.out, HB_26.out⟩, Bq_26.out⟩ | ((repeat apply Exists.intro); exact ⟨⟨1, true, false, by omega, by go_num, ⟨Bs_26.out, Bp_26.out, S1_26.out, S2_26.out, S3_26.out, HB_26.out⟩, Bq_26.out⟩, rfl⟩)
            case measure => simp [intOf]
          · have s0_20 : w20.cell? ⟨w.heap.size, 0, none⟩ = some (.bool he) := blk_cell Bs_20.out rfl
            have sf0_20 : w20.frozen? ⟨w.heap.size, 0, none⟩ = false := blk_frozen Bs_20.out
            have s1_20 : w20.cell? ⟨w.heap.size, 1, none⟩ = some (.slice A1 R.length c1) := blk_cell Bs_20.out rfl
            have sf1_20 : w20.frozen? ⟨w.heap.size, 1, none⟩ = false := blk_frozen Bs_20.out
            have s2_20 : w20.cell? ⟨w.heap.size, 2, none⟩ = some (.slice A2 H.length c2) := blk_cell Bs_20.out rfl
            have sf2_20 : w20.frozen? ⟨w.heap.size, 2, none⟩ = false := blk_frozen Bs_20.out
            have s3_20 : w20.cell? ⟨w.heap.size, 3, none⟩ = some (.slice A3 F.length c3) := blk_cell Bs_20.out rfl
            have sf3_20 : w20.frozen? ⟨w.heap.size, 3, none⟩ = false := blk_frozen Bs_20.out
            have s4_20 : w20.cell? ⟨w.heap.size, 4, none⟩ = some (.bool t2) := blk_cell Bs_20.out rfl
            have sf4_20 : w20.frozen? ⟨w.heap.size, 4, none⟩ = false := blk_frozen Bs_20.out
            have s5_20 : w20.cell? ⟨w.heap.size, 5, none⟩ = some (.bool f2) := blk_cell Bs_20.out rfl
            have sf5_20 : w20.frozen? ⟨w.heap.size, 5, none⟩ = false := blk_frozen Bs_20.out
            have s6_20 : w20.cell? ⟨w.heap.size, 6, none⟩ = some (.int .i64 ag) := blk_cell Bs_20.out rfl
            have sf6_20 : w20.frozen? ⟨w.heap.size, 6, none⟩ = false := blk_frozen Bs_20.out
            have s7_20 : w20.cell? ⟨w.heap.size, 7, none⟩ = some (.bool jo) := blk_cell Bs_20.out rfl
            have sf7_20 : w20.frozen? ⟨w.heap.size, 7, none⟩ = false := blk_frozen Bs_20.out
            have sz_20 : w.heap.size < w20.heap.size := blk_lt Bs_20.out
            have pz_20 : w6.heap.size < w20.heap.size := blk_lt Bp_20.out
            have qz_20 : wo.heap.size < w20.heap.size := blk_lt Bq_20.out
            have tj : w20.cell? ⟨wo.heap.size, 1, none⟩ = some (.bool true) := blk_cell Bq_20.out rfl
            go_wp2_with fail
            obtain ⟨w21, hw21⟩ : ∃ w21, World.setCell w20 ⟨w.heap.size, 4, none⟩ (.bool true) = w21 := ⟨_, rfl⟩
            rw [hw21]
            have hg21 : w20.grownBy w21 (some (w.heap.size)) := by rw [← hw21]; exact grown_set (p := ⟨w.heap.size, 4, none⟩) (World.grownBy.refl _ _) _
            have HB_21 : Hid (Below w.heap.size w w21) := Below.grown HB_20.out hg21 HB_20.out.size (fun j hj => by injection hj with hj; omega)
            have S1_21 : Hid (Sp w21 A1 c1 (R)) := S1_20.out.grown' (fun h0 => S1_20.out.off_blk h0 Bs_20.out (noPair8 ..)) hg21
            have S2_21 : Hid (Sp w21 A2 c2 (H)) := S2_20.out.grown' (fun h0 => S2_20.out.off_blk h0 Bs_20.out (noPair8 ..)) hg21
            have S3_21 : Hid (Sp w21 A3 c3 (F)) := S3_20.out.grown' (fun h0 => S3_20.out.off_blk h0 Bs_20.out (noPair8 ..)) hg21
            have Bs_21 : Hid (w21.heap[w.heap.size]? = some (.cells #[.bool he, .slice A1 R.length c1, .slice A2 H.length c2, .slice A3 F.length c3, .bool true, .bool f2, .int .i64 ag, .bool jo] 52 (0, 0))) := by simp only [Hid]; rw [← hw21]; exact blk_set Bs_20.out
            have Bp_21 : Hid (w21.heap[w6.heap.size]? = some (.cells #[.bool false, .bool true] 4 (0, 0))) := (hg21.block _ (by omega) (by intro e; injection e with e; omega)).trans Bp_20.out
            have Bq_21 : Hid (w21.heap[wo.heap.size]? = some (.cells #[.bool false, .bool true] 4 (0, 0))) := (hg21.block _ (by omega) (by intro e; injection e with e; omega)).trans Bq_20.out
            have s0_21 : w21.cell? ⟨w.heap.size, 0, none⟩ = some (.bool he) := blk_cell Bs_21.out rfl
            have sf0_21 : w21.frozen? ⟨w.heap.size, 0, none⟩ = false := blk_frozen Bs_21.out
            have s1_21 : w21.cell? ⟨w.heap.size, 1, none⟩ = some (.slice A1 R.length c1) := blk_cell Bs_21.out rfl
            have sf1_21 : w21.frozen? ⟨w.heap.size, 1, none⟩ = false := blk_frozen Bs_21.out
            have s2_21 : w21.cell? ⟨w.heap.size, 2, none⟩ = some (.slice A2 H.length c2) := blk_cell Bs_21.out rfl
            have sf2_21 : w21.frozen? ⟨w.heap.size, 2, none⟩ = false := blk_frozen Bs_21.out
            have s3_21 : w21.cell? ⟨w.heap.size, 3, none⟩ = some (.slice A3 F.length c3) := blk_cell Bs_21.out rfl
            have sf3_21 : w21.frozen? ⟨w.heap.size, 3, none⟩ = false := blk_frozen Bs_21.out
            have s4_21 : w21.cell? ⟨w.heap.size, 4, none⟩ = some (.bool true) := blk_cell Bs_21.out rfl
            have sf4_21 : w21.frozen? ⟨w.heap.size, 4, none⟩ = false := blk_frozen Bs_21.out
            have s5_21 : w21.cell? ⟨w.heap.size, 5, none⟩ = some (.bool f2) := blk_cell Bs_21.out rfl
            have sf5_21 : w21.frozen? ⟨w.heap.size, 5, none⟩ = false := blk_frozen Bs_21.out
            have s6_21 : w21.cell? ⟨w.heap.size, 6, none⟩ = some (.int .i64 ag) := blk_cell Bs_21.out rfl
            have sf6_21 : w21.frozen? ⟨w.heap.size, 6, none⟩ = false := blk_frozen Bs_21.out
            have s7_21 : w21.cell? ⟨w.heap.size, 7, none⟩ = some (.bool jo) := blk_cell Bs_21.out rfl
            have sf7_21 : w21.frozen? ⟨w.heap.size, 7, none⟩ = false := blk_frozen Bs_21.out
            have sz_21 : w.heap.size < w21.heap.size := blk_lt Bs_21.out
            have pz_21 : w6.heap.size < w21.heap.size := blk_lt Bp_21.out
            have qz_21 : wo.heap.size < w21.heap.size := blk_lt Bq_21.out
            clear HB_20 hw21 hg21 S1_20 S2_20 S3_20 Bs_20 s0_20 s1_20 s2_20 s3_20 s4_20 s5_20 s6_20 s7_20 sf0_20 sf1_20 sf2_20 sf3_20 sf4_20 sf5_20 sf6_20 sf7_20 sz_20 Bp_20 pz_20 Bq_20 qz_20
            clear tj
            obtain ⟨w22, hw22⟩ : ∃ w22, World.setCell w21 ⟨w.heap.size, 5, none⟩ (.bool true) = w22 := ⟨_, rfl⟩
            rw [hw22]
            have hg22 : w21.grownBy w22 (some (w.heap.size)) := by rw [← hw22]; exact grown_set (p := ⟨w.heap.size, 5, none⟩) (World.grownBy.refl _ _) _
            have HB_22 : Hid (Below w.heap.size w w22) := Below.grown HB_21.out hg22 HB_21.out.size (fun j hj => by injection hj with hj; omega)
            have S1_22 : Hid (Sp w22 A1 c1 (R)) := S1_21.out.grown' (fun h0 => S1_21.out.off_blk h0 Bs_21.out (noPair8 ..)) hg22
            have S2_22 : Hid (Sp w22 A2 c2 (H)) := S2_21.out.grown' (fun h0 => S2_21.out.off_blk h0 Bs_21.out (noPair8 ..)) hg22
            have S3_22 : Hid (Sp w22 A3 c3 (F)) := S3_21.out.grown' (fun h0 => S3_21.out.off_blk h0 Bs_21.out (noPair8 ..)) hg22
            have Bs_22 : Hid (w22.heap[w.heap.size]? = some (.cells #[.bool he, .slice A1 R.length c1, .slice A2 H.length c2, .slice A3 F.length c3, .bool true, .bool true, .int .i64 ag, .bool jo] 52 (0, 0))) := by simp only [Hid]; rw [← hw22]; exact blk_set Bs_21.out
            have Bp_22 : Hid (w22.heap[w6.heap.size]? = some (.cells #[.bool false, .bool true] 4 (0, 0))) := (hg22.block _ (by omega) (by intro e; injection e with e; omega)).trans Bp_21.out
            have Bq_22 : Hid (w22.heap[wo.heap.size]? = some (.cells #[.bool false, .bool true] 4 (0, 0))) := (hg22.block _ (by omega) (by intro e; injection e with e; omega)).trans Bq_21.out
            have s0_22 : w22.cell? ⟨w.heap.size, 0, none⟩ = some (.bool he) := blk_cell Bs_22.out rfl
            have sf0_22 : w22.frozen? ⟨w.heap.size, 0, none⟩ = false := blk_frozen Bs_22.out
            have s1_22 : w22.cell? ⟨w.heap.size, 1, none⟩ = some (.slice A1 R.length c1) := blk_cell Bs_22.out rfl
            have sf1_22 : w22.frozen? ⟨w.heap.size, 1, none⟩ = false := blk_frozen Bs_22.out
            have s2_22 : w22.cell? ⟨w.heap.size, 2, none⟩ = some (.slice A2 H.length c2) := blk_cell Bs_22.out rfl
            have sf2_22 : w22.frozen? ⟨w.heap.size, 2, none⟩ = false := blk_frozen Bs_22.out
            have s3_22 : w22.cell? ⟨w.heap.size, 3, none⟩ = some (.slice A3 F.length c3) := blk_cell Bs_22.out rfl
            have sf3_22 : w22.frozen? ⟨w.heap.size, 3, none⟩ = false := blk_frozen Bs_22.out
            have s4_22 : w22.cell? ⟨w.heap.size, 4, none⟩ = some (.bool true) := blk_cell Bs_22.out rfl
            have sf4_22 : w22.frozen? ⟨w.heap.size, 4, none⟩ = false := blk_frozen Bs_22.out
            have s5_22 : w22.cell? ⟨w.heap.size, 5, none⟩ = some (.bool true) := blk_cell Bs_22.out rfl
            have sf5_22 : w22.frozen? ⟨w.heap.size, 5, none⟩ = false := blk_frozen Bs_22.out
            have s6_22 : w22.cell? ⟨w.heap.size, 6, none⟩ = some (.int .i64 ag) := blk_cell Bs_22.out rfl
            have sf6_22 : w22.frozen? ⟨w.heap.size, 6, none⟩ = false := blk_frozen Bs_22.out
            have s7_22 : w22.cell? ⟨w.heap.size, 7, none⟩ = some (.bool jo) := blk_cell Bs_22.out rfl
            have sf7_22 : w22.frozen? ⟨w.heap.size, 7, none⟩ = false := blk_frozen Bs_22.out
            have sz_22 : w.heap.size < w22.heap.size := blk_lt Bs_22.out
            have pz_22 : w6.heap.size < w22.heap.size := blk_lt Bp_22.out
            have qz_22 : wo.heap.size < w22.heap.size := blk_lt Bq_22.out
            clear HB_21 hw22 hg22 S1_21 S2_21 S3_21 Bs_21 s0_21 s1_21 s2_21 s3_21 s4_21 s5_21 s6_21 s7_21 sf0_21 sf1_21 sf2_21 sf3_21 sf4_21 sf5_21 sf6_21 sf7_21 sz_21 Bp_21 pz_21 Bq_21 qz_21
            refine (own_as he A1 c1 R A2 c2 H A3 c3 F true true ag jo X U V HX.out HU.out HV.out _ (by repeat (first | exact S1_22.out | refine Sp.alloc ?_ _ | refine Sp.drewN ?_ _ | refine Sp.drew ?_)) (by repeat (first | exact S2_22.out | refine Sp.alloc ?_ _ | refine Sp.drewN ?_ _ | refine Sp.drew ?_)) (by repeat (first | exact S3_22.out | refine Sp.alloc ?_ _ | refine Sp.drewN ?_ _ | refine Sp.drew ?_)) (by omega) (by omega) (by omega)).mono ?_
            rintro e23 w23 ⟨B4, d4, B5, d5, B6, d6, rfl, hs23, ht23, hu23, hb23⟩
            have HB_23 : Hid (Below w.heap.size w w23) := bel_chain hb23 (by repeat (first | exact HB_22.out | refine bel_drewN ?_ _ | refine bel_drew ?_ | refine bel_alloc ?_ _))
            have S1_23 : Hid (Sp w23 A1 c1 (R)) := Sp.below (by repeat (first | exact S1_22.out | refine Sp.alloc ?_ _ | refine Sp.drewN ?_ _ | refine Sp.drew ?_)) hb23
            have S2_23 : Hid (Sp w23 A2 c2 (H)) := Sp.below (by repeat (first | exact S2_22.out | refine Sp.alloc ?_ _ | refine Sp.drewN ?_ _ | refine Sp.drew ?_)) hb23
            have S3_23 : Hid (Sp w23 A3 c3 (F)) := Sp.below (by repeat (first | exact S3_22.out | refine Sp.alloc ?_ _ | refine Sp.drewN ?_ _ | refine Sp.drew ?_)) hb23
            have Bs_23 : Hid (w23.heap[w.heap.size]? = some (.cells #[.bool he, .slice A1 R.length c1, .slice A2 H.length c2, .slice A3 F.length c3, .bool true, .bool true, .int .i64 ag, .bool jo] 52 (0, 0))) := blk_keep hb23 (blk_keep (W := w22) (by (repeat (first | exact Below.refl _ _ | refine bel_drewN ?_ _ | refine bel_drew ?_ | refine bel_alloc ?_ _ | refine bel_set ?_ (by simp) _))) Bs_22.out)
            have Bp_23 : Hid (w23.heap[w6.heap.size]? = some (.cells #[.bool false, .bool true] 4 (0, 0))) := blk_keep hb23 (blk_keep (W := w22) (by (repeat (first | exact Below.refl _ _ | refine bel_drewN ?_ _ | refine bel_drew ?_ | refine bel_alloc ?_ _ | refine bel_set ?_ (by simp) _))) Bp_22.out)
            have Bq_23 : Hid (w23.heap[wo.heap.size]? = some (.cells #[.bool false, .bool true] 4 (0, 0))) := blk_keep hb23 (blk_keep (W := w22) (by (repeat (first | exact Below.refl _ _ | refine bel_drewN ?_ _ | refine bel_drew ?_ | refine bel_alloc ?_ _ | refine bel_set ?_ (by simp) _))) Bq_22.out)
            have s0_23 : w23.cell? ⟨w.heap.size, 0, none⟩ = some (.bool he) := blk_cell Bs_23.out rfl
            have sf0_23 : w23.frozen? ⟨w.heap.size, 0, none⟩ = false := blk_frozen Bs_23.out
            have s1_23 : w23.cell? ⟨w.heap.size, 1, none⟩ = some (.slice A1 R.length c1) := blk_cell Bs_23.out rfl
            have sf1_23 : w23.frozen? ⟨w.heap.size, 1, none⟩ = false := blk_frozen Bs_23.out
            have s2_23 : w23.cell? ⟨w.heap.size, 2, none⟩ = some (.slice A2 H.length c2) := blk_cell Bs_23.out rfl
            have sf2_23 : w23.frozen? ⟨w.heap.size, 2, none⟩ = false := blk_frozen Bs_23.out
            have s3_23 : w23.cell? ⟨w.heap.size, 3, none⟩ = some (.slice A3 F.length c3) := blk_cell Bs_23.out rfl
            have sf3_23 : w23.frozen? ⟨w.heap.size, 3, none⟩ = false := blk_frozen Bs_23.out
            have s4_23 : w23.cell? ⟨w.heap.size, 4, none⟩ = some (.bool true) := blk_cell Bs_23.out rfl
            have sf4_23 : w23.frozen? ⟨w.heap.size, 4, none⟩ = false := blk_frozen Bs_23.out
            have s5_23 : w23.cell? ⟨w.heap.size, 5, none⟩ = some (.bool true) := blk_cell Bs_23.out rfl
            have sf5_23 : w23.frozen? ⟨w.heap.size, 5, none⟩ = false := blk_frozen Bs_23.out
            have s6_23 : w23.cell? ⟨w.heap.size, 6, none⟩ = some (.int .i64 ag) := blk_cell Bs_23.out rfl
            have sf6_23 : w23.frozen? ⟨w.heap.size, 6, none⟩ = false := blk_frozen Bs_23.out
            have s7_23 : w23.cell? ⟨w.heap.size, 7, none⟩ = some (.bool jo) := blk_cell Bs_23.out rfl
            have sf7_23 : w23.frozen? ⟨w.heap.size, 7, none⟩ = false := blk_frozen Bs_23.out
            have sz_23 : w.heap.size < w23.heap.size := blk_lt Bs_23.out
            have pz_23 : w6.heap.size < w23.heap.size := blk_lt Bp_23.out
            have qz_23 : wo.heap.size < w23.heap.size := blk_lt Bq_23.out
            have Sa1_23 : Hid (Sp w23 B4 d4 (X)) := hs23
            have Sa2_23 : Hid (Sp w23 B5 d5 (U)) := ht23
            have Sa3_23 : Hid (Sp w23 B6 d6 (V)) := hu23
            clear S1_22 S2_22 S3_22 Bs_22 s0_22 s1_22 s2_22 s3_22 s4_22 s5_22 s6_22 s7_22 sf0_22 sf1_22 sf2_22 sf3_22 sf4_22 sf5_22 sf6_22 sf7_22 sz_22 Bp_22 pz_22 Bq_22 qz_22 hs23 ht23 hu23 HB_22 hb23
            go_wp2_with fail
            refine (sure_as he B4 d4 X B5 d5 U B6 d6 V true true ag jo false HBW.out _ (by repeat (first | exact Sa1_23.out | refine Sp.alloc ?_ _ | refine Sp.drewN ?_ _ | refine Sp.drew ?_)) (by repeat (first | exact Sa2_23.out | refine Sp.alloc ?_ _ | refine Sp.drewN ?_ _ | refine Sp.drew ?_)) (by repeat (first | exact Sa3_23.out | refine Sp.alloc ?_ _ | refine Sp.drewN ?_ _ | refine Sp.drew ?_)) K1.out K2.out K3.out (by omega) (by omega) (by omega)).mono ?_
            rintro e24 w24 ⟨rfl, hb24⟩
            have HB_24 : Hid (Below w.heap.size w w24) := bel_chain hb24 (by repeat (first | exact HB_23.out | refine bel_drewN ?_ _ | refine bel_drew ?_ | refine bel_alloc ?_ _))
            have S1_24 : Hid (Sp w24 A1 c1 (R)) := Sp.below (by repeat (first | exact S1_23.out | refine Sp.alloc ?_ _ | refine Sp.drewN ?_ _ | refine Sp.drew ?_)) hb24
            have S2_24 : Hid (Sp w24 A2 c2 (H)) := Sp.below (by repeat (first | exact S2_23.out | refine Sp.alloc ?_ _ | refine Sp.drewN ?_ _ | refine Sp.drew ?_)) hb24
            have S3_24 : Hid (Sp w24 A3 c3 (F)) := Sp.below (by repeat (first | exact S3_23.out | refine Sp.alloc ?_ _ | refine Sp.drewN ?_ _ | refine Sp.drew ?_)) hb24
            have Sa1_24 : Hid (Sp w24 B4 d4 (X)) := Sp.below (by repeat (first | exact Sa1_23.out | refine Sp.alloc ?_ _ | refine Sp.drewN ?_ _ | refine Sp.drew ?_)) hb24
            have Sa2_24 : Hid (Sp w24 B5 d5 (U)) := Sp.below (by repeat (first | exact Sa2_23.out | refine Sp.alloc ?_ _ | refine Sp.drewN ?_ _ | refine Sp.drew ?_)) hb24
            have Sa3_24 : Hid (Sp w24 B6 d6 (V)) := Sp.below (by repeat (first | exact Sa3_23.out | refine Sp.alloc ?_ _ | refine Sp.drewN ?_ _ | refine Sp.drew ?_)) hb24
            have Bs_24 : Hid (w24.heap[w.heap.size]? = some (.cells #[.bool he, .slice A1 R.length c1, .slice A2 H.length c2, .slice A3 F.length c3, .bool true, .bool true, .int .i64 ag, .bool jo] 52 (0, 0))) := blk_keep hb24 (blk_keep (W := w23) (by (repeat (first | exact Below.refl _ _ | refine bel_drewN ?_ _ | refine bel_drew ?_ | refine bel_alloc ?_ _ | refine bel_set ?_ (by simp) _))) Bs_23.out)
            have Bp_24 : Hid (w24.heap[w6.heap.size]? = some (.cells #[.bool false, .bool true] 4 (0, 0))) := blk_keep hb24 (blk_keep (W := w23) (by (repeat (first | exact Below.refl _ _ | refine bel_drewN ?_ _ | refine bel_drew ?_ | refine bel_alloc ?_ _ | refine bel_set ?_ (by simp) _))) Bp_23.out)
            have Bq_24 : Hid (w24.heap[wo.heap.size]? = some (.cells #[.bool false, .bool true] 4 (0, 0))) := blk_keep hb24 (blk_keep (W := w23) (by (repeat (first | exact Below.refl _ _ | refine bel_drewN ?_ _ | refine bel_drew ?_ | refine bel_alloc ?_ _ | refine bel_set ?_ (by simp) _))) Bq_23.out)
            have s0_24 : w24.cell? ⟨w.heap.size, 0, none⟩ = some (.bool he) := blk_cell Bs_24.out rfl
            have sf0_24 : w24.frozen? ⟨w.heap.size, 0, none⟩ = false := blk_frozen Bs_24.out
            have s1_24 : w24.cell? ⟨w.heap.size, 1, none⟩ = some (.slice A1 R.length c1) := blk_cell Bs_24.out rfl
            have sf1_24 : w24.frozen? ⟨w.heap.size, 1, none⟩ = false := blk_frozen Bs_24.out
            have s2_24 : w24.cell? ⟨w.heap.size, 2, none⟩ = some (.slice A2 H.length c2) := blk_cell Bs_24.out rfl
            have sf2_24 : w24.frozen? ⟨w.heap.size, 2, none⟩ = false := blk_frozen Bs_24.out
            have s3_24 : w24.cell? ⟨w.heap.size, 3, none⟩ = some (.slice A3 F.length c3) := blk_cell Bs_24.out rfl
            have sf3_24 : w24.frozen? ⟨w.heap.size, 3, none⟩ = false := blk_frozen Bs_24.out
            have s4_24 : w24.cell? ⟨w.heap.size, 4, none⟩ = some (.bool true) := blk_cell Bs_24.out rfl
            have sf4_24 : w24.frozen? ⟨w.heap.size, 4, none⟩ = false := blk_frozen Bs_24.out
            have s5_24 : w24.cell? ⟨w.heap.size, 5, none⟩ = some (.bool true) := blk_cell Bs_24.out rfl
            have sf5_24 : w24.frozen? ⟨w.heap.size, 5, none⟩ = false := blk_frozen Bs_24.out
            have s6_24 : w24.cell? ⟨w.heap.size, 6, none⟩ = some (.int .i64 ag) := blk_cell Bs_24.out rfl
            have sf6_24 : w24.frozen? ⟨w.heap.size, 6, none⟩ = false := blk_frozen Bs_24.out
            have s7_24 : w24.cell? ⟨w.heap.size, 7, none⟩ = some (.bool jo) := blk_cell Bs_24.out rfl
            have sf7_24 : w24.frozen? ⟨w.heap.size, 7, none⟩ = false := blk_frozen Bs_24.out
            have sz_24 : w.heap.size < w24.heap.size := blk_lt Bs_24.out
            have pz_24 : w6.heap.size < w24.heap.size := blk_lt Bp_24.out
            have qz_24 : wo.heap.size < w24.heap.size := blk_lt Bq_24.out
            clear S1_23 S2_23 S3_23 Sa1_23 Sa2_23 Sa3_23 Bs_23 s0_23 s1_23 s2_23 s3_23 s4_23 s5_23 s6_23 s7_23 sf0_23 sf1_23 sf2_23 sf3_23 sf4_23 sf5_23 sf6_23 sf7_23 sz_23 Bp_23 pz_23 Bq_23 qz_23 HB_23 hb24
            clear Sa1_24
            clear Sa2_24
            clear Sa3_24
            go_wp2_with fail
            refine (own_as he A1 c1 R A2 c2 H A3 c3 F true true ag jo X U V HX.out HU.out HV.out _ (by repeat (first | exact S1_24.out | refine Sp.alloc ?_ _ | refine Sp.drewN ?_ _ | refine Sp.drew ?_)) (by repeat (first | exact S2_24.out | refine Sp.alloc ?_ _ | refine Sp.drewN ?_ _ | refine Sp.drew ?_)) (by repeat (first | exact S3_24.out | refine Sp.alloc ?_ _ | refine Sp.drewN ?_ _ | refine Sp.drew ?_)) (by omega) (by omega) (by omega)).mono ?_
            rintro e25 w25 ⟨C4, e4, C5, e5, C6, e6, rfl, hs25, ht25, hu25, hb25⟩
            have HB_25 : Hid (Below w.heap.size w w25) := bel_chain hb25 (by repeat (first | exact HB_24.out | refine bel_drewN ?_ _ | refine bel_drew ?_ | refine bel_alloc ?_ _))
            have S1_25 : Hid (Sp w25 A1 c1 (R)) := Sp.below (by repeat (first | exact S1_24.out | refine Sp.alloc ?_ _ | refine Sp.drewN ?_ _ | refine Sp.drew ?_)) hb25
            have S2_25 : Hid (Sp w25 A2 c2 (H)) := Sp.below (by repeat (first | exact S2_24.out | refine Sp.alloc ?_ _ | refine Sp.drewN ?_ _ | refine Sp.drew ?_)) hb25
            have S3_25 : Hid (Sp w25 A3 c3 (F)) := Sp.below (by repeat (first | exact S3_24.out | refine Sp.alloc ?_ _ | refine Sp.drewN ?_ _ | refine Sp.drew ?_)) hb25
            have Bs_25 : Hid (w25.heap[w.heap.size]? = some (.cells #[.bool he, .slice A1 R.length c1, .slice A2 H.length c2, .slice A3 F.length c3, .bool true, .bool true, .int .i64 ag, .bool jo] 52 (0, 0))) := blk_keep hb25 (blk_keep (W := w24) (by (repeat (first | exact Below.refl _ _ | refine bel_drewN ?_ _ | refine bel_drew ?_ | refine bel_alloc ?_ _ | refine bel_set ?_ (by simp) _))) Bs_24.out)
            have Bp_25 : Hid (w25.heap[w6.heap.size]? = some (.cells #[.bool false, .bool true] 4 (0, 0))) := blk_keep hb25 (blk_keep (W := w24) (by (repeat (first | exact Below.refl _ _ | refine bel_drewN ?_ _ | refine bel_drew ?_ | refine bel_alloc ?_ _ | refine bel_set ?_ (by simp) _))) Bp_24.out)
            have Bq_25 : Hid (w25.heap[wo.heap.size]? = some (.cells #[.bool false, .bool true] 4 (0, 0))) := blk_keep hb25 (blk_keep (W := w24) (by (repeat (first | exact Below.refl _ _ | refine bel_drewN ?_ _ | refine bel_drew ?_ | refine bel_alloc ?_ _ | refine bel_set ?_ (by simp) _))) Bq_24.out)
            have s0_25 : w25.cell? ⟨w.heap.size, 0, none⟩ = some (.bool he) := blk_cell Bs_25.out rfl
            have sf0_25 : w25.frozen? ⟨w.heap.size, 0, none⟩ = false := blk_frozen Bs_25.out
            have s1_25 : w25.cell? ⟨w.heap.size, 1, none⟩ = some (.slice A1 R.length c1) := blk_cell Bs_25.out rfl
            have sf1_25 : w25.frozen? ⟨w.heap.size, 1, none⟩ = false := blk_frozen Bs_25.out
            have s2_25 : w25.cell? ⟨w.heap.size, 2, none⟩ = some (.slice A2 H.length c2) := blk_cell Bs_25.out rfl
            have sf2_25 : w25.frozen? ⟨w.heap.size, 2, none⟩ = false := blk_frozen Bs_25.out
            have s3_25 : w25.cell? ⟨w.heap.size, 3, none⟩ = some (.slice A3 F.length c3) := blk_cell Bs_25.out rfl
            have sf3_25 : w25.frozen? ⟨w.heap.size, 3, none⟩ = false := blk_frozen Bs_25.out
            have s4_25 : w25.cell? ⟨w.heap.size, 4, none⟩ = some (.bool true) := blk_cell Bs_25.out rfl
            have sf4_25 : w25.frozen? ⟨w.heap.size, 4, none⟩ = false := blk_frozen Bs_25.out
            have s5_25 : w25.cell? ⟨w.heap.size, 5, none⟩ = some (.bool true) := blk_cell Bs_25.out rfl
            have sf5_25 : w25.frozen? ⟨w.heap.size, 5, none⟩ = false := blk_frozen Bs_25.out
            have s6_25 : w25.cell? ⟨w.heap.size, 6, none⟩ = some (.int .i64 ag) := blk_cell Bs_25.out rfl
            have sf6_25 : w25.frozen? ⟨w.heap.size, 6, none⟩ = false := blk_frozen Bs_25.out
            have s7_25 : w25.cell? ⟨w.heap.size, 7, none⟩ = some (.bool jo) := blk_cell Bs_25.out rfl
            have sf7_25 : w25.frozen? ⟨w.heap.size, 7, none⟩ = false := blk_frozen Bs_25.out
            have sz_25 : w.heap.size < w25.heap.size := blk_lt Bs_25.out
            have pz_25 : w6.heap.size < w25.heap.size := blk_lt Bp_25.out
            have qz_25 : wo.heap.size < w25.heap.size := blk_lt Bq_25.out
            have Sa1_25 : Hid (Sp w25 C4 e4 (X)) := hs25
            have Sa2_25 : Hid (Sp w25 C5 e5 (U)) := ht25
            have Sa3_25 : Hid (Sp w25 C6 e6 (V)) := hu25
            clear S1_24 S2_24 S3_24 Bs_24 s0_24 s1_24 s2_24 s3_24 s4_24 s5_24 s6_24 s7_24 sf0_24 sf1_24 sf2_24 sf3_24 sf4_24 sf5_24 sf6_24 sf7_24 sz_24 Bp_24 pz_24 Bq_24 qz_24 hs25 ht25 hu25 HB_24 hb25
            go_wp2_with fail
            refine (decide_any he C4 e4 X C5 e5 U C6 e6 V true true ag jo _ (by repeat (first | exact Sa1_25.out | refine Sp.alloc ?_ _ | refine Sp.drewN ?_ _ | refine Sp.drew ?_)) (by repeat (first | exact Sa2_25.out | refine Sp.alloc ?_ _ | refine Sp.drewN ?_ _ | refine Sp.drew ?_)) (by repeat (first | exact Sa3_25.out | refine Sp.alloc ?_ _ | refine Sp.drewN ?_ _ | refine Sp.drew ?_)) K1.out K2.out K3.out (by omega) (by omega) (by omega)).mono ?_
            rintro e26 w26 ⟨rfl, hb26⟩
            have HB_26 : Hid (Below w.heap.size w w26) := bel_chain hb26 (by repeat (first | exact HB_25.out | refine bel_drewN ?_ _ | refine bel_drew ?_ | refine bel_alloc ?_ _))
            have S1_26 : Hid (Sp w26 A1 c1 (R)) := Sp.below (by repeat (first | exact S1_25.out | refine Sp.alloc ?_ _ | refine Sp.drewN ?_ _ | refine Sp.drew ?_)) hb26
            have S2_26 : Hid (Sp w26 A2 c2 (H)) := Sp.below (by repeat (first | exact S2_25.out | refine Sp.alloc ?_ _ | refine Sp.drewN ?_ _ | refine Sp.drew ?_)) hb26
            have S3_26 : Hid (Sp w26 A3 c3 (F)) := Sp.below (by repeat (first | exact S3_25.out | refine Sp.alloc ?_ _ | refine Sp.drewN ?_ _ | refine Sp.drew ?_)) hb26
            have Sa1_26 : Hid (Sp w26 C4 e4 (X)) := Sp.below (by repeat (first | exact Sa1_25.out | refine Sp.alloc ?_ _ | refine Sp.drewN ?_ _ | refine Sp.drew ?_)) hb26
            have Sa2_26 : Hid (Sp w26 C5 e5 (U)) := Sp.below (by repeat (first | exact Sa2_25.out | refine Sp.alloc ?_ _ | refine Sp.drewN ?_ _ | refine Sp.drew ?_)) hb26
            have Sa3_26 : Hid (Sp w26 C6 e6 (V)) := Sp.below (by repeat (first | exact Sa3_25.out | refine Sp.alloc ?_ _ | refine Sp.drewN ?_ _ | refine Sp.drew ?_)) hb26
            have Bs_26 : Hid (w26.heap[w.heap.size]? = some (.cells #[.bool he, .slice A1 R.length c1, .slice A2 H.length c2, .slice A3 F.length c3, .bool true, .bool true, .int .i64 ag, .bool jo] 52 (0, 0))) := blk_keep hb26 (blk_keep (W := w25) (by (repeat (first | exact Below.refl _ _ | refine bel_drewN ?_ _ | refine bel_drew ?_ | refine bel_alloc ?_ _ | refine bel_set ?_ (by simp) _))) Bs_25.out)
            have Bp_26 : Hid (w26.heap[w6.heap.size]? = some (.cells #[.bool false, .bool true] 4 (0, 0))) := blk_keep hb26 (blk_keep (W := w25) (by (repeat (first | exact Below.refl _ _ | refine bel_drewN ?_ _ | refine bel_drew ?_ | refine bel_alloc ?_ _ | refine bel_set ?_ (by simp) _))) Bp_25.out)
            have Bq_26 : Hid (w26.heap[wo.heap.size]? = some (.cells #[.bool false, .bool true] 4 (0, 0))) := blk_keep hb26 (blk_keep (W := w25) (by (repeat (first | exact Below.refl _ _ | refine bel_drewN ?_ _ | refine bel_drew ?_ | refine bel_alloc ?_ _ | refine bel_set ?_ (by simp) _))) Bq_25.out)
            have s0_26 : w26.cell? ⟨w.heap.size, 0, none⟩ = some (.bool he) := blk_cell Bs_26.out rfl
            have sf0_26 : w26.frozen? ⟨w.heap.size, 0, none⟩ = false := blk_frozen Bs_26.out
            have s1_26 : w26.cell? ⟨w.heap.size, 1, none⟩ = some (.slice A1 R.length c1) := blk_cell Bs_26.out rfl
            have sf1_26 : w26.frozen? ⟨w.heap.size, 1, none⟩ = false := blk_frozen Bs_26.out
            have s2_26 : w26.cell? ⟨w.heap.size, 2, none⟩ = some (.slice A2 H.length c2) := blk_cell Bs_26.out rfl
            have sf2_26 : w26.frozen? ⟨w.heap.size, 2, none⟩ = false := blk_frozen Bs_26.out
            have s3_26 : w26.cell? ⟨w.heap.size, 3, none⟩ = some (.slice A3 F.length c3) := blk_cell Bs_26.out rfl
            have sf3_26 : w26.frozen? ⟨w.heap.size, 3, none⟩ = false := blk_frozen Bs_26.out
            have s4_26 : w26.cell? ⟨w.heap.size, 4, none⟩ = some (.bool true) := blk_cell Bs_26.out rfl
            have sf4_26 : w26.frozen? ⟨w.heap.size, 4, none⟩ = false := blk_frozen Bs_26.out
            have s5_26 : w26.cell? ⟨w.heap.size, 5, none⟩ = some (.bool true) := blk_cell Bs_26.out rfl
            have sf5_26 : w26.frozen? ⟨w.heap.size, 5, none⟩ = false := blk_frozen Bs_26.out
            have s6_26 : w26.cell? ⟨w.heap.size, 6, none⟩ = some (.int .i64 ag) := blk_cell Bs_26.out rfl
            have sf6_26 : w26.frozen? ⟨w.heap.size, 6, none⟩ = false := blk_frozen Bs_26.out
            have s7_26 : w26.cell? ⟨w.heap.size, 7, none⟩ = some (.bool jo) := blk_cell Bs_26.out rfl
            have sf7_26 : w26.frozen? ⟨w.heap.size, 7, none⟩ = false := blk_frozen Bs_26.out
            have sz_26 : w.heap.size < w26.heap.size := blk_lt Bs_26.out
            have pz_26 : w6.heap.size < w26.heap.size := blk_lt Bp_26.out
            have qz_26 : wo.heap.size < w26.heap.size := blk_lt Bq_26.out
            clear S1_25 S2_25 S3_25 Sa1_25 Sa2_25 Sa3_25 Bs_25 s0_25 s1_25 s2_25 s3_25 s4_25 s5_25 s6_25 s7_25 sf0_25 sf1_25 sf2_25 sf3_25 sf4_25 sf5_25 sf6_25 sf7_25 sz_25 Bp_25 pz_25 Bq_25 qz_25 HB_25 hb26
            clear Sa1_26
            clear Sa2_26
            clear Sa3_26
            go_wp2_with fail
            go_roundw
            case rel => first | exact ⟨2, true, true, by omega, by go_num, ⟨Bs_26.out, Bp_26.out, S1_26.out, S2_26.out, S3_26.out, HB_26.out⟩, Bq_26.out⟩ | ((repeat apply Exists.intro); exact ⟨⟨2, true, true, by omega, by go_num, ⟨Bs_26.out, Bp_26.out, S1_26.out, S2_26.out, S3_26.out, HB_26.out⟩, Bq_26.out⟩, rfl⟩)
            case measure => simp [intOf]
          · go_wp2_with fail
            go_roundw
            case rel => exact ⟨2, t2, f2, by omega, by go_num, ⟨Bs_20.out, Bp_20.out, S1_20.out, S2_20.out, S3_20.out, HB_20.out⟩⟩
            case measure => simp [intOf]
      · go_wp2_with fail
        go_ret
        exact ⟨rfl, HSA.out.bel⟩
end Go.Proofs.YtmbcnfgeobbldaaDoor
