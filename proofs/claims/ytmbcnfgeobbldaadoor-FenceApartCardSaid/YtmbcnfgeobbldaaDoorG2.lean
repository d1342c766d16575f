/- The walk of FenceApart. -/
import Derived.Test.YtmbcnfgeobbldaaDoorF6
import Derived.Test.YtmbcnfgeobbldaaDoorG0
namespace Go.Proofs.YtmbcnfgeobbldaaDoor
open Go.RowKit

set_option maxHeartbeats 4000000 in
set_option maxRecDepth 100000 in
theorem fenceApart_any (he : Bool) (A1 : Option Addr) (c1 : Nat) (R : List (Int × Int)) (A2 : Option Addr) (c2 : Nat) (H : List (Int × Int)) (A3 : Option Addr) (c3 : Nat) (F : List (Int × Int)) (tu fa : Bool) (ag : Int) (jo : Bool) (w : World) (h1 : Sp w A1 c1 R) (h2 : Sp w A2 c2 H) (h3 : Sp w A3 c3 F) (n1 : R.length ≤ 9223372036854775807) (n2 : H.length ≤ 9223372036854775807) (n3 : F.length ≤ 9223372036854775807) (hn : Names w) :
    Calls Tryd.prog 14 #[.agg #[.bool he, .slice A1 R.length c1, .slice A2 H.length c2, .slice A3 F.length c3, .bool tu, .bool fa, .int .i64 ag, .bool jo]] w fun e w' => e = .returned (.bool true) ∧ Below w.heap.size w w' := by
  have S1_0 := Lib.hid (h1)
  have S2_0 := Lib.hid (h2)
  have S3_0 := Lib.hid (h3)
  clear h1 h2 h3
  have HN := Lib.hid hn
  clear hn
  go_enter Tryd.func14, Tryd.ntmps14
  go_wp2_with fail
  refine (awake_any _ (HN.out.alloc _)).mono ?_
  rintro e1 w1 ⟨rfl, hb1⟩
  have HB_1 : Hid (Below w.heap.size w w1) := bel_chain hb1 (by repeat (first | exact Below.refl _ _ | refine bel_drewN ?_ _ | refine bel_drew ?_ | refine bel_alloc ?_ _))
  have S1_1 : Hid (Sp w1 A1 c1 (R)) := Sp.below (by repeat (first | exact S1_0.out | refine Sp.alloc ?_ _ | refine Sp.drewN ?_ _ | refine Sp.drew ?_)) hb1
  have S2_1 : Hid (Sp w1 A2 c2 (H)) := Sp.below (by repeat (first | exact S2_0.out | refine Sp.alloc ?_ _ | refine Sp.drewN ?_ _ | refine Sp.drew ?_)) hb1
  have S3_1 : Hid (Sp w1 A3 c3 (F)) := Sp.below (by repeat (first | exact S3_0.out | refine Sp.alloc ?_ _ | refine Sp.drewN ?_ _ | refine Sp.drew ?_)) hb1
  have Bs_1 : Hid (w1.heap[w.heap.size]? = some (.cells #[.bool he, .slice A1 R.length c1, .slice A2 H.length c2, .slice A3 F.length c3, .bool tu, .bool fa, .int .i64 ag, .bool jo] 52 (0, 0))) := blk_keep hb1 (by repeat (first | exact blk_new (by first | rfl | (simp; done) | (simp; omega)) | refine blk_skip ?_ | refine blk_drewN ?_ | refine blk_drew ?_))
  have s0_1 : w1.cell? ⟨w.heap.size, 0, none⟩ = some (.bool he) := blk_cell Bs_1.out rfl
  have s1_1 : w1.cell? ⟨w.heap.size, 1, none⟩ = some (.slice A1 R.length c1) := blk_cell Bs_1.out rfl
  have s2_1 : w1.cell? ⟨w.heap.size, 2, none⟩ = some (.slice A2 H.length c2) := blk_cell Bs_1.out rfl
  have s3_1 : w1.cell? ⟨w.heap.size, 3, none⟩ = some (.slice A3 F.length c3) := blk_cell Bs_1.out rfl
  have s4_1 : w1.cell? ⟨w.heap.size, 4, none⟩ = some (.bool tu) := blk_cell Bs_1.out rfl
  have s5_1 : w1.cell? ⟨w.heap.size, 5, none⟩ = some (.bool fa) := blk_cell Bs_1.out rfl
  have s6_1 : w1.cell? ⟨w.heap.size, 6, none⟩ = some (.int .i64 ag) := blk_cell Bs_1.out rfl
  have s7_1 : w1.cell? ⟨w.heap.size, 7, none⟩ = some (.bool jo) := blk_cell Bs_1.out rfl
  have sz_1 : w.heap.size < w1.heap.size := blk_lt Bs_1.out
  clear S1_0 S2_0 S3_0 hb1
  go_wp2_with fail
  refine (rgreat_any he A1 c1 R A2 c2 H A3 c3 F tu fa ag jo _ n1 n2 n3).mono ?_
  rintro e2 w2 ⟨rfl, hb2⟩
  have HB_2 : Hid (Below w.heap.size w w2) := bel_chain hb2 (by repeat (first | exact HB_1.out | refine bel_drewN ?_ _ | refine bel_drew ?_ | refine bel_alloc ?_ _))
  have S1_2 : Hid (Sp w2 A1 c1 (R)) := Sp.below (by repeat (first | exact S1_1.out | refine Sp.alloc ?_ _ | refine Sp.drewN ?_ _ | refine Sp.drew ?_)) hb2
  have S2_2 : Hid (Sp w2 A2 c2 (H)) := Sp.below (by repeat (first | exact S2_1.out | refine Sp.alloc ?_ _ | refine Sp.drewN ?_ _ | refine Sp.drew ?_)) hb2
  have S3_2 : Hid (Sp w2 A3 c3 (F)) := Sp.below (by repeat (first | exact S3_1.out | refine Sp.alloc ?_ _ | refine Sp.drewN ?_ _ | refine Sp.drew ?_)) hb2
  have Bs_2 : Hid (w2.heap[w.heap.size]? = some (.cells #[.bool he, .slice A1 R.length c1, .slice A2 H.length c2, .slice A3 F.length c3, .bool tu, .bool fa, .int .i64 ag, .bool jo] 52 (0, 0))) := blk_keep hb2 (blk_keep (W := w1) (by (repeat (first | exact Below.refl _ _ | refine bel_drewN ?_ _ | refine bel_drew ?_ | refine bel_alloc ?_ _ | refine bel_set ?_ (by simp) _))) Bs_1.out)
  have s0_2 : w2.cell? ⟨w.heap.size, 0, none⟩ = some (.bool he) := blk_cell Bs_2.out rfl
  have s1_2 : w2.cell? ⟨w.heap.size, 1, none⟩ = some (.slice A1 R.length c1) := blk_cell Bs_2.out rfl
  have s2_2 : w2.cell? ⟨w.heap.size, 2, none⟩ = some (.slice A2 H.length c2) := blk_cell Bs_2.out rfl
  have s3_2 : w2.cell? ⟨w.heap.size, 3, none⟩ = some (.slice A3 F.length c3) := blk_cell Bs_2.out rfl
  have s4_2 : w2.cell? ⟨w.heap.size, 4, none⟩ = some (.bool tu) := blk_cell Bs_2.out rfl
  have s5_2 : w2.cell? ⟨w.heap.size, 5, none⟩ = some (.bool fa) := blk_cell Bs_2.out rfl
  have s6_2 : w2.cell? ⟨w.heap.size, 6, none⟩ = some (.int .i64 ag) := blk_cell Bs_2.out rfl
  have s7_2 : w2.cell? ⟨w.heap.size, 7, none⟩ = some (.bool jo) := blk_cell Bs_2.out rfl
  have sz_2 : w.heap.size < w2.heap.size := blk_lt Bs_2.out
  clear S1_1 S2_1 S3_1 Bs_1 s0_1 s1_1 s2_1 s3_1 s4_1 s5_1 s6_1 s7_1 sz_1 HB_1 hb2
  cases hg : greatS R H F
  rotate_left
  · go_wp2_with fail
    refine (awake_any _ (HN.out.below HB_2.out)).mono ?_
    rintro e3 w3 ⟨rfl, hb3⟩
    have HB_3 : Hid (Below w.heap.size w w3) := bel_chain hb3 (by repeat (first | exact HB_2.out | refine bel_drewN ?_ _ | refine bel_drew ?_ | refine bel_alloc ?_ _))
    have S1_3 : Hid (Sp w3 A1 c1 (R)) := Sp.below (by repeat (first | exact S1_2.out | refine Sp.alloc ?_ _ | refine Sp.drewN ?_ _ | refine Sp.drew ?_)) hb3
    have S2_3 : Hid (Sp w3 A2 c2 (H)) := Sp.below (by repeat (first | exact S2_2.out | refine Sp.alloc ?_ _ | refine Sp.drewN ?_ _ | refine Sp.drew ?_)) hb3
    have S3_3 : Hid (Sp w3 A3 c3 (F)) := Sp.below (by repeat (first | exact S3_2.out | refine Sp.alloc ?_ _ | refine Sp.drewN ?_ _ | refine Sp.drew ?_)) hb3
    have Bs_3 : Hid (w3.heap[w.heap.size]? = some (.cells #[.bool he, .slice A1 R.length c1, .slice A2 H.length c2, .slice A3 F.length c3, .bool tu, .bool fa, .int .i64 ag, .bool jo] 52 (0, 0))) := blk_keep hb3 (blk_keep (W := w2) (by (repeat (first | exact Below.refl _ _ | refine bel_drewN ?_ _ | refine bel_drew ?_ | refine bel_alloc ?_ _ | refine bel_set ?_ (by simp) _))) Bs_2.out)
    have s0_3 : w3.cell? ⟨w.heap.size, 0, none⟩ = some (.bool he) := blk_cell Bs_3.out rfl
    have s1_3 : w3.cell? ⟨w.heap.size, 1, none⟩ = some (.slice A1 R.length c1) := blk_cell Bs_3.out rfl
    have s2_3 : w3.cell? ⟨w.heap.size, 2, none⟩ = some (.slice A2 H.length c2) := blk_cell Bs_3.out rfl
    have s3_3 : w3.cell? ⟨w.heap.size, 3, none⟩ = some (.slice A3 F.length c3) := blk_cell Bs_3.out rfl
    have s4_3 : w3.cell? ⟨w.heap.size, 4, none⟩ = some (.bool tu) := blk_cell Bs_3.out rfl
    have s5_3 : w3.cell? ⟨w.heap.size, 5, none⟩ = some (.bool fa) := blk_cell Bs_3.out rfl
    have s6_3 : w3.cell? ⟨w.heap.size, 6, none⟩ = some (.int .i64 ag) := blk_cell Bs_3.out rfl
    have s7_3 : w3.cell? ⟨w.heap.size, 7, none⟩ = some (.bool jo) := blk_cell Bs_3.out rfl
    have sz_3 : w.heap.size < w3.heap.size := blk_lt Bs_3.out
    clear S1_2 S2_2 S3_2 Bs_2 s0_2 s1_2 s2_2 s3_2 s4_2 s5_2 s6_2 s7_2 sz_2 HB_2 hb3
    go_wp2_with fail
    go_ret
    exact ⟨rfl, (by repeat (first | (with_reducible exact HB_3.out) | (with_reducible refine bel_drewN ?_ _) | (with_reducible refine bel_drew ?_) | (with_reducible refine bel_alloc ?_ _) | (with_reducible refine bel_set ?_ (by first | omega | (dsimp only; omega)) _)))⟩
  · have hgs : R.length ≤ 12 ∧ H.length ≤ 12 ∧ F.length ≤ 12 := by simp [greatS] at hg; omega
    obtain ⟨l1, l2, l3⟩ := hgs
    have m1 := cano_length R
    have m2 := cano_length H
    have m3 := cano_length F
    have K1 := Lib.hid (cano_canon R)
    have K2 := Lib.hid (cano_canon H)
    have K3 := Lib.hid (cano_canon F)
    clear hg
    obtain ⟨X, hX⟩ : ∃ X, cano R = X := ⟨_, rfl⟩
    obtain ⟨U, hU⟩ : ∃ U, cano H = U := ⟨_, rfl⟩
    obtain ⟨V, hV⟩ : ∃ V, cano F = V := ⟨_, rfl⟩
    rw [hX] at K1 m1
    rw [hU] at K2 m2
    rw [hV] at K3 m3
    have HX := Lib.hid hX
    have HU := Lib.hid hU
    have HV := Lib.hid hV
    clear hX hU hV
    have KY := Lib.hid (lostL_canon tu fa jo X U V)
    have ly := lostL_length tu fa jo X U V
    have HL := fun W A1 c1 A2 c2 A3 c3 h1 h2 h3 => Lib.hid (lost_any he A1 c1 X A2 c2 U A3 c3 V tu fa ag jo W h1 h2 h3 K1.out K2.out K3.out (by omega) (by omega) (by omega))
    have HDE := Lib.hid (fun v e W A1 c1 A2 c2 A3 c3 h1 h2 h3 => decide_as he A1 c1 X A2 c2 U A3 c3 V tu fa ag jo v e W h1 h2 h3 K1.out K2.out K3.out (by omega) (by omega) (by omega))
    rcases nil_or X with hR | ⟨x1, x2, r, hR⟩
    · have HV4 : Hid (decideL he tu fa jo ag X U V = 6) := decideL_nil hR
      have HR := Lib.hid hR
      clear hR
      go_wp2_with fail
      refine (own_as he A1 c1 R A2 c2 H A3 c3 F tu fa ag jo X U V HX.out HU.out HV.out _ (by repeat (first | exact S1_2.out | refine Sp.alloc ?_ _ | refine Sp.drewN ?_ _ | refine Sp.drew ?_)) (by repeat (first | exact S2_2.out | refine Sp.alloc ?_ _ | refine Sp.drewN ?_ _ | refine Sp.drew ?_)) (by repeat (first | exact S3_2.out | refine Sp.alloc ?_ _ | refine Sp.drewN ?_ _ | refine Sp.drew ?_)) (by omega) (by omega) (by omega)).mono ?_
      rintro e3 w3 ⟨B1, d1, B2, d2, B3, d3, rfl, hs3, ht3, hu3, hb3⟩
      have HB_3 : Hid (Below w.heap.size w w3) := bel_chain hb3 (by repeat (first | exact HB_2.out | refine bel_drewN ?_ _ | refine bel_drew ?_ | refine bel_alloc ?_ _))
      have S1_3 : Hid (Sp w3 A1 c1 (R)) := Sp.below (by repeat (first | exact S1_2.out | refine Sp.alloc ?_ _ | refine Sp.drewN ?_ _ | refine Sp.drew ?_)) hb3
      have S2_3 : Hid (Sp w3 A2 c2 (H)) := Sp.below (by repeat (first | exact S2_2.out | refine Sp.alloc ?_ _ | refine Sp.drewN ?_ _ | refine Sp.drew ?_)) hb3
      have S3_3 : Hid (Sp w3 A3 c3 (F)) := Sp.below (by repeat (first | exact S3_2.out | refine Sp.alloc ?_ _ | refine Sp.drewN ?_ _ | refine Sp.drew ?_)) hb3
      have Bs_3 : Hid (w3.heap[w.heap.size]? = some (.cells #[.bool he, .slice A1 R.length c1, .slice A2 H.length c2, .slice A3 F.length c3, .bool tu, .bool fa, .int .i64 ag, .bool jo] 52 (0, 0))) := blk_keep hb3 (blk_keep (W := w2) (by (repeat (first | exact Below.refl _ _ | refine bel_drewN ?_ _ | refine bel_drew ?_ | refine bel_alloc ?_ _ | refine bel_set ?_ (by simp) _))) Bs_2.out)
      have s0_3 : w3.cell? ⟨w.heap.size, 0, none⟩ = some (.bool he) := blk_cell Bs_3.out rfl
      have s1_3 : w3.cell? ⟨w.heap.size, 1, none⟩ = some (.slice A1 R.length c1) := blk_cell Bs_3.out rfl
      have s2_3 : w3.cell? ⟨w.heap.size, 2, none⟩ = some (.slice A2 H.length c2) := blk_cell Bs_3.out rfl
      have s3_3 : w3.cell? ⟨w.heap.size, 3, none⟩ = some (.slice A3 F.length c3) := blk_cell Bs_3.out rfl
      have s4_3 : w3.cell? ⟨w.heap.size, 4, none⟩ = some (.bool tu) := blk_cell Bs_3.out rfl
      have s5_3 : w3.cell? ⟨w.heap.size, 5, none⟩ = some (.bool fa) := blk_cell Bs_3.out rfl
      have s6_3 : w3.cell? ⟨w.heap.size, 6, none⟩ = some (.int .i64 ag) := blk_cell Bs_3.out rfl
      have s7_3 : w3.cell? ⟨w.heap.size, 7, none⟩ = some (.bool jo) := blk_cell Bs_3.out rfl
      have sz_3 : w.heap.size < w3.heap.size := blk_lt Bs_3.out
      have Sa1_3 : Hid (Sp w3 B1 d1 (X)) := hs3
      have Sa2_3 : Hid (Sp w3 B2 d2 (U)) := ht3
      have Sa3_3 : Hid (Sp w3 B3 d3 (V)) := hu3
      clear S1_2 S2_2 S3_2 Bs_2 s0_2 s1_2 s2_2 s3_2 s4_2 s5_2 s6_2 s7_2 sz_2 hs3 ht3 hu3 HB_2 hb3
      go_wp2_with fail
      refine (HDE.out 6 HV4.out _ B1 d1 B2 d2 B3 d3 (by repeat (first | exact Sa1_3.out | refine Sp.alloc ?_ _ | refine Sp.drewN ?_ _ | refine Sp.drew ?_)) (by repeat (first | exact Sa2_3.out | refine Sp.alloc ?_ _ | refine Sp.drewN ?_ _ | refine Sp.drew ?_)) (by repeat (first | exact Sa3_3.out | refine Sp.alloc ?_ _ | refine Sp.drewN ?_ _ | refine Sp.drew ?_))).mono ?_
      rintro e4 w4 ⟨rfl, hb4⟩
      have HB_4 : Hid (Below w.heap.size w w4) := bel_chain hb4 (by repeat (first | exact HB_3.out | refine bel_drewN ?_ _ | refine bel_drew ?_ | refine bel_alloc ?_ _))
      have S1_4 : Hid (Sp w4 A1 c1 (R)) := Sp.below (by repeat (first | exact S1_3.out | refine Sp.alloc ?_ _ | refine Sp.drewN ?_ _ | refine Sp.drew ?_)) hb4
      have S2_4 : Hid (Sp w4 A2 c2 (H)) := Sp.below (by repeat (first | exact S2_3.out | refine Sp.alloc ?_ _ | refine Sp.drewN ?_ _ | refine Sp.drew ?_)) hb4
      have S3_4 : Hid (Sp w4 A3 c3 (F)) := Sp.below (by repeat (first | exact S3_3.out | refine Sp.alloc ?_ _ | refine Sp.drewN ?_ _ | refine Sp.drew ?_)) hb4
      have Sa1_4 : Hid (Sp w4 B1 d1 (X)) := Sp.below (by repeat (first | exact Sa1_3.out | refine Sp.alloc ?_ _ | refine Sp.drewN ?_ _ | refine Sp.drew ?_)) hb4
      have Sa2_4 : Hid (Sp w4 B2 d2 (U)) := Sp.below (by repeat (first | exact Sa2_3.out | refine Sp.alloc ?_ _ | refine Sp.drewN ?_ _ | refine Sp.drew ?_)) hb4
      have Sa3_4 : Hid (Sp w4 B3 d3 (V)) := Sp.below (by repeat (first | exact Sa3_3.out | refine Sp.alloc ?_ _ | refine Sp.drewN ?_ _ | refine Sp.drew ?_)) hb4
      have Bs_4 : Hid (w4.heap[w.heap.size]? = some (.cells #[.bool he, .slice A1 R.length c1, .slice A2 H.length c2, .slice A3 F.length c3, .bool tu, .bool fa, .int .i64 ag, .bool jo] 52 (0, 0))) := blk_keep hb4 (blk_keep (W := w3) (by (repeat (first | exact Below.refl _ _ | refine bel_drewN ?_ _ | refine bel_drew ?_ | refine bel_alloc ?_ _ | refine bel_set ?_ (by simp) _))) Bs_3.out)
      have ord0 : w.heap.size < w3.heap.size := by omega
      have Bx_4 : Hid (w4.heap[w3.heap.size]? = some (.cells #[.bool he, .slice B1 X.length d1, .slice B2 U.length d2, .slice B3 V.length d3, .bool tu, .bool fa, .int .i64 ag, .bool jo] 56 (0, 0))) := blk_keep hb4 (by repeat (first | exact blk_new (by first | rfl | (simp; done) | (simp; omega)) | refine blk_skip ?_ | refine blk_drewN ?_ | refine blk_drew ?_))
      have s0_4 : w4.cell? ⟨w.heap.size, 0, none⟩ = some (.bool he) := blk_cell Bs_4.out rfl
      have s1_4 : w4.cell? ⟨w.heap.size, 1, none⟩ = some (.slice A1 R.length c1) := blk_cell Bs_4.out rfl
      have s2_4 : w4.cell? ⟨w.heap.size, 2, none⟩ = some (.slice A2 H.length c2) := blk_cell Bs_4.out rfl
      have s3_4 : w4.cell? ⟨w.heap.size, 3, none⟩ = some (.slice A3 F.length c3) := blk_cell Bs_4.out rfl
      have s4_4 : w4.cell? ⟨w.heap.size, 4, none⟩ = some (.bool tu) := blk_cell Bs_4.out rfl
      have s5_4 : w4.cell? ⟨w.heap.size, 5, none⟩ = some (.bool fa) := blk_cell Bs_4.out rfl
      have s6_4 : w4.cell? ⟨w.heap.size, 6, none⟩ = some (.int .i64 ag) := blk_cell Bs_4.out rfl
      have s7_4 : w4.cell? ⟨w.heap.size, 7, none⟩ = some (.bool jo) := blk_cell Bs_4.out rfl
      have sz_4 : w.heap.size < w4.heap.size := blk_lt Bs_4.out
      have x0_4 : w4.cell? ⟨w3.heap.size, 0, none⟩ = some (.bool he) := blk_cell Bx_4.out rfl
      have x1_4 : w4.cell? ⟨w3.heap.size, 1, none⟩ = some (.slice B1 X.length d1) := blk_cell Bx_4.out rfl
      have x2_4 : w4.cell? ⟨w3.heap.size, 2, none⟩ = some (.slice B2 U.length d2) := blk_cell Bx_4.out rfl
      have x3_4 : w4.cell? ⟨w3.heap.size, 3, none⟩ = some (.slice B3 V.length d3) := blk_cell Bx_4.out rfl
      have x4_4 : w4.cell? ⟨w3.heap.size, 4, none⟩ = some (.bool tu) := blk_cell Bx_4.out rfl
      have x5_4 : w4.cell? ⟨w3.heap.size, 5, none⟩ = some (.bool fa) := blk_cell Bx_4.out rfl
      have x6_4 : w4.cell? ⟨w3.heap.size, 6, none⟩ = some (.int .i64 ag) := blk_cell Bx_4.out rfl
      have x7_4 : w4.cell? ⟨w3.heap.size, 7, none⟩ = some (.bool jo) := blk_cell Bx_4.out rfl
      have xz_4 : w3.heap.size < w4.heap.size := blk_lt Bx_4.out
      clear S1_3 S2_3 S3_3 Sa1_3 Sa2_3 Sa3_3 Bs_3 s0_3 s1_3 s2_3 s3_3 s4_3 s5_3 s6_3 s7_3 sz_3 HB_3 hb4
      go_wp2_with fail
      refine (first_as0 B1 d1 X HR.out _ (by repeat (first | exact Sa1_4.out | refine Sp.alloc ?_ _ | refine Sp.drewN ?_ _ | refine Sp.drew ?_))).mono ?_
      rintro e5 w5 ⟨rfl, hb5⟩
      have HB_5 : Hid (Below w.heap.size w w5) := bel_chain hb5 (by repeat (first | exact HB_4.out | refine bel_drewN ?_ _ | refine bel_drew ?_ | refine bel_alloc ?_ _))
      have S1_5 : Hid (Sp w5 A1 c1 (R)) := Sp.below (by repeat (first | exact S1_4.out | refine Sp.alloc ?_ _ | refine Sp.drewN ?_ _ | refine Sp.drew ?_)) hb5
      have S2_5 : Hid (Sp w5 A2 c2 (H)) := Sp.below (by repeat (first | exact S2_4.out | refine Sp.alloc ?_ _ | refine Sp.drewN ?_ _ | refine Sp.drew ?_)) hb5
      have S3_5 : Hid (Sp w5 A3 c3 (F)) := Sp.below (by repeat (first | exact S3_4.out | refine Sp.alloc ?_ _ | refine Sp.drewN ?_ _ | refine Sp.drew ?_)) hb5
      have Sa1_5 : Hid (Sp w5 B1 d1 (X)) := Sp.below (by repeat (first | exact Sa1_4.out | refine Sp.alloc ?_ _ | refine Sp.drewN ?_ _ | refine Sp.drew ?_)) hb5
      have Sa2_5 : Hid (Sp w5 B2 d2 (U)) := Sp.below (by repeat (first | exact Sa2_4.out | refine Sp.alloc ?_ _ | refine Sp.drewN ?_ _ | refine Sp.drew ?_)) hb5
      have Sa3_5 : Hid (Sp w5 B3 d3 (V)) := Sp.below (by repeat (first | exact Sa3_4.out | refine Sp.alloc ?_ _ | refine Sp.drewN ?_ _ | refine Sp.drew ?_)) hb5
      have Bs_5 : Hid (w5.heap[w.heap.size]? = some (.cells #[.bool he, .slice A1 R.length c1, .slice A2 H.length c2, .slice A3 F.length c3, .bool tu, .bool fa, .int .i64 ag, .bool jo] 52 (0, 0))) := blk_keep hb5 (blk_keep (W := w4) (by (repeat (first | exact Below.refl _ _ | refine bel_drewN ?_ _ | refine bel_drew ?_ | refine bel_alloc ?_ _ | refine bel_set ?_ (by simp) _))) Bs_4.out)
      have Bx_5 : Hid (w5.heap[w3.heap.size]? = some (.cells #[.bool he, .slice B1 X.length d1, .slice B2 U.length d2, .slice B3 V.length d3, .bool tu, .bool fa, .int .i64 ag, .bool jo] 56 (0, 0))) := blk_keep hb5 (blk_keep (W := w4) (by (repeat (first | exact Below.refl _ _ | refine bel_drewN ?_ _ | refine bel_drew ?_ | refine bel_alloc ?_ _ | refine bel_set ?_ (by simp) _))) Bx_4.out)
      have s0_5 : w5.cell? ⟨w.heap.size, 0, none⟩ = some (.bool he) := blk_cell Bs_5.out rfl
      have s1_5 : w5.cell? ⟨w.heap.size, 1, none⟩ = some (.slice A1 R.length c1) := blk_cell Bs_5.out rfl
      have s2_5 : w5.cell? ⟨w.heap.size, 2, none⟩ = some (.slice A2 H.length c2) := blk_cell Bs_5.out rfl
      have s3_5 : w5.cell? ⟨w.heap.size, 3, none⟩ = some (.slice A3 F.length c3) := blk_cell Bs_5.out rfl
      have s4_5 : w5.cell? ⟨w.heap.size, 4, none⟩ = some (.bool tu) := blk_cell Bs_5.out rfl
      have s5_5 : w5.cell? ⟨w.heap.size, 5, none⟩ = some (.bool fa) := blk_cell Bs_5.out rfl
      have s6_5 : w5.cell? ⟨w.heap.size, 6, none⟩ = some (.int .i64 ag) := blk_cell Bs_5.out rfl
      have s7_5 : w5.cell? ⟨w.heap.size, 7, none⟩ = some (.bool jo) := blk_cell Bs_5.out rfl
      have sz_5 : w.heap.size < w5.heap.size := blk_lt Bs_5.out
      have x0_5 : w5.cell? ⟨w3.heap.size, 0, none⟩ = some (.bool he) := blk_cell Bx_5.out rfl
      have x1_5 : w5.cell? ⟨w3.heap.size, 1, none⟩ = some (.slice B1 X.length d1) := blk_cell Bx_5.out rfl
      have x2_5 : w5.cell? ⟨w3.heap.size, 2, none⟩ = some (.slice B2 U.length d2) := blk_cell Bx_5.out rfl
      have x3_5 : w5.cell? ⟨w3.heap.size, 3, none⟩ = some (.slice B3 V.length d3) := blk_cell Bx_5.out rfl
      have x4_5 : w5.cell? ⟨w3.heap.size, 4, none⟩ = some (.bool tu) := blk_cell Bx_5.out rfl
      have x5_5 : w5.cell? ⟨w3.heap.size, 5, none⟩ = some (.bool fa) := blk_cell Bx_5.out rfl
      have x6_5 : w5.cell? ⟨w3.heap.size, 6, none⟩ = some (.int .i64 ag) := blk_cell Bx_5.out rfl
      have x7_5 : w5.cell? ⟨w3.heap.size, 7, none⟩ = some (.bool jo) := blk_cell Bx_5.out rfl
      have xz_5 : w3.heap.size < w5.heap.size := blk_lt Bx_5.out
      clear S1_4 S2_4 S3_4 Sa1_4 Sa2_4 Sa3_4 Bs_4 s0_4 s1_4 s2_4 s3_4 s4_4 s5_4 s6_4 s7_4 sz_4 Bx_4 x0_4 x1_4 x2_4 x3_4 x4_4 x5_4 x6_4 x7_4 xz_4 HB_4 hb5
      go_wp2_with fail
      go_ret
      exact ⟨rfl, (by repeat (first | (with_reducible exact HB_5.out) | (with_reducible refine bel_drewN ?_ _) | (with_reducible refine bel_drew ?_) | (with_reducible refine bel_alloc ?_ _) | (with_reducible refine bel_set ?_ (by first | omega | (dsimp only; omega)) _)))⟩
    · have HDC := Lib.hid (decideL_cons (he := he) (tu := tu) (fa := fa) (jo := jo) (ag := ag) (H := U) (F := V) hR)
      have HLF : Hid (inB U x1 = false → inB V x1 = false → inB (lostL tu fa jo X U V) x1 = !(lostL tu fa jo X U V).isEmpty) := fun a b => lost_first' hR K1.out a b
      have HR := Lib.hid hR
      generalize lostL tu fa jo X U V = Y at *
      have HU1 := fun W A c h => Lib.hid (has_any A c U x1 W h K2.out (by omega))
      have HV1 := fun W A c h => Lib.hid (has_any A c V x1 W h K3.out (by omega))
      have HY1 := fun W A c h => Lib.hid (has_any A c Y x1 W h KY.out (by omega))
      have HLN := fun W A c h => Lib.hid (len_any A c Y W h KY.out (by omega))
      generalize decideL he tu fa jo ag X U V = dv at HDE HDC
      clear hR
      cases hY : Y.isEmpty
      · have HLP := Lib.hid (lenL_pos KY.out hY)
        have hlp := HLP.out
        generalize lenL Y = ln at HLN hlp HLP
        have hlp2 : (ln != 0) = true := by simpa using hlp
        cases he
        · by_cases hag : 0 < ag
          · have HV4 : Hid (dv = 4) := by simp only [Hid]; rw [HDC.out]; simp [hY, hag]
            clear hY HDC
            go_wp2_with fail
            refine (own_as false A1 c1 R A2 c2 H A3 c3 F tu fa ag jo X U V HX.out HU.out HV.out _ (by repeat (first | exact S1_2.out | refine Sp.alloc ?_ _ | refine Sp.drewN ?_ _ | refine Sp.drew ?_)) (by repeat (first | exact S2_2.out | refine Sp.alloc ?_ _ | refine Sp.drewN ?_ _ | refine Sp.drew ?_)) (by repeat (first | exact S3_2.out | refine Sp.alloc ?_ _ | refine Sp.drewN ?_ _ | refine Sp.drew ?_)) (by omega) (by omega) (by omega)).mono ?_
            rintro e3 w3 ⟨B1, d1, B2, d2, B3, d3, rfl, hs3, ht3, hu3, hb3⟩
            have HB_3 : Hid (Below w.heap.size w w3) := bel_chain hb3 (by repeat (first | exact HB_2.out | refine bel_drewN ?_ _ | refine bel_drew ?_ | refine bel_alloc ?_ _))
            have S1_3 : Hid (Sp w3 A1 c1 (R)) := Sp.below (by repeat (first | exact S1_2.out | refine Sp.alloc ?_ _ | refine Sp.drewN ?_ _ | refine Sp.drew ?_)) hb3
            have S2_3 : Hid (Sp w3 A2 c2 (H)) := Sp.below (by repeat (first | exact S2_2.out | refine Sp.alloc ?_ _ | refine Sp.drewN ?_ _ | refine Sp.drew ?_)) hb3
            have S3_3 : Hid (Sp w3 A3 c3 (F)) := Sp.below (by repeat (first | exact S3_2.out | refine Sp.alloc ?_ _ | refine Sp.drewN ?_ _ | refine Sp.drew ?_)) hb3
            have Bs_3 : Hid (w3.heap[w.heap.size]? = some (.cells #[.bool false, .slice A1 R.length c1, .slice A2 H.length c2, .slice A3 F.length c3, .bool tu, .bool fa, .int .i64 ag, .bool jo] 52 (0, 0))) := blk_keep hb3 (blk_keep (W := w2) (by (repeat (first | exact Below.refl _ _ | refine bel_drewN ?_ _ | refine bel_drew ?_ | refine bel_alloc ?_ _ | refine bel_set ?_ (by simp) _))) Bs_2.out)
            have s0_3 : w3.cell? ⟨w.heap.size, 0, none⟩ = some (.bool false) := blk_cell Bs_3.out rfl
            have s1_3 : w3.cell? ⟨w.heap.size, 1, none⟩ = some (.slice A1 R.length c1) := blk_cell Bs_3.out rfl
            have s2_3 : w3.cell? ⟨w.heap.size, 2, none⟩ = some (.slice A2 H.length c2) := blk_cell Bs_3.out rfl
            have s3_3 : w3.cell? ⟨w.heap.size, 3, none⟩ = some (.slice A3 F.length c3) := blk_cell Bs_3.out rfl
            have s4_3 : w3.cell? ⟨w.heap.size, 4, none⟩ = some (.bool tu) := blk_cell Bs_3.out rfl
            have s5_3 : w3.cell? ⟨w.heap.size, 5, none⟩ = some (.bool fa) := blk_cell Bs_3.out rfl
            have s6_3 : w3.cell? ⟨w.heap.size, 6, none⟩ = some (.int .i64 ag) := blk_cell Bs_3.out rfl
            have s7_3 : w3.cell? ⟨w.heap.size, 7, none⟩ = some (.bool jo) := blk_cell Bs_3.out rfl
            have sz_3 : w.heap.size < w3.heap.size := blk_lt Bs_3.out
            have Sa1_3 : Hid (Sp w3 B1 d1 (X)) := hs3
            have Sa2_3 : Hid (Sp w3 B2 d2 (U)) := ht3
            have Sa3_3 : Hid (Sp w3 B3 d3 (V)) := hu3
            clear S1_2 S2_2 S3_2 Bs_2 s0_2 s1_2 s2_2 s3_2 s4_2 s5_2 s6_2 s7_2 sz_2 hs3 ht3 hu3 HB_2 hb3
            go_wp2_with fail
            refine (HDE.out 4 HV4.out _ B1 d1 B2 d2 B3 d3 (by repeat (first | exact Sa1_3.out | refine Sp.alloc ?_ _ | refine Sp.drewN ?_ _ | refine Sp.drew ?_)) (by repeat (first | exact Sa2_3.out | refine Sp.alloc ?_ _ | refine Sp.drewN ?_ _ | refine Sp.drew ?_)) (by repeat (first | exact Sa3_3.out | refine Sp.alloc ?_ _ | refine Sp.drewN ?_ _ | refine Sp.drew ?_))).mono ?_
            rintro e4 w4 ⟨rfl, hb4⟩
            have HB_4 : Hid (Below w.heap.size w w4) := bel_chain hb4 (by repeat (first | exact HB_3.out | refine bel_drewN ?_ _ | refine bel_drew ?_ | refine bel_alloc ?_ _))
            have S1_4 : Hid (Sp w4 A1 c1 (R)) := Sp.below (by repeat (first | exact S1_3.out | refine Sp.alloc ?_ _ | refine Sp.drewN ?_ _ | refine Sp.drew ?_)) hb4
            have S2_4 : Hid (Sp w4 A2 c2 (H)) := Sp.below (by repeat (first | exact S2_3.out | refine Sp.alloc ?_ _ | refine Sp.drewN ?_ _ | refine Sp.drew ?_)) hb4
            have S3_4 : Hid (Sp w4 A3 c3 (F)) := Sp.below (by repeat (first | exact S3_3.out | refine Sp.alloc ?_ _ | refine Sp.drewN ?_ _ | refine Sp.drew ?_)) hb4
            have Sa1_4 : Hid (Sp w4 B1 d1 (X)) := Sp.below (by repeat (first | exact Sa1_3.out | refine Sp.alloc ?_ _ | refine Sp.drewN ?_ _ | refine Sp.drew ?_)) hb4
            have Sa2_4 : Hid (Sp w4 B2 d2 (U)) := Sp.below (by repeat (first | exact Sa2_3.out | refine Sp.alloc ?_ _ | refine Sp.drewN ?_ _ | refine Sp.drew ?_)) hb4
            have Sa3_4 : Hid (Sp w4 B3 d3 (V)) := Sp.below (by repeat (first | exact Sa3_3.out | refine Sp.alloc ?_ _ | refine Sp.drewN ?_ _ | refine Sp.drew ?_)) hb4
            have Bs_4 : Hid (w4.heap[w.heap.size]? = some (.cells #[.bool false, .slice A1 R.length c1, .slice A2 H.length c2, .slice A3 F.length c3, .bool tu, .bool fa, .int .i64 ag, .bool jo] 52 (0, 0))) := blk_keep hb4 (blk_keep (W := w3) (by (repeat (first | exact Below.refl _ _ | refine bel_drewN ?_ _ | refine bel_drew ?_ | refine bel_alloc ?_ _ | refine bel_set ?_ (by simp) _))) Bs_3.out)
            have ord0 : w.heap.size < w3.heap.size := by omega
            have Bx_4 : Hid (w4.heap[w3.heap.size]? = some (.cells #[.bool false, .slice B1 X.length d1, .slice B2 U.length d2, .slice B3 V.length d3, .bool tu, .bool fa, .int .i64 ag, .bool jo] 56 (0, 0))) := blk_keep hb4 (by repeat (first | exact blk_new (by first | rfl | (simp; done) | (simp; omega)) | refine blk_skip ?_ | refine blk_drewN ?_ | refine blk_drew ?_))
            have s0_4 : w4.cell? ⟨w.heap.size, 0, none⟩ = some (.bool false) := blk_cell Bs_4.out rfl
            have s1_4 : w4.cell? ⟨w.heap.size, 1, none⟩ = some (.slice A1 R.length c1) := blk_cell Bs_4.out rfl
            have s2_4 : w4.cell? ⟨w.heap.size, 2, none⟩ = some (.slice A2 H.length c2) := blk_cell Bs_4.out rfl
            have s3_4 : w4.cell? ⟨w.heap.size, 3, none⟩ = some (.slice A3 F.length c3) := blk_cell Bs_4.out rfl
            have s4_4 : w4.cell? ⟨w.heap.size, 4, none⟩ = some (.bool tu) := blk_cell Bs_4.out rfl
            have s5_4 : w4.cell? ⟨w.heap.size, 5, none⟩ = some (.bool fa) := blk_cell Bs_4.out rfl
            have s6_4 : w4.cell? ⟨w.heap.size, 6, none⟩ = some (.int .i64 ag) := blk_cell Bs_4.out rfl
            have s7_4 : w4.cell? ⟨w.heap.size, 7, none⟩ = some (.bool jo) := blk_cell Bs_4.out rfl
            have sz_4 : w.heap.size < w4.heap.size := blk_lt Bs_4.out
            have x0_4 : w4.cell? ⟨w3.heap.size, 0, none⟩ = some (.bool false) := blk_cell Bx_4.out rfl
            have x1_4 : w4.cell? ⟨w3.heap.size, 1, none⟩ = some (.slice B1 X.length d1) := blk_cell Bx_4.out rfl
            have x2_4 : w4.cell? ⟨w3.heap.size, 2, none⟩ = some (.slice B2 U.length d2) := blk_cell Bx_4.out rfl
            have x3_4 : w4.cell? ⟨w3.heap.size, 3, none⟩ = some (.slice B3 V.length d3) := blk_cell Bx_4.out rfl
            have x4_4 : w4.cell? ⟨w3.heap.size, 4, none⟩ = some (.bool tu) := blk_cell Bx_4.out rfl
            have x5_4 : w4.cell? ⟨w3.heap.size, 5, none⟩ = some (.bool fa) := blk_cell Bx_4.out rfl
            have x6_4 : w4.cell? ⟨w3.heap.size, 6, none⟩ = some (.int .i64 ag) := blk_cell Bx_4.out rfl
            have x7_4 : w4.cell? ⟨w3.heap.size, 7, none⟩ = some (.bool jo) := blk_cell Bx_4.out rfl
            have xz_4 : w3.heap.size < w4.heap.size := blk_lt Bx_4.out
            clear S1_3 S2_3 S3_3 Sa1_3 Sa2_3 Sa3_3 Bs_3 s0_3 s1_3 s2_3 s3_3 s4_3 s5_3 s6_3 s7_3 sz_3 HB_3 hb4
            go_wp2_with fail
            refine (first_as1 B1 d1 X x1 x2 r HR.out _ (by repeat (first | exact Sa1_4.out | refine Sp.alloc ?_ _ | refine Sp.drewN ?_ _ | refine Sp.drew ?_)) K1.out (by omega)).mono ?_
            rintro e5 w5 ⟨rfl, hb5⟩
            have HB_5 : Hid (Below w.heap.size w w5) := bel_chain hb5 (by repeat (first | exact HB_4.out | refine bel_drewN ?_ _ | refine bel_drew ?_ | refine bel_alloc ?_ _))
            have S1_5 : Hid (Sp w5 A1 c1 (R)) := Sp.below (by repeat (first | exact S1_4.out | refine Sp.alloc ?_ _ | refine Sp.drewN ?_ _ | refine Sp.drew ?_)) hb5
            have S2_5 : Hid (Sp w5 A2 c2 (H)) := Sp.below (by repeat (first | exact S2_4.out | refine Sp.alloc ?_ _ | refine Sp.drewN ?_ _ | refine Sp.drew ?_)) hb5
            have S3_5 : Hid (Sp w5 A3 c3 (F)) := Sp.below (by repeat (first | exact S3_4.out | refine Sp.alloc ?_ _ | refine Sp.drewN ?_ _ | refine Sp.drew ?_)) hb5
            have Sa1_5 : Hid (Sp w5 B1 d1 (X)) := Sp.below (by repeat (first | exact Sa1_4.out | refine Sp.alloc ?_ _ | refine Sp.drewN ?_ _ | refine Sp.drew ?_)) hb5
            have Sa2_5 : Hid (Sp w5 B2 d2 (U)) := Sp.below (by repeat (first | exact Sa2_4.out | refine Sp.alloc ?_ _ | refine Sp.drewN ?_ _ | refine Sp.drew ?_)) hb5
            have Sa3_5 : Hid (Sp w5 B3 d3 (V)) := Sp.below (by repeat (first | exact Sa3_4.out | refine Sp.alloc ?_ _ | refine Sp.drewN ?_ _ | refine Sp.drew ?_)) hb5
            have Bs_5 : Hid (w5.heap[w.heap.size]? = some (.cells #[.bool false, .slice A1 R.length c1, .slice A2 H.length c2, .slice A3 F.length c3, .bool tu, .bool fa, .int .i64 ag, .bool jo] 52 (0, 0))) := blk_keep hb5 (blk_keep (W := w4) (by (repeat (first | exact Below.refl _ _ | refine bel_drewN ?_ _ | refine bel_drew ?_ | refine bel_alloc ?_ _ | refine bel_set ?_ (by simp) _))) Bs_4.out)
            have Bx_5 : Hid (w5.heap[w3.heap.size]? = some (.cells #[.bool false, .slice B1 X.length d1, .slice B2 U.length d2, .slice B3 V.length d3, .bool tu, .bool fa, .int .i64 ag, .bool jo] 56 (0, 0))) := blk_keep hb5 (blk_keep (W := w4) (by (repeat (first | exact Below.refl _ _ | refine bel_drewN ?_ _ | refine bel_drew ?_ | refine bel_alloc ?_ _ | refine bel_set ?_ (by simp) _))) Bx_4.out)
            have s0_5 : w5.cell? ⟨w.heap.size, 0, none⟩ = some (.bool false) := blk_cell Bs_5.out rfl
            have s1_5 : w5.cell? ⟨w.heap.size, 1, none⟩ = some (.slice A1 R.length c1) := blk_cell Bs_5.out rfl
            have s2_5 : w5.cell? ⟨w.heap.size, 2, none⟩ = some (.slice A2 H.length c2) := blk_cell Bs_5.out rfl
            have s3_5 : w5.cell? ⟨w.heap.size, 3, none⟩ = some (.slice A3 F.length c3) := blk_cell Bs_5.out rfl
            have s4_5 : w5.cell? ⟨w.heap.size, 4, none⟩ = some (.bool tu) := blk_cell Bs_5.out rfl
            have s5_5 : w5.cell? ⟨w.heap.size, 5, none⟩ = some (.bool fa) := blk_cell Bs_5.out rfl
            have s6_5 : w5.cell? ⟨w.heap.size, 6, none⟩ = some (.int .i64 ag) := blk_cell Bs_5.out rfl
            have s7_5 : w5.cell? ⟨w.heap.size, 7, none⟩ = some (.bool jo) := blk_cell Bs_5.out rfl
            have sz_5 : w.heap.size < w5.heap.size := blk_lt Bs_5.out
            have x0_5 : w5.cell? ⟨w3.heap.size, 0, none⟩ = some (.bool false) := blk_cell Bx_5.out rfl
            have x1_5 : w5.cell? ⟨w3.heap.size, 1, none⟩ = some (.slice B1 X.length d1) := blk_cell Bx_5.out rfl
            have x2_5 : w5.cell? ⟨w3.heap.size, 2, none⟩ = some (.slice B2 U.length d2) := blk_cell Bx_5.out rfl
            have x3_5 : w5.cell? ⟨w3.heap.size, 3, none⟩ = some (.slice B3 V.length d3) := blk_cell Bx_5.out rfl
            have x4_5 : w5.cell? ⟨w3.heap.size, 4, none⟩ = some (.bool tu) := blk_cell Bx_5.out rfl
            have x5_5 : w5.cell? ⟨w3.heap.size, 5, none⟩ = some (.bool fa) := blk_cell Bx_5.out rfl
            have x6_5 : w5.cell? ⟨w3.heap.size, 6, none⟩ = some (.int .i64 ag) := blk_cell Bx_5.out rfl
            have x7_5 : w5.cell? ⟨w3.heap.size, 7, none⟩ = some (.bool jo) := blk_cell Bx_5.out rfl
            have xz_5 : w3.heap.size < w5.heap.size := blk_lt Bx_5.out
            clear S1_4 S2_4 S3_4 Sa1_4 Sa2_4 Sa3_4 Bs_4 s0_4 s1_4 s2_4 s3_4 s4_4 s5_4 s6_4 s7_4 sz_4 Bx_4 x0_4 x1_4 x2_4 x3_4 x4_4 x5_4 x6_4 x7_4 xz_4 HB_4 hb5
            go_wp2_with fail
            refine ((HL _ B1 d1 B2 d2 B3 d3 (by repeat (first | exact Sa1_5.out | refine Sp.alloc ?_ _ | refine Sp.drewN ?_ _ | refine Sp.drew ?_)) (by repeat (first | exact Sa2_5.out | refine Sp.alloc ?_ _ | refine Sp.drewN ?_ _ | refine Sp.drew ?_)) (by repeat (first | exact Sa3_5.out | refine Sp.alloc ?_ _ | refine Sp.drewN ?_ _ | refine Sp.drew ?_))).out).mono ?_
            rintro e6 w6 ⟨Al, cl, rfl, hs6, hb6⟩
            have HB_6 : Hid (Below w.heap.size w w6) := bel_chain hb6 (by repeat (first | exact HB_5.out | refine bel_drewN ?_ _ | refine bel_drew ?_ | refine bel_alloc ?_ _))
            have S1_6 : Hid (Sp w6 A1 c1 (R)) := Sp.below (by repeat (first | exact S1_5.out | refine Sp.alloc ?_ _ | refine Sp.drewN ?_ _ | refine Sp.drew ?_)) hb6
            have S2_6 : Hid (Sp w6 A2 c2 (H)) := Sp.below (by repeat (first | exact S2_5.out | refine Sp.alloc ?_ _ | refine Sp.drewN ?_ _ | refine Sp.drew ?_)) hb6
            have S3_6 : Hid (Sp w6 A3 c3 (F)) := Sp.below (by repeat (first | exact S3_5.out | refine Sp.alloc ?_ _ | refine Sp.drewN ?_ _ | refine Sp.drew ?_)) hb6
            have Sa1_6 : Hid (Sp w6 B1 d1 (X)) := Sp.below (by repeat (first | exact Sa1_5.out | refine Sp.alloc ?_ _ | refine Sp.drewN ?_ _ | refine Sp.drew ?_)) hb6
            have Sa2_6 : Hid (Sp w6 B2 d2 (U)) := Sp.below (by repeat (first | exact Sa2_5.out | refine Sp.alloc ?_ _ | refine Sp.drewN ?_ _ | refine Sp.drew ?_)) hb6
            have Sa3_6 : Hid (Sp w6 B3 d3 (V)) := Sp.below (by repeat (first | exact Sa3_5.out | refine Sp.alloc ?_ _ | refine Sp.drewN ?_ _ | refine Sp.drew ?_)) hb6
            have Bs_6 : Hid (w6.heap[w.heap.size]? = some (.cells #[.bool false, .slice A1 R.length c1, .slice A2 H.length c2, .slice A3 F.length c3, .bool tu, .bool fa, .int .i64 ag, .bool jo] 52 (0, 0))) := blk_keep hb6 (blk_keep (W := w5) (by (repeat (first | exact Below.refl _ _ | refine bel_drewN ?_ _ | refine bel_drew ?_ | refine bel_alloc ?_ _ | refine bel_set ?_ (by simp) _))) Bs_5.out)
            have Bx_6 : Hid (w6.heap[w3.heap.size]? = some (.cells #[.bool false, .slice B1 X.length d1, .slice B2 U.length d2, .slice B3 V.length d3, .bool tu, .bool fa, .int .i64 ag, .bool jo] 56 (0, 0))) := blk_keep hb6 (blk_keep (W := w5) (by (repeat (first | exact Below.refl _ _ | refine bel_drewN ?_ _ | refine bel_drew ?_ | refine bel_alloc ?_ _ | refine bel_set ?_ (by simp) _))) Bx_5.out)
            have ord1 : w.heap.size < w5.heap.size := by omega
            have ord2 : w3.heap.size < w5.heap.size := by omega
            have Bf_6 : Hid (w6.heap[w5.heap.size]? = some (.cells #[.int .i64 x1, .int .i64 x2] 29 (0, 0))) := blk_keep hb6 (by repeat (first | exact blk_new (by first | rfl | (simp; done) | (simp; omega)) | refine blk_skip ?_ | refine blk_drewN ?_ | refine blk_drew ?_))
            have s0_6 : w6.cell? ⟨w.heap.size, 0, none⟩ = some (.bool false) := blk_cell Bs_6.out rfl
            have s1_6 : w6.cell? ⟨w.heap.size, 1, none⟩ = some (.slice A1 R.length c1) := blk_cell Bs_6.out rfl
            have s2_6 : w6.cell? ⟨w.heap.size, 2, none⟩ = some (.slice A2 H.length c2) := blk_cell Bs_6.out rfl
            have s3_6 : w6.cell? ⟨w.heap.size, 3, none⟩ = some (.slice A3 F.length c3) := blk_cell Bs_6.out rfl
            have s4_6 : w6.cell? ⟨w.heap.size, 4, none⟩ = some (.bool tu) := blk_cell Bs_6.out rfl
            have s5_6 : w6.cell? ⟨w.heap.size, 5, none⟩ = some (.bool fa) := blk_cell Bs_6.out rfl
            have s6_6 : w6.cell? ⟨w.heap.size, 6, none⟩ = some (.int .i64 ag) := blk_cell Bs_6.out rfl
            have s7_6 : w6.cell? ⟨w.heap.size, 7, none⟩ = some (.bool jo) := blk_cell Bs_6.out rfl
            have sz_6 : w.heap.size < w6.heap.size := blk_lt Bs_6.out
            have x0_6 : w6.cell? ⟨w3.heap.size, 0, none⟩ = some (.bool false) := blk_cell Bx_6.out rfl
            have x1_6 : w6.cell? ⟨w3.heap.size, 1, none⟩ = some (.slice B1 X.length d1) := blk_cell Bx_6.out rfl
            have x2_6 : w6.cell? ⟨w3.heap.size, 2, none⟩ = some (.slice B2 U.length d2) := blk_cell Bx_6.out rfl
            have x3_6 : w6.cell? ⟨w3.heap.size, 3, none⟩ = some (.slice B3 V.length d3) := blk_cell Bx_6.out rfl
            have x4_6 : w6.cell? ⟨w3.heap.size, 4, none⟩ = some (.bool tu) := blk_cell Bx_6.out rfl
            have x5_6 : w6.cell? ⟨w3.heap.size, 5, none⟩ = some (.bool fa) := blk_cell Bx_6.out rfl
            have x6_6 : w6.cell? ⟨w3.heap.size, 6, none⟩ = some (.int .i64 ag) := blk_cell Bx_6.out rfl
            have x7_6 : w6.cell? ⟨w3.heap.size, 7, none⟩ = some (.bool jo) := blk_cell Bx_6.out rfl
            have xz_6 : w3.heap.size < w6.heap.size := blk_lt Bx_6.out
            have f0_6 : w6.cell? ⟨w5.heap.size, 0, none⟩ = some (.int .i64 x1) := blk_cell Bf_6.out rfl
            have fz_6 : w5.heap.size < w6.heap.size := blk_lt Bf_6.out
            have Sl_6 : Hid (Sp w6 Al cl (Y)) := hs6
            clear S1_5 S2_5 S3_5 Sa1_5 Sa2_5 Sa3_5 Bs_5 s0_5 s1_5 s2_5 s3_5 s4_5 s5_5 s6_5 s7_5 sz_5 Bx_5 x0_5 x1_5 x2_5 x3_5 x4_5 x5_5 x6_5 x7_5 xz_5 hs6 HB_5 hb6
            go_wp2_with fail
            refine ((HLN _ Al cl (by repeat (first | exact Sl_6.out | refine Sp.alloc ?_ _ | refine Sp.drewN ?_ _ | refine Sp.drew ?_))).out).mono ?_
            rintro e7 w7 ⟨rfl, hb7⟩
            have HB_7 : Hid (Below w.heap.size w w7) := bel_chain hb7 (by repeat (first | exact HB_6.out | refine bel_drewN ?_ _ | refine bel_drew ?_ | refine bel_alloc ?_ _))
            have S1_7 : Hid (Sp w7 A1 c1 (R)) := Sp.below (by repeat (first | exact S1_6.out | refine Sp.alloc ?_ _ | refine Sp.drewN ?_ _ | refine Sp.drew ?_)) hb7
            have S2_7 : Hid (Sp w7 A2 c2 (H)) := Sp.below (by repeat (first | exact S2_6.out | refine Sp.alloc ?_ _ | refine Sp.drewN ?_ _ | refine Sp.drew ?_)) hb7
            have S3_7 : Hid (Sp w7 A3 c3 (F)) := Sp.below (by repeat (first | exact S3_6.out | refine Sp.alloc ?_ _ | refine Sp.drewN ?_ _ | refine Sp.drew ?_)) hb7
            have Sa1_7 : Hid (Sp w7 B1 d1 (X)) := Sp.below (by repeat (first | exact Sa1_6.out | refine Sp.alloc ?_ _ | refine Sp.drewN ?_ _ | refine Sp.drew ?_)) hb7
            have Sa2_7 : Hid (Sp w7 B2 d2 (U)) := Sp.below (by repeat (first | exact Sa2_6.out | refine Sp.alloc ?_ _ | refine Sp.drewN ?_ _ | refine Sp.drew ?_)) hb7
            have Sa3_7 : Hid (Sp w7 B3 d3 (V)) := Sp.below (by repeat (first | exact Sa3_6.out | refine Sp.alloc ?_ _ | refine Sp.drewN ?_ _ | refine Sp.drew ?_)) hb7
            have Sl_7 : Hid (Sp w7 Al cl (Y)) := Sp.below (by repeat (first | exact Sl_6.out | refine Sp.alloc ?_ _ | refine Sp.drewN ?_ _ | refine Sp.drew ?_)) hb7
            have Bs_7 : Hid (w7.heap[w.heap.size]? = some (.cells #[.bool false, .slice A1 R.length c1, .slice A2 H.length c2, .slice A3 F.length c3, .bool tu, .bool fa, .int .i64 ag, .bool jo] 52 (0, 0))) := blk_keep hb7 (blk_keep (W := w6) (by (repeat (first | exact Below.refl _ _ | refine bel_drewN ?_ _ | refine bel_drew ?_ | refine bel_alloc ?_ _ | refine bel_set ?_ (by simp) _))) Bs_6.out)
            have Bx_7 : Hid (w7.heap[w3.heap.size]? = some (.cells #[.bool false, .slice B1 X.length d1, .slice B2 U.length d2, .slice B3 V.length d3, .bool tu, .bool fa, .int .i64 ag, .bool jo] 56 (0, 0))) := blk_keep hb7 (blk_keep (W := w6) (by (repeat (first | exact Below.refl _ _ | refine bel_drewN ?_ _ | refine bel_drew ?_ | refine bel_alloc ?_ _ | refine bel_set ?_ (by simp) _))) Bx_6.out)
            have Bf_7 : Hid (w7.heap[w5.heap.size]? = some (.cells #[.int .i64 x1, .int .i64 x2] 29 (0, 0))) := blk_keep hb7 (blk_keep (W := w6) (by (repeat (first | exact Below.refl _ _ | refine bel_drewN ?_ _ | refine bel_drew ?_ | refine bel_alloc ?_ _ | refine bel_set ?_ (by simp) _))) Bf_6.out)
            have s0_7 : w7.cell? ⟨w.heap.size, 0, none⟩ = some (.bool false) := blk_cell Bs_7.out rfl
            have s1_7 : w7.cell? ⟨w.heap.size, 1, none⟩ = some (.slice A1 R.length c1) := blk_cell Bs_7.out rfl
            have s2_7 : w7.cell? ⟨w.heap.size, 2, none⟩ = some (.slice A2 H.length c2) := blk_cell Bs_7.out rfl
            have s3_7 : w7.cell? ⟨w.heap.size, 3, none⟩ = some (.slice A3 F.length c3) := blk_cell Bs_7.out rfl
            have s4_7 : w7.cell? ⟨w.heap.size, 4, none⟩ = some (.bool tu) := blk_cell Bs_7.out rfl
            have s5_7 : w7.cell? ⟨w.heap.size, 5, none⟩ = some (.bool fa) := blk_cell Bs_7.out rfl
            have s6_7 : w7.cell? ⟨w.heap.size, 6, none⟩ = some (.int .i64 ag) := blk_cell Bs_7.out rfl
            have s7_7 : w7.cell? ⟨w.heap.size, 7, none⟩ = some (.bool jo) := blk_cell Bs_7.out rfl
            have sz_7 : w.heap.size < w7.heap.size := blk_lt Bs_7.out
            have x0_7 : w7.cell? ⟨w3.heap.size, 0, none⟩ = some (.bool false) := blk_cell Bx_7.out rfl
            have x1_7 : w7.cell? ⟨w3.heap.size, 1, none⟩ = some (.slice B1 X.length d1) := blk_cell Bx_7.out rfl
            have x2_7 : w7.cell? ⟨w3.heap.size, 2, none⟩ = some (.slice B2 U.length d2) := blk_cell Bx_7.out rfl
            have x3_7 : w7.cell? ⟨w3.heap.size, 3, none⟩ = some (.slice B3 V.length d3) := blk_cell Bx_7.out rfl
            have x4_7 : w7.cell? ⟨w3.heap.size, 4, none⟩ = some (.bool tu) := blk_cell Bx_7.out rfl
            have x5_7 : w7.cell? ⟨w3.heap.size, 5, none⟩ = some (.bool fa) := blk_cell Bx_7.out rfl
            have x6_7 : w7.cell? ⟨w3.heap.size, 6, none⟩ = some (.int .i64 ag) := blk_cell Bx_7.out rfl
            have x7_7 : w7.cell? ⟨w3.heap.size, 7, none⟩ = some (.bool jo) := blk_cell Bx_7.out rfl
            have xz_7 : w3.heap.size < w7.heap.size := blk_lt Bx_7.out
            have f0_7 : w7.cell? ⟨w5.heap.size, 0, none⟩ = some (.int .i64 x1) := blk_cell Bf_7.out rfl
            have fz_7 : w5.heap.size < w7.heap.size := blk_lt Bf_7.out
            clear S1_6 S2_6 S3_6 Sa1_6 Sa2_6 Sa3_6 Sl_6 Bs_6 s0_6 s1_6 s2_6 s3_6 s4_6 s5_6 s6_6 s7_6 sz_6 Bx_6 x0_6 x1_6 x2_6 x3_6 x4_6 x5_6 x6_6 x7_6 xz_6 Bf_6 f0_6 fz_6 HB_6 hb7
            go_wp2_with fail
            go_ret
            exact ⟨rfl, (by repeat (first | (with_reducible exact HB_7.out) | (with_reducible refine bel_drewN ?_ _) | (with_reducible refine bel_drew ?_) | (with_reducible refine bel_alloc ?_ _) | (with_reducible refine bel_set ?_ (by first | omega | (dsimp only; omega)) _)))⟩
          · have HV4 : Hid (dv = 5) := by simp only [Hid]; rw [HDC.out]; simp [hY, hag]
            have hag2 : ag ≤ 0 := by omega
            clear hY HDC
            go_wp2_with fail
            refine (own_as false A1 c1 R A2 c2 H A3 c3 F tu fa ag jo X U V HX.out HU.out HV.out _ (by repeat (first | exact S1_2.out | refine Sp.alloc ?_ _ | refine Sp.drewN ?_ _ | refine Sp.drew ?_)) (by repeat (first | exact S2_2.out | refine Sp.alloc ?_ _ | refine Sp.drewN ?_ _ | refine Sp.drew ?_)) (by repeat (first | exact S3_2.out | refine Sp.alloc ?_ _ | refine Sp.drewN ?_ _ | refine Sp.drew ?_)) (by omega) (by omega) (by omega)).mono ?_
            rintro e3 w3 ⟨B1, d1, B2, d2, B3, d3, rfl, hs3, ht3, hu3, hb3⟩
            have HB_3 : Hid (Below w.heap.size w w3) := bel_chain hb3 (by repeat (first | exact HB_2.out | refine bel_drewN ?_ _ | refine bel_drew ?_ | refine bel_alloc ?_ _))
            have S1_3 : Hid (Sp w3 A1 c1 (R)) := Sp.below (by repeat (first | exact S1_2.out | refine Sp.alloc ?_ _ | refine Sp.drewN ?_ _ | refine Sp.drew ?_)) hb3
            have S2_3 : Hid (Sp w3 A2 c2 (H)) := Sp.below (by repeat (first | exact S2_2.out | refine Sp.alloc ?_ _ | refine Sp.drewN ?_ _ | refine Sp.drew ?_)) hb3
            have S3_3 : Hid (Sp w3 A3 c3 (F)) := Sp.below (by repeat (first | exact S3_2.out | refine Sp.alloc ?_ _ | refine Sp.drewN ?_ _ | refine Sp.drew ?_)) hb3
            have Bs_3 : Hid (w3.heap[w.heap.size]? = some (.cells #[.bool false, .slice A1 R.length c1, .slice A2 H.length c2, .slice A3 F.length c3, .bool tu, .bool fa, .int .i64 ag, .bool jo] 52 (0, 0))) := blk_keep hb3 (blk_keep (W := w2) (by (repeat (first | exact Below.refl _ _ | refine bel_drewN ?_ _ | refine bel_drew ?_ | refine bel_alloc ?_ _ | refine bel_set ?_ (by simp) _))) Bs_2.out)
            have s0_3 : w3.cell? ⟨w.heap.size, 0, none⟩ = some (.bool false) := blk_cell Bs_3.out rfl
            have s1_3 : w3.cell? ⟨w.heap.size, 1, none⟩ = some (.slice A1 R.length c1) := blk_cell Bs_3.out rfl
            have s2_3 : w3.cell? ⟨w.heap.size, 2, none⟩ = some (.slice A2 H.length c2) := blk_cell Bs_3.out rfl
            have s3_3 : w3.cell? ⟨w.heap.size, 3, none⟩ = some (.slice A3 F.length c3) := blk_cell Bs_3.out rfl
            have s4_3 : w3.cell? ⟨w.heap.size, 4, none⟩ = some (.bool tu) := blk_cell Bs_3.out rfl
            have s5_3 : w3.cell? ⟨w.heap.size, 5, none⟩ = some (.bool fa) := blk_cell Bs_3.out rfl
            have s6_3 : w3.cell? ⟨w.heap.size, 6, none⟩ = some (.int .i64 ag) := blk_cell Bs_3.out rfl
            have s7_3 : w3.cell? ⟨w.heap.size, 7, none⟩ = some (.bool jo) := blk_cell Bs_3.out rfl
            have sz_3 : w.heap.size < w3.heap.size := blk_lt Bs_3.out
            have Sa1_3 : Hid (Sp w3 B1 d1 (X)) := hs3
            have Sa2_3 : Hid (Sp w3 B2 d2 (U)) := ht3
            have Sa3_3 : Hid (Sp w3 B3 d3 (V)) := hu3
            clear S1_2 S2_2 S3_2 Bs_2 s0_2 s1_2 s2_2 s3_2 s4_2 s5_2 s6_2 s7_2 sz_2 hs3 ht3 hu3 HB_2 hb3
            go_wp2_with fail
            refine (HDE.out 5 HV4.out _ B1 d1 B2 d2 B3 d3 (by repeat (first | exact Sa1_3.out | refine Sp.alloc ?_ _ | refine Sp.drewN ?_ _ | refine Sp.drew ?_)) (by repeat (first | exact Sa2_3.out | refine Sp.alloc ?_ _ | refine Sp.drewN ?_ _ | refine Sp.drew ?_)) (by repeat (first | exact Sa3_3.out | refine Sp.alloc ?_ _ | refine Sp.drewN ?_ _ | refine Sp.drew ?_))).mono ?_
            rintro e4 w4 ⟨rfl, hb4⟩
            have HB_4 : Hid (Below w.heap.size w w4) := bel_chain hb4 (by repeat (first | exact HB_3.out | refine bel_drewN ?_ _ | refine bel_drew ?_ | refine bel_alloc ?_ _))
            have S1_4 : Hid (Sp w4 A1 c1 (R)) := Sp.below (by repeat (first | exact S1_3.out | refine Sp.alloc ?_ _ | refine Sp.drewN ?_ _ | refine Sp.drew ?_)) hb4
            have S2_4 : Hid (Sp w4 A2 c2 (H)) := Sp.below (by repeat (first | exact S2_3.out | refine Sp.alloc ?_ _ | refine Sp.drewN ?_ _ | refine Sp.drew ?_)) hb4
            have S3_4 : Hid (Sp w4 A3 c3 (F)) := Sp.below (by repeat (first | exact S3_3.out | refine Sp.alloc ?_ _ | refine Sp.drewN ?_ _ | refine Sp.drew ?_)) hb4
            have Sa1_4 : Hid (Sp w4 B1 d1 (X)) := Sp.below (by repeat (first | exact Sa1_3.out | refine Sp.alloc ?_ _ | refine Sp.drewN ?_ _ | refine Sp.drew ?_)) hb4
            have Sa2_4 : Hid (Sp w4 B2 d2 (U)) := Sp.below (by repeat (first | exact Sa2_3.out | refine Sp.alloc ?_ _ | refine Sp.drewN ?_ _ | refine Sp.drew ?_)) hb4
            have Sa3_4 : Hid (Sp w4 B3 d3 (V)) := Sp.below (by repeat (first | exact Sa3_3.out | refine Sp.alloc ?_ _ | refine Sp.drewN ?_ _ | refine Sp.drew ?_)) hb4
            have Bs_4 : Hid (w4.heap[w.heap.size]? = some (.cells #[.bool false, .slice A1 R.length c1, .slice A2 H.length c2, .slice A3 F.length c3, .bool tu, .bool fa, .int .i64 ag, .bool jo] 52 (0, 0))) := blk_keep hb4 (blk_keep (W := w3) (by (repeat (first | exact Below.refl _ _ | refine bel_drewN ?_ _ | refine bel_drew ?_ | refine bel_alloc ?_ _ | refine bel_set ?_ (by simp) _))) Bs_3.out)
            have ord0 : w.heap.size < w3.heap.size := by omega
            have Bx_4 : Hid (w4.heap[w3.heap.size]? = some (.cells #[.bool false, .slice B1 X.length d1, .slice B2 U.length d2, .slice B3 V.length d3, .bool tu, .bool fa, .int .i64 ag, .bool jo] 56 (0, 0))) := blk_keep hb4 (by repeat (first | exact blk_new (by first | rfl | (simp; done) | (simp; omega)) | refine blk_skip ?_ | refine blk_drewN ?_ | refine blk_drew ?_))
            have s0_4 : w4.cell? ⟨w.heap.size, 0, none⟩ = some (.bool false) := blk_cell Bs_4.out rfl
            have s1_4 : w4.cell? ⟨w.heap.size, 1, none⟩ = some (.slice A1 R.length c1) := blk_cell Bs_4.out rfl
            have s2_4 : w4.cell? ⟨w.heap.size, 2, none⟩ = some (.slice A2 H.length c2) := blk_cell Bs_4.out rfl
            have s3_4 : w4.cell? ⟨w.heap.size, 3, none⟩ = some (.slice A3 F.length c3) := blk_cell Bs_4.out rfl
            have s4_4 : w4.cell? ⟨w.heap.size, 4, none⟩ = some (.bool tu) := blk_cell Bs_4.out rfl
            have s5_4 : w4.cell? ⟨w.heap.size, 5, none⟩ = some (.bool fa) := blk_cell Bs_4.out rfl
            have s6_4 : w4.cell? ⟨w.heap.size, 6, none⟩ = some (.int .i64 ag) := blk_cell Bs_4.out rfl
            have s7_4 : w4.cell? ⟨w.heap.size, 7, none⟩ = some (.bool jo) := blk_cell Bs_4.out rfl
            have sz_4 : w.heap.size < w4.heap.size := blk_lt Bs_4.out
            have x0_4 : w4.cell? ⟨w3.heap.size, 0, none⟩ = some (.bool false) := blk_cell Bx_4.out rfl
            have x1_4 : w4.cell? ⟨w3.heap.size, 1, none⟩ = some (.slice B1 X.length d1) := blk_cell Bx_4.out rfl
            have x2_4 : w4.cell? ⟨w3.heap.size, 2, none⟩ = some (.slice B2 U.length d2) := blk_cell Bx_4.out rfl
            have x3_4 : w4.cell? ⟨w3.heap.size, 3, none⟩ = some (.slice B3 V.length d3) := blk_cell Bx_4.out rfl
            have x4_4 : w4.cell? ⟨w3.heap.size, 4, none⟩ = some (.bool tu) := blk_cell Bx_4.out rfl
            have x5_4 : w4.cell? ⟨w3.heap.size, 5, none⟩ = some (.bool fa) := blk_cell Bx_4.out rfl
            have x6_4 : w4.cell? ⟨w3.heap.size, 6, none⟩ = some (.int .i64 ag) := blk_cell Bx_4.out rfl
            have x7_4 : w4.cell? ⟨w3.heap.size, 7, none⟩ = some (.bool jo) := blk_cell Bx_4.out rfl
            have xz_4 : w3.heap.size < w4.heap.size := blk_lt Bx_4.out
            clear S1_3 S2_3 S3_3 Sa1_3 Sa2_3 Sa3_3 Bs_3 s0_3 s1_3 s2_3 s3_3 s4_3 s5_3 s6_3 s7_3 sz_3 HB_3 hb4
            go_wp2_with fail
            refine (first_as1 B1 d1 X x1 x2 r HR.out _ (by repeat (first | exact Sa1_4.out | refine Sp.alloc ?_ _ | refine Sp.drewN ?_ _ | refine Sp.drew ?_)) K1.out (by omega)).mono ?_
            rintro e5 w5 ⟨rfl, hb5⟩
            have HB_5 : Hid (Below w.heap.size w w5) := bel_chain hb5 (by repeat (first | exact HB_4.out | refine bel_drewN ?_ _ | refine bel_drew ?_ | refine bel_alloc ?_ _))
            have S1_5 : Hid (Sp w5 A1 c1 (R)) := Sp.below (by repeat (first | exact S1_4.out | refine Sp.alloc ?_ _ | refine Sp.drewN ?_ _ | refine Sp.drew ?_)) hb5
            have S2_5 : Hid (Sp w5 A2 c2 (H)) := Sp.below (by repeat (first | exact S2_4.out | refine Sp.alloc ?_ _ | refine Sp.drewN ?_ _ | refine Sp.drew ?_)) hb5
            have S3_5 : Hid (Sp w5 A3 c3 (F)) := Sp.below (by repeat (first | exact S3_4.out | refine Sp.alloc ?_ _ | refine Sp.drewN ?_ _ | refine Sp.drew ?_)) hb5
            have Sa1_5 : Hid (Sp w5 B1 d1 (X)) := Sp.below (by repeat (first | exact Sa1_4.out | refine Sp.alloc ?_ _ | refine Sp.drewN ?_ _ | refine Sp.drew ?_)) hb5
            have Sa2_5 : Hid (Sp w5 B2 d2 (U)) := Sp.below (by repeat (first | exact Sa2_4.out | refine Sp.alloc ?_ _ | refine Sp.drewN ?_ _ | refine Sp.drew ?_)) hb5
            have Sa3_5 : Hid (Sp w5 B3 d3 (V)) := Sp.below (by repeat (first | exact Sa3_4.out | refine Sp.alloc ?_ _ | refine Sp.drewN ?_ _ | refine Sp.drew ?_)) hb5
            have Bs_5 : Hid (w5.heap[w.heap.size]? = some (.cells #[.bool false, .slice A1 R.length c1, .slice A2 H.length c2, .slice A3 F.length c3, .bool tu, .bool fa, .int .i64 ag, .bool jo] 52 (0, 0))) := blk_keep hb5 (blk_keep (W := w4) (by (repeat (first | exact Below.refl _ _ | refine bel_drewN ?_ _ | refine bel_drew ?_ | refine bel_alloc ?_ _ | refine bel_set ?_ (by simp) _))) Bs_4.out)
            have Bx_5 : Hid (w5.heap[w3.heap.size]? = some (.cells #[.bool false, .slice B1 X.length d1, .slice B2 U.length d2, .slice B3 V.length d3, .bool tu, .bool fa, .int .i64 ag, .bool jo] 56 (0, 0))) := blk_keep hb5 (blk_keep (W := w4) (by (repeat (first | exact Below.refl _ _ | refine bel_drewN ?_ _ | refine bel_drew ?_ | refine bel_alloc ?_ _ | refine bel_set ?_ (by simp) _))) Bx_4.out)
            have s0_5 : w5.cell? ⟨w.heap.size, 0, none⟩ = some (.bool false) := blk_cell Bs_5.out rfl
            have s1_5 : w5.cell? ⟨w.heap.size, 1, none⟩ = some (.slice A1 R.length c1) := blk_cell Bs_5.out rfl
            have s2_5 : w5.cell? ⟨w.heap.size, 2, none⟩ = some (.slice A2 H.length c2) := blk_cell Bs_5.out rfl
            have s3_5 : w5.cell? ⟨w.heap.size, 3, none⟩ = some (.slice A3 F.length c3) := blk_cell Bs_5.out rfl
            have s4_5 : w5.cell? ⟨w.heap.size, 4, none⟩ = some (.bool tu) := blk_cell Bs_5.out rfl
            have s5_5 : w5.cell? ⟨w.heap.size, 5, none⟩ = some (.bool fa) := blk_cell Bs_5.out rfl
            have s6_5 : w5.cell? ⟨w.heap.size, 6, none⟩ = some (.int .i64 ag) := blk_cell Bs_5.out rfl
            have s7_5 : w5.cell? ⟨w.heap.size, 7, none⟩ = some (.bool jo) := blk_cell Bs_5.out rfl
            have sz_5 : w.heap.size < w5.heap.size := blk_lt Bs_5.out
            have x0_5 : w5.cell? ⟨w3.heap.size, 0, none⟩ = some (.bool false) := blk_cell Bx_5.out rfl
            have x1_5 : w5.cell? ⟨w3.heap.size, 1, none⟩ = some (.slice B1 X.length d1) := blk_cell Bx_5.out rfl
            have x2_5 : w5.cell? ⟨w3.heap.size, 2, none⟩ = some (.slice B2 U.length d2) := blk_cell Bx_5.out rfl
            have x3_5 : w5.cell? ⟨w3.heap.size, 3, none⟩ = some (.slice B3 V.length d3) := blk_cell Bx_5.out rfl
            have x4_5 : w5.cell? ⟨w3.heap.size, 4, none⟩ = some (.bool tu) := blk_cell Bx_5.out rfl
            have x5_5 : w5.cell? ⟨w3.heap.size, 5, none⟩ = some (.bool fa) := blk_cell Bx_5.out rfl
            have x6_5 : w5.cell? ⟨w3.heap.size, 6, none⟩ = some (.int .i64 ag) := blk_cell Bx_5.out rfl
            have x7_5 : w5.cell? ⟨w3.heap.size, 7, none⟩ = some (.bool jo) := blk_cell Bx_5.out rfl
            have xz_5 : w3.heap.size < w5.heap.size := blk_lt Bx_5.out
            clear S1_4 S2_4 S3_4 Sa1_4 Sa2_4 Sa3_4 Bs_4 s0_4 s1_4 s2_4 s3_4 s4_4 s5_4 s6_4 s7_4 sz_4 Bx_4 x0_4 x1_4 x2_4 x3_4 x4_4 x5_4 x6_4 x7_4 xz_4 HB_4 hb5
            go_wp2_with fail
            refine ((HL _ B1 d1 B2 d2 B3 d3 (by repeat (first | exact Sa1_5.out | refine Sp.alloc ?_ _ | refine Sp.drewN ?_ _ | refine Sp.drew ?_)) (by repeat (first | exact Sa2_5.out | refine Sp.alloc ?_ _ | refine Sp.drewN ?_ _ | refine Sp.drew ?_)) (by repeat (first | exact Sa3_5.out | refine Sp.alloc ?_ _ | refine Sp.drewN ?_ _ | refine Sp.drew ?_))).out).mono ?_
            rintro e6 w6 ⟨Al, cl, rfl, hs6, hb6⟩
            have HB_6 : Hid (Below w.heap.size w w6) := bel_chain hb6 (by repeat (first | exact HB_5.out | refine bel_drewN ?_ _ | refine bel_drew ?_ | refine bel_alloc ?_ _))
            have S1_6 : Hid (Sp w6 A1 c1 (R)) := Sp.below (by repeat (first | exact S1_5.out | refine Sp.alloc ?_ _ | refine Sp.drewN ?_ _ | refine Sp.drew ?_)) hb6
            have S2_6 : Hid (Sp w6 A2 c2 (H)) := Sp.below (by repeat (first | exact S2_5.out | refine Sp.alloc ?_ _ | refine Sp.drewN ?_ _ | refine Sp.drew ?_)) hb6
            have S3_6 : Hid (Sp w6 A3 c3 (F)) := Sp.below (by repeat (first | exact S3_5.out | refine Sp.alloc ?_ _ | refine Sp.drewN ?_ _ | refine Sp.drew ?_)) hb6
            have Sa1_6 : Hid (Sp w6 B1 d1 (X)) := Sp.below (by repeat (first | exact Sa1_5.out | refine Sp.alloc ?_ _ | refine Sp.drewN ?_ _ | refine Sp.drew ?_)) hb6
            have Sa2_6 : Hid (Sp w6 B2 d2 (U)) := Sp.below (by repeat (first | exact Sa2_5.out | refine Sp.alloc ?_ _ | refine Sp.drewN ?_ _ | refine Sp.drew ?_)) hb6
            have Sa3_6 : Hid (Sp w6 B3 d3 (V)) := Sp.below (by repeat (first | exact Sa3_5.out | refine Sp.alloc ?_ _ | refine Sp.drewN ?_ _ | refine Sp.drew ?_)) hb6
            have Bs_6 : Hid (w6.heap[w.heap.size]? = some (.cells #[.bool false, .slice A1 R.length c1, .slice A2 H.length c2, .slice A3 F.length c3, .bool tu, .bool fa, .int .i64 ag, .bool jo] 52 (0, 0))) := blk_keep hb6 (blk_keep (W := w5) (by (repeat (first | exact Below.refl _ _ | refine bel_drewN ?_ _ | refine bel_drew ?_ | refine bel_alloc ?_ _ | refine bel_set ?_ (by simp) _))) Bs_5.out)
            have Bx_6 : Hid (w6.heap[w3.heap.size]? = some (.cells #[.bool false, .slice B1 X.length d1, .slice B2 U.length d2, .slice B3 V.length d3, .bool tu, .bool fa, .int .i64 ag, .bool jo] 56 (0, 0))) := blk_keep hb6 (blk_keep (W := w5) (by (repeat (first | exact Below.refl _ _ | refine bel_drewN ?_ _ | refine bel_drew ?_ | refine bel_alloc ?_ _ | refine bel_set ?_ (by simp) _))) Bx_5.out)
            have ord1 : w.heap.size < w5.heap.size := by omega
            have ord2 : w3.heap.size < w5.heap.size := by omega
            have Bf_6 : Hid (w6.heap[w5.heap.size]? = some (.cells #[.int .i64 x1, .int .i64 x2] 29 (0, 0))) := blk_keep hb6 (by repeat (first | exact blk_new (by first | rfl | (simp; done) | (simp; omega)) | refine blk_skip ?_ | refine blk_drewN ?_ | refine blk_drew ?_))
            have s0_6 : w6.cell? ⟨w.heap.size, 0, none⟩ = some (.bool false) := blk_cell Bs_6.out rfl
            have s1_6 : w6.cell? ⟨w.heap.size, 1, none⟩ = some (.slice A1 R.length c1) := blk_cell Bs_6.out rfl
            have s2_6 : w6.cell? ⟨w.heap.size, 2, none⟩ = some (.slice A2 H.length c2) := blk_cell Bs_6.out rfl
            have s3_6 : w6.cell? ⟨w.heap.size, 3, none⟩ = some (.slice A3 F.length c3) := blk_cell Bs_6.out rfl
            have s4_6 : w6.cell? ⟨w.heap.size, 4, none⟩ = some (.bool tu) := blk_cell Bs_6.out rfl
            have s5_6 : w6.cell? ⟨w.heap.size, 5, none⟩ = some (.bool fa) := blk_cell Bs_6.out rfl
            have s6_6 : w6.cell? ⟨w.heap.size, 6, none⟩ = some (.int .i64 ag) := blk_cell Bs_6.out rfl
            have s7_6 : w6.cell? ⟨w.heap.size, 7, none⟩ = some (.bool jo) := blk_cell Bs_6.out rfl
            have sz_6 : w.heap.size < w6.heap.size := blk_lt Bs_6.out
            have x0_6 : w6.cell? ⟨w3.heap.size, 0, none⟩ = some (.bool false) := blk_cell Bx_6.out rfl
            have x1_6 : w6.cell? ⟨w3.heap.size, 1, none⟩ = some (.slice B1 X.length d1) := blk_cell Bx_6.out rfl
            have x2_6 : w6.cell? ⟨w3.heap.size, 2, none⟩ = some (.slice B2 U.length d2) := blk_cell Bx_6.out rfl
            have x3_6 : w6.cell? ⟨w3.heap.size, 3, none⟩ = some (.slice B3 V.length d3) := blk_cell Bx_6.out rfl
            have x4_6 : w6.cell? ⟨w3.heap.size, 4, none⟩ = some (.bool tu) := blk_cell Bx_6.out rfl
            have x5_6 : w6.cell? ⟨w3.heap.size, 5, none⟩ = some (.bool fa) := blk_cell Bx_6.out rfl
            have x6_6 : w6.cell? ⟨w3.heap.size, 6, none⟩ = some (.int .i64 ag) := blk_cell Bx_6.out rfl
            have x7_6 : w6.cell? ⟨w3.heap.size, 7, none⟩ = some (.bool jo) := blk_cell Bx_6.out rfl
            have xz_6 : w3.heap.size < w6.heap.size := blk_lt Bx_6.out
            have f0_6 : w6.cell? ⟨w5.heap.size, 0, none⟩ = some (.int .i64 x1) := blk_cell Bf_6.out rfl
            have fz_6 : w5.heap.size < w6.heap.size := blk_lt Bf_6.out
            have Sl_6 : Hid (Sp w6 Al cl (Y)) := hs6
            clear S1_5 S2_5 S3_5 Sa1_5 Sa2_5 Sa3_5 Bs_5 s0_5 s1_5 s2_5 s3_5 s4_5 s5_5 s6_5 s7_5 sz_5 Bx_5 x0_5 x1_5 x2_5 x3_5 x4_5 x5_5 x6_5 x7_5 xz_5 hs6 HB_5 hb6
            go_wp2_with fail
            refine ((HLN _ Al cl (by repeat (first | exact Sl_6.out | refine Sp.alloc ?_ _ | refine Sp.drewN ?_ _ | refine Sp.drew ?_))).out).mono ?_
            rintro e7 w7 ⟨rfl, hb7⟩
            have HB_7 : Hid (Below w.heap.size w w7) := bel_chain hb7 (by repeat (first | exact HB_6.out | refine bel_drewN ?_ _ | refine bel_drew ?_ | refine bel_alloc ?_ _))
            have S1_7 : Hid (Sp w7 A1 c1 (R)) := Sp.below (by repeat (first | exact S1_6.out | refine Sp.alloc ?_ _ | refine Sp.drewN ?_ _ | refine Sp.drew ?_)) hb7
            have S2_7 : Hid (Sp w7 A2 c2 (H)) := Sp.below (by repeat (first | exact S2_6.out | refine Sp.alloc ?_ _ | refine Sp.drewN ?_ _ | refine Sp.drew ?_)) hb7
            have S3_7 : Hid (Sp w7 A3 c3 (F)) := Sp.below (by repeat (first | exact S3_6.out | refine Sp.alloc ?_ _ | refine Sp.drewN ?_ _ | refine Sp.drew ?_)) hb7
            have Sa1_7 : Hid (Sp w7 B1 d1 (X)) := Sp.below (by repeat (first | exact Sa1_6.out | refine Sp.alloc ?_ _ | refine Sp.drewN ?_ _ | refine Sp.drew ?_)) hb7
            have Sa2_7 : Hid (Sp w7 B2 d2 (U)) := Sp.below (by repeat (first | exact Sa2_6.out | refine Sp.alloc ?_ _ | refine Sp.drewN ?_ _ | refine Sp.drew ?_)) hb7
            have Sa3_7 : Hid (Sp w7 B3 d3 (V)) := Sp.below (by repeat (first | exact Sa3_6.out | refine Sp.alloc ?_ _ | refine Sp.drewN ?_ _ | refine Sp.drew ?_)) hb7
            have Sl_7 : Hid (Sp w7 Al cl (Y)) := Sp.below (by repeat (first | exact Sl_6.out | refine Sp.alloc ?_ _ | refine Sp.drewN ?_ _ | refine Sp.drew ?_)) hb7
            have Bs_7 : Hid (w7.heap[w.heap.size]? = some (.cells #[.bool false, .slice A1 R.length c1, .slice A2 H.length c2, .slice A3 F.length c3, .bool tu, .bool fa, .int .i64 ag, .bool jo] 52 (0, 0))) := blk_keep hb7 (blk_keep (W := w6) (by (repeat (first | exact Below.refl _ _ | refine bel_drewN ?_ _ | refine bel_drew ?_ | refine bel_alloc ?_ _ | refine bel_set ?_ (by simp) _))) Bs_6.out)
            have Bx_7 : Hid (w7.heap[w3.heap.size]? = some (.cells #[.bool false, .slice B1 X.length d1, .slice B2 U.length d2, .slice B3 V.length d3, .bool tu, .bool fa, .int .i64 ag, .bool jo] 56 (0, 0))) := blk_keep hb7 (blk_keep (W := w6) (by (repeat (first | exact Below.refl _ _ | refine bel_drewN ?_ _ | refine bel_drew ?_ | refine bel_alloc ?_ _ | refine bel_set ?_ (by simp) _))) Bx_6.out)
            have Bf_7 : Hid (w7.heap[w5.heap.size]? = some (.cells #[.int .i64 x1, .int .i64 x2] 29 (0, 0))) := blk_keep hb7 (blk_keep (W := w6) (by (repeat (first | exact Below.refl _ _ | refine bel_drewN ?_ _ | refine bel_drew ?_ | refine bel_alloc ?_ _ | refine bel_set ?_ (by simp) _))) Bf_6.out)
            have s0_7 : w7.cell? ⟨w.heap.size, 0, none⟩ = some (.bool false) := blk_cell Bs_7.out rfl
            have s1_7 : w7.cell? ⟨w.heap.size, 1, none⟩ = some (.slice A1 R.length c1) := blk_cell Bs_7.out rfl
            have s2_7 : w7.cell? ⟨w.heap.size, 2, none⟩ = some (.slice A2 H.length c2) := blk_cell Bs_7.out rfl
            have s3_7 : w7.cell? ⟨w.heap.size, 3, none⟩ = some (.slice A3 F.length c3) := blk_cell Bs_7.out rfl
            have s4_7 : w7.cell? ⟨w.heap.size, 4, none⟩ = some (.bool tu) := blk_cell Bs_7.out rfl
            have s5_7 : w7.cell? ⟨w.heap.size, 5, none⟩ = some (.bool fa) := blk_cell Bs_7.out rfl
            have s6_7 : w7.cell? ⟨w.heap.size, 6, none⟩ = some (.int .i64 ag) := blk_cell Bs_7.out rfl
            have s7_7 : w7.cell? ⟨w.heap.size, 7, none⟩ = some (.bool jo) := blk_cell Bs_7.out rfl
            have sz_7 : w.heap.size < w7.heap.size := blk_lt Bs_7.out
            have x0_7 : w7.cell? ⟨w3.heap.size, 0, none⟩ = some (.bool false) := blk_cell Bx_7.out rfl
            have x1_7 : w7.cell? ⟨w3.heap.size, 1, none⟩ = some (.slice B1 X.length d1) := blk_cell Bx_7.out rfl
            have x2_7 : w7.cell? ⟨w3.heap.size, 2, none⟩ = some (.slice B2 U.length d2) := blk_cell Bx_7.out rfl
            have x3_7 : w7.cell? ⟨w3.heap.size, 3, none⟩ = some (.slice B3 V.length d3) := blk_cell Bx_7.out rfl
            have x4_7 : w7.cell? ⟨w3.heap.size, 4, none⟩ = some (.bool tu) := blk_cell Bx_7.out rfl
            have x5_7 : w7.cell? ⟨w3.heap.size, 5, none⟩ = some (.bool fa) := blk_cell Bx_7.out rfl
            have x6_7 : w7.cell? ⟨w3.heap.size, 6, none⟩ = some (.int .i64 ag) := blk_cell Bx_7.out rfl
            have x7_7 : w7.cell? ⟨w3.heap.size, 7, none⟩ = some (.bool jo) := blk_cell Bx_7.out rfl
            have xz_7 : w3.heap.size < w7.heap.size := blk_lt Bx_7.out
            have f0_7 : w7.cell? ⟨w5.heap.size, 0, none⟩ = some (.int .i64 x1) := blk_cell Bf_7.out rfl
            have fz_7 : w5.heap.size < w7.heap.size := blk_lt Bf_7.out
            clear S1_6 S2_6 S3_6 Sa1_6 Sa2_6 Sa3_6 Sl_6 Bs_6 s0_6 s1_6 s2_6 s3_6 s4_6 s5_6 s6_6 s7_6 sz_6 Bx_6 x0_6 x1_6 x2_6 x3_6 x4_6 x5_6 x6_6 x7_6 xz_6 Bf_6 f0_6 fz_6 HB_6 hb7
            go_wp2_with fail
            go_ret
            exact ⟨rfl, (by repeat (first | (with_reducible exact HB_7.out) | (with_reducible refine bel_drewN ?_ _) | (with_reducible refine bel_drew ?_) | (with_reducible refine bel_alloc ?_ _) | (with_reducible refine bel_set ?_ (by first | omega | (dsimp only; omega)) _)))⟩
        · cases hb1 : inB U x1
          · rw [hb1] at HU1
            cases hb2 : inB V x1
            · rw [hb2] at HV1
              have hb3 := HLF.out hb1 hb2
              rw [hY] at hb3
              rw [hb3] at HY1
              have HV4 : Hid (dv = 5) := by simp only [Hid]; rw [HDC.out]; simp [hY, hb1, hb2]
              clear hY HDC hb1 hb2 hb3
              go_wp2_with fail
              refine (own_as true A1 c1 R A2 c2 H A3 c3 F tu fa ag jo X U V HX.out HU.out HV.out _ (by repeat (first | exact S1_2.out | refine Sp.alloc ?_ _ | refine Sp.drewN ?_ _ | refine Sp.drew ?_)) (by repeat (first | exact S2_2.out | refine Sp.alloc ?_ _ | refine Sp.drewN ?_ _ | refine Sp.drew ?_)) (by repeat (first | exact S3_2.out | refine Sp.alloc ?_ _ | refine Sp.drewN ?_ _ | refine Sp.drew ?_)) (by omega) (by omega) (by omega)).mono ?_
              rintro e3 w3 ⟨B1, d1, B2, d2, B3, d3, rfl, hs3, ht3, hu3, hb3⟩
              have HB_3 : Hid (Below w.heap.size w w3) := bel_chain hb3 (by repeat (first | exact HB_2.out | refine bel_drewN ?_ _ | refine bel_drew ?_ | refine bel_alloc ?_ _))
              have S1_3 : Hid (Sp w3 A1 c1 (R)) := Sp.below (by repeat (first | exact S1_2.out | refine Sp.alloc ?_ _ | refine Sp.drewN ?_ _ | refine Sp.drew ?_)) hb3
              have S2_3 : Hid (Sp w3 A2 c2 (H)) := Sp.below (by repeat (first | exact S2_2.out | refine Sp.alloc ?_ _ | refine Sp.drewN ?_ _ | refine Sp.drew ?_)) hb3
              have S3_3 : Hid (Sp w3 A3 c3 (F)) := Sp.below (by repeat (first | exact S3_2.out | refine Sp.alloc ?_ _ | refine Sp.drewN ?_ _ | refine Sp.drew ?_)) hb3
              have Bs_3 : Hid (w3.heap[w.heap.size]? = some (.cells #[.bool true, .slice A1 R.length c1, .slice A2 H.length c2, .slice A3 F.length c3, .bool tu, .bool fa, .int .i64 ag, .bool jo] 52 (0, 0))) := blk_keep hb3 (blk_keep (W := w2) (by (repeat (first | exact Below.refl _ _ | refine bel_drewN ?_ _ | refine bel_drew ?_ | refine bel_alloc ?_ _ | refine bel_set ?_ (by simp) _))) Bs_2.out)
              have s0_3 : w3.cell? ⟨w.heap.size, 0, none⟩ = some (.bool true) := blk_cell Bs_3.out rfl
              have s1_3 : w3.cell? ⟨w.heap.size, 1, none⟩ = some (.slice A1 R.length c1) := blk_cell Bs_3.out rfl
              have s2_3 : w3.cell? ⟨w.heap.size, 2, none⟩ = some (.slice A2 H.length c2) := blk_cell Bs_3.out rfl
              have s3_3 : w3.cell? ⟨w.heap.size, 3, none⟩ = some (.slice A3 F.length c3) := blk_cell Bs_3.out rfl
              have s4_3 : w3.cell? ⟨w.heap.size, 4, none⟩ = some (.bool tu) := blk_cell Bs_3.out rfl
              have s5_3 : w3.cell? ⟨w.heap.size, 5, none⟩ = some (.bool fa) := blk_cell Bs_3.out rfl
              have s6_3 : w3.cell? ⟨w.heap.size, 6, none⟩ = some (.int .i64 ag) := blk_cell Bs_3.out rfl
              have s7_3 : w3.cell? ⟨w.heap.size, 7, none⟩ = some (.bool jo) := blk_cell Bs_3.out rfl
              have sz_3 : w.heap.size < w3.heap.size := blk_lt Bs_3.out
              have Sa1_3 : Hid (Sp w3 B1 d1 (X)) := hs3
              have Sa2_3 : Hid (Sp w3 B2 d2 (U)) := ht3
              have Sa3_3 : Hid (Sp w3 B3 d3 (V)) := hu3
              clear S1_2 S2_2 S3_2 Bs_2 s0_2 s1_2 s2_2 s3_2 s4_2 s5_2 s6_2 s7_2 sz_2 hs3 ht3 hu3 HB_2 hb3
              go_wp2_with fail
              refine (HDE.out 5 HV4.out _ B1 d1 B2 d2 B3 d3 (by repeat (first | exact Sa1_3.out | refine Sp.alloc ?_ _ | refine Sp.drewN ?_ _ | refine Sp.drew ?_)) (by repeat (first | exact Sa2_3.out | refine Sp.alloc ?_ _ | refine Sp.drewN ?_ _ | refine Sp.drew ?_)) (by repeat (first | exact Sa3_3.out | refine Sp.alloc ?_ _ | refine Sp.drewN ?_ _ | refine Sp.drew ?_))).mono ?_
              rintro e4 w4 ⟨rfl, hb4⟩
              have HB_4 : Hid (Below w.heap.size w w4) := bel_chain hb4 (by repeat (first | exact HB_3.out | refine bel_drewN ?_ _ | refine bel_drew ?_ | refine bel_alloc ?_ _))
              have S1_4 : Hid (Sp w4 A1 c1 (R)) := Sp.below (by repeat (first | exact S1_3.out | refine Sp.alloc ?_ _ | refine Sp.drewN ?_ _ | refine Sp.drew ?_)) hb4
              have S2_4 : Hid (Sp w4 A2 c2 (H)) := Sp.below (by repeat (first | exact S2_3.out | refine Sp.alloc ?_ _ | refine Sp.drewN ?_ _ | refine Sp.drew ?_)) hb4
              have S3_4 : Hid (Sp w4 A3 c3 (F)) := Sp.below (by repeat (first | exact S3_3.out | refine Sp.alloc ?_ _ | refine Sp.drewN ?_ _ | refine Sp.drew ?_)) hb4
              have Sa1_4 : Hid (Sp w4 B1 d1 (X)) := Sp.below (by repeat (first | exact Sa1_3.out | refine Sp.alloc ?_ _ | refine Sp.drewN ?_ _ | refine Sp.drew ?_)) hb4
              have Sa2_4 : Hid (Sp w4 B2 d2 (U)) := Sp.below (by repeat (first | exact Sa2_3.out | refine Sp.alloc ?_ _ | refine Sp.drewN ?_ _ | refine Sp.drew ?_)) hb4
              have Sa3_4 : Hid (Sp w4 B3 d3 (V)) := Sp.below (by repeat (first | exact Sa3_3.out | refine Sp.alloc ?_ _ | refine Sp.drewN ?_ _ | refine Sp.drew ?_)) hb4
              have Bs_4 : Hid (w4.heap[w.heap.size]? = some (.cells #[.bool true, .slice A1 R.length c1, .slice A2 H.length c2, .slice A3 F.length c3, .bool tu, .bool fa, .int .i64 ag, .bool jo] 52 (0, 0))) := blk_keep hb4 (blk_keep (W := w3) (by (repeat (first | exact Below.refl _ _ | refine bel_drewN ?_ _ | refine bel_drew ?_ | refine bel_alloc ?_ _ | refine bel_set ?_ (by simp) _))) Bs_3.out)
              have ord0 : w.heap.size < w3.heap.size := by omega
              have Bx_4 : Hid (w4.heap[w3.heap.size]? = some (.cells #[.bool true, .slice B1 X.length d1, .slice B2 U.length d2, .slice B3 V.length d3, .bool tu, .bool fa, .int .i64 ag, .bool jo] 56 (0, 0))) := blk_keep hb4 (by repeat (first | exact blk_new (by first | rfl | (simp; done) | (simp; omega)) | refine blk_skip ?_ | refine blk_drewN ?_ | refine blk_drew ?_))
              have s0_4 : w4.cell? ⟨w.heap.size, 0, none⟩ = some (.bool true) := blk_cell Bs_4.out rfl
              have s1_4 : w4.cell? ⟨w.heap.size, 1, none⟩ = some (.slice A1 R.length c1) := blk_cell Bs_4.out rfl
              have s2_4 : w4.cell? ⟨w.heap.size, 2, none⟩ = some (.slice A2 H.length c2) := blk_cell Bs_4.out rfl
              have s3_4 : w4.cell? ⟨w.heap.size, 3, none⟩ = some (.slice A3 F.length c3) := blk_cell Bs_4.out rfl
              have s4_4 : w4.cell? ⟨w.heap.size, 4, none⟩ = some (.bool tu) := blk_cell Bs_4.out rfl
              have s5_4 : w4.cell? ⟨w.heap.size, 5, none⟩ = some (.bool fa) := blk_cell Bs_4.out rfl
              have s6_4 : w4.cell? ⟨w.heap.size, 6, none⟩ = some (.int .i64 ag) := blk_cell Bs_4.out rfl
              have s7_4 : w4.cell? ⟨w.heap.size, 7, none⟩ = some (.bool jo) := blk_cell Bs_4.out rfl
              have sz_4 : w.heap.size < w4.heap.size := blk_lt Bs_4.out
              have x0_4 : w4.cell? ⟨w3.heap.size, 0, none⟩ = some (.bool true) := blk_cell Bx_4.out rfl
              have x1_4 : w4.cell? ⟨w3.heap.size, 1, none⟩ = some (.slice B1 X.length d1) := blk_cell Bx_4.out rfl
              have x2_4 : w4.cell? ⟨w3.heap.size, 2, none⟩ = some (.slice B2 U.length d2) := blk_cell Bx_4.out rfl
              have x3_4 : w4.cell? ⟨w3.heap.size, 3, none⟩ = some (.slice B3 V.length d3) := blk_cell Bx_4.out rfl
              have x4_4 : w4.cell? ⟨w3.heap.size, 4, none⟩ = some (.bool tu) := blk_cell Bx_4.out rfl
              have x5_4 : w4.cell? ⟨w3.heap.size, 5, none⟩ = some (.bool fa) := blk_cell Bx_4.out rfl
              have x6_4 : w4.cell? ⟨w3.heap.size, 6, none⟩ = some (.int .i64 ag) := blk_cell Bx_4.out rfl
              have x7_4 : w4.cell? ⟨w3.heap.size, 7, none⟩ = some (.bool jo) := blk_cell Bx_4.out rfl
              have xz_4 : w3.heap.size < w4.heap.size := blk_lt Bx_4.out
              clear S1_3 S2_3 S3_3 Sa1_3 Sa2_3 Sa3_3 Bs_3 s0_3 s1_3 s2_3 s3_3 s4_3 s5_3 s6_3 s7_3 sz_3 HB_3 hb4
              go_wp2_with fail
              refine (first_as1 B1 d1 X x1 x2 r HR.out _ (by repeat (first | exact Sa1_4.out | refine Sp.alloc ?_ _ | refine Sp.drewN ?_ _ | refine Sp.drew ?_)) K1.out (by omega)).mono ?_
              rintro e5 w5 ⟨rfl, hb5⟩
              have HB_5 : Hid (Below w.heap.size w w5) := bel_chain hb5 (by repeat (first | exact HB_4.out | refine bel_drewN ?_ _ | refine bel_drew ?_ | refine bel_alloc ?_ _))
              have S1_5 : Hid (Sp w5 A1 c1 (R)) := Sp.below (by repeat (first | exact S1_4.out | refine Sp.alloc ?_ _ | refine Sp.drewN ?_ _ | refine Sp.drew ?_)) hb5
              have S2_5 : Hid (Sp w5 A2 c2 (H)) := Sp.below (by repeat (first | exact S2_4.out | refine Sp.alloc ?_ _ | refine Sp.drewN ?_ _ | refine Sp.drew ?_)) hb5
              have S3_5 : Hid (Sp w5 A3 c3 (F)) := Sp.below (by repeat (first | exact S3_4.out | refine Sp.alloc ?_ _ | refine Sp.drewN ?_ _ | refine Sp.drew ?_)) hb5
              have Sa1_5 : Hid (Sp w5 B1 d1 (X)) := Sp.below (by repeat (first | exact Sa1_4.out | refine Sp.alloc ?_ _ | refine Sp.drewN ?_ _ | refine Sp.drew ?_)) hb5
              have Sa2_5 : Hid (Sp w5 B2 d2 (U)) := Sp.below (by repeat (first | exact Sa2_4.out | refine Sp.alloc ?_ _ | refine Sp.drewN ?_ _ | refine Sp.drew ?_)) hb5
              have Sa3_5 : Hid (Sp w5 B3 d3 (V)) := Sp.below (by repeat (first | exact Sa3_4.out | refine Sp.alloc ?_ _ | refine Sp.drewN ?_ _ | refine Sp.drew ?_)) hb5
              have Bs_5 : Hid (w5.heap[w.heap.size]? = some (.cells #[.bool true, .slice A1 R.length c1, .slice A2 H.length c2, .slice A3 F.length c3, .bool tu, .bool fa, .int .i64 ag, .bool jo] 52 (0, 0))) := blk_keep hb5 (blk_keep (W := w4) (by (repeat (first | exact Below.refl _ _ | refine bel_drewN ?_ _ | refine bel_drew ?_ | refine bel_alloc ?_ _ | refine bel_set ?_ (by simp) _))) Bs_4.out)
              have Bx_5 : Hid (w5.heap[w3.heap.size]? = some (.cells #[.bool true, .slice B1 X.length d1, .slice B2 U.length d2, .slice B3 V.length d3, .bool tu, .bool fa, .int .i64 ag, .bool jo] 56 (0, 0))) := blk_keep hb5 (blk_keep (W := w4) (by (repeat (first | exact Below.refl _ _ | refine bel_drewN ?_ _ | refine bel_drew ?_ | refine bel_alloc ?_ _ | refine bel_set ?_ (by simp) _))) Bx_4.out)
              have s0_5 : w5.cell? ⟨w.heap.size, 0, none⟩ = some (.bool true) := blk_cell Bs_5.out rfl
              have s1_5 : w5.cell? ⟨w.heap.size, 1, none⟩ = some (.slice A1 R.length c1) := blk_cell Bs_5.out rfl
              have s2_5 : w5.cell? ⟨w.heap.size, 2, none⟩ = some (.slice A2 H.length c2) := blk_cell Bs_5.out rfl
              have s3_5 : w5.cell? ⟨w.heap.size, 3, none⟩ = some (.slice A3 F.length c3) := blk_cell Bs_5.out rfl
              have s4_5 : w5.cell? ⟨w.heap.size, 4, none⟩ = some (.bool tu) := blk_cell Bs_5.out rfl
              have s5_5 : w5.cell? ⟨w.heap.size, 5, none⟩ = some (.bool fa) := blk_cell Bs_5.out rfl
              have s6_5 : w5.cell? ⟨w.heap.size, 6, none⟩ = some (.int .i64 ag) := blk_cell Bs_5.out rfl
              have s7_5 : w5.cell? ⟨w.heap.size, 7, none⟩ = some (.bool jo) := blk_cell Bs_5.out rfl
              have sz_5 : w.heap.size < w5.heap.size := blk_lt Bs_5.out
              have x0_5 : w5.cell? ⟨w3.heap.size, 0, none⟩ = some (.bool true) := blk_cell Bx_5.out rfl
              have x1_5 : w5.cell? ⟨w3.heap.size, 1, none⟩ = some (.slice B1 X.length d1) := blk_cell Bx_5.out rfl
              have x2_5 : w5.cell? ⟨w3.heap.size, 2, none⟩ = some (.slice B2 U.length d2) := blk_cell Bx_5.out rfl
              have x3_5 : w5.cell? ⟨w3.heap.size, 3, none⟩ = some (.slice B3 V.length d3) := blk_cell Bx_5.out rfl
              have x4_5 : w5.cell? ⟨w3.heap.size, 4, none⟩ = some (.bool tu) := blk_cell Bx_5.out rfl
              have x5_5 : w5.cell? ⟨w3.heap.size, 5, none⟩ = some (.bool fa) := blk_cell Bx_5.out rfl
              have x6_5 : w5.cell? ⟨w3.heap.size, 6, none⟩ = some (.int .i64 ag) := blk_cell Bx_5.out rfl
              have x7_5 : w5.cell? ⟨w3.heap.size, 7, none⟩ = some (.bool jo) := blk_cell Bx_5.out rfl
              have xz_5 : w3.heap.size < w5.heap.size := blk_lt Bx_5.out
              clear S1_4 S2_4 S3_4 Sa1_4 Sa2_4 Sa3_4 Bs_4 s0_4 s1_4 s2_4 s3_4 s4_4 s5_4 s6_4 s7_4 sz_4 Bx_4 x0_4 x1_4 x2_4 x3_4 x4_4 x5_4 x6_4 x7_4 xz_4 HB_4 hb5
              go_wp2_with fail
              refine ((HL _ B1 d1 B2 d2 B3 d3 (by repeat (first | exact Sa1_5.out | refine Sp.alloc ?_ _ | refine Sp.drewN ?_ _ | refine Sp.drew ?_)) (by repeat (first | exact Sa2_5.out | refine Sp.alloc ?_ _ | refine Sp.drewN ?_ _ | refine Sp.drew ?_)) (by repeat (first | exact Sa3_5.out | refine Sp.alloc ?_ _ | refine Sp.drewN ?_ _ | refine Sp.drew ?_))).out).mono ?_
              rintro e6 w6 ⟨Al, cl, rfl, hs6, hb6⟩
              have HB_6 : Hid (Below w.heap.size w w6) := bel_chain hb6 (by repeat (first | exact HB_5.out | refine bel_drewN ?_ _ | refine bel_drew ?_ | refine bel_alloc ?_ _))
              have S1_6 : Hid (Sp w6 A1 c1 (R)) := Sp.below (by repeat (first | exact S1_5.out | refine Sp.alloc ?_ _ | refine Sp.drewN ?_ _ | refine Sp.drew ?_)) hb6
              have S2_6 : Hid (Sp w6 A2 c2 (H)) := Sp.below (by repeat (first | exact S2_5.out | refine Sp.alloc ?_ _ | refine Sp.drewN ?_ _ | refine Sp.drew ?_)) hb6
              have S3_6 : Hid (Sp w6 A3 c3 (F)) := Sp.below (by repeat (first | exact S3_5.out | refine Sp.alloc ?_ _ | refine Sp.drewN ?_ _ | refine Sp.drew ?_)) hb6
              have Sa1_6 : Hid (Sp w6 B1 d1 (X)) := Sp.below (by repeat (first | exact Sa1_5.out | refine Sp.alloc ?_ _ | refine Sp.drewN ?_ _ | refine Sp.drew ?_)) hb6
              have Sa2_6 : Hid (Sp w6 B2 d2 (U)) := Sp.below (by repeat (first | exact Sa2_5.out | refine Sp.alloc ?_ _ | refine Sp.drewN ?_ _ | refine Sp.drew ?_)) hb6
              have Sa3_6 : Hid (Sp w6 B3 d3 (V)) := Sp.below (by repeat (first | exact Sa3_5.out | refine Sp.alloc ?_ _ | refine Sp.drewN ?_ _ | refine Sp.drew ?_)) hb6
              have Bs_6 : Hid (w6.heap[w.heap.size]? = some (.cells #[.bool true, .slice A1 R.length c1, .slice A2 H.length c2, .slice A3 F.length c3, .bool tu, .bool fa, .int .i64 ag, .bool jo] 52 (0, 0))) := blk_keep hb6 (blk_keep (W := w5) (by (repeat (first | exact Below.refl _ _ | refine bel_drewN ?_ _ | refine bel_drew ?_ | refine bel_alloc ?_ _ | refine bel_set ?_ (by simp) _))) Bs_5.out)
              have Bx_6 : Hid (w6.heap[w3.heap.size]? = some (.cells #[.bool true, .slice B1 X.length d1, .slice B2 U.length d2, .slice B3 V.length d3, .bool tu, .bool fa, .int .i64 ag, .bool jo] 56 (0, 0))) := blk_keep hb6 (blk_keep (W := w5) (by (repeat (first | exact Below.refl _ _ | refine bel_drewN ?_ _ | refine bel_drew ?_ | refine bel_alloc ?_ _ | refine bel_set ?_ (by simp) _))) Bx_5.out)
              have ord1 : w.heap.size < w5.heap.size := by omega
              have ord2 : w3.heap.size < w5.heap.size := by omega
              have Bf_6 : Hid (w6.heap[w5.heap.size]? = some (.cells #[.int .i64 x1, .int .i64 x2] 29 (0, 0))) := blk_keep hb6 (by repeat (first | exact blk_new (by first | rfl | (simp; done) | (simp; omega)) | refine blk_skip ?_ | refine blk_drewN ?_ | refine blk_drew ?_))
              have s0_6 : w6.cell? ⟨w.heap.size, 0, none⟩ = some (.bool true) := blk_cell Bs_6.out rfl
              have s1_6 : w6.cell? ⟨w.heap.size, 1, none⟩ = some (.slice A1 R.length c1) := blk_cell Bs_6.out rfl
              have s2_6 : w6.cell? ⟨w.heap.size, 2, none⟩ = some (.slice A2 H.length c2) := blk_cell Bs_6.out rfl
              have s3_6 : w6.cell? ⟨w.heap.size, 3, none⟩ = some (.slice A3 F.length c3) := blk_cell Bs_6.out rfl
              have s4_6 : w6.cell? ⟨w.heap.size, 4, none⟩ = some (.bool tu) := blk_cell Bs_6.out rfl
              have s5_6 : w6.cell? ⟨w.heap.size, 5, none⟩ = some (.bool fa) := blk_cell Bs_6.out rfl
              have s6_6 : w6.cell? ⟨w.heap.size, 6, none⟩ = some (.int .i64 ag) := blk_cell Bs_6.out rfl
              have s7_6 : w6.cell? ⟨w.heap.size, 7, none⟩ = some (.bool jo) := blk_cell Bs_6.out rfl
              have sz_6 : w.heap.size < w6.heap.size := blk_lt Bs_6.out
              have x0_6 : w6.cell? ⟨w3.heap.size, 0, none⟩ = some (.bool true) := blk_cell Bx_6.out rfl
              have x1_6 : w6.cell? ⟨w3.heap.size, 1, none⟩ = some (.slice B1 X.length d1) := blk_cell Bx_6.out rfl
              have x2_6 : w6.cell? ⟨w3.heap.size, 2, none⟩ = some (.slice B2 U.length d2) := blk_cell Bx_6.out rfl
              have x3_6 : w6.cell? ⟨w3.heap.size, 3, none⟩ = some (.slice B3 V.length d3) := blk_cell Bx_6.out rfl
              have x4_6 : w6.cell? ⟨w3.heap.size, 4, none⟩ = some (.bool tu) := blk_cell Bx_6.out rfl
              have x5_6 : w6.cell? ⟨w3.heap.size, 5, none⟩ = some (.bool fa) := blk_cell Bx_6.out rfl
              have x6_6 : w6.cell? ⟨w3.heap.size, 6, none⟩ = some (.int .i64 ag) := blk_cell Bx_6.out rfl
              have x7_6 : w6.cell? ⟨w3.heap.size, 7, none⟩ = some (.bool jo) := blk_cell Bx_6.out rfl
              have xz_6 : w3.heap.size < w6.heap.size := blk_lt Bx_6.out
              have f0_6 : w6.cell? ⟨w5.heap.size, 0, none⟩ = some (.int .i64 x1) := blk_cell Bf_6.out rfl
              have fz_6 : w5.heap.size < w6.heap.size := blk_lt Bf_6.out
              have Sl_6 : Hid (Sp w6 Al cl (Y)) := hs6
              clear S1_5 S2_5 S3_5 Sa1_5 Sa2_5 Sa3_5 Bs_5 s0_5 s1_5 s2_5 s3_5 s4_5 s5_5 s6_5 s7_5 sz_5 Bx_5 x0_5 x1_5 x2_5 x3_5 x4_5 x5_5 x6_5 x7_5 xz_5 hs6 HB_5 hb6
              go_wp2_with fail
              refine ((HLN _ Al cl (by repeat (first | exact Sl_6.out | refine Sp.alloc ?_ _ | refine Sp.drewN ?_ _ | refine Sp.drew ?_))).out).mono ?_
              rintro e7 w7 ⟨rfl, hb7⟩
              have HB_7 : Hid (Below w.heap.size w w7) := bel_chain hb7 (by repeat (first | exact HB_6.out | refine bel_drewN ?_ _ | refine bel_drew ?_ | refine bel_alloc ?_ _))
              have S1_7 : Hid (Sp w7 A1 c1 (R)) := Sp.below (by repeat (first | exact S1_6.out | refine Sp.alloc ?_ _ | refine Sp.drewN ?_ _ | refine Sp.drew ?_)) hb7
              have S2_7 : Hid (Sp w7 A2 c2 (H)) := Sp.below (by repeat (first | exact S2_6.out | refine Sp.alloc ?_ _ | refine Sp.drewN ?_ _ | refine Sp.drew ?_)) hb7
              have S3_7 : Hid (Sp w7 A3 c3 (F)) := Sp.below (by repeat (first | exact S3_6.out | refine Sp.alloc ?_ _ | refine Sp.drewN ?_ _ | refine Sp.drew ?_)) hb7
              have Sa1_7 : Hid (Sp w7 B1 d1 (X)) := Sp.below (by repeat (first | exact Sa1_6.out | refine Sp.alloc ?_ _ | refine Sp.drewN ?_ _ | refine Sp.drew ?_)) hb7
              have Sa2_7 : Hid (Sp w7 B2 d2 (U)) := Sp.below (by repeat (first | exact Sa2_6.out | refine Sp.alloc ?_ _ | refine Sp.drewN ?_ _ | refine Sp.drew ?_)) hb7
              have Sa3_7 : Hid (Sp w7 B3 d3 (V)) := Sp.below (by repeat (first | exact Sa3_6.out | refine Sp.alloc ?_ _ | refine Sp.drewN ?_ _ | refine Sp.drew ?_)) hb7
              have Sl_7 : Hid (Sp w7 Al cl (Y)) := Sp.below (by repeat (first | exact Sl_6.out | refine Sp.alloc ?_ _ | refine Sp.drewN ?_ _ | refine Sp.drew ?_)) hb7
              have Bs_7 : Hid (w7.heap[w.heap.size]? = some (.cells #[.bool true, .slice A1 R.length c1, .slice A2 H.length c2, .slice A3 F.length c3, .bool tu, .bool fa, .int .i64 ag, .bool jo] 52 (0, 0))) := blk_keep hb7 (blk_keep (W := w6) (by (repeat (first | exact Below.refl _ _ | refine bel_drewN ?_ _ | refine bel_drew ?_ | refine bel_alloc ?_ _ | refine bel_set ?_ (by simp) _))) Bs_6.out)
              have Bx_7 : Hid (w7.heap[w3.heap.size]? = some (.cells #[.bool true, .slice B1 X.length d1, .slice B2 U.length d2, .slice B3 V.length d3, .bool tu, .bool fa, .int .i64 ag, .bool jo] 56 (0, 0))) := blk_keep hb7 (blk_keep (W := w6) (by (repeat (first | exact Below.refl _ _ | refine bel_drewN ?_ _ | refine bel_drew ?_ | refine bel_alloc ?_ _ | refine bel_set ?_ (by simp) _))) Bx_6.out)
              have Bf_7 : Hid (w7.heap[w5.heap.size]? = some (.cells #[.int .i64 x1, .int .i64 x2] 29 (0, 0))) := blk_keep hb7 (blk_keep (W := w6) (by (repeat (first | exact Below.refl _ _ | refine bel_drewN ?_ _ | refine bel_drew ?_ | refine bel_alloc ?_ _ | refine bel_set ?_ (by simp) _))) Bf_6.out)
              have s0_7 : w7.cell? ⟨w.heap.size, 0, none⟩ = some (.bool true) := blk_cell Bs_7.out rfl
              have s1_7 : w7.cell? ⟨w.heap.size, 1, none⟩ = some (.slice A1 R.length c1) := blk_cell Bs_7.out rfl
              have s2_7 : w7.cell? ⟨w.heap.size, 2, none⟩ = some (.slice A2 H.length c2) := blk_cell Bs_7.out rfl
              have s3_7 : w7.cell? ⟨w.heap.size, 3, none⟩ = some (.slice A3 F.length c3) := blk_cell Bs_7.out rfl
              have s4_7 : w7.cell? ⟨w.heap.size, 4, none⟩ = some (.bool tu) := blk_cell Bs_7.out rfl
              have s5_7 : w7.cell? ⟨w.heap.size, 5, none⟩ = some (.bool fa) := blk_cell Bs_7.out rfl
              have s6_7 : w7.cell? ⟨w.heap.size, 6, none⟩ = some (.int .i64 ag) := blk_cell Bs_7.out rfl
              have s7_7 : w7.cell? ⟨w.heap.size, 7, none⟩ = some (.bool jo) := blk_cell Bs_7.out rfl
              have sz_7 : w.heap.size < w7.heap.size := blk_lt Bs_7.out
              have x0_7 : w7.cell? ⟨w3.heap.size, 0, none⟩ = some (.bool true) := blk_cell Bx_7.out rfl
              have x1_7 : w7.cell? ⟨w3.heap.size, 1, none⟩ = some (.slice B1 X.length d1) := blk_cell Bx_7.out rfl
              have x2_7 : w7.cell? ⟨w3.heap.size, 2, none⟩ = some (.slice B2 U.length d2) := blk_cell Bx_7.out rfl
              have x3_7 : w7.cell? ⟨w3.heap.size, 3, none⟩ = some (.slice B3 V.length d3) := blk_cell Bx_7.out rfl
              have x4_7 : w7.cell? ⟨w3.heap.size, 4, none⟩ = some (.bool tu) := blk_cell Bx_7.out rfl
              have x5_7 : w7.cell? ⟨w3.heap.size, 5, none⟩ = some (.bool fa) := blk_cell Bx_7.out rfl
              have x6_7 : w7.cell? ⟨w3.heap.size, 6, none⟩ = some (.int .i64 ag) := blk_cell Bx_7.out rfl
              have x7_7 : w7.cell? ⟨w3.heap.size, 7, none⟩ = some (.bool jo) := blk_cell Bx_7.out rfl
              have xz_7 : w3.heap.size < w7.heap.size := blk_lt Bx_7.out
              have f0_7 : w7.cell? ⟨w5.heap.size, 0, none⟩ = some (.int .i64 x1) := blk_cell Bf_7.out rfl
              have fz_7 : w5.heap.size < w7.heap.size := blk_lt Bf_7.out
              clear S1_6 S2_6 S3_6 Sa1_6 Sa2_6 Sa3_6 Sl_6 Bs_6 s0_6 s1_6 s2_6 s3_6 s4_6 s5_6 s6_6 s7_6 sz_6 Bx_6 x0_6 x1_6 x2_6 x3_6 x4_6 x5_6 x6_6 x7_6 xz_6 Bf_6 f0_6 fz_6 HB_6 hb7
              clear Sl_7
              go_wp2_with fail
              refine ((HL _ B1 d1 B2 d2 B3 d3 (by repeat (first | exact Sa1_7.out | refine Sp.alloc ?_ _ | refine Sp.drewN ?_ _ | refine Sp.drew ?_)) (by repeat (first | exact Sa2_7.out | refine Sp.alloc ?_ _ | refine Sp.drewN ?_ _ | refine Sp.drew ?_)) (by repeat (first | exact Sa3_7.out | refine Sp.alloc ?_ _ | refine Sp.drewN ?_ _ | refine Sp.drew ?_))).out).mono ?_
              rintro e8 w8 ⟨Am, cm, rfl, hs8, hb8⟩
              have HB_8 : Hid (Below w.heap.size w w8) := bel_chain hb8 (by repeat (first | exact HB_7.out | refine bel_drewN ?_ _ | refine bel_drew ?_ | refine bel_alloc ?_ _))
              have S1_8 : Hid (Sp w8 A1 c1 (R)) := Sp.below (by repeat (first | exact S1_7.out | refine Sp.alloc ?_ _ | refine Sp.drewN ?_ _ | refine Sp.drew ?_)) hb8
              have S2_8 : Hid (Sp w8 A2 c2 (H)) := Sp.below (by repeat (first | exact S2_7.out | refine Sp.alloc ?_ _ | refine Sp.drewN ?_ _ | refine Sp.drew ?_)) hb8
              have S3_8 : Hid (Sp w8 A3 c3 (F)) := Sp.below (by repeat (first | exact S3_7.out | refine Sp.alloc ?_ _ | refine Sp.drewN ?_ _ | refine Sp.drew ?_)) hb8
              have Sa1_8 : Hid (Sp w8 B1 d1 (X)) := Sp.below (by repeat (first | exact Sa1_7.out | refine Sp.alloc ?_ _ | refine Sp.drewN ?_ _ | refine Sp.drew ?_)) hb8
              have Sa2_8 : Hid (Sp w8 B2 d2 (U)) := Sp.below (by repeat (first | exact Sa2_7.out | refine Sp.alloc ?_ _ | refine Sp.drewN ?_ _ | refine Sp.drew ?_)) hb8
              have Sa3_8 : Hid (Sp w8 B3 d3 (V)) := Sp.below (by repeat (first | exact Sa3_7.out | refine Sp.alloc ?_ _ | refine Sp.drewN ?_ _ | refine Sp.drew ?_)) hb8
              have Bs_8 : Hid (w8.heap[w.heap.size]? = some (.cells #[.bool true, .slice A1 R.length c1, .slice A2 H.length c2, .slice A3 F.length c3, .bool tu, .bool fa, .int .i64 ag, .bool jo] 52 (0, 0))) := blk_keep hb8 (blk_keep (W := w7) (by (repeat (first | exact Below.refl _ _ | refine bel_drewN ?_ _ | refine bel_drew ?_ | refine bel_alloc ?_ _ | refine bel_set ?_ (by simp) _))) Bs_7.out)
              have Bx_8 : Hid (w8.heap[w3.heap.size]? = some (.cells #[.bool true, .slice B1 X.length d1, .slice B2 U.length d2, .slice B3 V.length d3, .bool tu, .bool fa, .int .i64 ag, .bool jo] 56 (0, 0))) := blk_keep hb8 (blk_keep (W := w7) (by (repeat (first | exact Below.refl _ _ | refine bel_drewN ?_ _ | refine bel_drew ?_ | refine bel_alloc ?_ _ | refine bel_set ?_ (by simp) _))) Bx_7.out)
              have Bf_8 : Hid (w8.heap[w5.heap.size]? = some (.cells #[.int .i64 x1, .int .i64 x2] 29 (0, 0))) := blk_keep hb8 (blk_keep (W := w7) (by (repeat (first | exact Below.refl _ _ | refine bel_drewN ?_ _ | refine bel_drew ?_ | refine bel_alloc ?_ _ | refine bel_set ?_ (by simp) _))) Bf_7.out)
              have s0_8 : w8.cell? ⟨w.heap.size, 0, none⟩ = some (.bool true) := blk_cell Bs_8.out rfl
              have s1_8 : w8.cell? ⟨w.heap.size, 1, none⟩ = some (.slice A1 R.length c1) := blk_cell Bs_8.out rfl
              have s2_8 : w8.cell? ⟨w.heap.size, 2, none⟩ = some (.slice A2 H.length c2) := blk_cell Bs_8.out rfl
              have s3_8 : w8.cell? ⟨w.heap.size, 3, none⟩ = some (.slice A3 F.length c3) := blk_cell Bs_8.out rfl
              have s4_8 : w8.cell? ⟨w.heap.size, 4, none⟩ = some (.bool tu) := blk_cell Bs_8.out rfl
              have s5_8 : w8.cell? ⟨w.heap.size, 5, none⟩ = some (.bool fa) := blk_cell Bs_8.out rfl
              have s6_8 : w8.cell? ⟨w.heap.size, 6, none⟩ = some (.int .i64 ag) := blk_cell Bs_8.out rfl
              have s7_8 : w8.cell? ⟨w.heap.size, 7, none⟩ = some (.bool jo) := blk_cell Bs_8.out rfl
              have sz_8 : w.heap.size < w8.heap.size := blk_lt Bs_8.out
              have x0_8 : w8.cell? ⟨w3.heap.size, 0, none⟩ = some (.bool true) := blk_cell Bx_8.out rfl
              have x1_8 : w8.cell? ⟨w3.heap.size, 1, none⟩ = some (.slice B1 X.length d1) := blk_cell Bx_8.out rfl
              have x2_8 : w8.cell? ⟨w3.heap.size, 2, none⟩ = some (.slice B2 U.length d2) := blk_cell Bx_8.out rfl
              have x3_8 : w8.cell? ⟨w3.heap.size, 3, none⟩ = some (.slice B3 V.length d3) := blk_cell Bx_8.out rfl
              have x4_8 : w8.cell? ⟨w3.heap.size, 4, none⟩ = some (.bool tu) := blk_cell Bx_8.out rfl
              have x5_8 : w8.cell? ⟨w3.heap.size, 5, none⟩ = some (.bool fa) := blk_cell Bx_8.out rfl
              have x6_8 : w8.cell? ⟨w3.heap.size, 6, none⟩ = some (.int .i64 ag) := blk_cell Bx_8.out rfl
              have x7_8 : w8.cell? ⟨w3.heap.size, 7, none⟩ = some (.bool jo) := blk_cell Bx_8.out rfl
              have xz_8 : w3.heap.size < w8.heap.size := blk_lt Bx_8.out
              have f0_8 : w8.cell? ⟨w5.heap.size, 0, none⟩ = some (.int .i64 x1) := blk_cell Bf_8.out rfl
              have fz_8 : w5.heap.size < w8.heap.size := blk_lt Bf_8.out
              have Sl_8 : Hid (Sp w8 Am cm (Y)) := hs8
              clear S1_7 S2_7 S3_7 Sa1_7 Sa2_7 Sa3_7 Bs_7 s0_7 s1_7 s2_7 s3_7 s4_7 s5_7 s6_7 s7_7 sz_7 Bx_7 x0_7 x1_7 x2_7 x3_7 x4_7 x5_7 x6_7 x7_7 xz_7 Bf_7 f0_7 fz_7 hs8 HB_7 hb8
              go_wp2_with fail
              refine ((HY1 _ Am cm (by repeat (first | exact Sl_8.out | refine Sp.alloc ?_ _ | refine Sp.drewN ?_ _ | refine Sp.drew ?_))).out).mono ?_
              rintro e9 w9 ⟨rfl, hb9⟩
              have HB_9 : Hid (Below w.heap.size w w9) := bel_chain hb9 (by repeat (first | exact HB_8.out | refine bel_drewN ?_ _ | refine bel_drew ?_ | refine bel_alloc ?_ _))
              have S1_9 : Hid (Sp w9 A1 c1 (R)) := Sp.below (by repeat (first | exact S1_8.out | refine Sp.alloc ?_ _ | refine Sp.drewN ?_ _ | refine Sp.drew ?_)) hb9
              have S2_9 : Hid (Sp w9 A2 c2 (H)) := Sp.below (by repeat (first | exact S2_8.out | refine Sp.alloc ?_ _ | refine Sp.drewN ?_ _ | refine Sp.drew ?_)) hb9
              have S3_9 : Hid (Sp w9 A3 c3 (F)) := Sp.below (by repeat (first | exact S3_8.out | refine Sp.alloc ?_ _ | refine Sp.drewN ?_ _ | refine Sp.drew ?_)) hb9
              have Sa1_9 : Hid (Sp w9 B1 d1 (X)) := Sp.below (by repeat (first | exact Sa1_8.out | refine Sp.alloc ?_ _ | refine Sp.drewN ?_ _ | refine Sp.drew ?_)) hb9
              have Sa2_9 : Hid (Sp w9 B2 d2 (U)) := Sp.below (by repeat (first | exact Sa2_8.out | refine Sp.alloc ?_ _ | refine Sp.drewN ?_ _ | refine Sp.drew ?_)) hb9
              have Sa3_9 : Hid (Sp w9 B3 d3 (V)) := Sp.below (by repeat (first | exact Sa3_8.out | refine Sp.alloc ?_ _ | refine Sp.drewN ?_ _ | refine Sp.drew ?_)) hb9
              have Sl_9 : Hid (Sp w9 Am cm (Y)) := Sp.below (by repeat (first | exact Sl_8.out | refine Sp.alloc ?_ _ | refine Sp.drewN ?_ _ | refine Sp.drew ?_)) hb9
              have Bs_9 : Hid (w9.heap[w.heap.size]? = some (.cells #[.bool true, .slice A1 R.length c1, .slice A2 H.length c2, .slice A3 F.length c3, .bool tu, .bool fa, .int .i64 ag, .bool jo] 52 (0, 0))) := blk_keep hb9 (blk_keep (W := w8) (by (repeat (first | exact Below.refl _ _ | refine bel_drewN ?_ _ | refine bel_drew ?_ | refine bel_alloc ?_ _ | refine bel_set ?_ (by simp) _))) Bs_8.out)
              have Bx_9 : Hid (w9.heap[w3.heap.size]? = some (.cells #[.bool true, .slice B1 X.length d1, .slice B2 U.length d2, .slice B3 V.length d3, .bool tu, .bool fa, .int .i64 ag, .bool jo] 56 (0, 0))) := blk_keep hb9 (blk_keep (W := w8) (by (repeat (first | exact Below.refl _ _ | refine bel_drewN ?_ _ | refine bel_drew ?_ | refine bel_alloc ?_ _ | refine bel_set ?_ (by simp) _))) Bx_8.out)
              have Bf_9 : Hid (w9.heap[w5.heap.size]? = some (.cells #[.int .i64 x1, .int .i64 x2] 29 (0, 0))) := blk_keep hb9 (blk_keep (W := w8) (by (repeat (first | exact Below.refl _ _ | refine bel_drewN ?_ _ | refine bel_drew ?_ | refine bel_alloc ?_ _ | refine bel_set ?_ (by simp) _))) Bf_8.out)
              have s0_9 : w9.cell? ⟨w.heap.size, 0, none⟩ = some (.bool true) := blk_cell Bs_9.out rfl
              have s1_9 : w9.cell? ⟨w.heap.size, 1, none⟩ = some (.slice A1 R.length c1) := blk_cell Bs_9.out rfl
              have s2_9 : w9.cell? ⟨w.heap.size, 2, none⟩ = some (.slice A2 H.length c2) := blk_cell Bs_9.out rfl
              have s3_9 : w9.cell? ⟨w.heap.size, 3, none⟩ = some (.slice A3 F.length c3) := blk_cell Bs_9.out rfl
              have s4_9 : w9.cell? ⟨w.heap.size, 4, none⟩ = some (.bool tu) := blk_cell Bs_9.out rfl
              have s5_9 : w9.cell? ⟨w.heap.size, 5, none⟩ = some (.bool fa) := blk_cell Bs_9.out rfl
              have s6_9 : w9.cell? ⟨w.heap.size, 6, none⟩ = some (.int .i64 ag) := blk_cell Bs_9.out rfl
              have s7_9 : w9.cell? ⟨w.heap.size, 7, none⟩ = some (.bool jo) := blk_cell Bs_9.out rfl
              have sz_9 : w.heap.size < w9.heap.size := blk_lt Bs_9.out
              have x0_9 : w9.cell? ⟨w3.heap.size, 0, none⟩ = some (.bool true) := blk_cell Bx_9.out rfl
              have x1_9 : w9.cell? ⟨w3.heap.size, 1, none⟩ = some (.slice B1 X.length d1) := blk_cell Bx_9.out rfl
              have x2_9 : w9.cell? ⟨w3.heap.size, 2, none⟩ = some (.slice B2 U.length d2) := blk_cell Bx_9.out rfl
              have x3_9 : w9.cell? ⟨w3.heap.size, 3, none⟩ = some (.slice B3 V.length d3) := blk_cell Bx_9.out rfl
              have x4_9 : w9.cell? ⟨w3.heap.size, 4, none⟩ = some (.bool tu) := blk_cell Bx_9.out rfl
              have x5_9 : w9.cell? ⟨w3.heap.size, 5, none⟩ = some (.bool fa) := blk_cell Bx_9.out rfl
              have x6_9 : w9.cell? ⟨w3.heap.size, 6, none⟩ = some (.int .i64 ag) := blk_cell Bx_9.out rfl
              have x7_9 : w9.cell? ⟨w3.heap.size, 7, none⟩ = some (.bool jo) := blk_cell Bx_9.out rfl
              have xz_9 : w3.heap.size < w9.heap.size := blk_lt Bx_9.out
              have f0_9 : w9.cell? ⟨w5.heap.size, 0, none⟩ = some (.int .i64 x1) := blk_cell Bf_9.out rfl
              have fz_9 : w5.heap.size < w9.heap.size := blk_lt Bf_9.out
              clear S1_8 S2_8 S3_8 Sa1_8 Sa2_8 Sa3_8 Sl_8 Bs_8 s0_8 s1_8 s2_8 s3_8 s4_8 s5_8 s6_8 s7_8 sz_8 Bx_8 x0_8 x1_8 x2_8 x3_8 x4_8 x5_8 x6_8 x7_8 xz_8 Bf_8 f0_8 fz_8 HB_8 hb9
              go_wp2_with fail
              go_ret
              exact ⟨rfl, (by repeat (first | (with_reducible exact HB_9.out) | (with_reducible refine bel_drewN ?_ _) | (with_reducible refine bel_drew ?_) | (with_reducible refine bel_alloc ?_ _) | (with_reducible refine bel_set ?_ (by first | omega | (dsimp only; omega)) _)))⟩
            · rw [hb2] at HV1
              have HV4 : Hid (dv = 2) := by simp only [Hid]; rw [HDC.out]; simp [hY, hb1, hb2]
              clear hY HDC hb1 hb2
              go_wp2_with fail
              refine (own_as true A1 c1 R A2 c2 H A3 c3 F tu fa ag jo X U V HX.out HU.out HV.out _ (by repeat (first | exact S1_2.out | refine Sp.alloc ?_ _ | refine Sp.drewN ?_ _ | refine Sp.drew ?_)) (by repeat (first | exact S2_2.out | refine Sp.alloc ?_ _ | refine Sp.drewN ?_ _ | refine Sp.drew ?_)) (by repeat (first | exact S3_2.out | refine Sp.alloc ?_ _ | refine Sp.drewN ?_ _ | refine Sp.drew ?_)) (by omega) (by omega) (by omega)).mono ?_
              rintro e3 w3 ⟨B1, d1, B2, d2, B3, d3, rfl, hs3, ht3, hu3, hb3⟩
              have HB_3 : Hid (Below w.heap.size w w3) := bel_chain hb3 (by repeat (first | exact HB_2.out | refine bel_drewN ?_ _ | refine bel_drew ?_ | refine bel_alloc ?_ _))
              have S1_3 : Hid (Sp w3 A1 c1 (R)) := Sp.below (by repeat (first | exact S1_2.out | refine Sp.alloc ?_ _ | refine Sp.drewN ?_ _ | refine Sp.drew ?_)) hb3
              have S2_3 : Hid (Sp w3 A2 c2 (H)) := Sp.below (by repeat (first | exact S2_2.out | refine Sp.alloc ?_ _ | refine Sp.drewN ?_ _ | refine Sp.drew ?_)) hb3
              have S3_3 : Hid (Sp w3 A3 c3 (F)) := Sp.below (by repeat (first | exact S3_2.out | refine Sp.alloc ?_ _ | refine Sp.drewN ?_ _ | refine Sp.drew ?_)) hb3
              have Bs_3 : Hid (w3.heap[w.heap.size]? = some (.cells #[.bool true, .slice A1 R.length c1, .slice A2 H.length c2, .slice A3 F.length c3, .bool tu, .bool fa, .int .i64 ag, .bool jo] 52 (0, 0))) := blk_keep hb3 (blk_keep (W := w2) (by (repeat (first | exact Below.refl _ _ | refine bel_drewN ?_ _ | refine bel_drew ?_ | refine bel_alloc ?_ _ | refine bel_set ?_ (by simp) _))) Bs_2.out)
              have s0_3 : w3.cell? ⟨w.heap.size, 0, none⟩ = some (.bool true) := blk_cell Bs_3.out rfl
              have s1_3 : w3.cell? ⟨w.heap.size, 1, none⟩ = some (.slice A1 R.length c1) := blk_cell Bs_3.out rfl
              have s2_3 : w3.cell? ⟨w.heap.size, 2, none⟩ = some (.slice A2 H.length c2) := blk_cell Bs_3.out rfl
              have s3_3 : w3.cell? ⟨w.heap.size, 3, none⟩ = some (.slice A3 F.length c3) := blk_cell Bs_3.out rfl
              have s4_3 : w3.cell? ⟨w.heap.size, 4, none⟩ = some (.bool tu) := blk_cell Bs_3.out rfl
              have s5_3 : w3.cell? ⟨w.heap.size, 5, none⟩ = some (.bool fa) := blk_cell Bs_3.out rfl
              have s6_3 : w3.cell? ⟨w.heap.size, 6, none⟩ = some (.int .i64 ag) := blk_cell Bs_3.out rfl
              have s7_3 : w3.cell? ⟨w.heap.size, 7, none⟩ = some (.bool jo) := blk_cell Bs_3.out rfl
              have sz_3 : w.heap.size < w3.heap.size := blk_lt Bs_3.out
              have Sa1_3 : Hid (Sp w3 B1 d1 (X)) := hs3
              have Sa2_3 : Hid (Sp w3 B2 d2 (U)) := ht3
              have Sa3_3 : Hid (Sp w3 B3 d3 (V)) := hu3
              clear S1_2 S2_2 S3_2 Bs_2 s0_2 s1_2 s2_2 s3_2 s4_2 s5_2 s6_2 s7_2 sz_2 hs3 ht3 hu3 HB_2 hb3
              go_wp2_with fail
              refine (HDE.out 2 HV4.out _ B1 d1 B2 d2 B3 d3 (by repeat (first | exact Sa1_3.out | refine Sp.alloc ?_ _ | refine Sp.drewN ?_ _ | refine Sp.drew ?_)) (by repeat (first | exact Sa2_3.out | refine Sp.alloc ?_ _ | refine Sp.drewN ?_ _ | refine Sp.drew ?_)) (by repeat (first | exact Sa3_3.out | refine Sp.alloc ?_ _ | refine Sp.drewN ?_ _ | refine Sp.drew ?_))).mono ?_
              rintro e4 w4 ⟨rfl, hb4⟩
              have HB_4 : Hid (Below w.heap.size w w4) := bel_chain hb4 (by repeat (first | exact HB_3.out | refine bel_drewN ?_ _ | refine bel_drew ?_ | refine bel_alloc ?_ _))
              have S1_4 : Hid (Sp w4 A1 c1 (R)) := Sp.below (by repeat (first | exact S1_3.out | refine Sp.alloc ?_ _ | refine Sp.drewN ?_ _ | refine Sp.drew ?_)) hb4
              have S2_4 : Hid (Sp w4 A2 c2 (H)) := Sp.below (by repeat (first | exact S2_3.out | refine Sp.alloc ?_ _ | refine Sp.drewN ?_ _ | refine Sp.drew ?_)) hb4
              have S3_4 : Hid (Sp w4 A3 c3 (F)) := Sp.below (by repeat (first | exact S3_3.out | refine Sp.alloc ?_ _ | refine Sp.drewN ?_ _ | refine Sp.drew ?_)) hb4
              have Sa1_4 : Hid (Sp w4 B1 d1 (X)) := Sp.below (by repeat (first | exact Sa1_3.out | refine Sp.alloc ?_ _ | refine Sp.drewN ?_ _ | refine Sp.drew ?_)) hb4
              have Sa2_4 : Hid (Sp w4 B2 d2 (U)) := Sp.below (by repeat (first | exact Sa2_3.out | refine Sp.alloc ?_ _ | refine Sp.drewN ?_ _ | refine Sp.drew ?_)) hb4
              have Sa3_4 : Hid (Sp w4 B3 d3 (V)) := Sp.below (by repeat (first | exact Sa3_3.out | refine Sp.alloc ?_ _ | refine Sp.drewN ?_ _ | refine Sp.drew ?_)) hb4
              have Bs_4 : Hid (w4.heap[w.heap.size]? = some (.cells #[.bool true, .slice A1 R.length c1, .slice A2 H.length c2, .slice A3 F.length c3, .bool tu, .bool fa, .int .i64 ag, .bool jo] 52 (0, 0))) := blk_keep hb4 (blk_keep (W := w3) (by (repeat (first | exact Below.refl _ _ | refine bel_drewN ?_ _ | refine bel_drew ?_ | refine bel_alloc ?_ _ | refine bel_set ?_ (by simp) _))) Bs_3.out)
              have ord0 : w.heap.size < w3.heap.size := by omega
              have Bx_4 : Hid (w4.heap[w3.heap.size]? = some (.cells #[.bool true, .slice B1 X.length d1, .slice B2 U.length d2, .slice B3 V.length d3, .bool tu, .bool fa, .int .i64 ag, .bool jo] 56 (0, 0))) := blk_keep hb4 (by repeat (first | exact blk_new (by first | rfl | (simp; done) | (simp; omega)) | refine blk_skip ?_ | refine blk_drewN ?_ | refine blk_drew ?_))
              have s0_4 : w4.cell? ⟨w.heap.size, 0, none⟩ = some (.bool true) := blk_cell Bs_4.out rfl
              have s1_4 : w4.cell? ⟨w.heap.size, 1, none⟩ = some (.slice A1 R.length c1) := blk_cell Bs_4.out rfl
              have s2_4 : w4.cell? ⟨w.heap.size, 2, none⟩ = some (.slice A2 H.length c2) := blk_cell Bs_4.out rfl
              have s3_4 : w4.cell? ⟨w.heap.size, 3, none⟩ = some (.slice A3 F.length c3) := blk_cell Bs_4.out rfl
              have s4_4 : w4.cell? ⟨w.heap.size, 4, none⟩ = some (.bool tu) := blk_cell Bs_4.out rfl
              have s5_4 : w4.cell? ⟨w.heap.size, 5, none⟩ = some (.bool fa) := blk_cell Bs_4.out rfl
              have s6_4 : w4.cell? ⟨w.heap.size, 6, none⟩ = some (.int .i64 ag) := blk_cell Bs_4.out rfl
              have s7_4 : w4.cell? ⟨w.heap.size, 7, none⟩ = some (.bool jo) := blk_cell Bs_4.out rfl
              have sz_4 : w.heap.size < w4.heap.size := blk_lt Bs_4.out
              have x0_4 : w4.cell? ⟨w3.heap.size, 0, none⟩ = some (.bool true) := blk_cell Bx_4.out rfl
              have x1_4 : w4.cell? ⟨w3.heap.size, 1, none⟩ = some (.slice B1 X.length d1) := blk_cell Bx_4.out rfl
              have x2_4 : w4.cell? ⟨w3.heap.size, 2, none⟩ = some (.slice B2 U.length d2) := blk_cell Bx_4.out rfl
              have x3_4 : w4.cell? ⟨w3.heap.size, 3, none⟩ = some (.slice B3 V.length d3) := blk_cell Bx_4.out rfl
              have x4_4 : w4.cell? ⟨w3.heap.size, 4, none⟩ = some (.bool tu) := blk_cell Bx_4.out rfl
              have x5_4 : w4.cell? ⟨w3.heap.size, 5, none⟩ = some (.bool fa) := blk_cell Bx_4.out rfl
              have x6_4 : w4.cell? ⟨w3.heap.size, 6, none⟩ = some (.int .i64 ag) := blk_cell Bx_4.out rfl
              have x7_4 : w4.cell? ⟨w3.heap.size, 7, none⟩ = some (.bool jo) := blk_cell Bx_4.out rfl
              have xz_4 : w3.heap.size < w4.heap.size := blk_lt Bx_4.out
              clear S1_3 S2_3 S3_3 Sa1_3 Sa2_3 Sa3_3 Bs_3 s0_3 s1_3 s2_3 s3_3 s4_3 s5_3 s6_3 s7_3 sz_3 HB_3 hb4
              go_wp2_with fail
              refine (first_as1 B1 d1 X x1 x2 r HR.out _ (by repeat (first | exact Sa1_4.out | refine Sp.alloc ?_ _ | refine Sp.drewN ?_ _ | refine Sp.drew ?_)) K1.out (by omega)).mono ?_
              rintro e5 w5 ⟨rfl, hb5⟩
              have HB_5 : Hid (Below w.heap.size w w5) := bel_chain hb5 (by repeat (first | exact HB_4.out | refine bel_drewN ?_ _ | refine bel_drew ?_ | refine bel_alloc ?_ _))
              have S1_5 : Hid (Sp w5 A1 c1 (R)) := Sp.below (by repeat (first | exact S1_4.out | refine Sp.alloc ?_ _ | refine Sp.drewN ?_ _ | refine Sp.drew ?_)) hb5
              have S2_5 : Hid (Sp w5 A2 c2 (H)) := Sp.below (by repeat (first | exact S2_4.out | refine Sp.alloc ?_ _ | refine Sp.drewN ?_ _ | refine Sp.drew ?_)) hb5
              have S3_5 : Hid (Sp w5 A3 c3 (F)) := Sp.below (by repeat (first | exact S3_4.out | refine Sp.alloc ?_ _ | refine Sp.drewN ?_ _ | refine Sp.drew ?_)) hb5
              have Sa1_5 : Hid (Sp w5 B1 d1 (X)) := Sp.below (by repeat (first | exact Sa1_4.out | refine Sp.alloc ?_ _ | refine Sp.drewN ?_ _ | refine Sp.drew ?_)) hb5
              have Sa2_5 : Hid (Sp w5 B2 d2 (U)) := Sp.below (by repeat (first | exact Sa2_4.out | refine Sp.alloc ?_ _ | refine Sp.drewN ?_ _ | refine Sp.drew ?_)) hb5
              have Sa3_5 : Hid (Sp w5 B3 d3 (V)) := Sp.below (by repeat (first | exact Sa3_4.out | refine Sp.alloc ?_ _ | refine Sp.drewN ?_ _ | refine Sp.drew ?_)) hb5
              have Bs_5 : Hid (w5.heap[w.heap.size]? = some (.cells #[.bool true, .slice A1 R.length c1, .slice A2 H.length c2, .slice A3 F.length c3, .bool tu, .bool fa, .int .i64 ag, .bool jo] 52 (0, 0))) := blk_keep hb5 (blk_keep (W := w4) (by (repeat (first | exact Below.refl _ _ | refine bel_drewN ?_ _ | refine bel_drew ?_ | refine bel_alloc ?_ _ | refine bel_set ?_ (by simp) _))) Bs_4.out)
              have Bx_5 : Hid (w5.heap[w3.heap.size]? = some (.cells #[.bool true, .slice B1 X.length d1, .slice B2 U.length d2, .slice B3 V.length d3, .bool tu, .bool fa, .int .i64 ag, .bool jo] 56 (0, 0))) := blk_keep hb5 (blk_keep (W := w4) (by (repeat (first | exact Below.refl _ _ | refine bel_drewN ?_ _ | refine bel_drew ?_ | refine bel_alloc ?_ _ | refine bel_set ?_ (by simp) _))) Bx_4.out)
              have s0_5 : w5.cell? ⟨w.heap.size, 0, none⟩ = some (.bool true) := blk_cell Bs_5.out rfl
              have s1_5 : w5.cell? ⟨w.heap.size, 1, none⟩ = some (.slice A1 R.length c1) := blk_cell Bs_5.out rfl
              have s2_5 : w5.cell? ⟨w.heap.size, 2, none⟩ = some (.slice A2 H.length c2) := blk_cell Bs_5.out rfl
              have s3_5 : w5.cell? ⟨w.heap.size, 3, none⟩ = some (.slice A3 F.length c3) := blk_cell Bs_5.out rfl
              have s4_5 : w5.cell? ⟨w.heap.size, 4, none⟩ = some (.bool tu) := blk_cell Bs_5.out rfl
              have s5_5 : w5.cell? ⟨w.heap.size, 5, none⟩ = some (.bool fa) := blk_cell Bs_5.out rfl
              have s6_5 : w5.cell? ⟨w.heap.size, 6, none⟩ = some (.int .i64 ag) := blk_cell Bs_5.out rfl
              have s7_5 : w5.cell? ⟨w.heap.size, 7, none⟩ = some (.bool jo) := blk_cell Bs_5.out rfl
              have sz_5 : w.heap.size < w5.heap.size := blk_lt Bs_5.out
              have x0_5 : w5.cell? ⟨w3.heap.size, 0, none⟩ = some (.bool true) := blk_cell Bx_5.out rfl
              have x1_5 : w5.cell? ⟨w3.heap.size, 1, none⟩ = some (.slice B1 X.length d1) := blk_cell Bx_5.out rfl
              have x2_5 : w5.cell? ⟨w3.heap.size, 2, none⟩ = some (.slice B2 U.length d2) := blk_cell Bx_5.out rfl
              have x3_5 : w5.cell? ⟨w3.heap.size, 3, none⟩ = some (.slice B3 V.length d3) := blk_cell Bx_5.out rfl
              have x4_5 : w5.cell? ⟨w3.heap.size, 4, none⟩ = some (.bool tu) := blk_cell Bx_5.out rfl
              have x5_5 : w5.cell? ⟨w3.heap.size, 5, none⟩ = some (.bool fa) := blk_cell Bx_5.out rfl
              have x6_5 : w5.cell? ⟨w3.heap.size, 6, none⟩ = some (.int .i64 ag) := blk_cell Bx_5.out rfl
              have x7_5 : w5.cell? ⟨w3.heap.size, 7, none⟩ = some (.bool jo) := blk_cell Bx_5.out rfl
              have xz_5 : w3.heap.size < w5.heap.size := blk_lt Bx_5.out
              clear S1_4 S2_4 S3_4 Sa1_4 Sa2_4 Sa3_4 Bs_4 s0_4 s1_4 s2_4 s3_4 s4_4 s5_4 s6_4 s7_4 sz_4 Bx_4 x0_4 x1_4 x2_4 x3_4 x4_4 x5_4 x6_4 x7_4 xz_4 HB_4 hb5
              go_wp2_with fail
              refine ((HV1 _ B3 d3 (by repeat (first | exact Sa3_5.out | refine Sp.alloc ?_ _ | refine Sp.drewN ?_ _ | refine Sp.drew ?_))).out).mono ?_
              rintro e6 w6 ⟨rfl, hb6⟩
              have HB_6 : Hid (Below w.heap.size w w6) := bel_chain hb6 (by repeat (first | exact HB_5.out | refine bel_drewN ?_ _ | refine bel_drew ?_ | refine bel_alloc ?_ _))
              have S1_6 : Hid (Sp w6 A1 c1 (R)) := Sp.below (by repeat (first | exact S1_5.out | refine Sp.alloc ?_ _ | refine Sp.drewN ?_ _ | refine Sp.drew ?_)) hb6
              have S2_6 : Hid (Sp w6 A2 c2 (H)) := Sp.below (by repeat (first | exact S2_5.out | refine Sp.alloc ?_ _ | refine Sp.drewN ?_ _ | refine Sp.drew ?_)) hb6
              have S3_6 : Hid (Sp w6 A3 c3 (F)) := Sp.below (by repeat (first | exact S3_5.out | refine Sp.alloc ?_ _ | refine Sp.drewN ?_ _ | refine Sp.drew ?_)) hb6
              have Sa1_6 : Hid (Sp w6 B1 d1 (X)) := Sp.below (by repeat (first | exact Sa1_5.out | refine Sp.alloc ?_ _ | refine Sp.drewN ?_ _ | refine Sp.drew ?_)) hb6
              have Sa2_6 : Hid (Sp w6 B2 d2 (U)) := Sp.below (by repeat (first | exact Sa2_5.out | refine Sp.alloc ?_ _ | refine Sp.drewN ?_ _ | refine Sp.drew ?_)) hb6
              have Sa3_6 : Hid (Sp w6 B3 d3 (V)) := Sp.below (by repeat (first | exact Sa3_5.out | refine Sp.alloc ?_ _ | refine Sp.drewN ?_ _ | refine Sp.drew ?_)) hb6
              have Bs_6 : Hid (w6.heap[w.heap.size]? = some (.cells #[.bool true, .slice A1 R.length c1, .slice A2 H.length c2, .slice A3 F.length c3, .bool tu, .bool fa, .int .i64 ag, .bool jo] 52 (0, 0))) := blk_keep hb6 (blk_keep (W := w5) (by (repeat (first | exact Below.refl _ _ | refine bel_drewN ?_ _ | refine bel_drew ?_ | refine bel_alloc ?_ _ | refine bel_set ?_ (by simp) _))) Bs_5.out)
              have Bx_6 : Hid (w6.heap[w3.heap.size]? = some (.cells #[.bool true, .slice B1 X.length d1, .slice B2 U.length d2, .slice B3 V.length d3, .bool tu, .bool fa, .int .i64 ag, .bool jo] 56 (0, 0))) := blk_keep hb6 (blk_keep (W := w5) (by (repeat (first | exact Below.refl _ _ | refine bel_drewN ?_ _ | refine bel_drew ?_ | refine bel_alloc ?_ _ | refine bel_set ?_ (by simp) _))) Bx_5.out)
              have ord1 : w.heap.size < w5.heap.size := by omega
              have ord2 : w3.heap.size < w5.heap.size := by omega
              have Bf_6 : Hid (w6.heap[w5.heap.size]? = some (.cells #[.int .i64 x1, .int .i64 x2] 29 (0, 0))) := blk_keep hb6 (by repeat (first | exact blk_new (by first | rfl | (simp; done) | (simp; omega)) | refine blk_skip ?_ | refine blk_drewN ?_ | refine blk_drew ?_))
              have s0_6 : w6.cell? ⟨w.heap.size, 0, none⟩ = some (.bool true) := blk_cell Bs_6.out rfl
              have s1_6 : w6.cell? ⟨w.heap.size, 1, none⟩ = some (.slice A1 R.length c1) := blk_cell Bs_6.out rfl
              have s2_6 : w6.cell? ⟨w.heap.size, 2, none⟩ = some (.slice A2 H.length c2) := blk_cell Bs_6.out rfl
              have s3_6 : w6.cell? ⟨w.heap.size, 3, none⟩ = some (.slice A3 F.length c3) := blk_cell Bs_6.out rfl
              have s4_6 : w6.cell? ⟨w.heap.size, 4, none⟩ = some (.bool tu) := blk_cell Bs_6.out rfl
              have s5_6 : w6.cell? ⟨w.heap.size, 5, none⟩ = some (.bool fa) := blk_cell Bs_6.out rfl
              have s6_6 : w6.cell? ⟨w.heap.size, 6, none⟩ = some (.int .i64 ag) := blk_cell Bs_6.out rfl
              have s7_6 : w6.cell? ⟨w.heap.size, 7, none⟩ = some (.bool jo) := blk_cell Bs_6.out rfl
              have sz_6 : w.heap.size < w6.heap.size := blk_lt Bs_6.out
              have x0_6 : w6.cell? ⟨w3.heap.size, 0, none⟩ = some (.bool true) := blk_cell Bx_6.out rfl
              have x1_6 : w6.cell? ⟨w3.heap.size, 1, none⟩ = some (.slice B1 X.length d1) := blk_cell Bx_6.out rfl
              have x2_6 : w6.cell? ⟨w3.heap.size, 2, none⟩ = some (.slice B2 U.length d2) := blk_cell Bx_6.out rfl
              have x3_6 : w6.cell? ⟨w3.heap.size, 3, none⟩ = some (.slice B3 V.length d3) := blk_cell Bx_6.out rfl
              have x4_6 : w6.cell? ⟨w3.heap.size, 4, none⟩ = some (.bool tu) := blk_cell Bx_6.out rfl
              have x5_6 : w6.cell? ⟨w3.heap.size, 5, none⟩ = some (.bool fa) := blk_cell Bx_6.out rfl
              have x6_6 : w6.cell? ⟨w3.heap.size, 6, none⟩ = some (.int .i64 ag) := blk_cell Bx_6.out rfl
              have x7_6 : w6.cell? ⟨w3.heap.size, 7, none⟩ = some (.bool jo) := blk_cell Bx_6.out rfl
              have xz_6 : w3.heap.size < w6.heap.size := blk_lt Bx_6.out
              have f0_6 : w6.cell? ⟨w5.heap.size, 0, none⟩ = some (.int .i64 x1) := blk_cell Bf_6.out rfl
              have fz_6 : w5.heap.size < w6.heap.size := blk_lt Bf_6.out
              clear S1_5 S2_5 S3_5 Sa1_5 Sa2_5 Sa3_5 Bs_5 s0_5 s1_5 s2_5 s3_5 s4_5 s5_5 s6_5 s7_5 sz_5 Bx_5 x0_5 x1_5 x2_5 x3_5 x4_5 x5_5 x6_5 x7_5 xz_5 HB_5 hb6
              go_wp2_with fail
              refine ((HU1 _ B2 d2 (by repeat (first | exact Sa2_6.out | refine Sp.alloc ?_ _ | refine Sp.drewN ?_ _ | refine Sp.drew ?_))).out).mono ?_
              rintro e7 w7 ⟨rfl, hb7⟩
              have HB_7 : Hid (Below w.heap.size w w7) := bel_chain hb7 (by repeat (first | exact HB_6.out | refine bel_drewN ?_ _ | refine bel_drew ?_ | refine bel_alloc ?_ _))
              have S1_7 : Hid (Sp w7 A1 c1 (R)) := Sp.below (by repeat (first | exact S1_6.out | refine Sp.alloc ?_ _ | refine Sp.drewN ?_ _ | refine Sp.drew ?_)) hb7
              have S2_7 : Hid (Sp w7 A2 c2 (H)) := Sp.below (by repeat (first | exact S2_6.out | refine Sp.alloc ?_ _ | refine Sp.drewN ?_ _ | refine Sp.drew ?_)) hb7
              have S3_7 : Hid (Sp w7 A3 c3 (F)) := Sp.below (by repeat (first | exact S3_6.out | refine Sp.alloc ?_ _ | refine Sp.drewN ?_ _ | refine Sp.drew ?_)) hb7
              have Sa1_7 : Hid (Sp w7 B1 d1 (X)) := Sp.below (by repeat (first | exact Sa1_6.out | refine Sp.alloc ?_ _ | refine Sp.drewN ?_ _ | refine Sp.drew ?_)) hb7
              have Sa2_7 : Hid (Sp w7 B2 d2 (U)) := Sp.below (by repeat (first | exact Sa2_6.out | refine Sp.alloc ?_ _ | refine Sp.drewN ?_ _ | refine Sp.drew ?_)) hb7
              have Sa3_7 : Hid (Sp w7 B3 d3 (V)) := Sp.below (by repeat (first | exact Sa3_6.out | refine Sp.alloc ?_ _ | refine Sp.drewN ?_ _ | refine Sp.drew ?_)) hb7
              have Bs_7 : Hid (w7.heap[w.heap.size]? = some (.cells #[.bool true, .slice A1 R.length c1, .slice A2 H.length c2, .slice A3 F.length c3, .bool tu, .bool fa, .int .i64 ag, .bool jo] 52 (0, 0))) := blk_keep hb7 (blk_keep (W := w6) (by (repeat (first | exact Below.refl _ _ | refine bel_drewN ?_ _ | refine bel_drew ?_ | refine bel_alloc ?_ _ | refine bel_set ?_ (by simp) _))) Bs_6.out)
              have Bx_7 : Hid (w7.heap[w3.heap.size]? = some (.cells #[.bool true, .slice B1 X.length d1, .slice B2 U.length d2, .slice B3 V.length d3, .bool tu, .bool fa, .int .i64 ag, .bool jo] 56 (0, 0))) := blk_keep hb7 (blk_keep (W := w6) (by (repeat (first | exact Below.refl _ _ | refine bel_drewN ?_ _ | refine bel_drew ?_ | refine bel_alloc ?_ _ | refine bel_set ?_ (by simp) _))) Bx_6.out)
              have Bf_7 : Hid (w7.heap[w5.heap.size]? = some (.cells #[.int .i64 x1, .int .i64 x2] 29 (0, 0))) := blk_keep hb7 (blk_keep (W := w6) (by (repeat (first | exact Below.refl _ _ | refine bel_drewN ?_ _ | refine bel_drew ?_ | refine bel_alloc ?_ _ | refine bel_set ?_ (by simp) _))) Bf_6.out)
              have s0_7 : w7.cell? ⟨w.heap.size, 0, none⟩ = some (.bool true) := blk_cell Bs_7.out rfl
              have s1_7 : w7.cell? ⟨w.heap.size, 1, none⟩ = some (.slice A1 R.length c1) := blk_cell Bs_7.out rfl
              have s2_7 : w7.cell? ⟨w.heap.size, 2, none⟩ = some (.slice A2 H.length c2) := blk_cell Bs_7.out rfl
              have s3_7 : w7.cell? ⟨w.heap.size, 3, none⟩ = some (.slice A3 F.length c3) := blk_cell Bs_7.out rfl
              have s4_7 : w7.cell? ⟨w.heap.size, 4, none⟩ = some (.bool tu) := blk_cell Bs_7.out rfl
              have s5_7 : w7.cell? ⟨w.heap.size, 5, none⟩ = some (.bool fa) := blk_cell Bs_7.out rfl
              have s6_7 : w7.cell? ⟨w.heap.size, 6, none⟩ = some (.int .i64 ag) := blk_cell Bs_7.out rfl
              have s7_7 : w7.cell? ⟨w.heap.size, 7, none⟩ = some (.bool jo) := blk_cell Bs_7.out rfl
              have sz_7 : w.heap.size < w7.heap.size := blk_lt Bs_7.out
              have x0_7 : w7.cell? ⟨w3.heap.size, 0, none⟩ = some (.bool true) := blk_cell Bx_7.out rfl
              have x1_7 : w7.cell? ⟨w3.heap.size, 1, none⟩ = some (.slice B1 X.length d1) := blk_cell Bx_7.out rfl
              have x2_7 : w7.cell? ⟨w3.heap.size, 2, none⟩ = some (.slice B2 U.length d2) := blk_cell Bx_7.out rfl
              have x3_7 : w7.cell? ⟨w3.heap.size, 3, none⟩ = some (.slice B3 V.length d3) := blk_cell Bx_7.out rfl
              have x4_7 : w7.cell? ⟨w3.heap.size, 4, none⟩ = some (.bool tu) := blk_cell Bx_7.out rfl
              have x5_7 : w7.cell? ⟨w3.heap.size, 5, none⟩ = some (.bool fa) := blk_cell Bx_7.out rfl
              have x6_7 : w7.cell? ⟨w3.heap.size, 6, none⟩ = some (.int .i64 ag) := blk_cell Bx_7.out rfl
              have x7_7 : w7.cell? ⟨w3.heap.size, 7, none⟩ = some (.bool jo) := blk_cell Bx_7.out rfl
              have xz_7 : w3.heap.size < w7.heap.size := blk_lt Bx_7.out
              have f0_7 : w7.cell? ⟨w5.heap.size, 0, none⟩ = some (.int .i64 x1) := blk_cell Bf_7.out rfl
              have fz_7 : w5.heap.size < w7.heap.size := blk_lt Bf_7.out
              clear S1_6 S2_6 S3_6 Sa1_6 Sa2_6 Sa3_6 Bs_6 s0_6 s1_6 s2_6 s3_6 s4_6 s5_6 s6_6 s7_6 sz_6 Bx_6 x0_6 x1_6 x2_6 x3_6 x4_6 x5_6 x6_6 x7_6 xz_6 Bf_6 f0_6 fz_6 HB_6 hb7
              go_wp2_with fail
              go_ret
              exact ⟨rfl, (by repeat (first | (with_reducible exact HB_7.out) | (with_reducible refine bel_drewN ?_ _) | (with_reducible refine bel_drew ?_) | (with_reducible refine bel_alloc ?_ _) | (with_reducible refine bel_set ?_ (by first | omega | (dsimp only; omega)) _)))⟩
          · rw [hb1] at HU1
            have HV4 : Hid (dv = 1) := by simp only [Hid]; rw [HDC.out]; simp [hY, hb1]
            clear hY HDC hb1
            go_wp2_with fail
            refine (own_as true A1 c1 R A2 c2 H A3 c3 F tu fa ag jo X U V HX.out HU.out HV.out _ (by repeat (first | exact S1_2.out | refine Sp.alloc ?_ _ | refine Sp.drewN ?_ _ | refine Sp.drew ?_)) (by repeat (first | exact S2_2.out | refine Sp.alloc ?_ _ | refine Sp.drewN ?_ _ | refine Sp.drew ?_)) (by repeat (first | exact S3_2.out | refine Sp.alloc ?_ _ | refine Sp.drewN ?_ _ | refine Sp.drew ?_)) (by omega) (by omega) (by omega)).mono ?_
            rintro e3 w3 ⟨B1, d1, B2, d2, B3, d3, rfl, hs3, ht3, hu3, hb3⟩
            have HB_3 : Hid (Below w.heap.size w w3) := bel_chain hb3 (by repeat (first | exact HB_2.out | refine bel_drewN ?_ _ | refine bel_drew ?_ | refine bel_alloc ?_ _))
            have S1_3 : Hid (Sp w3 A1 c1 (R)) := Sp.below (by repeat (first | exact S1_2.out | refine Sp.alloc ?_ _ | refine Sp.drewN ?_ _ | refine Sp.drew ?_)) hb3
            have S2_3 : Hid (Sp w3 A2 c2 (H)) := Sp.below (by repeat (first | exact S2_2.out | refine Sp.alloc ?_ _ | refine Sp.drewN ?_ _ | refine Sp.drew ?_)) hb3
            have S3_3 : Hid (Sp w3 A3 c3 (F)) := Sp.below (by repeat (first | exact S3_2.out | refine Sp.alloc ?_ _ | refine Sp.drewN ?_ _ | refine Sp.drew ?_)) hb3
            have Bs_3 : Hid (w3.heap[w.heap.size]? = some (.cells #[.bool true, .slice A1 R.length c1, .slice A2 H.length c2, .slice A3 F.length c3, .bool tu, .bool fa, .int .i64 ag, .bool jo] 52 (0, 0))) := blk_keep hb3 (blk_keep (W := w2) (by (repeat (first | exact Below.refl _ _ | refine bel_drewN ?_ _ | refine bel_drew ?_ | refine bel_alloc ?_ _ | refine bel_set ?_ (by simp) _))) Bs_2.out)
            have s0_3 : w3.cell? ⟨w.heap.size, 0, none⟩ = some (.bool true) := blk_cell Bs_3.out rfl
            have s1_3 : w3.cell? ⟨w.heap.size, 1, none⟩ = some (.slice A1 R.length c1) := blk_cell Bs_3.out rfl
            have s2_3 : w3.cell? ⟨w.heap.size, 2, none⟩ = some (.slice A2 H.length c2) := blk_cell Bs_3.out rfl
            have s3_3 : w3.cell? ⟨w.heap.size, 3, none⟩ = some (.slice A3 F.length c3) := blk_cell Bs_3.out rfl
            have s4_3 : w3.cell? ⟨w.heap.size, 4, none⟩ = some (.bool tu) := blk_cell Bs_3.out rfl
            have s5_3 : w3.cell? ⟨w.heap.size, 5, none⟩ = some (.bool fa) := blk_cell Bs_3.out rfl
            have s6_3 : w3.cell? ⟨w.heap.size, 6, none⟩ = some (.int .i64 ag) := blk_cell Bs_3.out rfl
            have s7_3 : w3.cell? ⟨w.heap.size, 7, none⟩ = some (.bool jo) := blk_cell Bs_3.out rfl
            have sz_3 : w.heap.size < w3.heap.size := blk_lt Bs_3.out
            have Sa1_3 : Hid (Sp w3 B1 d1 (X)) := hs3
            have Sa2_3 : Hid (Sp w3 B2 d2 (U)) := ht3
            have Sa3_3 : Hid (Sp w3 B3 d3 (V)) := hu3
            clear S1_2 S2_2 S3_2 Bs_2 s0_2 s1_2 s2_2 s3_2 s4_2 s5_2 s6_2 s7_2 sz_2 hs3 ht3 hu3 HB_2 hb3
            go_wp2_with fail
            refine (HDE.out 1 HV4.out _ B1 d1 B2 d2 B3 d3 (by repeat (first | exact Sa1_3.out | refine Sp.alloc ?_ _ | refine Sp.drewN ?_ _ | refine Sp.drew ?_)) (by repeat (first | exact Sa2_3.out | refine Sp.alloc ?_ _ | refine Sp.drewN ?_ _ | refine Sp.drew ?_)) (by repeat (first | exact Sa3_3.out | refine Sp.alloc ?_ _ | refine Sp.drewN ?_ _ | refine Sp.drew ?_))).mono ?_
            rintro e4 w4 ⟨rfl, hb4⟩
            have HB_4 : Hid (Below w.heap.size w w4) := bel_chain hb4 (by repeat (first | exact HB_3.out | refine bel_drewN ?_ _ | refine bel_drew ?_ | refine bel_alloc ?_ _))
            have S1_4 : Hid (Sp w4 A1 c1 (R)) := Sp.below (by repeat (first | exact S1_3.out | refine Sp.alloc ?_ _ | refine Sp.drewN ?_ _ | refine Sp.drew ?_)) hb4
            have S2_4 : Hid (Sp w4 A2 c2 (H)) := Sp.below (by repeat (first | exact S2_3.out | refine Sp.alloc ?_ _ | refine Sp.drewN ?_ _ | refine Sp.drew ?_)) hb4
            have S3_4 : Hid (Sp w4 A3 c3 (F)) := Sp.below (by repeat (first | exact S3_3.out | refine Sp.alloc ?_ _ | refine Sp.drewN ?_ _ | refine Sp.drew ?_)) hb4
            have Sa1_4 : Hid (Sp w4 B1 d1 (X)) := Sp.below (by repeat (first | exact Sa1_3.out | refine Sp.alloc ?_ _ | refine Sp.drewN ?_ _ | refine Sp.drew ?_)) hb4
            have Sa2_4 : Hid (Sp w4 B2 d2 (U)) := Sp.below (by repeat (first | exact Sa2_3.out | refine Sp.alloc ?_ _ | refine Sp.drewN ?_ _ | refine Sp.drew ?_)) hb4
            have Sa3_4 : Hid (Sp w4 B3 d3 (V)) := Sp.below (by repeat (first | exact Sa3_3.out | refine Sp.alloc ?_ _ | refine Sp.drewN ?_ _ | refine Sp.drew ?_)) hb4
            have Bs_4 : Hid (w4.heap[w.heap.size]? = some (.cells #[.bool true, .slice A1 R.length c1, .slice A2 H.length c2, .slice A3 F.length c3, .bool tu, .bool fa, .int .i64 ag, .bool jo] 52 (0, 0))) := blk_keep hb4 (blk_keep (W := w3) (by (repeat (first | exact Below.refl _ _ | refine bel_drewN ?_ _ | refine bel_drew ?_ | refine bel_alloc ?_ _ | refine bel_set ?_ (by simp) _))) Bs_3.out)
            have ord0 : w.heap.size < w3.heap.size := by omega
            have Bx_4 : Hid (w4.heap[w3.heap.size]? = some (.cells #[.bool true, .slice B1 X.length d1, .slice B2 U.length d2, .slice B3 V.length d3, .bool tu, .bool fa, .int .i64 ag, .bool jo] 56 (0, 0))) := blk_keep hb4 (by repeat (first | exact blk_new (by first | rfl | (simp; done) | (simp; omega)) | refine blk_skip ?_ | refine blk_drewN ?_ | refine blk_drew ?_))
            have s0_4 : w4.cell? ⟨w.heap.size, 0, none⟩ = some (.bool true) := blk_cell Bs_4.out rfl
            have s1_4 : w4.cell? ⟨w.heap.size, 1, none⟩ = some (.slice A1 R.length c1) := blk_cell Bs_4.out rfl
            have s2_4 : w4.cell? ⟨w.heap.size, 2, none⟩ = some (.slice A2 H.length c2) := blk_cell Bs_4.out rfl
            have s3_4 : w4.cell? ⟨w.heap.size, 3, none⟩ = some (.slice A3 F.length c3) := blk_cell Bs_4.out rfl
            have s4_4 : w4.cell? ⟨w.heap.size, 4, none⟩ = some (.bool tu) := blk_cell Bs_4.out rfl
            have s5_4 : w4.cell? ⟨w.heap.size, 5, none⟩ = some (.bool fa) := blk_cell Bs_4.out rfl
            have s6_4 : w4.cell? ⟨w.heap.size, 6, none⟩ = some (.int .i64 ag) := blk_cell Bs_4.out rfl
            have s7_4 : w4.cell? ⟨w.heap.size, 7, none⟩ = some (.bool jo) := blk_cell Bs_4.out rfl
            have sz_4 : w.heap.size < w4.heap.size := blk_lt Bs_4.out
            have x0_4 : w4.cell? ⟨w3.heap.size, 0, none⟩ = some (.bool true) := blk_cell Bx_4.out rfl
            have x1_4 : w4.cell? ⟨w3.heap.size, 1, none⟩ = some (.slice B1 X.length d1) := blk_cell Bx_4.out rfl
            have x2_4 : w4.cell? ⟨w3.heap.size, 2, none⟩ = some (.slice B2 U.length d2) := blk_cell Bx_4.out rfl
            have x3_4 : w4.cell? ⟨w3.heap.size, 3, none⟩ = some (.slice B3 V.length d3) := blk_cell Bx_4.out rfl
            have x4_4 : w4.cell? ⟨w3.heap.size, 4, none⟩ = some (.bool tu) := blk_cell Bx_4.out rfl
            have x5_4 : w4.cell? ⟨w3.heap.size, 5, none⟩ = some (.bool fa) := blk_cell Bx_4.out rfl
            have x6_4 : w4.cell? ⟨w3.heap.size, 6, none⟩ = some (.int .i64 ag) := blk_cell Bx_4.out rfl
            have x7_4 : w4.cell? ⟨w3.heap.size, 7, none⟩ = some (.bool jo) := blk_cell Bx_4.out rfl
            have xz_4 : w3.heap.size < w4.heap.size := blk_lt Bx_4.out
            clear S1_3 S2_3 S3_3 Sa1_3 Sa2_3 Sa3_3 Bs_3 s0_3 s1_3 s2_3 s3_3 s4_3 s5_3 s6_3 s7_3 sz_3 HB_3 hb4
            go_wp2_with fail
            refine (first_as1 B1 d1 X x1 x2 r HR.out _ (by repeat (first | exact Sa1_4.out | refine Sp.alloc ?_ _ | refine Sp.drewN ?_ _ | refine Sp.drew ?_)) K1.out (by omega)).mono ?_
            rintro e5 w5 ⟨rfl, hb5⟩
            have HB_5 : Hid (Below w.heap.size w w5) := bel_chain hb5 (by repeat (first | exact HB_4.out | refine bel_drewN ?_ _ | refine bel_drew ?_ | refine bel_alloc ?_ _))
            have S1_5 : Hid (Sp w5 A1 c1 (R)) := Sp.below (by repeat (first | exact S1_4.out | refine Sp.alloc ?_ _ | refine Sp.drewN ?_ _ | refine Sp.drew ?_)) hb5
            have S2_5 : Hid (Sp w5 A2 c2 (H)) := Sp.below (by repeat (first | exact S2_4.out | refine Sp.alloc ?_ _ | refine Sp.drewN ?_ _ | refine Sp.drew ?_)) hb5
            have S3_5 : Hid (Sp w5 A3 c3 (F)) := Sp.below (by repeat (first | exact S3_4.out | refine Sp.alloc ?_ _ | refine Sp.drewN ?_ _ | refine Sp.drew ?_)) hb5
            have Sa1_5 : Hid (Sp w5 B1 d1 (X)) := Sp.below (by repeat (first | exact Sa1_4.out | refine Sp.alloc ?_ _ | refine Sp.drewN ?_ _ | refine Sp.drew ?_)) hb5
            have Sa2_5 : Hid (Sp w5 B2 d2 (U)) := Sp.below (by repeat (first | exact Sa2_4.out | refine Sp.alloc ?_ _ | refine Sp.drewN ?_ _ | refine Sp.drew ?_)) hb5
            have Sa3_5 : Hid (Sp w5 B3 d3 (V)) := Sp.below (by repeat (first | exact Sa3_4.out | refine Sp.alloc ?_ _ | refine Sp.drewN ?_ _ | refine Sp.drew ?_)) hb5
            have Bs_5 : Hid (w5.heap[w.heap.size]? = some (.cells #[.bool true, .slice A1 R.length c1, .slice A2 H.length c2, .slice A3 F.length c3, .bool tu, .bool fa, .int .i64 ag, .bool jo] 52 (0, 0))) := blk_keep hb5 (blk_keep (W := w4) (by (repeat (first | exact Below.refl _ _ | refine bel_drewN ?_ _ | refine bel_drew ?_ | refine bel_alloc ?_ _ | refine bel_set ?_ (by simp) _))) Bs_4.out)
            have Bx_5 : Hid (w5.heap[w3.heap.size]? = some (.cells #[.bool true, .slice B1 X.length d1, .slice B2 U.length d2, .slice B3 V.length d3, .bool tu, .bool fa, .int .i64 ag, .bool jo] 56 (0, 0))) := blk_keep hb5 (blk_keep (W := w4) (by (repeat (first | exact Below.refl _ _ | refine bel_drewN ?_ _ | refine bel_drew ?_ | refine bel_alloc ?_ _ | refine bel_set ?_ (by simp) _))) Bx_4.out)
            have s0_5 : w5.cell? ⟨w.heap.size, 0, none⟩ = some (.bool true) := blk_cell Bs_5.out rfl
            have s1_5 : w5.cell? ⟨w.heap.size, 1, none⟩ = some (.slice A1 R.length c1) := blk_cell Bs_5.out rfl
            have s2_5 : w5.cell? ⟨w.heap.size, 2, none⟩ = some (.slice A2 H.length c2) := blk_cell Bs_5.out rfl
            have s3_5 : w5.cell? ⟨w.heap.size, 3, none⟩ = some (.slice A3 F.length c3) := blk_cell Bs_5.out rfl
            have s4_5 : w5.cell? ⟨w.heap.size, 4, none⟩ = some (.bool tu) := blk_cell Bs_5.out rfl
            have s5_5 : w5.cell? ⟨w.heap.size, 5, none⟩ = some (.bool fa) := blk_cell Bs_5.out rfl
            have s6_5 : w5.cell? ⟨w.heap.size, 6, none⟩ = some (.int .i64 ag) := blk_cell Bs_5.out rfl
            have s7_5 : w5.cell? ⟨w.heap.size, 7, none⟩ = some (.bool jo) := blk_cell Bs_5.out rfl
            have sz_5 : w.heap.size < w5.heap.size := blk_lt Bs_5.out
            have x0_5 : w5.cell? ⟨w3.heap.size, 0, none⟩ = some (.bool true) := blk_cell Bx_5.out rfl
            have x1_5 : w5.cell? ⟨w3.heap.size, 1, none⟩ = some (.slice B1 X.length d1) := blk_cell Bx_5.out rfl
            have x2_5 : w5.cell? ⟨w3.heap.size, 2, none⟩ = some (.slice B2 U.length d2) := blk_cell Bx_5.out rfl
            have x3_5 : w5.cell? ⟨w3.heap.size, 3, none⟩ = some (.slice B3 V.length d3) := blk_cell Bx_5.out rfl
            have x4_5 : w5.cell? ⟨w3.heap.size, 4, none⟩ = some (.bool tu) := blk_cell Bx_5.out rfl
            have x5_5 : w5.cell? ⟨w3.heap.size, 5, none⟩ = some (.bool fa) := blk_cell Bx_5.out rfl
            have x6_5 : w5.cell? ⟨w3.heap.size, 6, none⟩ = some (.int .i64 ag) := blk_cell Bx_5.out rfl
            have x7_5 : w5.cell? ⟨w3.heap.size, 7, none⟩ = some (.bool jo) := blk_cell Bx_5.out rfl
            have xz_5 : w3.heap.size < w5.heap.size := blk_lt Bx_5.out
            clear S1_4 S2_4 S3_4 Sa1_4 Sa2_4 Sa3_4 Bs_4 s0_4 s1_4 s2_4 s3_4 s4_4 s5_4 s6_4 s7_4 sz_4 Bx_4 x0_4 x1_4 x2_4 x3_4 x4_4 x5_4 x6_4 x7_4 xz_4 HB_4 hb5
            go_wp2_with fail
            refine ((HU1 _ B2 d2 (by repeat (first | exact Sa2_5.out | refine Sp.alloc ?_ _ | refine Sp.drewN ?_ _ | refine Sp.drew ?_))).out).mono ?_
            rintro e6 w6 ⟨rfl, hb6⟩
            have HB_6 : Hid (Below w.heap.size w w6) := bel_chain hb6 (by repeat (first | exact HB_5.out | refine bel_drewN ?_ _ | refine bel_drew ?_ | refine bel_alloc ?_ _))
            have S1_6 : Hid (Sp w6 A1 c1 (R)) := Sp.below (by repeat (first | exact S1_5.out | refine Sp.alloc ?_ _ | refine Sp.drewN ?_ _ | refine Sp.drew ?_)) hb6
            have S2_6 : Hid (Sp w6 A2 c2 (H)) := Sp.below (by repeat (first | exact S2_5.out | refine Sp.alloc ?_ _ | refine Sp.drewN ?_ _ | refine Sp.drew ?_)) hb6
            have S3_6 : Hid (Sp w6 A3 c3 (F)) := Sp.below (by repeat (first | exact S3_5.out | refine Sp.alloc ?_ _ | refine Sp.drewN ?_ _ | refine Sp.drew ?_)) hb6
            have Sa1_6 : Hid (Sp w6 B1 d1 (X)) := Sp.below (by repeat (first | exact Sa1_5.out | refine Sp.alloc ?_ _ | refine Sp.drewN ?_ _ | refine Sp.drew ?_)) hb6
            have Sa2_6 : Hid (Sp w6 B2 d2 (U)) := Sp.below (by repeat (first | exact Sa2_5.out | refine Sp.alloc ?_ _ | refine Sp.drewN ?_ _ | refine Sp.drew ?_)) hb6
            have Sa3_6 : Hid (Sp w6 B3 d3 (V)) := Sp.below (by repeat (first | exact Sa3_5.out | refine Sp.alloc ?_ _ | refine Sp.drewN ?_ _ | refine Sp.drew ?_)) hb6
            have Bs_6 : Hid (w6.heap[w.heap.size]? = some (.cells #[.bool true, .slice A1 R.length c1, .slice A2 H.length c2, .slice A3 F.length c3, .bool tu, .bool fa, .int .i64 ag, .bool jo] 52 (0, 0))) := blk_keep hb6 (blk_keep (W := w5) (by (repeat (first | exact Below.refl _ _ | refine bel_drewN ?_ _ | refine bel_drew ?_ | refine bel_alloc ?_ _ | refine bel_set ?_ (by simp) _))) Bs_5.out)
            have Bx_6 : Hid (w6.heap[w3.heap.size]? = some (.cells #[.bool true, .slice B1 X.length d1, .slice B2 U.length d2, .slice B3 V.length d3, .bool tu, .bool fa, .int .i64 ag, .bool jo] 56 (0, 0))) := blk_keep hb6 (blk_keep (W := w5) (by (repeat (first | exact Below.refl _ _ | refine bel_drewN ?_ _ | refine bel_drew ?_ | refine bel_alloc ?_ _ | refine bel_set ?_ (by simp) _))) Bx_5.out)
            have ord1 : w.heap.size < w5.heap.size := by omega
            have ord2 : w3.heap.size < w5.heap.size := by omega
            have Bf_6 : Hid (w6.heap[w5.heap.size]? = some (.cells #[.int .i64 x1, .int .i64 x2] 29 (0, 0))) := blk_keep hb6 (by repeat (first | exact blk_new (by first | rfl | (simp; done) | (simp; omega)) | refine blk_skip ?_ | refine blk_drewN ?_ | refine blk_drew ?_))
            have s0_6 : w6.cell? ⟨w.heap.size, 0, none⟩ = some (.bool true) := blk_cell Bs_6.out rfl
            have s1_6 : w6.cell? ⟨w.heap.size, 1, none⟩ = some (.slice A1 R.length c1) := blk_cell Bs_6.out rfl
            have s2_6 : w6.cell? ⟨w.heap.size, 2, none⟩ = some (.slice A2 H.length c2) := blk_cell Bs_6.out rfl
            have s3_6 : w6.cell? ⟨w.heap.size, 3, none⟩ = some (.slice A3 F.length c3) := blk_cell Bs_6.out rfl
            have s4_6 : w6.cell? ⟨w.heap.size, 4, none⟩ = some (.bool tu) := blk_cell Bs_6.out rfl
            have s5_6 : w6.cell? ⟨w.heap.size, 5, none⟩ = some (.bool fa) := blk_cell Bs_6.out rfl
            have s6_6 : w6.cell? ⟨w.heap.size, 6, none⟩ = some (.int .i64 ag) := blk_cell Bs_6.out rfl
            have s7_6 : w6.cell? ⟨w.heap.size, 7, none⟩ = some (.bool jo) := blk_cell Bs_6.out rfl
            have sz_6 : w.heap.size < w6.heap.size := blk_lt Bs_6.out
            have x0_6 : w6.cell? ⟨w3.heap.size, 0, none⟩ = some (.bool true) := blk_cell Bx_6.out rfl
            have x1_6 : w6.cell? ⟨w3.heap.size, 1, none⟩ = some (.slice B1 X.length d1) := blk_cell Bx_6.out rfl
            have x2_6 : w6.cell? ⟨w3.heap.size, 2, none⟩ = some (.slice B2 U.length d2) := blk_cell Bx_6.out rfl
            have x3_6 : w6.cell? ⟨w3.heap.size, 3, none⟩ = some (.slice B3 V.length d3) := blk_cell Bx_6.out rfl
            have x4_6 : w6.cell? ⟨w3.heap.size, 4, none⟩ = some (.bool tu) := blk_cell Bx_6.out rfl
            have x5_6 : w6.cell? ⟨w3.heap.size, 5, none⟩ = some (.bool fa) := blk_cell Bx_6.out rfl
            have x6_6 : w6.cell? ⟨w3.heap.size, 6, none⟩ = some (.int .i64 ag) := blk_cell Bx_6.out rfl
            have x7_6 : w6.cell? ⟨w3.heap.size, 7, none⟩ = some (.bool jo) := blk_cell Bx_6.out rfl
            have xz_6 : w3.heap.size < w6.heap.size := blk_lt Bx_6.out
            have f0_6 : w6.cell? ⟨w5.heap.size, 0, none⟩ = some (.int .i64 x1) := blk_cell Bf_6.out rfl
            have fz_6 : w5.heap.size < w6.heap.size := blk_lt Bf_6.out
            clear S1_5 S2_5 S3_5 Sa1_5 Sa2_5 Sa3_5 Bs_5 s0_5 s1_5 s2_5 s3_5 s4_5 s5_5 s6_5 s7_5 sz_5 Bx_5 x0_5 x1_5 x2_5 x3_5 x4_5 x5_5 x6_5 x7_5 xz_5 HB_5 hb6
            go_wp2_with fail
            go_ret
            exact ⟨rfl, (by repeat (first | (with_reducible exact HB_6.out) | (with_reducible refine bel_drewN ?_ _) | (with_reducible refine bel_drew ?_) | (with_reducible refine bel_alloc ?_ _) | (with_reducible refine bel_set ?_ (by first | omega | (dsimp only; omega)) _)))⟩
      · have hl0 := lenL_nil' (isEmpty_eq hY)
        rw [hl0] at HLN
        clear hl0
        cases hb1 : inB U x1
        · rw [hb1] at HU1
          cases hb2 : inB V x1
          · rw [hb2] at HV1
            have HV4 : Hid (dv = 3) := by simp only [Hid]; rw [HDC.out]; simp [hY, hb1, hb2]
            clear hY HDC hb1 hb2
            go_wp2_with fail
            refine (own_as he A1 c1 R A2 c2 H A3 c3 F tu fa ag jo X U V HX.out HU.out HV.out _ (by repeat (first | exact S1_2.out | refine Sp.alloc ?_ _ | refine Sp.drewN ?_ _ | refine Sp.drew ?_)) (by repeat (first | exact S2_2.out | refine Sp.alloc ?_ _ | refine Sp.drewN ?_ _ | refine Sp.drew ?_)) (by repeat (first | exact S3_2.out | refine Sp.alloc ?_ _ | refine Sp.drewN ?_ _ | refine Sp.drew ?_)) (by omega) (by omega) (by omega)).mono ?_
            rintro e3 w3 ⟨B1, d1, B2, d2, B3, d3, rfl, hs3, ht3, hu3, hb3⟩
            have HB_3 : Hid (Below w.heap.size w w3) := bel_chain hb3 (by repeat (first | exact HB_2.out | refine bel_drewN ?_ _ | refine bel_drew ?_ | refine bel_alloc ?_ _))
            have S1_3 : Hid (Sp w3 A1 c1 (R)) := Sp.below (by repeat (first | exact S1_2.out | refine Sp.alloc ?_ _ | refine Sp.drewN ?_ _ | refine Sp.drew ?_)) hb3
            have S2_3 : Hid (Sp w3 A2 c2 (H)) := Sp.below (by repeat (first | exact S2_2.out | refine Sp.alloc ?_ _ | refine Sp.drewN ?_ _ | refine Sp.drew ?_)) hb3
            have S3_3 : Hid (Sp w3 A3 c3 (F)) := Sp.below (by repeat (first | exact S3_2.out | refine Sp.alloc ?_ _ | refine Sp.drewN ?_ _ | refine Sp.drew ?_)) hb3
            have Bs_3 : Hid (w3.heap[w.heap.size]? = some (.cells #[.bool he, .slice A1 R.length c1, .slice A2 H.length c2, .slice A3 F.length c3, .bool tu, .bool fa, .int .i64 ag, .bool jo] 52 (0, 0))) := blk_keep hb3 (blk_keep (W := w2) (by (repeat (first | exact Below.refl _ _ | refine bel_drewN ?_ _ | refine bel_drew ?_ | refine bel_alloc ?_ _ | refine bel_set ?_ (by simp) _))) Bs_2.out)
            have s0_3 : w3.cell? ⟨w.heap.size, 0, none⟩ = some (.bool he) := blk_cell Bs_3.out rfl
            have s1_3 : w3.cell? ⟨w.heap.size, 1, none⟩ = some (.slice A1 R.length c1) := blk_cell Bs_3.out rfl
            have s2_3 : w3.cell? ⟨w.heap.size, 2, none⟩ = some (.slice A2 H.length c2) := blk_cell Bs_3.out rfl
            have s3_3 : w3.cell? ⟨w.heap.size, 3, none⟩ = some (.slice A3 F.length c3) := blk_cell Bs_3.out rfl
            have s4_3 : w3.cell? ⟨w.heap.size, 4, none⟩ = some (.bool tu) := blk_cell Bs_3.out rfl
            have s5_3 : w3.cell? ⟨w.heap.size, 5, none⟩ = some (.bool fa) := blk_cell Bs_3.out rfl
            have s6_3 : w3.cell? ⟨w.heap.size, 6, none⟩ = some (.int .i64 ag) := blk_cell Bs_3.out rfl
            have s7_3 : w3.cell? ⟨w.heap.size, 7, none⟩ = some (.bool jo) := blk_cell Bs_3.out rfl
            have sz_3 : w.heap.size < w3.heap.size := blk_lt Bs_3.out
            have Sa1_3 : Hid (Sp w3 B1 d1 (X)) := hs3
            have Sa2_3 : Hid (Sp w3 B2 d2 (U)) := ht3
            have Sa3_3 : Hid (Sp w3 B3 d3 (V)) := hu3
            clear S1_2 S2_2 S3_2 Bs_2 s0_2 s1_2 s2_2 s3_2 s4_2 s5_2 s6_2 s7_2 sz_2 hs3 ht3 hu3 HB_2 hb3
            go_wp2_with fail
            refine (HDE.out 3 HV4.out _ B1 d1 B2 d2 B3 d3 (by repeat (first | exact Sa1_3.out | refine Sp.alloc ?_ _ | refine Sp.drewN ?_ _ | refine Sp.drew ?_)) (by repeat (first | exact Sa2_3.out | refine Sp.alloc ?_ _ | refine Sp.drewN ?_ _ | refine Sp.drew ?_)) (by repeat (first | exact Sa3_3.out | refine Sp.alloc ?_ _ | refine Sp.drewN ?_ _ | refine Sp.drew ?_))).mono ?_
            rintro e4 w4 ⟨rfl, hb4⟩
            have HB_4 : Hid (Below w.heap.size w w4) := bel_chain hb4 (by repeat (first | exact HB_3.out | refine bel_drewN ?_ _ | refine bel_drew ?_ | refine bel_alloc ?_ _))
            have S1_4 : Hid (Sp w4 A1 c1 (R)) := Sp.below (by repeat (first | exact S1_3.out | refine Sp.alloc ?_ _ | refine Sp.drewN ?_ _ | refine Sp.drew ?_)) hb4
            have S2_4 : Hid (Sp w4 A2 c2 (H)) := Sp.below (by repeat (first | exact S2_3.out | refine Sp.alloc ?_ _ | refine Sp.drewN ?_ _ | refine Sp.drew ?_)) hb4
            have S3_4 : Hid (Sp w4 A3 c3 (F)) := Sp.below (by repeat (first | exact S3_3.out | refine Sp.alloc ?_ _ | refine Sp.drewN ?_ _ | refine Sp.drew ?_)) hb4
            have Sa1_4 : Hid (Sp w4 B1 d1 (X)) := Sp.below (by repeat (first | exact Sa1_3.out | refine Sp.alloc ?_ _ | refine Sp.drewN ?_ _ | refine Sp.drew ?_)) hb4
            have Sa2_4 : Hid (Sp w4 B2 d2 (U)) := Sp.below (by repeat (first | exact Sa2_3.out | refine Sp.alloc ?_ _ | refine Sp.drewN ?_ _ | refine Sp.drew ?_)) hb4
            have Sa3_4 : Hid (Sp w4 B3 d3 (V)) := Sp.below (by repeat (first | exact Sa3_3.out | refine Sp.alloc ?_ _ | refine Sp.drewN ?_ _ | refine Sp.drew ?_)) hb4
            have Bs_4 : Hid (w4.heap[w.heap.size]? = some (.cells #[.bool he, .slice A1 R.length c1, .slice A2 H.length c2, .slice A3 F.length c3, .bool tu, .bool fa, .int .i64 ag, .bool jo] 52 (0, 0))) := blk_keep hb4 (blk_keep (W := w3) (by (repeat (first | exact Below.refl _ _ | refine bel_drewN ?_ _ | refine bel_drew ?_ | refine bel_alloc ?_ _ | refine bel_set ?_ (by simp) _))) Bs_3.out)
            have ord0 : w.heap.size < w3.heap.size := by omega
            have Bx_4 : Hid (w4.heap[w3.heap.size]? = some (.cells #[.bool he, .slice B1 X.length d1, .slice B2 U.length d2, .slice B3 V.length d3, .bool tu, .bool fa, .int .i64 ag, .bool jo] 56 (0, 0))) := blk_keep hb4 (by repeat (first | exact blk_new (by first | rfl | (simp; done) | (simp; omega)) | refine blk_skip ?_ | refine blk_drewN ?_ | refine blk_drew ?_))
            have s0_4 : w4.cell? ⟨w.heap.size, 0, none⟩ = some (.bool he) := blk_cell Bs_4.out rfl
            have s1_4 : w4.cell? ⟨w.heap.size, 1, none⟩ = some (.slice A1 R.length c1) := blk_cell Bs_4.out rfl
            have s2_4 : w4.cell? ⟨w.heap.size, 2, none⟩ = some (.slice A2 H.length c2) := blk_cell Bs_4.out rfl
            have s3_4 : w4.cell? ⟨w.heap.size, 3, none⟩ = some (.slice A3 F.length c3) := blk_cell Bs_4.out rfl
            have s4_4 : w4.cell? ⟨w.heap.size, 4, none⟩ = some (.bool tu) := blk_cell Bs_4.out rfl
            have s5_4 : w4.cell? ⟨w.heap.size, 5, none⟩ = some (.bool fa) := blk_cell Bs_4.out rfl
            have s6_4 : w4.cell? ⟨w.heap.size, 6, none⟩ = some (.int .i64 ag) := blk_cell Bs_4.out rfl
            have s7_4 : w4.cell? ⟨w.heap.size, 7, none⟩ = some (.bool jo) := blk_cell Bs_4.out rfl
            have sz_4 : w.heap.size < w4.heap.size := blk_lt Bs_4.out
            have x0_4 : w4.cell? ⟨w3.heap.size, 0, none⟩ = some (.bool he) := blk_cell Bx_4.out rfl
            have x1_4 : w4.cell? ⟨w3.heap.size, 1, none⟩ = some (.slice B1 X.length d1) := blk_cell Bx_4.out rfl
            have x2_4 : w4.cell? ⟨w3.heap.size, 2, none⟩ = some (.slice B2 U.length d2) := blk_cell Bx_4.out rfl
            have x3_4 : w4.cell? ⟨w3.heap.size, 3, none⟩ = some (.slice B3 V.length d3) := blk_cell Bx_4.out rfl
            have x4_4 : w4.cell? ⟨w3.heap.size, 4, none⟩ = some (.bool tu) := blk_cell Bx_4.out rfl
            have x5_4 : w4.cell? ⟨w3.heap.size, 5, none⟩ = some (.bool fa) := blk_cell Bx_4.out rfl
            have x6_4 : w4.cell? ⟨w3.heap.size, 6, none⟩ = some (.int .i64 ag) := blk_cell Bx_4.out rfl
            have x7_4 : w4.cell? ⟨w3.heap.size, 7, none⟩ = some (.bool jo) := blk_cell Bx_4.out rfl
            have xz_4 : w3.heap.size < w4.heap.size := blk_lt Bx_4.out
            clear S1_3 S2_3 S3_3 Sa1_3 Sa2_3 Sa3_3 Bs_3 s0_3 s1_3 s2_3 s3_3 s4_3 s5_3 s6_3 s7_3 sz_3 HB_3 hb4
            go_wp2_with fail
            refine (first_as1 B1 d1 X x1 x2 r HR.out _ (by repeat (first | exact Sa1_4.out | refine Sp.alloc ?_ _ | refine Sp.drewN ?_ _ | refine Sp.drew ?_)) K1.out (by omega)).mono ?_
            rintro e5 w5 ⟨rfl, hb5⟩
            have HB_5 : Hid (Below w.heap.size w w5) := bel_chain hb5 (by repeat (first | exact HB_4.out | refine bel_drewN ?_ _ | refine bel_drew ?_ | refine bel_alloc ?_ _))
            have S1_5 : Hid (Sp w5 A1 c1 (R)) := Sp.below (by repeat (first | exact S1_4.out | refine Sp.alloc ?_ _ | refine Sp.drewN ?_ _ | refine Sp.drew ?_)) hb5
            have S2_5 : Hid (Sp w5 A2 c2 (H)) := Sp.below (by repeat (first | exact S2_4.out | refine Sp.alloc ?_ _ | refine Sp.drewN ?_ _ | refine Sp.drew ?_)) hb5
            have S3_5 : Hid (Sp w5 A3 c3 (F)) := Sp.below (by repeat (first | exact S3_4.out | refine Sp.alloc ?_ _ | refine Sp.drewN ?_ _ | refine Sp.drew ?_)) hb5
            have Sa1_5 : Hid (Sp w5 B1 d1 (X)) := Sp.below (by repeat (first | exact Sa1_4.out | refine Sp.alloc ?_ _ | refine Sp.drewN ?_ _ | refine Sp.drew ?_)) hb5
            have Sa2_5 : Hid (Sp w5 B2 d2 (U)) := Sp.below (by repeat (first | exact Sa2_4.out | refine Sp.alloc ?_ _ | refine Sp.drewN ?_ _ | refine Sp.drew ?_)) hb5
            have Sa3_5 : Hid (Sp w5 B3 d3 (V)) := Sp.below (by repeat (first | exact Sa3_4.out | refine Sp.alloc ?_ _ | refine Sp.drewN ?_ _ | refine Sp.drew ?_)) hb5
            have Bs_5 : Hid (w5.heap[w.heap.size]? = some (.cells #[.bool he, .slice A1 R.length c1, .slice A2 H.length c2, .slice A3 F.length c3, .bool tu, .bool fa, .int .i64 ag, .bool jo] 52 (0, 0))) := blk_keep hb5 (blk_keep (W := w4) (by (repeat (first | exact Below.refl _ _ | refine bel_drewN ?_ _ | refine bel_drew ?_ | refine bel_alloc ?_ _ | refine bel_set ?_ (by simp) _))) Bs_4.out)
            have Bx_5 : Hid (w5.heap[w3.heap.size]? = some (.cells #[.bool he, .slice B1 X.length d1, .slice B2 U.length d2, .slice B3 V.length d3, .bool tu, .bool fa, .int .i64 ag, .bool jo] 56 (0, 0))) := blk_keep hb5 (blk_keep (W := w4) (by (repeat (first | exact Below.refl _ _ | refine bel_drewN ?_ _ | refine bel_drew ?_ | refine bel_alloc ?_ _ | refine bel_set ?_ (by simp) _))) Bx_4.out)
            have s0_5 : w5.cell? ⟨w.heap.size, 0, none⟩ = some (.bool he) := blk_cell Bs_5.out rfl
            have s1_5 : w5.cell? ⟨w.heap.size, 1, none⟩ = some (.slice A1 R.length c1) := blk_cell Bs_5.out rfl
            have s2_5 : w5.cell? ⟨w.heap.size, 2, none⟩ = some (.slice A2 H.length c2) := blk_cell Bs_5.out rfl
            have s3_5 : w5.cell? ⟨w.heap.size, 3, none⟩ = some (.slice A3 F.length c3) := blk_cell Bs_5.out rfl
            have s4_5 : w5.cell? ⟨w.heap.size, 4, none⟩ = some (.bool tu) := blk_cell Bs_5.out rfl
            have s5_5 : w5.cell? ⟨w.heap.size, 5, none⟩ = some (.bool fa) := blk_cell Bs_5.out rfl
            have s6_5 : w5.cell? ⟨w.heap.size, 6, none⟩ = some (.int .i64 ag) := blk_cell Bs_5.out rfl
            have s7_5 : w5.cell? ⟨w.heap.size, 7, none⟩ = some (.bool jo) := blk_cell Bs_5.out rfl
            have sz_5 : w.heap.size < w5.heap.size := blk_lt Bs_5.out
            have x0_5 : w5.cell? ⟨w3.heap.size, 0, none⟩ = some (.bool he) := blk_cell Bx_5.out rfl
            have x1_5 : w5.cell? ⟨w3.heap.size, 1, none⟩ = some (.slice B1 X.length d1) := blk_cell Bx_5.out rfl
            have x2_5 : w5.cell? ⟨w3.heap.size, 2, none⟩ = some (.slice B2 U.length d2) := blk_cell Bx_5.out rfl
            have x3_5 : w5.cell? ⟨w3.heap.size, 3, none⟩ = some (.slice B3 V.length d3) := blk_cell Bx_5.out rfl
            have x4_5 : w5.cell? ⟨w3.heap.size, 4, none⟩ = some (.bool tu) := blk_cell Bx_5.out rfl
            have x5_5 : w5.cell? ⟨w3.heap.size, 5, none⟩ = some (.bool fa) := blk_cell Bx_5.out rfl
            have x6_5 : w5.cell? ⟨w3.heap.size, 6, none⟩ = some (.int .i64 ag) := blk_cell Bx_5.out rfl
            have x7_5 : w5.cell? ⟨w3.heap.size, 7, none⟩ = some (.bool jo) := blk_cell Bx_5.out rfl
            have xz_5 : w3.heap.size < w5.heap.size := blk_lt Bx_5.out
            clear S1_4 S2_4 S3_4 Sa1_4 Sa2_4 Sa3_4 Bs_4 s0_4 s1_4 s2_4 s3_4 s4_4 s5_4 s6_4 s7_4 sz_4 Bx_4 x0_4 x1_4 x2_4 x3_4 x4_4 x5_4 x6_4 x7_4 xz_4 HB_4 hb5
            go_wp2_with fail
            refine ((HU1 _ B2 d2 (by repeat (first | exact Sa2_5.out | refine Sp.alloc ?_ _ | refine Sp.drewN ?_ _ | refine Sp.drew ?_))).out).mono ?_
            rintro e6 w6 ⟨rfl, hb6⟩
            have HB_6 : Hid (Below w.heap.size w w6) := bel_chain hb6 (by repeat (first | exact HB_5.out | refine bel_drewN ?_ _ | refine bel_drew ?_ | refine bel_alloc ?_ _))
            have S1_6 : Hid (Sp w6 A1 c1 (R)) := Sp.below (by repeat (first | exact S1_5.out | refine Sp.alloc ?_ _ | refine Sp.drewN ?_ _ | refine Sp.drew ?_)) hb6
            have S2_6 : Hid (Sp w6 A2 c2 (H)) := Sp.below (by repeat (first | exact S2_5.out | refine Sp.alloc ?_ _ | refine Sp.drewN ?_ _ | refine Sp.drew ?_)) hb6
            have S3_6 : Hid (Sp w6 A3 c3 (F)) := Sp.below (by repeat (first | exact S3_5.out | refine Sp.alloc ?_ _ | refine Sp.drewN ?_ _ | refine Sp.drew ?_)) hb6
            have Sa1_6 : Hid (Sp w6 B1 d1 (X)) := Sp.below (by repeat (first | exact Sa1_5.out | refine Sp.alloc ?_ _ | refine Sp.drewN ?_ _ | refine Sp.drew ?_)) hb6
            have Sa2_6 : Hid (Sp w6 B2 d2 (U)) := Sp.below (by repeat (first | exact Sa2_5.out | refine Sp.alloc ?_ _ | refine Sp.drewN ?_ _ | refine Sp.drew ?_)) hb6
            have Sa3_6 : Hid (Sp w6 B3 d3 (V)) := Sp.below (by repeat (first | exact Sa3_5.out | refine Sp.alloc ?_ _ | refine Sp.drewN ?_ _ | refine Sp.drew ?_)) hb6
            have Bs_6 : Hid (w6.heap[w.heap.size]? = some (.cells #[.bool he, .slice A1 R.length c1, .slice A2 H.length c2, .slice A3 F.length c3, .bool tu, .bool fa, .int .i64 ag, .bool jo] 52 (0, 0))) := blk_keep hb6 (blk_keep (W := w5) (by (repeat (first | exact Below.refl _ _ | refine bel_drewN ?_ _ | refine bel_drew ?_ | refine bel_alloc ?_ _ | refine bel_set ?_ (by simp) _))) Bs_5.out)
            have Bx_6 : Hid (w6.heap[w3.heap.size]? = some (.cells #[.bool he, .slice B1 X.length d1, .slice B2 U.length d2, .slice B3 V.length d3, .bool tu, .bool fa, .int .i64 ag, .bool jo] 56 (0, 0))) := blk_keep hb6 (blk_keep (W := w5) (by (repeat (first | exact Below.refl _ _ | refine bel_drewN ?_ _ | refine bel_drew ?_ | refine bel_alloc ?_ _ | refine bel_set ?_ (by simp) _))) Bx_5.out)
            have ord1 : w.heap.size < w5.heap.size := by omega
            have ord2 : w3.heap.size < w5.heap.size := by omega
            have Bf_6 : Hid (w6.heap[w5.heap.size]? = some (.cells #[.int .i64 x1, .int .i64 x2] 29 (0, 0))) := blk_keep hb6 (by repeat (first | exact blk_new (by first | rfl | (simp; done) | (simp; omega)) | refine blk_skip ?_ | refine blk_drewN ?_ | refine blk_drew ?_))
            have s0_6 : w6.cell? ⟨w.heap.size, 0, none⟩ = some (.bool he) := blk_cell Bs_6.out rfl
            have s1_6 : w6.cell? ⟨w.heap.size, 1, none⟩ = some (.slice A1 R.length c1) := blk_cell Bs_6.out rfl
            have s2_6 : w6.cell? ⟨w.heap.size, 2, none⟩ = some (.slice A2 H.length c2) := blk_cell Bs_6.out rfl
            have s3_6 : w6.cell? ⟨w.heap.size, 3, none⟩ = some (.slice A3 F.length c3) := blk_cell Bs_6.out rfl
            have s4_6 : w6.cell? ⟨w.heap.size, 4, none⟩ = some (.bool tu) := blk_cell Bs_6.out rfl
            have s5_6 : w6.cell? ⟨w.heap.size, 5, none⟩ = some (.bool fa) := blk_cell Bs_6.out rfl
            have s6_6 : w6.cell? ⟨w.heap.size, 6, none⟩ = some (.int .i64 ag) := blk_cell Bs_6.out rfl
            have s7_6 : w6.cell? ⟨w.heap.size, 7, none⟩ = some (.bool jo) := blk_cell Bs_6.out rfl
            have sz_6 : w.heap.size < w6.heap.size := blk_lt Bs_6.out
            have x0_6 : w6.cell? ⟨w3.heap.size, 0, none⟩ = some (.bool he) := blk_cell Bx_6.out rfl
            have x1_6 : w6.cell? ⟨w3.heap.size, 1, none⟩ = some (.slice B1 X.length d1) := blk_cell Bx_6.out rfl
            have x2_6 : w6.cell? ⟨w3.heap.size, 2, none⟩ = some (.slice B2 U.length d2) := blk_cell Bx_6.out rfl
            have x3_6 : w6.cell? ⟨w3.heap.size, 3, none⟩ = some (.slice B3 V.length d3) := blk_cell Bx_6.out rfl
            have x4_6 : w6.cell? ⟨w3.heap.size, 4, none⟩ = some (.bool tu) := blk_cell Bx_6.out rfl
            have x5_6 : w6.cell? ⟨w3.heap.size, 5, none⟩ = some (.bool fa) := blk_cell Bx_6.out rfl
            have x6_6 : w6.cell? ⟨w3.heap.size, 6, none⟩ = some (.int .i64 ag) := blk_cell Bx_6.out rfl
            have x7_6 : w6.cell? ⟨w3.heap.size, 7, none⟩ = some (.bool jo) := blk_cell Bx_6.out rfl
            have xz_6 : w3.heap.size < w6.heap.size := blk_lt Bx_6.out
            have f0_6 : w6.cell? ⟨w5.heap.size, 0, none⟩ = some (.int .i64 x1) := blk_cell Bf_6.out rfl
            have fz_6 : w5.heap.size < w6.heap.size := blk_lt Bf_6.out
            clear S1_5 S2_5 S3_5 Sa1_5 Sa2_5 Sa3_5 Bs_5 s0_5 s1_5 s2_5 s3_5 s4_5 s5_5 s6_5 s7_5 sz_5 Bx_5 x0_5 x1_5 x2_5 x3_5 x4_5 x5_5 x6_5 x7_5 xz_5 HB_5 hb6
            go_wp2_with fail
            refine ((HV1 _ B3 d3 (by repeat (first | exact Sa3_6.out | refine Sp.alloc ?_ _ | refine Sp.drewN ?_ _ | refine Sp.drew ?_))).out).mono ?_
            rintro e7 w7 ⟨rfl, hb7⟩
            have HB_7 : Hid (Below w.heap.size w w7) := bel_chain hb7 (by repeat (first | exact HB_6.out | refine bel_drewN ?_ _ | refine bel_drew ?_ | refine bel_alloc ?_ _))
            have S1_7 : Hid (Sp w7 A1 c1 (R)) := Sp.below (by repeat (first | exact S1_6.out | refine Sp.alloc ?_ _ | refine Sp.drewN ?_ _ | refine Sp.drew ?_)) hb7
            have S2_7 : Hid (Sp w7 A2 c2 (H)) := Sp.below (by repeat (first | exact S2_6.out | refine Sp.alloc ?_ _ | refine Sp.drewN ?_ _ | refine Sp.drew ?_)) hb7
            have S3_7 : Hid (Sp w7 A3 c3 (F)) := Sp.below (by repeat (first | exact S3_6.out | refine Sp.alloc ?_ _ | refine Sp.drewN ?_ _ | refine Sp.drew ?_)) hb7
            have Sa1_7 : Hid (Sp w7 B1 d1 (X)) := Sp.below (by repeat (first | exact Sa1_6.out | refine Sp.alloc ?_ _ | refine Sp.drewN ?_ _ | refine Sp.drew ?_)) hb7
            have Sa2_7 : Hid (Sp w7 B2 d2 (U)) := Sp.below (by repeat (first | exact Sa2_6.out | refine Sp.alloc ?_ _ | refine Sp.drewN ?_ _ | refine Sp.drew ?_)) hb7
            have Sa3_7 : Hid (Sp w7 B3 d3 (V)) := Sp.below (by repeat (first | exact Sa3_6.out | refine Sp.alloc ?_ _ | refine Sp.drewN ?_ _ | refine Sp.drew ?_)) hb7
            have Bs_7 : Hid (w7.heap[w.heap.size]? = some (.cells #[.bool he, .slice A1 R.length c1, .slice A2 H.length c2, .slice A3 F.length c3, .bool tu, .bool fa, .int .i64 ag, .bool jo] 52 (0, 0))) := blk_keep hb7 (blk_keep (W := w6) (by (repeat (first | exact Below.refl _ _ | refine bel_drewN ?_ _ | refine bel_drew ?_ | refine bel_alloc ?_ _ | refine bel_set ?_ (by simp) _))) Bs_6.out)
            have Bx_7 : Hid (w7.heap[w3.heap.size]? = some (.cells #[.bool he, .slice B1 X.length d1, .slice B2 U.length d2, .slice B3 V.length d3, .bool tu, .bool fa, .int .i64 ag, .bool jo] 56 (0, 0))) := blk_keep hb7 (blk_keep (W := w6) (by (repeat (first | exact Below.refl _ _ | refine bel_drewN ?_ _ | refine bel_drew ?_ | refine bel_alloc ?_ _ | refine bel_set ?_ (by simp) _))) Bx_6.out)
            have Bf_7 : Hid (w7.heap[w5.heap.size]? = some (.cells #[.int .i64 x1, .int .i64 x2] 29 (0, 0))) := blk_keep hb7 (blk_keep (W := w6) (by (repeat (first | exact Below.refl _ _ | refine bel_drewN ?_ _ | refine bel_drew ?_ | refine bel_alloc ?_ _ | refine bel_set ?_ (by simp) _))) Bf_6.out)
            have s0_7 : w7.cell? ⟨w.heap.size, 0, none⟩ = some (.bool he) := blk_cell Bs_7.out rfl
            have s1_7 : w7.cell? ⟨w.heap.size, 1, none⟩ = some (.slice A1 R.length c1) := blk_cell Bs_7.out rfl
            have s2_7 : w7.cell? ⟨w.heap.size, 2, none⟩ = some (.slice A2 H.length c2) := blk_cell Bs_7.out rfl
            have s3_7 : w7.cell? ⟨w.heap.size, 3, none⟩ = some (.slice A3 F.length c3) := blk_cell Bs_7.out rfl
            have s4_7 : w7.cell? ⟨w.heap.size, 4, none⟩ = some (.bool tu) := blk_cell Bs_7.out rfl
            have s5_7 : w7.cell? ⟨w.heap.size, 5, none⟩ = some (.bool fa) := blk_cell Bs_7.out rfl
            have s6_7 : w7.cell? ⟨w.heap.size, 6, none⟩ = some (.int .i64 ag) := blk_cell Bs_7.out rfl
            have s7_7 : w7.cell? ⟨w.heap.size, 7, none⟩ = some (.bool jo) := blk_cell Bs_7.out rfl
            have sz_7 : w.heap.size < w7.heap.size := blk_lt Bs_7.out
            have x0_7 : w7.cell? ⟨w3.heap.size, 0, none⟩ = some (.bool he) := blk_cell Bx_7.out rfl
            have x1_7 : w7.cell? ⟨w3.heap.size, 1, none⟩ = some (.slice B1 X.length d1) := blk_cell Bx_7.out rfl
            have x2_7 : w7.cell? ⟨w3.heap.size, 2, none⟩ = some (.slice B2 U.length d2) := blk_cell Bx_7.out rfl
            have x3_7 : w7.cell? ⟨w3.heap.size, 3, none⟩ = some (.slice B3 V.length d3) := blk_cell Bx_7.out rfl
            have x4_7 : w7.cell? ⟨w3.heap.size, 4, none⟩ = some (.bool tu) := blk_cell Bx_7.out rfl
            have x5_7 : w7.cell? ⟨w3.heap.size, 5, none⟩ = some (.bool fa) := blk_cell Bx_7.out rfl
            have x6_7 : w7.cell? ⟨w3.heap.size, 6, none⟩ = some (.int .i64 ag) := blk_cell Bx_7.out rfl
            have x7_7 : w7.cell? ⟨w3.heap.size, 7, none⟩ = some (.bool jo) := blk_cell Bx_7.out rfl
            have xz_7 : w3.heap.size < w7.heap.size := blk_lt Bx_7.out
            have f0_7 : w7.cell? ⟨w5.heap.size, 0, none⟩ = some (.int .i64 x1) := blk_cell Bf_7.out rfl
            have fz_7 : w5.heap.size < w7.heap.size := blk_lt Bf_7.out
            clear S1_6 S2_6 S3_6 Sa1_6 Sa2_6 Sa3_6 Bs_6 s0_6 s1_6 s2_6 s3_6 s4_6 s5_6 s6_6 s7_6 sz_6 Bx_6 x0_6 x1_6 x2_6 x3_6 x4_6 x5_6 x6_6 x7_6 xz_6 Bf_6 f0_6 fz_6 HB_6 hb7
            go_wp2_with fail
            refine ((HL _ B1 d1 B2 d2 B3 d3 (by repeat (first | exact Sa1_7.out | refine Sp.alloc ?_ _ | refine Sp.drewN ?_ _ | refine Sp.drew ?_)) (by repeat (first | exact Sa2_7.out | refine Sp.alloc ?_ _ | refine Sp.drewN ?_ _ | refine Sp.drew ?_)) (by repeat (first | exact Sa3_7.out | refine Sp.alloc ?_ _ | refine Sp.drewN ?_ _ | refine Sp.drew ?_))).out).mono ?_
            rintro e8 w8 ⟨Al, cl, rfl, hs8, hb8⟩
            have HB_8 : Hid (Below w.heap.size w w8) := bel_chain hb8 (by repeat (first | exact HB_7.out | refine bel_drewN ?_ _ | refine bel_drew ?_ | refine bel_alloc ?_ _))
            have S1_8 : Hid (Sp w8 A1 c1 (R)) := Sp.below (by repeat (first | exact S1_7.out | refine Sp.alloc ?_ _ | refine Sp.drewN ?_ _ | refine Sp.drew ?_)) hb8
            have S2_8 : Hid (Sp w8 A2 c2 (H)) := Sp.below (by repeat (first | exact S2_7.out | refine Sp.alloc ?_ _ | refine Sp.drewN ?_ _ | refine Sp.drew ?_)) hb8
            have S3_8 : Hid (Sp w8 A3 c3 (F)) := Sp.below (by repeat (first | exact S3_7.out | refine Sp.alloc ?_ _ | refine Sp.drewN ?_ _ | refine Sp.drew ?_)) hb8
            have Sa1_8 : Hid (Sp w8 B1 d1 (X)) := Sp.below (by repeat (first | exact Sa1_7.out | refine Sp.alloc ?_ _ | refine Sp.drewN ?_ _ | refine Sp.drew ?_)) hb8
            have Sa2_8 : Hid (Sp w8 B2 d2 (U)) := Sp.below (by repeat (first | exact Sa2_7.out | refine Sp.alloc ?_ _ | refine Sp.drewN ?_ _ | refine Sp.drew ?_)) hb8
            have Sa3_8 : Hid (Sp w8 B3 d3 (V)) := Sp.below (by repeat (first | exact Sa3_7.out | refine Sp.alloc ?_ _ | refine Sp.drewN ?_ _ | refine Sp.drew ?_)) hb8
            have Bs_8 : Hid (w8.heap[w.heap.size]? = some (.cells #[.bool he, .slice A1 R.length c1, .slice A2 H.length c2, .slice A3 F.length c3, .bool tu, .bool fa, .int .i64 ag, .bool jo] 52 (0, 0))) := blk_keep hb8 (blk_keep (W := w7) (by (repeat (first | exact Below.refl _ _ | refine bel_drewN ?_ _ | refine bel_drew ?_ | refine bel_alloc ?_ _ | refine bel_set ?_ (by simp) _))) Bs_7.out)
            have Bx_8 : Hid (w8.heap[w3.heap.size]? = some (.cells #[.bool he, .slice B1 X.length d1, .slice B2 U.length d2, .slice B3 V.length d3, .bool tu, .bool fa, .int .i64 ag, .bool jo] 56 (0, 0))) := blk_keep hb8 (blk_keep (W := w7) (by (repeat (first | exact Below.refl _ _ | refine bel_drewN ?_ _ | refine bel_drew ?_ | refine bel_alloc ?_ _ | refine bel_set ?_ (by simp) _))) Bx_7.out)
            have Bf_8 : Hid (w8.heap[w5.heap.size]? = some (.cells #[.int .i64 x1, .int .i64 x2] 29 (0, 0))) := blk_keep hb8 (blk_keep (W := w7) (by (repeat (first | exact Below.refl _ _ | refine bel_drewN ?_ _ | refine bel_drew ?_ | refine bel_alloc ?_ _ | refine bel_set ?_ (by simp) _))) Bf_7.out)
            have s0_8 : w8.cell? ⟨w.heap.size, 0, none⟩ = some (.bool he) := blk_cell Bs_8.out rfl
            have s1_8 : w8.cell? ⟨w.heap.size, 1, none⟩ = some (.slice A1 R.length c1) := blk_cell Bs_8.out rfl
            have s2_8 : w8.cell? ⟨w.heap.size, 2, none⟩ = some (.slice A2 H.length c2) := blk_cell Bs_8.out rfl
            have s3_8 : w8.cell? ⟨w.heap.size, 3, none⟩ = some (.slice A3 F.length c3) := blk_cell Bs_8.out rfl
            have s4_8 : w8.cell? ⟨w.heap.size, 4, none⟩ = some (.bool tu) := blk_cell Bs_8.out rfl
            have s5_8 : w8.cell? ⟨w.heap.size, 5, none⟩ = some (.bool fa) := blk_cell Bs_8.out rfl
            have s6_8 : w8.cell? ⟨w.heap.size, 6, none⟩ = some (.int .i64 ag) := blk_cell Bs_8.out rfl
            have s7_8 : w8.cell? ⟨w.heap.size, 7, none⟩ = some (.bool jo) := blk_cell Bs_8.out rfl
            have sz_8 : w.heap.size < w8.heap.size := blk_lt Bs_8.out
            have x0_8 : w8.cell? ⟨w3.heap.size, 0, none⟩ = some (.bool he) := blk_cell Bx_8.out rfl
            have x1_8 : w8.cell? ⟨w3.heap.size, 1, none⟩ = some (.slice B1 X.length d1) := blk_cell Bx_8.out rfl
            have x2_8 : w8.cell? ⟨w3.heap.size, 2, none⟩ = some (.slice B2 U.length d2) := blk_cell Bx_8.out rfl
            have x3_8 : w8.cell? ⟨w3.heap.size, 3, none⟩ = some (.slice B3 V.length d3) := blk_cell Bx_8.out rfl
            have x4_8 : w8.cell? ⟨w3.heap.size, 4, none⟩ = some (.bool tu) := blk_cell Bx_8.out rfl
            have x5_8 : w8.cell? ⟨w3.heap.size, 5, none⟩ = some (.bool fa) := blk_cell Bx_8.out rfl
            have x6_8 : w8.cell? ⟨w3.heap.size, 6, none⟩ = some (.int .i64 ag) := blk_cell Bx_8.out rfl
            have x7_8 : w8.cell? ⟨w3.heap.size, 7, none⟩ = some (.bool jo) := blk_cell Bx_8.out rfl
            have xz_8 : w3.heap.size < w8.heap.size := blk_lt Bx_8.out
            have f0_8 : w8.cell? ⟨w5.heap.size, 0, none⟩ = some (.int .i64 x1) := blk_cell Bf_8.out rfl
            have fz_8 : w5.heap.size < w8.heap.size := blk_lt Bf_8.out
            have Sl_8 : Hid (Sp w8 Al cl (Y)) := hs8
            clear S1_7 S2_7 S3_7 Sa1_7 Sa2_7 Sa3_7 Bs_7 s0_7 s1_7 s2_7 s3_7 s4_7 s5_7 s6_7 s7_7 sz_7 Bx_7 x0_7 x1_7 x2_7 x3_7 x4_7 x5_7 x6_7 x7_7 xz_7 Bf_7 f0_7 fz_7 hs8 HB_7 hb8
            go_wp2_with fail
            refine ((HLN _ Al cl (by repeat (first | exact Sl_8.out | refine Sp.alloc ?_ _ | refine Sp.drewN ?_ _ | refine Sp.drew ?_))).out).mono ?_
            rintro e9 w9 ⟨rfl, hb9⟩
            have HB_9 : Hid (Below w.heap.size w w9) := bel_chain hb9 (by repeat (first | exact HB_8.out | refine bel_drewN ?_ _ | refine bel_drew ?_ | refine bel_alloc ?_ _))
            have S1_9 : Hid (Sp w9 A1 c1 (R)) := Sp.below (by repeat (first | exact S1_8.out | refine Sp.alloc ?_ _ | refine Sp.drewN ?_ _ | refine Sp.drew ?_)) hb9
            have S2_9 : Hid (Sp w9 A2 c2 (H)) := Sp.below (by repeat (first | exact S2_8.out | refine Sp.alloc ?_ _ | refine Sp.drewN ?_ _ | refine Sp.drew ?_)) hb9
            have S3_9 : Hid (Sp w9 A3 c3 (F)) := Sp.below (by repeat (first | exact S3_8.out | refine Sp.alloc ?_ _ | refine Sp.drewN ?_ _ | refine Sp.drew ?_)) hb9
            have Sa1_9 : Hid (Sp w9 B1 d1 (X)) := Sp.below (by repeat (first | exact Sa1_8.out | refine Sp.alloc ?_ _ | refine Sp.drewN ?_ _ | refine Sp.drew ?_)) hb9
            have Sa2_9 : Hid (Sp w9 B2 d2 (U)) := Sp.below (by repeat (first | exact Sa2_8.out | refine Sp.alloc ?_ _ | refine Sp.drewN ?_ _ | refine Sp.drew ?_)) hb9
            have Sa3_9 : Hid (Sp w9 B3 d3 (V)) := Sp.below (by repeat (first | exact Sa3_8.out | refine Sp.alloc ?_ _ | refine Sp.drewN ?_ _ | refine Sp.drew ?_)) hb9
            have Sl_9 : Hid (Sp w9 Al cl (Y)) := Sp.below (by repeat (first | exact Sl_8.out | refine Sp.alloc ?_ _ | refine Sp.drewN ?_ _ | refine Sp.drew ?_)) hb9
            have Bs_9 : Hid (w9.heap[w.heap.size]? = some (.cells #[.bool he, .slice A1 R.length c1, .slice A2 H.length c2, .slice A3 F.length c3, .bool tu, .bool fa, .int .i64 ag, .bool jo] 52 (0, 0))) := blk_keep hb9 (blk_keep (W := w8) (by (repeat (first | exact Below.refl _ _ | refine bel_drewN ?_ _ | refine bel_drew ?_ | refine bel_alloc ?_ _ | refine bel_set ?_ (by simp) _))) Bs_8.out)
            have Bx_9 : Hid (w9.heap[w3.heap.size]? = some (.cells #[.bool he, .slice B1 X.length d1, .slice B2 U.length d2, .slice B3 V.length d3, .bool tu, .bool fa, .int .i64 ag, .bool jo] 56 (0, 0))) := blk_keep hb9 (blk_keep (W := w8) (by (repeat (first | exact Below.refl _ _ | refine bel_drewN ?_ _ | refine bel_drew ?_ | refine bel_alloc ?_ _ | refine bel_set ?_ (by simp) _))) Bx_8.out)
            have Bf_9 : Hid (w9.heap[w5.heap.size]? = some (.cells #[.int .i64 x1, .int .i64 x2] 29 (0, 0))) := blk_keep hb9 (blk_keep (W := w8) (by (repeat (first | exact Below.refl _ _ | refine bel_drewN ?_ _ | refine bel_drew ?_ | refine bel_alloc ?_ _ | refine bel_set ?_ (by simp) _))) Bf_8.out)
            have s0_9 : w9.cell? ⟨w.heap.size, 0, none⟩ = some (.bool he) := blk_cell Bs_9.out rfl
            have s1_9 : w9.cell? ⟨w.heap.size, 1, none⟩ = some (.slice A1 R.length c1) := blk_cell Bs_9.out rfl
            have s2_9 : w9.cell? ⟨w.heap.size, 2, none⟩ = some (.slice A2 H.length c2) := blk_cell Bs_9.out rfl
            have s3_9 : w9.cell? ⟨w.heap.size, 3, none⟩ = some (.slice A3 F.length c3) := blk_cell Bs_9.out rfl
            have s4_9 : w9.cell? ⟨w.heap.size, 4, none⟩ = some (.bool tu) := blk_cell Bs_9.out rfl
            have s5_9 : w9.cell? ⟨w.heap.size, 5, none⟩ = some (.bool fa) := blk_cell Bs_9.out rfl
            have s6_9 : w9.cell? ⟨w.heap.size, 6, none⟩ = some (.int .i64 ag) := blk_cell Bs_9.out rfl
            have s7_9 : w9.cell? ⟨w.heap.size, 7, none⟩ = some (.bool jo) := blk_cell Bs_9.out rfl
            have sz_9 : w.heap.size < w9.heap.size := blk_lt Bs_9.out
            have x0_9 : w9.cell? ⟨w3.heap.size, 0, none⟩ = some (.bool he) := blk_cell Bx_9.out rfl
            have x1_9 : w9.cell? ⟨w3.heap.size, 1, none⟩ = some (.slice B1 X.length d1) := blk_cell Bx_9.out rfl
            have x2_9 : w9.cell? ⟨w3.heap.size, 2, none⟩ = some (.slice B2 U.length d2) := blk_cell Bx_9.out rfl
            have x3_9 : w9.cell? ⟨w3.heap.size, 3, none⟩ = some (.slice B3 V.length d3) := blk_cell Bx_9.out rfl
            have x4_9 : w9.cell? ⟨w3.heap.size, 4, none⟩ = some (.bool tu) := blk_cell Bx_9.out rfl
            have x5_9 : w9.cell? ⟨w3.heap.size, 5, none⟩ = some (.bool fa) := blk_cell Bx_9.out rfl
            have x6_9 : w9.cell? ⟨w3.heap.size, 6, none⟩ = some (.int .i64 ag) := blk_cell Bx_9.out rfl
            have x7_9 : w9.cell? ⟨w3.heap.size, 7, none⟩ = some (.bool jo) := blk_cell Bx_9.out rfl
            have xz_9 : w3.heap.size < w9.heap.size := blk_lt Bx_9.out
            have f0_9 : w9.cell? ⟨w5.heap.size, 0, none⟩ = some (.int .i64 x1) := blk_cell Bf_9.out rfl
            have fz_9 : w5.heap.size < w9.heap.size := blk_lt Bf_9.out
            clear S1_8 S2_8 S3_8 Sa1_8 Sa2_8 Sa3_8 Sl_8 Bs_8 s0_8 s1_8 s2_8 s3_8 s4_8 s5_8 s6_8 s7_8 sz_8 Bx_8 x0_8 x1_8 x2_8 x3_8 x4_8 x5_8 x6_8 x7_8 xz_8 Bf_8 f0_8 fz_8 HB_8 hb9
            go_wp2_with fail
            go_ret
            exact ⟨rfl, (by repeat (first | (with_reducible exact HB_9.out) | (with_reducible refine bel_drewN ?_ _) | (with_reducible refine bel_drew ?_) | (with_reducible refine bel_alloc ?_ _) | (with_reducible refine bel_set ?_ (by first | omega | (dsimp only; omega)) _)))⟩
          · rw [hb2] at HV1
            have HV4 : Hid (dv = 2) := by simp only [Hid]; rw [HDC.out]; simp [hY, hb1, hb2]
            clear hY HDC hb1 hb2
            go_wp2_with fail
            refine (own_as he A1 c1 R A2 c2 H A3 c3 F tu fa ag jo X U V HX.out HU.out HV.out _ (by repeat (first | exact S1_2.out | refine Sp.alloc ?_ _ | refine Sp.drewN ?_ _ | refine Sp.drew ?_)) (by repeat (first | exact S2_2.out | refine Sp.alloc ?_ _ | refine Sp.drewN ?_ _ | refine Sp.drew ?_)) (by repeat (first | exact S3_2.out | refine Sp.alloc ?_ _ | refine Sp.drewN ?_ _ | refine Sp.drew ?_)) (by omega) (by omega) (by omega)).mono ?_
            rintro e3 w3 ⟨B1, d1, B2, d2, B3, d3, rfl, hs3, ht3, hu3, hb3⟩
            have HB_3 : Hid (Below w.heap.size w w3) := bel_chain hb3 (by repeat (first | exact HB_2.out | refine bel_drewN ?_ _ | refine bel_drew ?_ | refine bel_alloc ?_ _))
            have S1_3 : Hid (Sp w3 A1 c1 (R)) := Sp.below (by repeat (first | exact S1_2.out | refine Sp.alloc ?_ _ | refine Sp.drewN ?_ _ | refine Sp.drew ?_)) hb3
            have S2_3 : Hid (Sp w3 A2 c2 (H)) := Sp.below (by repeat (first | exact S2_2.out | refine Sp.alloc ?_ _ | refine Sp.drewN ?_ _ | refine Sp.drew ?_)) hb3
            have S3_3 : Hid (Sp w3 A3 c3 (F)) := Sp.below (by repeat (first | exact S3_2.out | refine Sp.alloc ?_ _ | refine Sp.drewN ?_ _ | refine Sp.drew ?_)) hb3
            have Bs_3 : Hid (w3.heap[w.heap.size]? = some (.cells #[.bool he, .slice A1 R.length c1, .slice A2 H.length c2, .slice A3 F.length c3, .bool tu, .bool fa, .int .i64 ag, .bool jo] 52 (0, 0))) := blk_keep hb3 (blk_keep (W := w2) (by (repeat (first | exact Below.refl _ _ | refine bel_drewN ?_ _ | refine bel_drew ?_ | refine bel_alloc ?_ _ | refine bel_set ?_ (by simp) _))) Bs_2.out)
            have s0_3 : w3.cell? ⟨w.heap.size, 0, none⟩ = some (.bool he) := blk_cell Bs_3.out rfl
            have s1_3 : w3.cell? ⟨w.heap.size, 1, none⟩ = some (.slice A1 R.length c1) := blk_cell Bs_3.out rfl
            have s2_3 : w3.cell? ⟨w.heap.size, 2, none⟩ = some (.slice A2 H.length c2) := blk_cell Bs_3.out rfl
            have s3_3 : w3.cell? ⟨w.heap.size, 3, none⟩ = some (.slice A3 F.length c3) := blk_cell Bs_3.out rfl
            have s4_3 : w3.cell? ⟨w.heap.size, 4, none⟩ = some (.bool tu) := blk_cell Bs_3.out rfl
            have s5_3 : w3.cell? ⟨w.heap.size, 5, none⟩ = some (.bool fa) := blk_cell Bs_3.out rfl
            have s6_3 : w3.cell? ⟨w.heap.size, 6, none⟩ = some (.int .i64 ag) := blk_cell Bs_3.out rfl
            have s7_3 : w3.cell? ⟨w.heap.size, 7, none⟩ = some (.bool jo) := blk_cell Bs_3.out rfl
            have sz_3 : w.heap.size < w3.heap.size := blk_lt Bs_3.out
            have Sa1_3 : Hid (Sp w3 B1 d1 (X)) := hs3
            have Sa2_3 : Hid (Sp w3 B2 d2 (U)) := ht3
            have Sa3_3 : Hid (Sp w3 B3 d3 (V)) := hu3
            clear S1_2 S2_2 S3_2 Bs_2 s0_2 s1_2 s2_2 s3_2 s4_2 s5_2 s6_2 s7_2 sz_2 hs3 ht3 hu3 HB_2 hb3
            go_wp2_with fail
            refine (HDE.out 2 HV4.out _ B1 d1 B2 d2 B3 d3 (by repeat (first | exact Sa1_3.out | refine Sp.alloc ?_ _ | refine Sp.drewN ?_ _ | refine Sp.drew ?_)) (by repeat (first | exact Sa2_3.out | refine Sp.alloc ?_ _ | refine Sp.drewN ?_ _ | refine Sp.drew ?_)) (by repeat (first | exact Sa3_3.out | refine Sp.alloc ?_ _ | refine Sp.drewN ?_ _ | refine Sp.drew ?_))).mono ?_
            rintro e4 w4 ⟨rfl, hb4⟩
            have HB_4 : Hid (Below w.heap.size w w4) := bel_chain hb4 (by repeat (first | exact HB_3.out | refine bel_drewN ?_ _ | refine bel_drew ?_ | refine bel_alloc ?_ _))
            have S1_4 : Hid (Sp w4 A1 c1 (R)) := Sp.below (by repeat (first | exact S1_3.out | refine Sp.alloc ?_ _ | refine Sp.drewN ?_ _ | refine Sp.drew ?_)) hb4
            have S2_4 : Hid (Sp w4 A2 c2 (H)) := Sp.below (by repeat (first | exact S2_3.out | refine Sp.alloc ?_ _ | refine Sp.drewN ?_ _ | refine Sp.drew ?_)) hb4
            have S3_4 : Hid (Sp w4 A3 c3 (F)) := Sp.below (by repeat (first | exact S3_3.out | refine Sp.alloc ?_ _ | refine Sp.drewN ?_ _ | refine Sp.drew ?_)) hb4
            have Sa1_4 : Hid (Sp w4 B1 d1 (X)) := Sp.below (by repeat (first | exact Sa1_3.out | refine Sp.alloc ?_ _ | refine Sp.drewN ?_ _ | refine Sp.drew ?_)) hb4
            have Sa2_4 : Hid (Sp w4 B2 d2 (U)) := Sp.below (by repeat (first | exact Sa2_3.out | refine Sp.alloc ?_ _ | refine Sp.drewN ?_ _ | refine Sp.drew ?_)) hb4
            have Sa3_4 : Hid (Sp w4 B3 d3 (V)) := Sp.below (by repeat (first | exact Sa3_3.out | refine Sp.alloc ?_ _ | refine Sp.drewN ?_ _ | refine Sp.drew ?_)) hb4
            have Bs_4 : Hid (w4.heap[w.heap.size]? = some (.cells #[.bool he, .slice A1 R.length c1, .slice A2 H.length c2, .slice A3 F.length c3, .bool tu, .bool fa, .int .i64 ag, .bool jo] 52 (0, 0))) := blk_keep hb4 (blk_keep (W := w3) (by (repeat (first | exact Below.refl _ _ | refine bel_drewN ?_ _ | refine bel_drew ?_ | refine bel_alloc ?_ _ | refine bel_set ?_ (by simp) _))) Bs_3.out)
            have ord0 : w.heap.size < w3.heap.size := by omega
            have Bx_4 : Hid (w4.heap[w3.heap.size]? = some (.cells #[.bool he, .slice B1 X.length d1, .slice B2 U.length d2, .slice B3 V.length d3, .bool tu, .bool fa, .int .i64 ag, .bool jo] 56 (0, 0))) := blk_keep hb4 (by repeat (first | exact blk_new (by first | rfl | (simp; done) | (simp; omega)) | refine blk_skip ?_ | refine blk_drewN ?_ | refine blk_drew ?_))
            have s0_4 : w4.cell? ⟨w.heap.size, 0, none⟩ = some (.bool he) := blk_cell Bs_4.out rfl
            have s1_4 : w4.cell? ⟨w.heap.size, 1, none⟩ = some (.slice A1 R.length c1) := blk_cell Bs_4.out rfl
            have s2_4 : w4.cell? ⟨w.heap.size, 2, none⟩ = some (.slice A2 H.length c2) := blk_cell Bs_4.out rfl
            have s3_4 : w4.cell? ⟨w.heap.size, 3, none⟩ = some (.slice A3 F.length c3) := blk_cell Bs_4.out rfl
            have s4_4 : w4.cell? ⟨w.heap.size, 4, none⟩ = some (.bool tu) := blk_cell Bs_4.out rfl
            have s5_4 : w4.cell? ⟨w.heap.size, 5, none⟩ = some (.bool fa) := blk_cell Bs_4.out rfl
            have s6_4 : w4.cell? ⟨w.heap.size, 6, none⟩ = some (.int .i64 ag) := blk_cell Bs_4.out rfl
            have s7_4 : w4.cell? ⟨w.heap.size, 7, none⟩ = some (.bool jo) := blk_cell Bs_4.out rfl
            have sz_4 : w.heap.size < w4.heap.size := blk_lt Bs_4.out
            have x0_4 : w4.cell? ⟨w3.heap.size, 0, none⟩ = some (.bool he) := blk_cell Bx_4.out rfl
            have x1_4 : w4.cell? ⟨w3.heap.size, 1, none⟩ = some (.slice B1 X.length d1) := blk_cell Bx_4.out rfl
            have x2_4 : w4.cell? ⟨w3.heap.size, 2, none⟩ = some (.slice B2 U.length d2) := blk_cell Bx_4.out rfl
            have x3_4 : w4.cell? ⟨w3.heap.size, 3, none⟩ = some (.slice B3 V.length d3) := blk_cell Bx_4.out rfl
            have x4_4 : w4.cell? ⟨w3.heap.size, 4, none⟩ = some (.bool tu) := blk_cell Bx_4.out rfl
            have x5_4 : w4.cell? ⟨w3.heap.size, 5, none⟩ = some (.bool fa) := blk_cell Bx_4.out rfl
            have x6_4 : w4.cell? ⟨w3.heap.size, 6, none⟩ = some (.int .i64 ag) := blk_cell Bx_4.out rfl
            have x7_4 : w4.cell? ⟨w3.heap.size, 7, none⟩ = some (.bool jo) := blk_cell Bx_4.out rfl
            have xz_4 : w3.heap.size < w4.heap.size := blk_lt Bx_4.out
            clear S1_3 S2_3 S3_3 Sa1_3 Sa2_3 Sa3_3 Bs_3 s0_3 s1_3 s2_3 s3_3 s4_3 s5_3 s6_3 s7_3 sz_3 HB_3 hb4
            go_wp2_with fail
            refine (first_as1 B1 d1 X x1 x2 r HR.out _ (by repeat (first | exact Sa1_4.out | refine Sp.alloc ?_ _ | refine Sp.drewN ?_ _ | refine Sp.drew ?_)) K1.out (by omega)).mono ?_
            rintro e5 w5 ⟨rfl, hb5⟩
            have HB_5 : Hid (Below w.heap.size w w5) := bel_chain hb5 (by repeat (first | exact HB_4.out | refine bel_drewN ?_ _ | refine bel_drew ?_ | refine bel_alloc ?_ _))
            have S1_5 : Hid (Sp w5 A1 c1 (R)) := Sp.below (by repeat (first | exact S1_4.out | refine Sp.alloc ?_ _ | refine Sp.drewN ?_ _ | refine Sp.drew ?_)) hb5
            have S2_5 : Hid (Sp w5 A2 c2 (H)) := Sp.below (by repeat (first | exact S2_4.out | refine Sp.alloc ?_ _ | refine Sp.drewN ?_ _ | refine Sp.drew ?_)) hb5
            have S3_5 : Hid (Sp w5 A3 c3 (F)) := Sp.below (by repeat (first | exact S3_4.out | refine Sp.alloc ?_ _ | refine Sp.drewN ?_ _ | refine Sp.drew ?_)) hb5
            have Sa1_5 : Hid (Sp w5 B1 d1 (X)) := Sp.below (by repeat (first | exact Sa1_4.out | refine Sp.alloc ?_ _ | refine Sp.drewN ?_ _ | refine Sp.drew ?_)) hb5
            have Sa2_5 : Hid (Sp w5 B2 d2 (U)) := Sp.below (by repeat (first | exact Sa2_4.out | refine Sp.alloc ?_ _ | refine Sp.drewN ?_ _ | refine Sp.drew ?_)) hb5
            have Sa3_5 : Hid (Sp w5 B3 d3 (V)) := Sp.below (by repeat (first | exact Sa3_4.out | refine Sp.alloc ?_ _ | refine Sp.drewN ?_ _ | refine Sp.drew ?_)) hb5
            have Bs_5 : Hid (w5.heap[w.heap.size]? = some (.cells #[.bool he, .slice A1 R.length c1, .slice A2 H.length c2, .slice A3 F.length c3, .bool tu, .bool fa, .int .i64 ag, .bool jo] 52 (0, 0))) := blk_keep hb5 (blk_keep (W := w4) (by (repeat (first | exact Below.refl _ _ | refine bel_drewN ?_ _ | refine bel_drew ?_ | refine bel_alloc ?_ _ | refine bel_set ?_ (by simp) _))) Bs_4.out)
            have Bx_5 : Hid (w5.heap[w3.heap.size]? = some (.cells #[.bool he, .slice B1 X.length d1, .slice B2 U.length d2, .slice B3 V.length d3, .bool tu, .bool fa, .int .i64 ag, .bool jo] 56 (0, 0))) := blk_keep hb5 (blk_keep (W := w4) (by (repeat (first | exact Below.refl _ _ | refine bel_drewN ?_ _ | refine bel_drew ?_ | refine bel_alloc ?_ _ | refine bel_set ?_ (by simp) _))) Bx_4.out)
            have s0_5 : w5.cell? ⟨w.heap.size, 0, none⟩ = some (.bool he) := blk_cell Bs_5.out rfl
            have s1_5 : w5.cell? ⟨w.heap.size, 1, none⟩ = some (.slice A1 R.length c1) := blk_cell Bs_5.out rfl
            have s2_5 : w5.cell? ⟨w.heap.size, 2, none⟩ = some (.slice A2 H.length c2) := blk_cell Bs_5.out rfl
            have s3_5 : w5.cell? ⟨w.heap.size, 3, none⟩ = some (.slice A3 F.length c3) := blk_cell Bs_5.out rfl
            have s4_5 : w5.cell? ⟨w.heap.size, 4, none⟩ = some (.bool tu) := blk_cell Bs_5.out rfl
            have s5_5 : w5.cell? ⟨w.heap.size, 5, none⟩ = some (.bool fa) := blk_cell Bs_5.out rfl
            have s6_5 : w5.cell? ⟨w.heap.size, 6, none⟩ = some (.int .i64 ag) := blk_cell Bs_5.out rfl
            have s7_5 : w5.cell? ⟨w.heap.size, 7, none⟩ = some (.bool jo) := blk_cell Bs_5.out rfl
            have sz_5 : w.heap.size < w5.heap.size := blk_lt Bs_5.out
            have x0_5 : w5.cell? ⟨w3.heap.size, 0, none⟩ = some (.bool he) := blk_cell Bx_5.out rfl
            have x1_5 : w5.cell? ⟨w3.heap.size, 1, none⟩ = some (.slice B1 X.length d1) := blk_cell Bx_5.out rfl
            have x2_5 : w5.cell? ⟨w3.heap.size, 2, none⟩ = some (.slice B2 U.length d2) := blk_cell Bx_5.out rfl
            have x3_5 : w5.cell? ⟨w3.heap.size, 3, none⟩ = some (.slice B3 V.length d3) := blk_cell Bx_5.out rfl
            have x4_5 : w5.cell? ⟨w3.heap.size, 4, none⟩ = some (.bool tu) := blk_cell Bx_5.out rfl
            have x5_5 : w5.cell? ⟨w3.heap.size, 5, none⟩ = some (.bool fa) := blk_cell Bx_5.out rfl
            have x6_5 : w5.cell? ⟨w3.heap.size, 6, none⟩ = some (.int .i64 ag) := blk_cell Bx_5.out rfl
            have x7_5 : w5.cell? ⟨w3.heap.size, 7, none⟩ = some (.bool jo) := blk_cell Bx_5.out rfl
            have xz_5 : w3.heap.size < w5.heap.size := blk_lt Bx_5.out
            clear S1_4 S2_4 S3_4 Sa1_4 Sa2_4 Sa3_4 Bs_4 s0_4 s1_4 s2_4 s3_4 s4_4 s5_4 s6_4 s7_4 sz_4 Bx_4 x0_4 x1_4 x2_4 x3_4 x4_4 x5_4 x6_4 x7_4 xz_4 HB_4 hb5
            go_wp2_with fail
            refine ((HV1 _ B3 d3 (by repeat (first | exact Sa3_5.out | refine Sp.alloc ?_ _ | refine Sp.drewN ?_ _ | refine Sp.drew ?_))).out).mono ?_
            rintro e6 w6 ⟨rfl, hb6⟩
            have HB_6 : Hid (Below w.heap.size w w6) := bel_chain hb6 (by repeat (first | exact HB_5.out | refine bel_drewN ?_ _ | refine bel_drew ?_ | refine bel_alloc ?_ _))
            have S1_6 : Hid (Sp w6 A1 c1 (R)) := Sp.below (by repeat (first | exact S1_5.out | refine Sp.alloc ?_ _ | refine Sp.drewN ?_ _ | refine Sp.drew ?_)) hb6
            have S2_6 : Hid (Sp w6 A2 c2 (H)) := Sp.below (by repeat (first | exact S2_5.out | refine Sp.alloc ?_ _ | refine Sp.drewN ?_ _ | refine Sp.drew ?_)) hb6
            have S3_6 : Hid (Sp w6 A3 c3 (F)) := Sp.below (by repeat (first | exact S3_5.out | refine Sp.alloc ?_ _ | refine Sp.drewN ?_ _ | refine Sp.drew ?_)) hb6
            have Sa1_6 : Hid (Sp w6 B1 d1 (X)) := Sp.below (by repeat (first | exact Sa1_5.out | refine Sp.alloc ?_ _ | refine Sp.drewN ?_ _ | refine Sp.drew ?_)) hb6
            have Sa2_6 : Hid (Sp w6 B2 d2 (U)) := Sp.below (by repeat (first | exact Sa2_5.out | refine Sp.alloc ?_ _ | refine Sp.drewN ?_ _ | refine Sp.drew ?_)) hb6
            have Sa3_6 : Hid (Sp w6 B3 d3 (V)) := Sp.below (by repeat (first | exact Sa3_5.out | refine Sp.alloc ?_ _ | refine Sp.drewN ?_ _ | refine Sp.drew ?_)) hb6
            have Bs_6 : Hid (w6.heap[w.heap.size]? = some (.cells #[.bool he, .slice A1 R.length c1, .slice A2 H.length c2, .slice A3 F.length c3, .bool tu, .bool fa, .int .i64 ag, .bool jo] 52 (0, 0))) := blk_keep hb6 (blk_keep (W := w5) (by (repeat (first | exact Below.refl _ _ | refine bel_drewN ?_ _ | refine bel_drew ?_ | refine bel_alloc ?_ _ | refine bel_set ?_ (by simp) _))) Bs_5.out)
            have Bx_6 : Hid (w6.heap[w3.heap.size]? = some (.cells #[.bool he, .slice B1 X.length d1, .slice B2 U.length d2, .slice B3 V.length d3, .bool tu, .bool fa, .int .i64 ag, .bool jo] 56 (0, 0))) := blk_keep hb6 (blk_keep (W := w5) (by (repeat (first | exact Below.refl _ _ | refine bel_drewN ?_ _ | refine bel_drew ?_ | refine bel_alloc ?_ _ | refine bel_set ?_ (by simp) _))) Bx_5.out)
            have ord1 : w.heap.size < w5.heap.size := by omega
            have ord2 : w3.heap.size < w5.heap.size := by omega
            have Bf_6 : Hid (w6.heap[w5.heap.size]? = some (.cells #[.int .i64 x1, .int .i64 x2] 29 (0, 0))) := blk_keep hb6 (by repeat (first | exact blk_new (by first | rfl | (simp; done) | (simp; omega)) | refine blk_skip ?_ | refine blk_drewN ?_ | refine blk_drew ?_))
            have s0_6 : w6.cell? ⟨w.heap.size, 0, none⟩ = some (.bool he) := blk_cell Bs_6.out rfl
            have s1_6 : w6.cell? ⟨w.heap.size, 1, none⟩ = some (.slice A1 R.length c1) := blk_cell Bs_6.out rfl
            have s2_6 : w6.cell? ⟨w.heap.size, 2, none⟩ = some (.slice A2 H.length c2) := blk_cell Bs_6.out rfl
            have s3_6 : w6.cell? ⟨w.heap.size, 3, none⟩ = some (.slice A3 F.length c3) := blk_cell Bs_6.out rfl
            have s4_6 : w6.cell? ⟨w.heap.size, 4, none⟩ = some (.bool tu) := blk_cell Bs_6.out rfl
            have s5_6 : w6.cell? ⟨w.heap.size, 5, none⟩ = some (.bool fa) := blk_cell Bs_6.out rfl
            have s6_6 : w6.cell? ⟨w.heap.size, 6, none⟩ = some (.int .i64 ag) := blk_cell Bs_6.out rfl
            have s7_6 : w6.cell? ⟨w.heap.size, 7, none⟩ = some (.bool jo) := blk_cell Bs_6.out rfl
            have sz_6 : w.heap.size < w6.heap.size := blk_lt Bs_6.out
            have x0_6 : w6.cell? ⟨w3.heap.size, 0, none⟩ = some (.bool he) := blk_cell Bx_6.out rfl
            have x1_6 : w6.cell? ⟨w3.heap.size, 1, none⟩ = some (.slice B1 X.length d1) := blk_cell Bx_6.out rfl
            have x2_6 : w6.cell? ⟨w3.heap.size, 2, none⟩ = some (.slice B2 U.length d2) := blk_cell Bx_6.out rfl
            have x3_6 : w6.cell? ⟨w3.heap.size, 3, none⟩ = some (.slice B3 V.length d3) := blk_cell Bx_6.out rfl
            have x4_6 : w6.cell? ⟨w3.heap.size, 4, none⟩ = some (.bool tu) := blk_cell Bx_6.out rfl
            have x5_6 : w6.cell? ⟨w3.heap.size, 5, none⟩ = some (.bool fa) := blk_cell Bx_6.out rfl
            have x6_6 : w6.cell? ⟨w3.heap.size, 6, none⟩ = some (.int .i64 ag) := blk_cell Bx_6.out rfl
            have x7_6 : w6.cell? ⟨w3.heap.size, 7, none⟩ = some (.bool jo) := blk_cell Bx_6.out rfl
            have xz_6 : w3.heap.size < w6.heap.size := blk_lt Bx_6.out
            have f0_6 : w6.cell? ⟨w5.heap.size, 0, none⟩ = some (.int .i64 x1) := blk_cell Bf_6.out rfl
            have fz_6 : w5.heap.size < w6.heap.size := blk_lt Bf_6.out
            clear S1_5 S2_5 S3_5 Sa1_5 Sa2_5 Sa3_5 Bs_5 s0_5 s1_5 s2_5 s3_5 s4_5 s5_5 s6_5 s7_5 sz_5 Bx_5 x0_5 x1_5 x2_5 x3_5 x4_5 x5_5 x6_5 x7_5 xz_5 HB_5 hb6
            go_wp2_with fail
            refine ((HU1 _ B2 d2 (by repeat (first | exact Sa2_6.out | refine Sp.alloc ?_ _ | refine Sp.drewN ?_ _ | refine Sp.drew ?_))).out).mono ?_
            rintro e7 w7 ⟨rfl, hb7⟩
            have HB_7 : Hid (Below w.heap.size w w7) := bel_chain hb7 (by repeat (first | exact HB_6.out | refine bel_drewN ?_ _ | refine bel_drew ?_ | refine bel_alloc ?_ _))
            have S1_7 : Hid (Sp w7 A1 c1 (R)) := Sp.below (by repeat (first | exact S1_6.out | refine Sp.alloc ?_ _ | refine Sp.drewN ?_ _ | refine Sp.drew ?_)) hb7
            have S2_7 : Hid (Sp w7 A2 c2 (H)) := Sp.below (by repeat (first | exact S2_6.out | refine Sp.alloc ?_ _ | refine Sp.drewN ?_ _ | refine Sp.drew ?_)) hb7
            have S3_7 : Hid (Sp w7 A3 c3 (F)) := Sp.below (by repeat (first | exact S3_6.out | refine Sp.alloc ?_ _ | refine Sp.drewN ?_ _ | refine Sp.drew ?_)) hb7
            have Sa1_7 : Hid (Sp w7 B1 d1 (X)) := Sp.below (by repeat (first | exact Sa1_6.out | refine Sp.alloc ?_ _ | refine Sp.drewN ?_ _ | refine Sp.drew ?_)) hb7
            have Sa2_7 : Hid (Sp w7 B2 d2 (U)) := Sp.below (by repeat (first | exact Sa2_6.out | refine Sp.alloc ?_ _ | refine Sp.drewN ?_ _ | refine Sp.drew ?_)) hb7
            have Sa3_7 : Hid (Sp w7 B3 d3 (V)) := Sp.below (by repeat (first | exact Sa3_6.out | refine Sp.alloc ?_ _ | refine Sp.drewN ?_ _ | refine Sp.drew ?_)) hb7
            have Bs_7 : Hid (w7.heap[w.heap.size]? = some (.cells #[.bool he, .slice A1 R.length c1, .slice A2 H.length c2, .slice A3 F.length c3, .bool tu, .bool fa, .int .i64 ag, .bool jo] 52 (0, 0))) := blk_keep hb7 (blk_keep (W := w6) (by (repeat (first | exact Below.refl _ _ | refine bel_drewN ?_ _ | refine bel_drew ?_ | refine bel_alloc ?_ _ | refine bel_set ?_ (by simp) _))) Bs_6.out)
            have Bx_7 : Hid (w7.heap[w3.heap.size]? = some (.cells #[.bool he, .slice B1 X.length d1, .slice B2 U.length d2, .slice B3 V.length d3, .bool tu, .bool fa, .int .i64 ag, .bool jo] 56 (0, 0))) := blk_keep hb7 (blk_keep (W := w6) (by (repeat (first | exact Below.refl _ _ | refine bel_drewN ?_ _ | refine bel_drew ?_ | refine bel_alloc ?_ _ | refine bel_set ?_ (by simp) _))) Bx_6.out)
            have Bf_7 : Hid (w7.heap[w5.heap.size]? = some (.cells #[.int .i64 x1, .int .i64 x2] 29 (0, 0))) := blk_keep hb7 (blk_keep (W := w6) (by (repeat (first | exact Below.refl _ _ | refine bel_drewN ?_ _ | refine bel_drew ?_ | refine bel_alloc ?_ _ | refine bel_set ?_ (by simp) _))) Bf_6.out)
            have s0_7 : w7.cell? ⟨w.heap.size, 0, none⟩ = some (.bool he) := blk_cell Bs_7.out rfl
            have s1_7 : w7.cell? ⟨w.heap.size, 1, none⟩ = some (.slice A1 R.length c1) := blk_cell Bs_7.out rfl
            have s2_7 : w7.cell? ⟨w.heap.size, 2, none⟩ = some (.slice A2 H.length c2) := blk_cell Bs_7.out rfl
            have s3_7 : w7.cell? ⟨w.heap.size, 3, none⟩ = some (.slice A3 F.length c3) := blk_cell Bs_7.out rfl
            have s4_7 : w7.cell? ⟨w.heap.size, 4, none⟩ = some (.bool tu) := blk_cell Bs_7.out rfl
            have s5_7 : w7.cell? ⟨w.heap.size, 5, none⟩ = some (.bool fa) := blk_cell Bs_7.out rfl
            have s6_7 : w7.cell? ⟨w.heap.size, 6, none⟩ = some (.int .i64 ag) := blk_cell Bs_7.out rfl
            have s7_7 : w7.cell? ⟨w.heap.size, 7, none⟩ = some (.bool jo) := blk_cell Bs_7.out rfl
            have sz_7 : w.heap.size < w7.heap.size := blk_lt Bs_7.out
            have x0_7 : w7.cell? ⟨w3.heap.size, 0, none⟩ = some (.bool he) := blk_cell Bx_7.out rfl
            have x1_7 : w7.cell? ⟨w3.heap.size, 1, none⟩ = some (.slice B1 X.length d1) := blk_cell Bx_7.out rfl
            have x2_7 : w7.cell? ⟨w3.heap.size, 2, none⟩ = some (.slice B2 U.length d2) := blk_cell Bx_7.out rfl
            have x3_7 : w7.cell? ⟨w3.heap.size, 3, none⟩ = some (.slice B3 V.length d3) := blk_cell Bx_7.out rfl
            have x4_7 : w7.cell? ⟨w3.heap.size, 4, none⟩ = some (.bool tu) := blk_cell Bx_7.out rfl
            have x5_7 : w7.cell? ⟨w3.heap.size, 5, none⟩ = some (.bool fa) := blk_cell Bx_7.out rfl
            have x6_7 : w7.cell? ⟨w3.heap.size, 6, none⟩ = some (.int .i64 ag) := blk_cell Bx_7.out rfl
            have x7_7 : w7.cell? ⟨w3.heap.size, 7, none⟩ = some (.bool jo) := blk_cell Bx_7.out rfl
            have xz_7 : w3.heap.size < w7.heap.size := blk_lt Bx_7.out
            have f0_7 : w7.cell? ⟨w5.heap.size, 0, none⟩ = some (.int .i64 x1) := blk_cell Bf_7.out rfl
            have fz_7 : w5.heap.size < w7.heap.size := blk_lt Bf_7.out
            clear S1_6 S2_6 S3_6 Sa1_6 Sa2_6 Sa3_6 Bs_6 s0_6 s1_6 s2_6 s3_6 s4_6 s5_6 s6_6 s7_6 sz_6 Bx_6 x0_6 x1_6 x2_6 x3_6 x4_6 x5_6 x6_6 x7_6 xz_6 Bf_6 f0_6 fz_6 HB_6 hb7
            go_wp2_with fail
            go_ret
            exact ⟨rfl, (by repeat (first | (with_reducible exact HB_7.out) | (with_reducible refine bel_drewN ?_ _) | (with_reducible refine bel_drew ?_) | (with_reducible refine bel_alloc ?_ _) | (with_reducible refine bel_set ?_ (by first | omega | (dsimp only; omega)) _)))⟩
        · rw [hb1] at HU1
          have HV4 : Hid (dv = 1) := by simp only [Hid]; rw [HDC.out]; simp [hY, hb1]
          clear hY HDC hb1
          go_wp2_with fail
          refine (own_as he A1 c1 R A2 c2 H A3 c3 F tu fa ag jo X U V HX.out HU.out HV.out _ (by repeat (first | exact S1_2.out | refine Sp.alloc ?_ _ | refine Sp.drewN ?_ _ | refine Sp.drew ?_)) (by repeat (first | exact S2_2.out | refine Sp.alloc ?_ _ | refine Sp.drewN ?_ _ | refine Sp.drew ?_)) (by repeat (first | exact S3_2.out | refine Sp.alloc ?_ _ | refine Sp.drewN ?_ _ | refine Sp.drew ?_)) (by omega) (by omega) (by omega)).mono ?_
          rintro e3 w3 ⟨B1, d1, B2, d2, B3, d3, rfl, hs3, ht3, hu3, hb3⟩
          have HB_3 : Hid (Below w.heap.size w w3) := bel_chain hb3 (by repeat (first | exact HB_2.out | refine bel_drewN ?_ _ | refine bel_drew ?_ | refine bel_alloc ?_ _))
          have S1_3 : Hid (Sp w3 A1 c1 (R)) := Sp.below (by repeat (first | exact S1_2.out | refine Sp.alloc ?_ _ | refine Sp.drewN ?_ _ | refine Sp.drew ?_)) hb3
          have S2_3 : Hid (Sp w3 A2 c2 (H)) := Sp.below (by repeat (first | exact S2_2.out | refine Sp.alloc ?_ _ | refine Sp.drewN ?_ _ | refine Sp.drew ?_)) hb3
          have S3_3 : Hid (Sp w3 A3 c3 (F)) := Sp.below (by repeat (first | exact S3_2.out | refine Sp.alloc ?_ _ | refine Sp.drewN ?_ _ | refine Sp.drew ?_)) hb3
          have Bs_3 : Hid (w3.heap[w.heap.size]? = some (.cells #[.bool he, .slice A1 R.length c1, .slice A2 H.length c2, .slice A3 F.length c3, .bool tu, .bool fa, .int .i64 ag, .bool jo] 52 (0, 0))) := blk_keep hb3 (blk_keep (W := w2) (by (repeat (first | exact Below.refl _ _ | refine bel_drewN ?_ _ | refine bel_drew ?_ | refine bel_alloc ?_ _ | refine bel_set ?_ (by simp) _))) Bs_2.out)
          have s0_3 : w3.cell? ⟨w.heap.size, 0, none⟩ = some (.bool he) := blk_cell Bs_3.out rfl
          have s1_3 : w3.cell? ⟨w.heap.size, 1, none⟩ = some (.slice A1 R.length c1) := blk_cell Bs_3.out rfl
          have s2_3 : w3.cell? ⟨w.heap.size, 2, none⟩ = some (.slice A2 H.length c2) := blk_cell Bs_3.out rfl
          have s3_3 : w3.cell? ⟨w.heap.size, 3, none⟩ = some (.slice A3 F.length c3) := blk_cell Bs_3.out rfl
          have s4_3 : w3.cell? ⟨w.heap.size, 4, none⟩ = some (.bool tu) := blk_cell Bs_3.out rfl
          have s5_3 : w3.cell? ⟨w.heap.size, 5, none⟩ = some (.bool fa) := blk_cell Bs_3.out rfl
          have s6_3 : w3.cell? ⟨w.heap.size, 6, none⟩ = some (.int .i64 ag) := blk_cell Bs_3.out rfl
          have s7_3 : w3.cell? ⟨w.heap.size, 7, none⟩ = some (.bool jo) := blk_cell Bs_3.out rfl
          have sz_3 : w.heap.size < w3.heap.size := blk_lt Bs_3.out
          have Sa1_3 : Hid (Sp w3 B1 d1 (X)) := hs3
          have Sa2_3 : Hid (Sp w3 B2 d2 (U)) := ht3
          have Sa3_3 : Hid (Sp w3 B3 d3 (V)) := hu3
          clear S1_2 S2_2 S3_2 Bs_2 s0_2 s1_2 s2_2 s3_2 s4_2 s5_2 s6_2 s7_2 sz_2 hs3 ht3 hu3 HB_2 hb3
          go_wp2_with fail
          refine (HDE.out 1 HV4.out _ B1 d1 B2 d2 B3 d3 (by repeat (first | exact Sa1_3.out | refine Sp.alloc ?_ _ | refine Sp.drewN ?_ _ | refine Sp.drew ?_)) (by repeat (first | exact Sa2_3.out | refine Sp.alloc ?_ _ | refine Sp.drewN ?_ _ | refine Sp.drew ?_)) (by repeat (first | exact Sa3_3.out | refine Sp.alloc ?_ _ | refine Sp.drewN ?_ _ | refine Sp.drew ?_))).mono ?_
          rintro e4 w4 ⟨rfl, hb4⟩
          have HB_4 : Hid (Below w.heap.size w w4) := bel_chain hb4 (by repeat (first | exact HB_3.out | refine bel_drewN ?_ _ | refine bel_drew ?_ | refine bel_alloc ?_ _))
          have S1_4 : Hid (Sp w4 A1 c1 (R)) := Sp.below (by repeat (first | exact S1_3.out | refine Sp.alloc ?_ _ | refine Sp.drewN ?_ _ | refine Sp.drew ?_)) hb4
          have S2_4 : Hid (Sp w4 A2 c2 (H)) := Sp.below (by repeat (first | exact S2_3.out | refine Sp.alloc ?_ _ | refine Sp.drewN ?_ _ | refine Sp.drew ?_)) hb4
          have S3_4 : Hid (Sp w4 A3 c3 (F)) := Sp.below (by repeat (first | exact S3_3.out | refine Sp.alloc ?_ _ | refine Sp.drewN ?_ _ | refine Sp.drew ?_)) hb4
          have Sa1_4 : Hid (Sp w4 B1 d1 (X)) := Sp.below (by repeat (first | exact Sa1_3.out | refine Sp.alloc ?_ _ | refine Sp.drewN ?_ _ | refine Sp.drew ?_)) hb4
          have Sa2_4 : Hid (Sp w4 B2 d2 (U)) := Sp.below (by repeat (first | exact Sa2_3.out | refine Sp.alloc ?_ _ | refine Sp.drewN ?_ _ | refine Sp.drew ?_)) hb4
          have Sa3_4 : Hid (Sp w4 B3 d3 (V)) := Sp.below (by repeat (first | exact Sa3_3.out | refine Sp.alloc ?_ _ | refine Sp.drewN ?_ _ | refine Sp.drew ?_)) hb4
          have Bs_4 : Hid (w4.heap[w.heap.size]? = some (.cells #[.bool he, .slice A1 R.length c1, .slice A2 H.length c2, .slice A3 F.length c3, .bool tu, .bool fa, .int .i64 ag, .bool jo] 52 (0, 0))) := blk_keep hb4 (blk_keep (W := w3) (by (repeat (first | exact Below.refl _ _ | refine bel_drewN ?_ _ | refine bel_drew ?_ | refine bel_alloc ?_ _ | refine bel_set ?_ (by simp) _))) Bs_3.out)
          have ord0 : w.heap.size < w3.heap.size := by omega
          have Bx_4 : Hid (w4.heap[w3.heap.size]? = some (.cells #[.bool he, .slice B1 X.length d1, .slice B2 U.length d2, .slice B3 V.length d3, .bool tu, .bool fa, .int .i64 ag, .bool jo] 56 (0, 0))) := blk_keep hb4 (by repeat (first | exact blk_new (by first | rfl | (simp; done) | (simp; omega)) | refine blk_skip ?_ | refine blk_drewN ?_ | refine blk_drew ?_))
          have s0_4 : w4.cell? ⟨w.heap.size, 0, none⟩ = some (.bool he) := blk_cell Bs_4.out rfl
          have s1_4 : w4.cell? ⟨w.heap.size, 1, none⟩ = some (.slice A1 R.length c1) := blk_cell Bs_4.out rfl
          have s2_4 : w4.cell? ⟨w.heap.size, 2, none⟩ = some (.slice A2 H.length c2) := blk_cell Bs_4.out rfl
          have s3_4 : w4.cell? ⟨w.heap.size, 3, none⟩ = some (.slice A3 F.length c3) := blk_cell Bs_4.out rfl
          have s4_4 : w4.cell? ⟨w.heap.size, 4, none⟩ = some (.bool tu) := blk_cell Bs_4.out rfl
          have s5_4 : w4.cell? ⟨w.heap.size, 5, none⟩ = some (.bool fa) := blk_cell Bs_4.out rfl
          have s6_4 : w4.cell? ⟨w.heap.size, 6, none⟩ = some (.int .i64 ag) := blk_cell Bs_4.out rfl
          have s7_4 : w4.cell? ⟨w.heap.size, 7, none⟩ = some (.bool jo) := blk_cell Bs_4.out rfl
          have sz_4 : w.heap.size < w4.heap.size := blk_lt Bs_4.out
          have x0_4 : w4.cell? ⟨w3.heap.size, 0, none⟩ = some (.bool he) := blk_cell Bx_4.out rfl
          have x1_4 : w4.cell? ⟨w3.heap.size, 1, none⟩ = some (.slice B1 X.length d1) := blk_cell Bx_4.out rfl
          have x2_4 : w4.cell? ⟨w3.heap.size, 2, none⟩ = some (.slice B2 U.length d2) := blk_cell Bx_4.out rfl
          have x3_4 : w4.cell? ⟨w3.heap.size, 3, none⟩ = some (.slice B3 V.length d3) := blk_cell Bx_4.out rfl
          have x4_4 : w4.cell? ⟨w3.heap.size, 4, none⟩ = some (.bool tu) := blk_cell Bx_4.out rfl
          have x5_4 : w4.cell? ⟨w3.heap.size, 5, none⟩ = some (.bool fa) := blk_cell Bx_4.out rfl
          have x6_4 : w4.cell? ⟨w3.heap.size, 6, none⟩ = some (.int .i64 ag) := blk_cell Bx_4.out rfl
          have x7_4 : w4.cell? ⟨w3.heap.size, 7, none⟩ = some (.bool jo) := blk_cell Bx_4.out rfl
          have xz_4 : w3.heap.size < w4.heap.size := blk_lt Bx_4.out
          clear S1_3 S2_3 S3_3 Sa1_3 Sa2_3 Sa3_3 Bs_3 s0_3 s1_3 s2_3 s3_3 s4_3 s5_3 s6_3 s7_3 sz_3 HB_3 hb4
          go_wp2_with fail
          refine (first_as1 B1 d1 X x1 x2 r HR.out _ (by repeat (first | exact Sa1_4.out | refine Sp.alloc ?_ _ | refine Sp.drewN ?_ _ | refine Sp.drew ?_)) K1.out (by omega)).mono ?_
          rintro e5 w5 ⟨rfl, hb5⟩
          have HB_5 : Hid (Below w.heap.size w w5) := bel_chain hb5 (by repeat (first | exact HB_4.out | refine bel_drewN ?_ _ | refine bel_drew ?_ | refine bel_alloc ?_ _))
          have S1_5 : Hid (Sp w5 A1 c1 (R)) := Sp.below (by repeat (first | exact S1_4.out | refine Sp.alloc ?_ _ | refine Sp.drewN ?_ _ | refine Sp.drew ?_)) hb5
          have S2_5 : Hid (Sp w5 A2 c2 (H)) := Sp.below (by repeat (first | exact S2_4.out | refine Sp.alloc ?_ _ | refine Sp.drewN ?_ _ | refine Sp.drew ?_)) hb5
          have S3_5 : Hid (Sp w5 A3 c3 (F)) := Sp.below (by repeat (first | exact S3_4.out | refine Sp.alloc ?_ _ | refine Sp.drewN ?_ _ | refine Sp.drew ?_)) hb5
          have Sa1_5 : Hid (Sp w5 B1 d1 (X)) := Sp.below (by repeat (first | exact Sa1_4.out | refine Sp.alloc ?_ _ | refine Sp.drewN ?_ _ | refine Sp.drew ?_)) hb5
          have Sa2_5 : Hid (Sp w5 B2 d2 (U)) := Sp.below (by repeat (first | exact Sa2_4.out | refine Sp.alloc ?_ _ | refine Sp.drewN ?_ _ | refine Sp.drew ?_)) hb5
          have Sa3_5 : Hid (Sp w5 B3 d3 (V)) := Sp.below (by repeat (first | exact Sa3_4.out | refine Sp.alloc ?_ _ | refine Sp.drewN ?_ _ | refine Sp.drew ?_)) hb5
          have Bs_5 : Hid (w5.heap[w.heap.size]? = some (.cells #[.bool he, .slice A1 R.length c1, .slice A2 H.length c2, .slice A3 F.length c3, .bool tu, .bool fa, .int .i64 ag, .bool jo] 52 (0, 0))) := blk_keep hb5 (blk_keep (W := w4) (by (repeat (first | exact Below.refl _ _ | refine bel_drewN ?_ _ | refine bel_drew ?_ | refine bel_alloc ?_ _ | refine bel_set ?_ (by simp) _))) Bs_4.out)
          have Bx_5 : Hid (w5.heap[w3.heap.size]? = some (.cells #[.bool he, .slice B1 X.length d1, .slice B2 U.length d2, .slice B3 V.length d3, .bool tu, .bool fa, .int .i64 ag, .bool jo] 56 (0, 0))) := blk_keep hb5 (blk_keep (W := w4) (by (repeat (first | exact Below.refl _ _ | refine bel_drewN ?_ _ | refine bel_drew ?_ | refine bel_alloc ?_ _ | refine bel_set ?_ (by simp) _))) Bx_4.out)
          have s0_5 : w5.cell? ⟨w.heap.size, 0, none⟩ = some (.bool he) := blk_cell Bs_5.out rfl
          have s1_5 : w5.cell? ⟨w.heap.size, 1, none⟩ = some (.slice A1 R.length c1) := blk_cell Bs_5.out rfl
          have s2_5 : w5.cell? ⟨w.heap.size, 2, none⟩ = some (.slice A2 H.length c2) := blk_cell Bs_5.out rfl
          have s3_5 : w5.cell? ⟨w.heap.size, 3, none⟩ = some (.slice A3 F.length c3) := blk_cell Bs_5.out rfl
          have s4_5 : w5.cell? ⟨w.heap.size, 4, none⟩ = some (.bool tu) := blk_cell Bs_5.out rfl
          have s5_5 : w5.cell? ⟨w.heap.size, 5, none⟩ = some (.bool fa) := blk_cell Bs_5.out rfl
          have s6_5 : w5.cell? ⟨w.heap.size, 6, none⟩ = some (.int .i64 ag) := blk_cell Bs_5.out rfl
          have s7_5 : w5.cell? ⟨w.heap.size, 7, none⟩ = some (.bool jo) := blk_cell Bs_5.out rfl
          have sz_5 : w.heap.size < w5.heap.size := blk_lt Bs_5.out
          have x0_5 : w5.cell? ⟨w3.heap.size, 0, none⟩ = some (.bool he) := blk_cell Bx_5.out rfl
          have x1_5 : w5.cell? ⟨w3.heap.size, 1, none⟩ = some (.slice B1 X.length d1) := blk_cell Bx_5.out rfl
          have x2_5 : w5.cell? ⟨w3.heap.size, 2, none⟩ = some (.slice B2 U.length d2) := blk_cell Bx_5.out rfl
          have x3_5 : w5.cell? ⟨w3.heap.size, 3, none⟩ = some (.slice B3 V.length d3) := blk_cell Bx_5.out rfl
          have x4_5 : w5.cell? ⟨w3.heap.size, 4, none⟩ = some (.bool tu) := blk_cell Bx_5.out rfl
          have x5_5 : w5.cell? ⟨w3.heap.size, 5, none⟩ = some (.bool fa) := blk_cell Bx_5.out rfl
          have x6_5 : w5.cell? ⟨w3.heap.size, 6, none⟩ = some (.int .i64 ag) := blk_cell Bx_5.out rfl
          have x7_5 : w5.cell? ⟨w3.heap.size, 7, none⟩ = some (.bool jo) := blk_cell Bx_5.out rfl
          have xz_5 : w3.heap.size < w5.heap.size := blk_lt Bx_5.out
          clear S1_4 S2_4 S3_4 Sa1_4 Sa2_4 Sa3_4 Bs_4 s0_4 s1_4 s2_4 s3_4 s4_4 s5_4 s6_4 s7_4 sz_4 Bx_4 x0_4 x1_4 x2_4 x3_4 x4_4 x5_4 x6_4 x7_4 xz_4 HB_4 hb5
          go_wp2_with fail
          refine ((HU1 _ B2 d2 (by repeat (first | exact Sa2_5.out | refine Sp.alloc ?_ _ | refine Sp.drewN ?_ _ | refine Sp.drew ?_))).out).mono ?_
          rintro e6 w6 ⟨rfl, hb6⟩
          have HB_6 : Hid (Below w.heap.size w w6) := bel_chain hb6 (by repeat (first | exact HB_5.out | refine bel_drewN ?_ _ | refine bel_drew ?_ | refine bel_alloc ?_ _))
          have S1_6 : Hid (Sp w6 A1 c1 (R)) := Sp.below (by repeat (first | exact S1_5.out | refine Sp.alloc ?_ _ | refine Sp.drewN ?_ _ | refine Sp.drew ?_)) hb6
          have S2_6 : Hid (Sp w6 A2 c2 (H)) := Sp.below (by repeat (first | exact S2_5.out | refine Sp.alloc ?_ _ | refine Sp.drewN ?_ _ | refine Sp.drew ?_)) hb6
          have S3_6 : Hid (Sp w6 A3 c3 (F)) := Sp.below (by repeat (first | exact S3_5.out | refine Sp.alloc ?_ _ | refine Sp.drewN ?_ _ | refine Sp.drew ?_)) hb6
          have Sa1_6 : Hid (Sp w6 B1 d1 (X)) := Sp.below (by repeat (first | exact Sa1_5.out | refine Sp.alloc ?_ _ | refine Sp.drewN ?_ _ | refine Sp.drew ?_)) hb6
          have Sa2_6 : Hid (Sp w6 B2 d2 (U)) := Sp.below (by repeat (first | exact Sa2_5.out | refine Sp.alloc ?_ _ | refine Sp.drewN ?_ _ | refine Sp.drew ?_)) hb6
          have Sa3_6 : Hid (Sp w6 B3 d3 (V)) := Sp.below (by repeat (first | exact Sa3_5.out | refine Sp.alloc ?_ _ | refine Sp.drewN ?_ _ | refine Sp.drew ?_)) hb6
          have Bs_6 : Hid (w6.heap[w.heap.size]? = some (.cells #[.bool he, .slice A1 R.length c1, .slice A2 H.length c2, .slice A3 F.length c3, .bool tu, .bool fa, .int .i64 ag, .bool jo] 52 (0, 0))) := blk_keep hb6 (blk_keep (W := w5) (by (repeat (first | exact Below.refl _ _ | refine bel_drewN ?_ _ | refine bel_drew ?_ | refine bel_alloc ?_ _ | refine bel_set ?_ (by simp) _))) Bs_5.out)
          have Bx_6 : Hid (w6.heap[w3.heap.size]? = some (.cells #[.bool he, .slice B1 X.length d1, .slice B2 U.length d2, .slice B3 V.length d3, .bool tu, .bool fa, .int .i64 ag, .bool jo] 56 (0, 0))) := blk_keep hb6 (blk_keep (W := w5) (by (repeat (first | exact Below.refl _ _ | refine bel_drewN ?_ _ | refine bel_drew ?_ | refine bel_alloc ?_ _ | refine bel_set ?_ (by simp) _))) Bx_5.out)
          have ord1 : w.heap.size < w5.heap.size := by omega
          have ord2 : w3.heap.size < w5.heap.size := by omega
          have Bf_6 : Hid (w6.heap[w5.heap.size]? = some (.cells #[.int .i64 x1, .int .i64 x2] 29 (0, 0))) := blk_keep hb6 (by repeat (first | exact blk_new (by first | rfl | (simp; done) | (simp; omega)) | refine blk_skip ?_ | refine blk_drewN ?_ | refine blk_drew ?_))
          have s0_6 : w6.cell? ⟨w.heap.size, 0, none⟩ = some (.bool he) := blk_cell Bs_6.out rfl
          have s1_6 : w6.cell? ⟨w.heap.size, 1, none⟩ = some (.slice A1 R.length c1) := blk_cell Bs_6.out rfl
          have s2_6 : w6.cell? ⟨w.heap.size, 2, none⟩ = some (.slice A2 H.length c2) := blk_cell Bs_6.out rfl
          have s3_6 : w6.cell? ⟨w.heap.size, 3, none⟩ = some (.slice A3 F.length c3) := blk_cell Bs_6.out rfl
          have s4_6 : w6.cell? ⟨w.heap.size, 4, none⟩ = some (.bool tu) := blk_cell Bs_6.out rfl
          have s5_6 : w6.cell? ⟨w.heap.size, 5, none⟩ = some (.bool fa) := blk_cell Bs_6.out rfl
          have s6_6 : w6.cell? ⟨w.heap.size, 6, none⟩ = some (.int .i64 ag) := blk_cell Bs_6.out rfl
          have s7_6 : w6.cell? ⟨w.heap.size, 7, none⟩ = some (.bool jo) := blk_cell Bs_6.out rfl
          have sz_6 : w.heap.size < w6.heap.size := blk_lt Bs_6.out
          have x0_6 : w6.cell? ⟨w3.heap.size, 0, none⟩ = some (.bool he) := blk_cell Bx_6.out rfl
          have x1_6 : w6.cell? ⟨w3.heap.size, 1, none⟩ = some (.slice B1 X.length d1) := blk_cell Bx_6.out rfl
          have x2_6 : w6.cell? ⟨w3.heap.size, 2, none⟩ = some (.slice B2 U.length d2) := blk_cell Bx_6.out rfl
          have x3_6 : w6.cell? ⟨w3.heap.size, 3, none⟩ = some (.slice B3 V.length d3) := blk_cell Bx_6.out rfl
          have x4_6 : w6.cell? ⟨w3.heap.size, 4, none⟩ = some (.bool tu) := blk_cell Bx_6.out rfl
          have x5_6 : w6.cell? ⟨w3.heap.size, 5, none⟩ = some (.bool fa) := blk_cell Bx_6.out rfl
          have x6_6 : w6.cell? ⟨w3.heap.size, 6, none⟩ = some (.int .i64 ag) := blk_cell Bx_6.out rfl
          have x7_6 : w6.cell? ⟨w3.heap.size, 7, none⟩ = some (.bool jo) := blk_cell Bx_6.out rfl
          have xz_6 : w3.heap.size < w6.heap.size := blk_lt Bx_6.out
          have f0_6 : w6.cell? ⟨w5.heap.size, 0, none⟩ = some (.int .i64 x1) := blk_cell Bf_6.out rfl
          have fz_6 : w5.heap.size < w6.heap.size := blk_lt Bf_6.out
          clear S1_5 S2_5 S3_5 Sa1_5 Sa2_5 Sa3_5 Bs_5 s0_5 s1_5 s2_5 s3_5 s4_5 s5_5 s6_5 s7_5 sz_5 Bx_5 x0_5 x1_5 x2_5 x3_5 x4_5 x5_5 x6_5 x7_5 xz_5 HB_5 hb6
          go_wp2_with fail
          go_ret
          exact ⟨rfl, (by repeat (first | (with_reducible exact HB_6.out) | (with_reducible refine bel_drewN ?_ _) | (with_reducible refine bel_drew ?_) | (with_reducible refine bel_alloc ?_ _) | (with_reducible refine bel_set ?_ (by first | omega | (dsimp only; omega)) _)))⟩
end Go.Proofs.YtmbcnfgeobbldaaDoor
