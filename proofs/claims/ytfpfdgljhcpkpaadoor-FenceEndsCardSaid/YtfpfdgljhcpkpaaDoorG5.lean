/- The walk of FenceEnds. -/
import Derived.Test.YtfpfdgljhcpkpaaDoorG5A
import Derived.Test.YtfpfdgljhcpkpaaDoorQ1
import Derived.Deep.DeepMust
import Derived.Test.YtfpfdgljhcpkpaaDoorD2
import Derived.Deep.CutBlock
namespace Go.Proofs.YtfpfdgljhcpkpaaDoor
open Go.RowKit

set_option maxHeartbeats 16000000 in
set_option maxRecDepth 100000 in
theorem fenceEnds_any (he : Bool) (A1 : Option Addr) (c1 : Nat) (R : List (Int × Int)) (A2 : Option Addr) (c2 : Nat) (H : List (Int × Int)) (A3 : Option Addr) (c3 : Nat) (F : List (Int × Int)) (tu fa : Bool) (ag : Int) (jo : Bool) (Ag : Option Addr) (cg : Nat) (S : List (Int × Int)) (w : World) (h1 : Sp w A1 c1 R) (h2 : Sp w A2 c2 H) (h3 : Sp w A3 c3 F) (n1 : R.length ≤ 9223372036854775807) (n2 : H.length ≤ 9223372036854775807) (n3 : F.length ≤ 9223372036854775807) (h4 : SpU w Ag S) (n4 : S.length ≤ 9223372036854775807) (hn : Names w) :
    Calls Tryd.prog 3 #[.agg #[.bool he, .slice A1 R.length c1, .slice A2 H.length c2, .slice A3 F.length c3, .bool tu, .bool fa, .int .i64 ag, .bool jo], .slice Ag S.length cg] w fun e w' => e = .returned (.bool true) ∧ Below w.heap.size w w' := by
  have S1_0 := Lib.hid (h1)
  have S2_0 := Lib.hid (h2)
  have S3_0 := Lib.hid (h3)
  have HSU := Lib.hid h4
  clear h1 h2 h3 h4
  have HN := Lib.hid hn
  clear hn
  go_enter Tryd.func3, Tryd.ntmps3
  go_wp2_with fail
  refine (awake_any _ (HN.out.alloc _)).mono ?_
  rintro e1 w1 ⟨rfl, hb1⟩
  have HB_1 : Hid (Below w.heap.size w w1) := bel_chain hb1 (by repeat (first | exact Below.refl _ _ | refine bel_drewN ?_ _ | refine bel_drew ?_ | refine bel_alloc ?_ _))
  have S1_1 : Hid (Sp w1 A1 c1 (R)) := Sp.below (by repeat (first | exact S1_0.out | refine Sp.alloc ?_ _ | refine Sp.drewN ?_ _ | refine Sp.drew ?_)) hb1
  have S2_1 : Hid (Sp w1 A2 c2 (H)) := Sp.below (by repeat (first | exact S2_0.out | refine Sp.alloc ?_ _ | refine Sp.drewN ?_ _ | refine Sp.drew ?_)) hb1
  have S3_1 : Hid (Sp w1 A3 c3 (F)) := Sp.below (by repeat (first | exact S3_0.out | refine Sp.alloc ?_ _ | refine Sp.drewN ?_ _ | refine Sp.drew ?_)) hb1
  have Bs_1 : Hid (w1.heap[w.heap.size]? = some (.cells #[.bool he, .slice A1 R.length c1, .slice A2 H.length c2, .slice A3 F.length c3, .bool tu, .bool fa, .int .i64 ag, .bool jo] 24 (0, 0))) := blk_keep hb1 (by repeat (first | exact blk_new (by first | rfl | (simp; done) | (simp; omega)) | refine blk_skip ?_ | refine blk_drewN ?_ | refine blk_drew ?_))
  have s0_1 : w1.cell? ⟨w.heap.size, 0, none⟩ = some (.bool he) := blk_cell Bs_1.out rfl
  have s1_1 : w1.cell? ⟨w.heap.size, 1, none⟩ = some (.slice A1 R.length c1) := blk_cell Bs_1.out rfl
  have s2_1 : w1.cell? ⟨w.heap.size, 2, none⟩ = some (.slice A2 H.length c2) := blk_cell Bs_1.out rfl
  have s3_1 : w1.cell? ⟨w.heap.size, 3, none⟩ = some (.slice A3 F.length c3) := blk_cell Bs_1.out rfl
  have s4_1 : w1.cell? ⟨w.heap.size, 4, none⟩ = some (.bool tu) := blk_cell Bs_1.out rfl
  have s5_1 : w1.cell? ⟨w.heap.size, 5, none⟩ = some (.bool fa) := blk_cell Bs_1.out rfl
  have s6_1 : w1.cell? ⟨w.heap.size, 6, none⟩ = some (.int .i64 ag) := blk_cell Bs_1.out rfl
  have s7_1 : w1.cell? ⟨w.heap.size, 7, none⟩ = some (.bool jo) := blk_cell Bs_1.out rfl
  have sz_1 : w.heap.size < w1.heap.size := blk_lt Bs_1.out
  clear S1_0 S2_0 S3_0 hb1
  go_wp2_with fail
  refine (rgreat_any he A1 c1 R A2 c2 H A3 c3 F tu fa ag jo _ n1 n2 n3).mono ?_
  rintro e2 w2 ⟨rfl, hb2⟩
  have HB_2 : Hid (Below w.heap.size w w2) := bel_chain hb2 (by repeat (first | exact HB_1.out | refine bel_drewN ?_ _ | refine bel_drew ?_ | refine bel_alloc ?_ _))
  have S1_2 : Hid (Sp w2 A1 c1 (R)) := Sp.below (by repeat (first | exact S1_1.out | refine Sp.alloc ?_ _ | refine Sp.drewN ?_ _ | refine Sp.drew ?_)) hb2
  have S2_2 : Hid (Sp w2 A2 c2 (H)) := Sp.below (by repeat (first | exact S2_1.out | refine Sp.alloc ?_ _ | refine Sp.drewN ?_ _ | refine Sp.drew ?_)) hb2
  have S3_2 : Hid (Sp w2 A3 c3 (F)) := Sp.below (by repeat (first | exact S3_1.out | refine Sp.alloc ?_ _ | refine Sp.drewN ?_ _ | refine Sp.drew ?_)) hb2
  have Bs_2 : Hid (w2.heap[w.heap.size]? = some (.cells #[.bool he, .slice A1 R.length c1, .slice A2 H.length c2, .slice A3 F.length c3, .bool tu, .bool fa, .int .i64 ag, .bool jo] 24 (0, 0))) := blk_keep hb2 (blk_keep (W := w1) (by (repeat (first | exact Below.refl _ _ | refine bel_drewN ?_ _ | refine bel_drew ?_ | refine bel_alloc ?_ _ | refine bel_set ?_ (by simp) _))) Bs_1.out)
  have s0_2 : w2.cell? ⟨w.heap.size, 0, none⟩ = some (.bool he) := blk_cell Bs_2.out rfl
  have s1_2 : w2.cell? ⟨w.heap.size, 1, none⟩ = some (.slice A1 R.length c1) := blk_cell Bs_2.out rfl
  have s2_2 : w2.cell? ⟨w.heap.size, 2, none⟩ = some (.slice A2 H.length c2) := blk_cell Bs_2.out rfl
  have s3_2 : w2.cell? ⟨w.heap.size, 3, none⟩ = some (.slice A3 F.length c3) := blk_cell Bs_2.out rfl
  have s4_2 : w2.cell? ⟨w.heap.size, 4, none⟩ = some (.bool tu) := blk_cell Bs_2.out rfl
  have s5_2 : w2.cell? ⟨w.heap.size, 5, none⟩ = some (.bool fa) := blk_cell Bs_2.out rfl
  have s6_2 : w2.cell? ⟨w.heap.size, 6, none⟩ = some (.int .i64 ag) := blk_cell Bs_2.out rfl
  have s7_2 : w2.cell? ⟨w.heap.size, 7, none⟩ = some (.bool jo) := blk_cell Bs_2.out rfl
  have sz_2 : w.heap.size < w2.heap.size := blk_lt Bs_2.out
  clear S1_1 S2_1 S3_1 Bs_1 s0_1 s1_1 s2_1 s3_1 s4_1 s5_1 s6_1 s7_1 sz_1 HB_1 hb2
  cases hg : greatS R H F
  rotate_left
  · go_wp2_with fail
    refine (awake_any _ (HN.out.below HB_2.out)).mono ?_
    rintro e3 w3 ⟨rfl, hb3⟩
    have HB_3 : Hid (Below w.heap.size w w3) := bel_chain hb3 (by repeat (first | exact HB_2.out | refine bel_drewN ?_ _ | refine bel_drew ?_ | refine bel_alloc ?_ _))
    have S1_3 : Hid (Sp w3 A1 c1 (R)) := Sp.below (by repeat (first | exact S1_2.out | refine Sp.alloc ?_ _ | refine Sp.drewN ?_ _ | refine Sp.drew ?_)) hb3
    have S2_3 : Hid (Sp w3 A2 c2 (H)) := Sp.below (by repeat (first | exact S2_2.out | refine Sp.alloc ?_ _ | refine Sp.drewN ?_ _ | refine Sp.drew ?_)) hb3
    have S3_3 : Hid (Sp w3 A3 c3 (F)) := Sp.below (by repeat (first | exact S3_2.out | refine Sp.alloc ?_ _ | refine Sp.drewN ?_ _ | refine Sp.drew ?_)) hb3
    have Bs_3 : Hid (w3.heap[w.heap.size]? = some (.cells #[.bool he, .slice A1 R.length c1, .slice A2 H.length c2, .slice A3 F.length c3, .bool tu, .bool fa, .int .i64 ag, .bool jo] 24 (0, 0))) := blk_keep hb3 (blk_keep (W := w2) (by (repeat (first | exact Below.refl _ _ | refine bel_drewN ?_ _ | refine bel_drew ?_ | refine bel_alloc ?_ _ | refine bel_set ?_ (by simp) _))) Bs_2.out)
    have s0_3 : w3.cell? ⟨w.heap.size, 0, none⟩ = some (.bool he) := blk_cell Bs_3.out rfl
    have s1_3 : w3.cell? ⟨w.heap.size, 1, none⟩ = some (.slice A1 R.length c1) := blk_cell Bs_3.out rfl
    have s2_3 : w3.cell? ⟨w.heap.size, 2, none⟩ = some (.slice A2 H.length c2) := blk_cell Bs_3.out rfl
    have s3_3 : w3.cell? ⟨w.heap.size, 3, none⟩ = some (.slice A3 F.length c3) := blk_cell Bs_3.out rfl
    have s4_3 : w3.cell? ⟨w.heap.size, 4, none⟩ = some (.bool tu) := blk_cell Bs_3.out rfl
    have s5_3 : w3.cell? ⟨w.heap.size, 5, none⟩ = some (.bool fa) := blk_cell Bs_3.out rfl
    have s6_3 : w3.cell? ⟨w.heap.size, 6, none⟩ = some (.int .i64 ag) := blk_cell Bs_3.out rfl
    have s7_3 : w3.cell? ⟨w.heap.size, 7, none⟩ = some (.bool jo) := blk_cell Bs_3.out rfl
    have sz_3 : w.heap.size < w3.heap.size := blk_lt Bs_3.out
    clear S1_2 S2_2 S3_2 Bs_2 s0_2 s1_2 s2_2 s3_2 s4_2 s5_2 s6_2 s7_2 sz_2 HB_2 hb3
    go_wp2_with fail
    go_ret
    exact ⟨rfl, (by repeat (first | (with_reducible exact HB_3.out) | (with_reducible refine bel_drewN ?_ _) | (with_reducible refine bel_drew ?_) | (with_reducible refine bel_alloc ?_ _)))⟩
  · have hgs : R.length ≤ 12 ∧ H.length ≤ 12 ∧ F.length ≤ 12 := by simp [greatS] at hg; omega
    by_cases hm5 : 60 < S.length
    · have hm5b : decide (60 < S.length) = true := by simpa using hm5
      go_wp2_with fail
      refine (awake_any _ (HN.out.below HB_2.out)).mono ?_
      rintro e3 w3 ⟨rfl, hb3⟩
      have HB_3 : Hid (Below w.heap.size w w3) := bel_chain hb3 (by repeat (first | exact HB_2.out | refine bel_drewN ?_ _ | refine bel_drew ?_ | refine bel_alloc ?_ _))
      have S1_3 : Hid (Sp w3 A1 c1 (R)) := Sp.below (by repeat (first | exact S1_2.out | refine Sp.alloc ?_ _ | refine Sp.drewN ?_ _ | refine Sp.drew ?_)) hb3
      have S2_3 : Hid (Sp w3 A2 c2 (H)) := Sp.below (by repeat (first | exact S2_2.out | refine Sp.alloc ?_ _ | refine Sp.drewN ?_ _ | refine Sp.drew ?_)) hb3
      have S3_3 : Hid (Sp w3 A3 c3 (F)) := Sp.below (by repeat (first | exact S3_2.out | refine Sp.alloc ?_ _ | refine Sp.drewN ?_ _ | refine Sp.drew ?_)) hb3
      have Bs_3 : Hid (w3.heap[w.heap.size]? = some (.cells #[.bool he, .slice A1 R.length c1, .slice A2 H.length c2, .slice A3 F.length c3, .bool tu, .bool fa, .int .i64 ag, .bool jo] 24 (0, 0))) := blk_keep hb3 (blk_keep (W := w2) (by (repeat (first | exact Below.refl _ _ | refine bel_drewN ?_ _ | refine bel_drew ?_ | refine bel_alloc ?_ _ | refine bel_set ?_ (by simp) _))) Bs_2.out)
      have s0_3 : w3.cell? ⟨w.heap.size, 0, none⟩ = some (.bool he) := blk_cell Bs_3.out rfl
      have s1_3 : w3.cell? ⟨w.heap.size, 1, none⟩ = some (.slice A1 R.length c1) := blk_cell Bs_3.out rfl
      have s2_3 : w3.cell? ⟨w.heap.size, 2, none⟩ = some (.slice A2 H.length c2) := blk_cell Bs_3.out rfl
      have s3_3 : w3.cell? ⟨w.heap.size, 3, none⟩ = some (.slice A3 F.length c3) := blk_cell Bs_3.out rfl
      have s4_3 : w3.cell? ⟨w.heap.size, 4, none⟩ = some (.bool tu) := blk_cell Bs_3.out rfl
      have s5_3 : w3.cell? ⟨w.heap.size, 5, none⟩ = some (.bool fa) := blk_cell Bs_3.out rfl
      have s6_3 : w3.cell? ⟨w.heap.size, 6, none⟩ = some (.int .i64 ag) := blk_cell Bs_3.out rfl
      have s7_3 : w3.cell? ⟨w.heap.size, 7, none⟩ = some (.bool jo) := blk_cell Bs_3.out rfl
      have sz_3 : w.heap.size < w3.heap.size := blk_lt Bs_3.out
      have HW3 := Lib.hid HB_3.out.size
      clear S1_2 S2_2 S3_2 Bs_2 s0_2 s1_2 s2_2 s3_2 s4_2 s5_2 s6_2 s7_2 sz_2 HB_2 hb3
      go_wp2_with fail
      go_ret
      exact ⟨rfl, (by repeat (first | (with_reducible exact HB_3.out) | (with_reducible refine bel_drewN ?_ _) | (with_reducible refine bel_drew ?_) | (with_reducible refine bel_alloc ?_ _)))⟩
    · have hm5b : decide (60 < S.length) = false := by simpa using hm5
      obtain ⟨l1, l2, l3⟩ := hgs
      have m1 := cano_length R
      have m2 := cano_length H
      have m3 := cano_length F
      have K1 := Lib.hid (cano_canon R)
      have K2 := Lib.hid (cano_canon H)
      have K3 := Lib.hid (cano_canon F)
      obtain ⟨X, hX⟩ : ∃ X, cano R = X := ⟨_, rfl⟩
      obtain ⟨U, hU⟩ : ∃ U, cano H = U := ⟨_, rfl⟩
      obtain ⟨V, hV⟩ : ∃ V, cano F = V := ⟨_, rfl⟩
      rw [hX] at K1 m1
      rw [hU] at K2 m2
      rw [hV] at K3 m3
      have HX := Lib.hid hX
      have HU := Lib.hid hU
      have HV := Lib.hid hV
      clear hX hU hV hg
      go_wp2_with fail
      refine (own_as he A1 c1 R A2 c2 H A3 c3 F tu fa ag jo X U V HX.out HU.out HV.out _ (by repeat (first | exact S1_2.out | refine Sp.alloc ?_ _ | refine Sp.drewN ?_ _ | refine Sp.drew ?_)) (by repeat (first | exact S2_2.out | refine Sp.alloc ?_ _ | refine Sp.drewN ?_ _ | refine Sp.drew ?_)) (by repeat (first | exact S3_2.out | refine Sp.alloc ?_ _ | refine Sp.drewN ?_ _ | refine Sp.drew ?_)) (by omega) (by omega) (by omega)).mono ?_
      rintro e3 w3 ⟨B1, d1, B2, d2, B3, d3, rfl, hs3, ht3, hu3, hb3⟩
      have HB_3 : Hid (Below w.heap.size w w3) := bel_chain hb3 (by repeat (first | exact HB_2.out | refine bel_drewN ?_ _ | refine bel_drew ?_ | refine bel_alloc ?_ _))
      have S1_3 : Hid (Sp w3 A1 c1 (R)) := Sp.below (by repeat (first | exact S1_2.out | refine Sp.alloc ?_ _ | refine Sp.drewN ?_ _ | refine Sp.drew ?_)) hb3
      have S2_3 : Hid (Sp w3 A2 c2 (H)) := Sp.below (by repeat (first | exact S2_2.out | refine Sp.alloc ?_ _ | refine Sp.drewN ?_ _ | refine Sp.drew ?_)) hb3
      have S3_3 : Hid (Sp w3 A3 c3 (F)) := Sp.below (by repeat (first | exact S3_2.out | refine Sp.alloc ?_ _ | refine Sp.drewN ?_ _ | refine Sp.drew ?_)) hb3
      have Bs_3 : Hid (w3.heap[w.heap.size]? = some (.cells #[.bool he, .slice A1 R.length c1, .slice A2 H.length c2, .slice A3 F.length c3, .bool tu, .bool fa, .int .i64 ag, .bool jo] 24 (0, 0))) := blk_keep hb3 (blk_keep (W := w2) (by (repeat (first | exact Below.refl _ _ | refine bel_drewN ?_ _ | refine bel_drew ?_ | refine bel_alloc ?_ _ | refine bel_set ?_ (by simp) _))) Bs_2.out)
      have s0_3 : w3.cell? ⟨w.heap.size, 0, none⟩ = some (.bool he) := blk_cell Bs_3.out rfl
      have s1_3 : w3.cell? ⟨w.heap.size, 1, none⟩ = some (.slice A1 R.length c1) := blk_cell Bs_3.out rfl
      have s2_3 : w3.cell? ⟨w.heap.size, 2, none⟩ = some (.slice A2 H.length c2) := blk_cell Bs_3.out rfl
      have s3_3 : w3.cell? ⟨w.heap.size, 3, none⟩ = some (.slice A3 F.length c3) := blk_cell Bs_3.out rfl
      have s4_3 : w3.cell? ⟨w.heap.size, 4, none⟩ = some (.bool tu) := blk_cell Bs_3.out rfl
      have s5_3 : w3.cell? ⟨w.heap.size, 5, none⟩ = some (.bool fa) := blk_cell Bs_3.out rfl
      have s6_3 : w3.cell? ⟨w.heap.size, 6, none⟩ = some (.int .i64 ag) := blk_cell Bs_3.out rfl
      have s7_3 : w3.cell? ⟨w.heap.size, 7, none⟩ = some (.bool jo) := blk_cell Bs_3.out rfl
      have sz_3 : w.heap.size < w3.heap.size := blk_lt Bs_3.out
      have Sa1_3 : Hid (Sp w3 B1 d1 (X)) := hs3
      have Sa2_3 : Hid (Sp w3 B2 d2 (U)) := ht3
      have Sa3_3 : Hid (Sp w3 B3 d3 (V)) := hu3
      have HW3 := Lib.hid HB_3.out.size
      clear S1_2 S2_2 S3_2 Bs_2 s0_2 s1_2 s2_2 s3_2 s4_2 s5_2 s6_2 s7_2 sz_2 hs3 ht3 hu3 HB_2 hb3
      clear S1_3
      clear S2_3
      clear S3_3
      clear s0_3 s1_3 s2_3 s3_3 s4_3 s5_3 s6_3 s7_3 sz_3 Bs_3
      go_wp2_with fail
      refine (len_any B1 d1 X _ (by repeat (first | exact Sa1_3.out | refine Sp.alloc ?_ _ | refine Sp.drewN ?_ _ | refine Sp.drew ?_)) K1.out (by omega)).mono ?_
      rintro e4 w4 ⟨rfl, hb4⟩
      have HB_4 : Hid (Below w.heap.size w w4) := bel_chain hb4 (by repeat (first | exact HB_3.out | refine bel_drewN ?_ _ | refine bel_drew ?_ | refine bel_alloc ?_ _))
      have Sa1_4 : Hid (Sp w4 B1 d1 (X)) := Sp.below (by repeat (first | exact Sa1_3.out | refine Sp.alloc ?_ _ | refine Sp.drewN ?_ _ | refine Sp.drew ?_)) hb4
      have Sa2_4 : Hid (Sp w4 B2 d2 (U)) := Sp.below (by repeat (first | exact Sa2_3.out | refine Sp.alloc ?_ _ | refine Sp.drewN ?_ _ | refine Sp.drew ?_)) hb4
      have Sa3_4 : Hid (Sp w4 B3 d3 (V)) := Sp.below (by repeat (first | exact Sa3_3.out | refine Sp.alloc ?_ _ | refine Sp.drewN ?_ _ | refine Sp.drew ?_)) hb4
      have Bx_4 : Hid (w4.heap[w3.heap.size]? = some (.cells #[.bool he, .slice B1 X.length d1, .slice B2 U.length d2, .slice B3 V.length d3, .bool tu, .bool fa, .int .i64 ag, .bool jo] 31 (0, 0))) := blk_keep hb4 (by repeat (first | exact blk_new (by first | rfl | (simp; done) | (simp; omega)) | refine blk_skip ?_ | refine blk_drewN ?_ | refine blk_drew ?_))
      have x0_4 : w4.cell? ⟨w3.heap.size, 0, none⟩ = some (.bool he) := blk_cell Bx_4.out rfl
      have x1_4 : w4.cell? ⟨w3.heap.size, 1, none⟩ = some (.slice B1 X.length d1) := blk_cell Bx_4.out rfl
      have x2_4 : w4.cell? ⟨w3.heap.size, 2, none⟩ = some (.slice B2 U.length d2) := blk_cell Bx_4.out rfl
      have x3_4 : w4.cell? ⟨w3.heap.size, 3, none⟩ = some (.slice B3 V.length d3) := blk_cell Bx_4.out rfl
      have x4_4 : w4.cell? ⟨w3.heap.size, 4, none⟩ = some (.bool tu) := blk_cell Bx_4.out rfl
      have x5_4 : w4.cell? ⟨w3.heap.size, 5, none⟩ = some (.bool fa) := blk_cell Bx_4.out rfl
      have x6_4 : w4.cell? ⟨w3.heap.size, 6, none⟩ = some (.int .i64 ag) := blk_cell Bx_4.out rfl
      have x7_4 : w4.cell? ⟨w3.heap.size, 7, none⟩ = some (.bool jo) := blk_cell Bx_4.out rfl
      have xz_4 : w3.heap.size < w4.heap.size := blk_lt Bx_4.out
      clear Sa1_3 Sa2_3 Sa3_3 HB_3 hb4
      have HZ30 : w.heap.size ≤ w3.heap.size := HW3.out
      by_cases h200 : 200 < lenL X
      · go_wp2_with fail
        go_ret
        exact ⟨rfl, (by repeat (first | (with_reducible exact HB_4.out) | (with_reducible refine bel_drewN ?_ _) | (with_reducible refine bel_drew ?_) | (with_reducible refine bel_alloc ?_ _)))⟩
      · have h200' : lenL X ≤ 200 := by omega
        obtain ⟨sb, hsb⟩ : ∃ sb, (wantL X U V).isEmpty = sb := ⟨_, rfl⟩
        have HSB := Lib.hid hsb
        obtain ⟨N, hN⟩ : ∃ N : Nat, (4611686018427387904 : Int) ≤ N := ⟨4611686018427387904, by decide⟩
        have HZ3 : w.heap.size ≤ w3.heap.size := HZ30
        have HI0 := Lib.hid (ends_start hN K1.out K2.out K3.out h200' (by omega) (by omega) hsb)
        clear hsb h200 hN
        go_wp2_with fail
        refine (sure_as he B1 d1 X B2 d2 U B3 d3 V tu fa ag jo sb HSB.out _ (by repeat (first | exact Sa1_4.out | refine Sp.alloc ?_ _ | refine Sp.drewN ?_ _ | refine Sp.drew ?_)) (by repeat (first | exact Sa2_4.out | refine Sp.alloc ?_ _ | refine Sp.drewN ?_ _ | refine Sp.drew ?_)) (by repeat (first | exact Sa3_4.out | refine Sp.alloc ?_ _ | refine Sp.drewN ?_ _ | refine Sp.drew ?_)) K1.out K2.out K3.out (by omega) (by omega) (by omega)).mono ?_
        rintro e5 w5 ⟨rfl, hb5⟩
        have HB_5 : Hid (Below w.heap.size w w5) := bel_chain hb5 (by repeat (first | exact HB_4.out | refine bel_drewN ?_ _ | refine bel_drew ?_ | refine bel_alloc ?_ _))
        have Sa1_5 : Hid (Sp w5 B1 d1 (X)) := Sp.below (by repeat (first | exact Sa1_4.out | refine Sp.alloc ?_ _ | refine Sp.drewN ?_ _ | refine Sp.drew ?_)) hb5
        have Sa2_5 : Hid (Sp w5 B2 d2 (U)) := Sp.below (by repeat (first | exact Sa2_4.out | refine Sp.alloc ?_ _ | refine Sp.drewN ?_ _ | refine Sp.drew ?_)) hb5
        have Sa3_5 : Hid (Sp w5 B3 d3 (V)) := Sp.below (by repeat (first | exact Sa3_4.out | refine Sp.alloc ?_ _ | refine Sp.drewN ?_ _ | refine Sp.drew ?_)) hb5
        have Bx_5 : Hid (w5.heap[w3.heap.size]? = some (.cells #[.bool he, .slice B1 X.length d1, .slice B2 U.length d2, .slice B3 V.length d3, .bool tu, .bool fa, .int .i64 ag, .bool jo] 31 (0, 0))) := blk_keep hb5 (blk_keep (W := w4) (by (repeat (first | exact Below.refl _ _ | refine bel_drewN ?_ _ | refine bel_drew ?_ | refine bel_alloc ?_ _ | refine bel_set ?_ (by simp) _))) Bx_4.out)
        have x0_5 : w5.cell? ⟨w3.heap.size, 0, none⟩ = some (.bool he) := blk_cell Bx_5.out rfl
        have x1_5 : w5.cell? ⟨w3.heap.size, 1, none⟩ = some (.slice B1 X.length d1) := blk_cell Bx_5.out rfl
        have x2_5 : w5.cell? ⟨w3.heap.size, 2, none⟩ = some (.slice B2 U.length d2) := blk_cell Bx_5.out rfl
        have x3_5 : w5.cell? ⟨w3.heap.size, 3, none⟩ = some (.slice B3 V.length d3) := blk_cell Bx_5.out rfl
        have x4_5 : w5.cell? ⟨w3.heap.size, 4, none⟩ = some (.bool tu) := blk_cell Bx_5.out rfl
        have x5_5 : w5.cell? ⟨w3.heap.size, 5, none⟩ = some (.bool fa) := blk_cell Bx_5.out rfl
        have x6_5 : w5.cell? ⟨w3.heap.size, 6, none⟩ = some (.int .i64 ag) := blk_cell Bx_5.out rfl
        have x7_5 : w5.cell? ⟨w3.heap.size, 7, none⟩ = some (.bool jo) := blk_cell Bx_5.out rfl
        have xz_5 : w3.heap.size < w5.heap.size := blk_lt Bx_5.out
        clear Sa1_4 Sa2_4 Sa3_4 Bx_4 x0_4 x1_4 x2_4 x3_4 x4_4 x5_4 x6_4 x7_4 xz_4 HB_4 hb5
        have HA0 : Hid (EndsAt w w5 w3.heap.size he B1 d1 X B2 d2 U B3 d3 V tu fa ag jo) := ⟨Bx_5.out, Sa1_5.out, Sa2_5.out, Sa3_5.out, HB_5.out⟩
        have hg3 : w.heap.size ≤ w3.heap.size := HZ3
        obtain ⟨g, hge⟩ : ∃ g, w3.heap.size = g := ⟨_, rfl⟩
        rw [hge] at HA0 hg3 ⊢
        clear x0_5 x1_5 x2_5 x3_5 x4_5 x5_5 x6_5 x7_5 xz_5 Bx_5 Sa1_5 Sa2_5 Sa3_5 HB_5 HX HU HV K1 K2 K3 HSB h200' HZ3 hge
        go_wp2_with fail
        go_loopw [8, 9, 10, 11, 12] (fun s8 _ _ _ _ wr => EndsRel w g N sb ag jo s8 wr) (fun s8 _ _ _ _ _ => 2000 - (intOf s8).toNat)
        case atStart => exact ⟨0, he, B1, d1, X, B2, d2, U, B3, d3, V, tu, fa, rfl, HI0.out, HA0.out⟩
        case round =>
          clear HI0 HA0 m1 m2 m3 l1 l2 l3 n1 n2 n3
          obtain ⟨i, he, A1, c1, R, A2, c2, H, A3, c3, F, tu, fa, rfl, hinv, hat⟩ := hrel
          obtain ⟨w20, rfl⟩ : ∃ w20 : World, w20 = wr := ⟨_, rfl⟩
          obtain ⟨hi401, lR, lH, lF⟩ := hinv.lens
          have HI := Lib.hid hinv
          have HA := Lib.hid hat
          clear hinv hat
          have hi2 : (i : Int) < 2000 := by omega
          have hz20 : g < w20.heap.size := blk_lt HA.out.st
          go_upto_block 1 with fail
          go_cut [8] (fun s8 wx => s8 = .int .i64 i ∧ EndsNext w g N i sb ag jo wx)
          case rest =>
            obtain ⟨rfl, tu6, fa6, he6, B1', d1', R', B2', d2', H', B3', d3', F', hiv, hat5⟩ := hcut
            have HI6 := Lib.hid hiv
            have HA6 := Lib.hid hat5
            clear hiv hat5
            go_wp2_with fail
            go_roundw
            case rel => exact ⟨i + 1, he6, B1', d1', R', B2', d2', H', B3', d3', F', tu6, fa6, by go_num, HI6.out, HA6.out⟩
            case measure => simp [intOf]; omega
          case first =>
            go_upto_if 41 with fail
            go_cut [9] (fun s9 wx => ∃ (n : Int) (tu1 fa1 : Bool), s9 = .int .i64 n ∧ 1 ≤ n ∧ n ≤ 5 ∧ EndsAt w wx g he A1 c1 R A2 c2 H A3 c3 F tu1 fa1 ag jo)
            case first =>
              by_cases hlt : i < S.length
              · obtain ⟨b, off, e, hb, k1, k2⟩ := (HSU.out.below HA.out.bel).at' i hlt
                have hu := HSU.out.u8 _ (List.getElem_mem hlt)
                obtain ⟨⟨kd, nu⟩, hx⟩ : ∃ x, S[i] = x := ⟨_, rfl⟩
                rw [hx] at k1 k2 hu
                clear hx
                simp only at k1 k2 hu
                obtain ⟨hu0, hu1⟩ := hu
                subst e
                have x4 : w20.cell? ⟨g, 4, none⟩ = some (.bool tu) := blk_cell HA.out.st rfl
                have x5 : w20.cell? ⟨g, 5, none⟩ = some (.bool fa) := blk_cell HA.out.st rfl
                have y4 : w20.frozen? ⟨g, 4, none⟩ = false := blk_frozen HA.out.st
                have y5 : w20.frozen? ⟨g, 5, none⟩ = false := blk_frozen HA.out.st
                have hbg : b ≠ g := fun eg => HA.out.noU eg k2
                cases tu <;> cases fa
                all_goals
                  go_wp2_with fail
                  go_meet
                  exact ⟨_, _, _, rfl, by omega, by omega, (HA.out.set4 hg3 _).set5 hg3 _⟩
              · go_wp2_with fail
                go_meet
                exact ⟨1, tu, fa, rfl, by omega, by omega, HA.out⟩
            case rest =>
              obtain ⟨n, tu1, fa1, rfl, hn1, hn5, hat1⟩ := hcut
              obtain ⟨w21, rfl⟩ : ∃ w21 : World, w21 = wc := ⟨_, rfl⟩
              have HB_21 := Lib.hid hat1.bel
              have S1_21 := Lib.hid hat1.s1
              have S2_21 := Lib.hid hat1.s2
              have S3_21 := Lib.hid hat1.s3
              have Bx_21 := Lib.hid hat1.st
              clear hat1 HA hz20 HSU
              have KR := Lib.hid HI.out.kR
              have KH := Lib.hid HI.out.kH
              have KF := Lib.hid HI.out.kF
              have HC := Lib.hid (ends_cases he tu1 fa1 jo ag H F HI.out.kR)
              have ll := lostL_length tu1 fa1 jo R H F
              obtain ⟨v, hv⟩ : ∃ v, decideL he tu1 fa1 jo ag R H F = v := ⟨_, rfl⟩
              rw [hv] at HC
              have HV := Lib.hid hv
              clear hv
              have x0_21 : w21.cell? ⟨g, 0, none⟩ = some (.bool he) := blk_cell Bx_21.out rfl
              have xf0_21 : w21.frozen? ⟨g, 0, none⟩ = false := blk_frozen Bx_21.out
              have x1_21 : w21.cell? ⟨g, 1, none⟩ = some (.slice A1 R.length c1) := blk_cell Bx_21.out rfl
              have xf1_21 : w21.frozen? ⟨g, 1, none⟩ = false := blk_frozen Bx_21.out
              have x2_21 : w21.cell? ⟨g, 2, none⟩ = some (.slice A2 H.length c2) := blk_cell Bx_21.out rfl
              have xf2_21 : w21.frozen? ⟨g, 2, none⟩ = false := blk_frozen Bx_21.out
              have x3_21 : w21.cell? ⟨g, 3, none⟩ = some (.slice A3 F.length c3) := blk_cell Bx_21.out rfl
              have xf3_21 : w21.frozen? ⟨g, 3, none⟩ = false := blk_frozen Bx_21.out
              have x4_21 : w21.cell? ⟨g, 4, none⟩ = some (.bool tu1) := blk_cell Bx_21.out rfl
              have xf4_21 : w21.frozen? ⟨g, 4, none⟩ = false := blk_frozen Bx_21.out
              have x5_21 : w21.cell? ⟨g, 5, none⟩ = some (.bool fa1) := blk_cell Bx_21.out rfl
              have xf5_21 : w21.frozen? ⟨g, 5, none⟩ = false := blk_frozen Bx_21.out
              have x6_21 : w21.cell? ⟨g, 6, none⟩ = some (.int .i64 ag) := blk_cell Bx_21.out rfl
              have xf6_21 : w21.frozen? ⟨g, 6, none⟩ = false := blk_frozen Bx_21.out
              have x7_21 : w21.cell? ⟨g, 7, none⟩ = some (.bool jo) := blk_cell Bx_21.out rfl
              have xf7_21 : w21.frozen? ⟨g, 7, none⟩ = false := blk_frozen Bx_21.out
              have xz_21 : g < w21.heap.size := blk_lt Bx_21.out
              go_wp2_with fail
              refine (lost_any he A1 c1 R A2 c2 H A3 c3 F tu1 fa1 ag jo _ (by repeat (first | exact S1_21.out | refine Sp.alloc ?_ _ | refine Sp.drewN ?_ _ | refine Sp.drew ?_)) (by repeat (first | exact S2_21.out | refine Sp.alloc ?_ _ | refine Sp.drewN ?_ _ | refine Sp.drew ?_)) (by repeat (first | exact S3_21.out | refine Sp.alloc ?_ _ | refine Sp.drewN ?_ _ | refine Sp.drew ?_)) KR.out KH.out KF.out (by omega) (by omega) (by omega)).mono ?_
              rintro e22 w22 ⟨Al, cl, rfl, hs22, hb22⟩
              have HB_22 : Hid (Below w.heap.size w w22) := bel_chain hb22 (by repeat (first | exact HB_21.out | refine bel_drewN ?_ _ | refine bel_drew ?_ | refine bel_alloc ?_ _))
              have S1_22 : Hid (Sp w22 A1 c1 (R)) := Sp.below (by repeat (first | exact S1_21.out | refine Sp.alloc ?_ _ | refine Sp.drewN ?_ _ | refine Sp.drew ?_)) hb22
              have S2_22 : Hid (Sp w22 A2 c2 (H)) := Sp.below (by repeat (first | exact S2_21.out | refine Sp.alloc ?_ _ | refine Sp.drewN ?_ _ | refine Sp.drew ?_)) hb22
              have S3_22 : Hid (Sp w22 A3 c3 (F)) := Sp.below (by repeat (first | exact S3_21.out | refine Sp.alloc ?_ _ | refine Sp.drewN ?_ _ | refine Sp.drew ?_)) hb22
              have Bx_22 : Hid (w22.heap[g]? = some (.cells #[.bool he, .slice A1 R.length c1, .slice A2 H.length c2, .slice A3 F.length c3, .bool tu1, .bool fa1, .int .i64 ag, .bool jo] 31 (0, 0))) := blk_keep hb22 (blk_keep (W := w21) (by (repeat (first | exact Below.refl _ _ | refine bel_drewN ?_ _ | refine bel_drew ?_ | refine bel_alloc ?_ _ | refine bel_set ?_ (by simp) _))) Bx_21.out)
              have x0_22 : w22.cell? ⟨g, 0, none⟩ = some (.bool he) := blk_cell Bx_22.out rfl
              have xf0_22 : w22.frozen? ⟨g, 0, none⟩ = false := blk_frozen Bx_22.out
              have x1_22 : w22.cell? ⟨g, 1, none⟩ = some (.slice A1 R.length c1) := blk_cell Bx_22.out rfl
              have xf1_22 : w22.frozen? ⟨g, 1, none⟩ = false := blk_frozen Bx_22.out
              have x2_22 : w22.cell? ⟨g, 2, none⟩ = some (.slice A2 H.length c2) := blk_cell Bx_22.out rfl
              have xf2_22 : w22.frozen? ⟨g, 2, none⟩ = false := blk_frozen Bx_22.out
              have x3_22 : w22.cell? ⟨g, 3, none⟩ = some (.slice A3 F.length c3) := blk_cell Bx_22.out rfl
              have xf3_22 : w22.frozen? ⟨g, 3, none⟩ = false := blk_frozen Bx_22.out
              have x4_22 : w22.cell? ⟨g, 4, none⟩ = some (.bool tu1) := blk_cell Bx_22.out rfl
              have xf4_22 : w22.frozen? ⟨g, 4, none⟩ = false := blk_frozen Bx_22.out
              have x5_22 : w22.cell? ⟨g, 5, none⟩ = some (.bool fa1) := blk_cell Bx_22.out rfl
              have xf5_22 : w22.frozen? ⟨g, 5, none⟩ = false := blk_frozen Bx_22.out
              have x6_22 : w22.cell? ⟨g, 6, none⟩ = some (.int .i64 ag) := blk_cell Bx_22.out rfl
              have xf6_22 : w22.frozen? ⟨g, 6, none⟩ = false := blk_frozen Bx_22.out
              have x7_22 : w22.cell? ⟨g, 7, none⟩ = some (.bool jo) := blk_cell Bx_22.out rfl
              have xf7_22 : w22.frozen? ⟨g, 7, none⟩ = false := blk_frozen Bx_22.out
              have xz_22 : g < w22.heap.size := blk_lt Bx_22.out
              have Sl_22 : Hid (Sp w22 Al cl (lostL tu1 fa1 jo R H F)) := hs22
              clear S1_21 S2_21 S3_21 Bx_21 x0_21 x1_21 x2_21 x3_21 x4_21 x5_21 x6_21 x7_21 xf0_21 xf1_21 xf2_21 xf3_21 xf4_21 xf5_21 xf6_21 xf7_21 xz_21 hs22 HB_21 hb22
              go_wp2_with fail
              refine (len_any Al cl (lostL tu1 fa1 jo R H F) _ (by repeat (first | exact Sl_22.out | refine Sp.alloc ?_ _ | refine Sp.drewN ?_ _ | refine Sp.drew ?_)) (lostL_canon ..) (by omega)).mono ?_
              rintro e23 w23 ⟨rfl, hb23⟩
              have HB_23 : Hid (Below w.heap.size w w23) := bel_chain hb23 (by repeat (first | exact HB_22.out | refine bel_drewN ?_ _ | refine bel_drew ?_ | refine bel_alloc ?_ _))
              have S1_23 : Hid (Sp w23 A1 c1 (R)) := Sp.below (by repeat (first | exact S1_22.out | refine Sp.alloc ?_ _ | refine Sp.drewN ?_ _ | refine Sp.drew ?_)) hb23
              have S2_23 : Hid (Sp w23 A2 c2 (H)) := Sp.below (by repeat (first | exact S2_22.out | refine Sp.alloc ?_ _ | refine Sp.drewN ?_ _ | refine Sp.drew ?_)) hb23
              have S3_23 : Hid (Sp w23 A3 c3 (F)) := Sp.below (by repeat (first | exact S3_22.out | refine Sp.alloc ?_ _ | refine Sp.drewN ?_ _ | refine Sp.drew ?_)) hb23
              have Sl_23 : Hid (Sp w23 Al cl (lostL tu1 fa1 jo R H F)) := Sp.below (by repeat (first | exact Sl_22.out | refine Sp.alloc ?_ _ | refine Sp.drewN ?_ _ | refine Sp.drew ?_)) hb23
              have Bx_23 : Hid (w23.heap[g]? = some (.cells #[.bool he, .slice A1 R.length c1, .slice A2 H.length c2, .slice A3 F.length c3, .bool tu1, .bool fa1, .int .i64 ag, .bool jo] 31 (0, 0))) := blk_keep hb23 (blk_keep (W := w22) (by (repeat (first | exact Below.refl _ _ | refine bel_drewN ?_ _ | refine bel_drew ?_ | refine bel_alloc ?_ _ | refine bel_set ?_ (by simp) _))) Bx_22.out)
              have x0_23 : w23.cell? ⟨g, 0, none⟩ = some (.bool he) := blk_cell Bx_23.out rfl
              have xf0_23 : w23.frozen? ⟨g, 0, none⟩ = false := blk_frozen Bx_23.out
              have x1_23 : w23.cell? ⟨g, 1, none⟩ = some (.slice A1 R.length c1) := blk_cell Bx_23.out rfl
              have xf1_23 : w23.frozen? ⟨g, 1, none⟩ = false := blk_frozen Bx_23.out
              have x2_23 : w23.cell? ⟨g, 2, none⟩ = some (.slice A2 H.length c2) := blk_cell Bx_23.out rfl
              have xf2_23 : w23.frozen? ⟨g, 2, none⟩ = false := blk_frozen Bx_23.out
              have x3_23 : w23.cell? ⟨g, 3, none⟩ = some (.slice A3 F.length c3) := blk_cell Bx_23.out rfl
              have xf3_23 : w23.frozen? ⟨g, 3, none⟩ = false := blk_frozen Bx_23.out
              have x4_23 : w23.cell? ⟨g, 4, none⟩ = some (.bool tu1) := blk_cell Bx_23.out rfl
              have xf4_23 : w23.frozen? ⟨g, 4, none⟩ = false := blk_frozen Bx_23.out
              have x5_23 : w23.cell? ⟨g, 5, none⟩ = some (.bool fa1) := blk_cell Bx_23.out rfl
              have xf5_23 : w23.frozen? ⟨g, 5, none⟩ = false := blk_frozen Bx_23.out
              have x6_23 : w23.cell? ⟨g, 6, none⟩ = some (.int .i64 ag) := blk_cell Bx_23.out rfl
              have xf6_23 : w23.frozen? ⟨g, 6, none⟩ = false := blk_frozen Bx_23.out
              have x7_23 : w23.cell? ⟨g, 7, none⟩ = some (.bool jo) := blk_cell Bx_23.out rfl
              have xf7_23 : w23.frozen? ⟨g, 7, none⟩ = false := blk_frozen Bx_23.out
              have xz_23 : g < w23.heap.size := blk_lt Bx_23.out
              clear S1_22 S2_22 S3_22 Sl_22 Bx_22 x0_22 x1_22 x2_22 x3_22 x4_22 x5_22 x6_22 x7_22 xf0_22 xf1_22 xf2_22 xf3_22 xf4_22 xf5_22 xf6_22 xf7_22 xz_22 HB_22 hb23
              clear Sl_23
              go_wp2_with fail
              refine (decide_as he A1 c1 R A2 c2 H A3 c3 F tu1 fa1 ag jo v HV.out _ (by repeat (first | exact S1_23.out | refine Sp.alloc ?_ _ | refine Sp.drewN ?_ _ | refine Sp.drew ?_)) (by repeat (first | exact S2_23.out | refine Sp.alloc ?_ _ | refine Sp.drewN ?_ _ | refine Sp.drew ?_)) (by repeat (first | exact S3_23.out | refine Sp.alloc ?_ _ | refine Sp.drewN ?_ _ | refine Sp.drew ?_)) KR.out KH.out KF.out (by omega) (by omega) (by omega)).mono ?_
              rintro e24 w24 ⟨rfl, hb24⟩
              have HB_24 : Hid (Below w.heap.size w w24) := bel_chain hb24 (by repeat (first | exact HB_23.out | refine bel_drewN ?_ _ | refine bel_drew ?_ | refine bel_alloc ?_ _))
              have S1_24 : Hid (Sp w24 A1 c1 (R)) := Sp.below (by repeat (first | exact S1_23.out | refine Sp.alloc ?_ _ | refine Sp.drewN ?_ _ | refine Sp.drew ?_)) hb24
              have S2_24 : Hid (Sp w24 A2 c2 (H)) := Sp.below (by repeat (first | exact S2_23.out | refine Sp.alloc ?_ _ | refine Sp.drewN ?_ _ | refine Sp.drew ?_)) hb24
              have S3_24 : Hid (Sp w24 A3 c3 (F)) := Sp.below (by repeat (first | exact S3_23.out | refine Sp.alloc ?_ _ | refine Sp.drewN ?_ _ | refine Sp.drew ?_)) hb24
              have Bx_24 : Hid (w24.heap[g]? = some (.cells #[.bool he, .slice A1 R.length c1, .slice A2 H.length c2, .slice A3 F.length c3, .bool tu1, .bool fa1, .int .i64 ag, .bool jo] 31 (0, 0))) := blk_keep hb24 (blk_keep (W := w23) (by (repeat (first | exact Below.refl _ _ | refine bel_drewN ?_ _ | refine bel_drew ?_ | refine bel_alloc ?_ _ | refine bel_set ?_ (by simp) _))) Bx_23.out)
              have x0_24 : w24.cell? ⟨g, 0, none⟩ = some (.bool he) := blk_cell Bx_24.out rfl
              have xf0_24 : w24.frozen? ⟨g, 0, none⟩ = false := blk_frozen Bx_24.out
              have x1_24 : w24.cell? ⟨g, 1, none⟩ = some (.slice A1 R.length c1) := blk_cell Bx_24.out rfl
              have xf1_24 : w24.frozen? ⟨g, 1, none⟩ = false := blk_frozen Bx_24.out
              have x2_24 : w24.cell? ⟨g, 2, none⟩ = some (.slice A2 H.length c2) := blk_cell Bx_24.out rfl
              have xf2_24 : w24.frozen? ⟨g, 2, none⟩ = false := blk_frozen Bx_24.out
              have x3_24 : w24.cell? ⟨g, 3, none⟩ = some (.slice A3 F.length c3) := blk_cell Bx_24.out rfl
              have xf3_24 : w24.frozen? ⟨g, 3, none⟩ = false := blk_frozen Bx_24.out
              have x4_24 : w24.cell? ⟨g, 4, none⟩ = some (.bool tu1) := blk_cell Bx_24.out rfl
              have xf4_24 : w24.frozen? ⟨g, 4, none⟩ = false := blk_frozen Bx_24.out
              have x5_24 : w24.cell? ⟨g, 5, none⟩ = some (.bool fa1) := blk_cell Bx_24.out rfl
              have xf5_24 : w24.frozen? ⟨g, 5, none⟩ = false := blk_frozen Bx_24.out
              have x6_24 : w24.cell? ⟨g, 6, none⟩ = some (.int .i64 ag) := blk_cell Bx_24.out rfl
              have xf6_24 : w24.frozen? ⟨g, 6, none⟩ = false := blk_frozen Bx_24.out
              have x7_24 : w24.cell? ⟨g, 7, none⟩ = some (.bool jo) := blk_cell Bx_24.out rfl
              have xf7_24 : w24.frozen? ⟨g, 7, none⟩ = false := blk_frozen Bx_24.out
              have xz_24 : g < w24.heap.size := blk_lt Bx_24.out
              clear S1_23 S2_23 S3_23 Bx_23 x0_23 x1_23 x2_23 x3_23 x4_23 x5_23 x6_23 x7_23 xf0_23 xf1_23 xf2_23 xf3_23 xf4_23 xf5_23 xf6_23 xf7_23 xz_23 HB_23 hb24
              have hC := HC.out
              unfold EndsCase at hC
              clear HC HV
              generalize lenL (lostL tu1 fa1 jo R H F) = lo at *
              rcases hC with ⟨rfl, h0⟩ | ⟨rfl, x1, x2, r, hR, hx⟩ | ⟨rfl, x1, x2, r, hR, hx, hf⟩ | ⟨rfl, rfl, rfl, hw⟩ | ⟨hv, hlo, hw⟩
              · as_aux_lemma =>
                  have HL0 := Lib.hid h0
                  clear h0
                  go_wp2_with fail
                  refine (len_any A1 c1 R _ (by repeat (first | exact S1_24.out | refine Sp.alloc ?_ _ | refine Sp.drewN ?_ _ | refine Sp.drew ?_)) KR.out (by omega)).mono ?_
                  rintro e25 w25 ⟨rfl, hb25⟩
                  have HB_25 : Hid (Below w.heap.size w w25) := bel_chain hb25 (by repeat (first | exact HB_24.out | refine bel_drewN ?_ _ | refine bel_drew ?_ | refine bel_alloc ?_ _))
                  have S1_25 : Hid (Sp w25 A1 c1 (R)) := Sp.below (by repeat (first | exact S1_24.out | refine Sp.alloc ?_ _ | refine Sp.drewN ?_ _ | refine Sp.drew ?_)) hb25
                  have S2_25 : Hid (Sp w25 A2 c2 (H)) := Sp.below (by repeat (first | exact S2_24.out | refine Sp.alloc ?_ _ | refine Sp.drewN ?_ _ | refine Sp.drew ?_)) hb25
                  have S3_25 : Hid (Sp w25 A3 c3 (F)) := Sp.below (by repeat (first | exact S3_24.out | refine Sp.alloc ?_ _ | refine Sp.drewN ?_ _ | refine Sp.drew ?_)) hb25
                  have Bx_25 : Hid (w25.heap[g]? = some (.cells #[.bool he, .slice A1 R.length c1, .slice A2 H.length c2, .slice A3 F.length c3, .bool tu1, .bool fa1, .int .i64 ag, .bool jo] 31 (0, 0))) := blk_keep hb25 (blk_keep (W := w24) (by (repeat (first | exact Below.refl _ _ | refine bel_drewN ?_ _ | refine bel_drew ?_ | refine bel_alloc ?_ _ | refine bel_set ?_ (by simp) _))) Bx_24.out)
                  have x0_25 : w25.cell? ⟨g, 0, none⟩ = some (.bool he) := blk_cell Bx_25.out rfl
                  have xf0_25 : w25.frozen? ⟨g, 0, none⟩ = false := blk_frozen Bx_25.out
                  have x1_25 : w25.cell? ⟨g, 1, none⟩ = some (.slice A1 R.length c1) := blk_cell Bx_25.out rfl
                  have xf1_25 : w25.frozen? ⟨g, 1, none⟩ = false := blk_frozen Bx_25.out
                  have x2_25 : w25.cell? ⟨g, 2, none⟩ = some (.slice A2 H.length c2) := blk_cell Bx_25.out rfl
                  have xf2_25 : w25.frozen? ⟨g, 2, none⟩ = false := blk_frozen Bx_25.out
                  have x3_25 : w25.cell? ⟨g, 3, none⟩ = some (.slice A3 F.length c3) := blk_cell Bx_25.out rfl
                  have xf3_25 : w25.frozen? ⟨g, 3, none⟩ = false := blk_frozen Bx_25.out
                  have x4_25 : w25.cell? ⟨g, 4, none⟩ = some (.bool tu1) := blk_cell Bx_25.out rfl
                  have xf4_25 : w25.frozen? ⟨g, 4, none⟩ = false := blk_frozen Bx_25.out
                  have x5_25 : w25.cell? ⟨g, 5, none⟩ = some (.bool fa1) := blk_cell Bx_25.out rfl
                  have xf5_25 : w25.frozen? ⟨g, 5, none⟩ = false := blk_frozen Bx_25.out
                  have x6_25 : w25.cell? ⟨g, 6, none⟩ = some (.int .i64 ag) := blk_cell Bx_25.out rfl
                  have xf6_25 : w25.frozen? ⟨g, 6, none⟩ = false := blk_frozen Bx_25.out
                  have x7_25 : w25.cell? ⟨g, 7, none⟩ = some (.bool jo) := blk_cell Bx_25.out rfl
                  have xf7_25 : w25.frozen? ⟨g, 7, none⟩ = false := blk_frozen Bx_25.out
                  have xz_25 : g < w25.heap.size := blk_lt Bx_25.out
                  rw [HL0.out]
                  clear S1_24 S2_24 S3_24 Bx_24 x0_24 x1_24 x2_24 x3_24 x4_24 x5_24 x6_24 x7_24 xf0_24 xf1_24 xf2_24 xf3_24 xf4_24 xf5_24 xf6_24 xf7_24 xz_24 HB_24 hb25
                  go_wp2_with fail
                  go_ret
                  exact ⟨rfl, (by repeat (first | (with_reducible exact HB_25.out) | (with_reducible refine bel_drewN ?_ _) | (with_reducible refine bel_drew ?_) | (with_reducible refine bel_alloc ?_ _)))⟩
              · as_aux_lemma =>
                  have HNX := Lib.hid (HI.out.go hR hx hn1)
                  have HTP := Lib.hid (told_pos hR HI.out.kR hn1 hx)
                  clear hR hx
                  have hgz : g < w24.heap.size := xz_24
                  have KN := Lib.hid (firstN_canon KR.out hn1)
                  have lN := firstN_length R n
                  have HA4 : Hid (EndsAt w w24 g he A1 c1 R A2 c2 H A3 c3 F tu1 fa1 ag jo) := ⟨Bx_24.out, S1_24.out, S2_24.out, S3_24.out, HB_24.out⟩
                  go_upto_region 20 with fail
                  go_cut [11] (fun s wx => ∃ (b : Nat) (Au : Option Addr) (cu : Nat), s = .pointer (some ⟨b, 0, none⟩) ∧ g < b ∧ wx.heap[b]? = some (.cells #[.slice Au (ofOp (firstN R n) H 2).length cu] 29 (0, 0)) ∧ Sp wx Au cu (ofOp (firstN R n) H 2) ∧ EndsAt w wx g he A1 c1 R A2 c2 H A3 c3 F tu1 fa1 ag jo)
                  case first =>
                    first
                      | (go_region_with ((first
                          | (go_at_call 16
                             refine (first37_any A1 c1 R n _ (by repeat (first | (with_reducible refine Sp.drew ?_) | (with_reducible exact S1_24.out) | (with_reducible refine Sp.alloc ?_ _))) KR.out (by omega) hn1 (by omega)).mono ?_
                             rintro e25 w25 ⟨At, ct, rfl, hs25, hb25⟩
                             have hq25 : Below w24.heap.size w24 w25 := bel_chain hb25 (by repeat (first | (with_reducible exact Below.refl _ _) | (with_reducible refine bel_alloc ?_ _) | (with_reducible refine bel_drew ?_)))
                             have Q25 := Lib.hid hq25
                             have ST_25 := Lib.hid hs25
                             have y_25 := cell_keep hq25 x2_24
                             have gz_25 : g < w25.heap.size := World.block_lt_of_cell? w25 ⟨g, 2, none⟩ y_25
                             (first
                               | (have xb_25 : Hid (w25.heap[w24.heap.size]? = some (.cells #[.slice none 0 0] 29 (0, 0))) := blk_keep hb25 (blk_drew (blk_new rfl)))
                               | skip)
                             clear hs25 hb25 hq25)
                          | (go_at_call 17
                             refine (and_any At ct (firstN R n) A2 c2 H _ (by repeat (first | (with_reducible refine Sp.drew ?_) | (with_reducible exact ST_25.out) | (with_reducible refine Sp.alloc ?_ _))) (by repeat (first | (with_reducible refine Sp.drew ?_) | (with_reducible exact S2_24.out.below Q25.out) | (with_reducible refine Sp.alloc ?_ _))) KN.out KH.out (by omega) (by omega)).mono ?_
                             rintro e26 w26 ⟨Au, cu, rfl, hs26, hb26⟩
                             have hq26 : Below w25.heap.size w25 w26 := bel_chain hb26 (by repeat (first | (with_reducible exact Below.refl _ _) | (with_reducible refine bel_alloc ?_ _) | (with_reducible refine bel_drew ?_)))
                             have Q26 := Lib.hid (bel_chain hq26 Q25.out)
                             have SU_26 := Lib.hid hs26
                             (first
                               | (have xb_26 := Lib.hid (blk_keep hq26 xb_25.out); have xc_26 := cells1 xb_26.out; have xf_26 := blk_frozen (i := 0) xb_26.out; have xz_26 := blk_lt xb_26.out)
                               | (have xb_26 : Hid (w26.heap[w25.heap.size]? = some (.cells #[.slice none 0 0] 29 (0, 0))) := blk_keep hb26 (blk_new rfl); have xc_26 := cells1 xb_26.out; have xf_26 := blk_frozen (i := 0) xb_26.out; have xz_26 := blk_lt xb_26.out)
                               | skip)
                             clear hs26 hb26 hq26))))
                      | fail
                    all_goals go_wp2_with fail
                    all_goals go_meet
                    all_goals (first
                      | exact ⟨_, Au, cu, rfl, by have := Q25.out.size; have := Q26.out.size; omega, blk_set xb_26.out, SU_26.out.setOff (fun h0 => SU_26.out.off_blk h0 xb_26.out (noPair1 _)) _, (HA4.out.below Q26.out).setOther (by have := Q25.out.size; omega) xb_26.out (by have := Q25.out.size; omega) _⟩
                      | exact ⟨_, Au, cu, rfl, by have := Q26.out.size; omega, blk_new rfl, SU_26.out.alloc _, (HA4.out.below Q26.out).below (bel_alloc (Below.refl _ _) _)⟩)
                  case rest =>
                    obtain ⟨b, Au, cu, rfl, hgb, hBb, hSu, hat2⟩ := hcut
                    obtain ⟨w30, rfl⟩ : ∃ w30 : World, w30 = wc := ⟨_, rfl⟩
                    have HB_30 := Lib.hid hat2.bel
                    have S1_30 := Lib.hid hat2.s1
                    have S2_30 := Lib.hid hat2.s2
                    have S3_30 := Lib.hid hat2.s3
                    have Bx_30 := Lib.hid hat2.st
                    have Bt_30 := Lib.hid hBb
                    have Su_30 := Lib.hid hSu
                    have KT := Lib.hid (ofOp_canon (firstN R n) H 2)
                    have lT := and_few (firstN R n) H
                    clear hat2 hBb hSu HA4 KN x0_24 x1_24 x2_24 x3_24 x4_24 x5_24 x6_24 x7_24 xf0_24 xf1_24 xf2_24 xf3_24 xf4_24 xf5_24 xf6_24 xf7_24 xz_24 Bx_24 S1_24 S2_24 S3_24 HB_24 hgz
                    generalize ofOp (firstN R n) H 2 = TT at *
                    have x0_30 : w30.cell? ⟨g, 0, none⟩ = some (.bool he) := blk_cell Bx_30.out rfl
                    have xf0_30 : w30.frozen? ⟨g, 0, none⟩ = false := blk_frozen Bx_30.out
                    have x1_30 : w30.cell? ⟨g, 1, none⟩ = some (.slice A1 R.length c1) := blk_cell Bx_30.out rfl
                    have xf1_30 : w30.frozen? ⟨g, 1, none⟩ = false := blk_frozen Bx_30.out
                    have x2_30 : w30.cell? ⟨g, 2, none⟩ = some (.slice A2 H.length c2) := blk_cell Bx_30.out rfl
                    have xf2_30 : w30.frozen? ⟨g, 2, none⟩ = false := blk_frozen Bx_30.out
                    have x3_30 : w30.cell? ⟨g, 3, none⟩ = some (.slice A3 F.length c3) := blk_cell Bx_30.out rfl
                    have xf3_30 : w30.frozen? ⟨g, 3, none⟩ = false := blk_frozen Bx_30.out
                    have x4_30 : w30.cell? ⟨g, 4, none⟩ = some (.bool tu1) := blk_cell Bx_30.out rfl
                    have xf4_30 : w30.frozen? ⟨g, 4, none⟩ = false := blk_frozen Bx_30.out
                    have x5_30 : w30.cell? ⟨g, 5, none⟩ = some (.bool fa1) := blk_cell Bx_30.out rfl
                    have xf5_30 : w30.frozen? ⟨g, 5, none⟩ = false := blk_frozen Bx_30.out
                    have x6_30 : w30.cell? ⟨g, 6, none⟩ = some (.int .i64 ag) := blk_cell Bx_30.out rfl
                    have xf6_30 : w30.frozen? ⟨g, 6, none⟩ = false := blk_frozen Bx_30.out
                    have x7_30 : w30.cell? ⟨g, 7, none⟩ = some (.bool jo) := blk_cell Bx_30.out rfl
                    have xf7_30 : w30.frozen? ⟨g, 7, none⟩ = false := blk_frozen Bx_30.out
                    have xz_30 : g < w30.heap.size := blk_lt Bx_30.out
                    have t0_30 : w30.cell? ⟨b, 0, none⟩ = some (.slice Au TT.length cu) := blk_cell Bt_30.out rfl
                    have tz_30 : b < w30.heap.size := blk_lt Bt_30.out
                    go_wp2_with fail
                    refine (len_any Au cu TT _ (by repeat (first | exact Su_30.out | refine Sp.alloc ?_ _ | refine Sp.drewN ?_ _ | refine Sp.drew ?_)) KT.out (by omega)).mono ?_
                    rintro e31 w31 ⟨rfl, hb31⟩
                    have HB_31 : Hid (Below w.heap.size w w31) := bel_chain hb31 (by repeat (first | exact HB_30.out | refine bel_drewN ?_ _ | refine bel_drew ?_ | refine bel_alloc ?_ _))
                    have S1_31 : Hid (Sp w31 A1 c1 (R)) := Sp.below (by repeat (first | exact S1_30.out | refine Sp.alloc ?_ _ | refine Sp.drewN ?_ _ | refine Sp.drew ?_)) hb31
                    have S2_31 : Hid (Sp w31 A2 c2 (H)) := Sp.below (by repeat (first | exact S2_30.out | refine Sp.alloc ?_ _ | refine Sp.drewN ?_ _ | refine Sp.drew ?_)) hb31
                    have S3_31 : Hid (Sp w31 A3 c3 (F)) := Sp.below (by repeat (first | exact S3_30.out | refine Sp.alloc ?_ _ | refine Sp.drewN ?_ _ | refine Sp.drew ?_)) hb31
                    have Su_31 : Hid (Sp w31 Au cu (TT)) := Sp.below (by repeat (first | exact Su_30.out | refine Sp.alloc ?_ _ | refine Sp.drewN ?_ _ | refine Sp.drew ?_)) hb31
                    have Bx_31 : Hid (w31.heap[g]? = some (.cells #[.bool he, .slice A1 R.length c1, .slice A2 H.length c2, .slice A3 F.length c3, .bool tu1, .bool fa1, .int .i64 ag, .bool jo] 31 (0, 0))) := blk_keep hb31 (blk_keep (W := w30) (by (repeat (first | exact Below.refl _ _ | refine bel_drewN ?_ _ | refine bel_drew ?_ | refine bel_alloc ?_ _ | refine bel_set ?_ (by simp) _))) Bx_30.out)
                    have Bt_31 : Hid (w31.heap[b]? = some (.cells #[.slice Au TT.length cu] 29 (0, 0))) := blk_keep hb31 (blk_keep (W := w30) (by (repeat (first | exact Below.refl _ _ | refine bel_drewN ?_ _ | refine bel_drew ?_ | refine bel_alloc ?_ _ | refine bel_set ?_ (by simp) _))) Bt_30.out)
                    have x0_31 : w31.cell? ⟨g, 0, none⟩ = some (.bool he) := blk_cell Bx_31.out rfl
                    have xf0_31 : w31.frozen? ⟨g, 0, none⟩ = false := blk_frozen Bx_31.out
                    have x1_31 : w31.cell? ⟨g, 1, none⟩ = some (.slice A1 R.length c1) := blk_cell Bx_31.out rfl
                    have xf1_31 : w31.frozen? ⟨g, 1, none⟩ = false := blk_frozen Bx_31.out
                    have x2_31 : w31.cell? ⟨g, 2, none⟩ = some (.slice A2 H.length c2) := blk_cell Bx_31.out rfl
                    have xf2_31 : w31.frozen? ⟨g, 2, none⟩ = false := blk_frozen Bx_31.out
                    have x3_31 : w31.cell? ⟨g, 3, none⟩ = some (.slice A3 F.length c3) := blk_cell Bx_31.out rfl
                    have xf3_31 : w31.frozen? ⟨g, 3, none⟩ = false := blk_frozen Bx_31.out
                    have x4_31 : w31.cell? ⟨g, 4, none⟩ = some (.bool tu1) := blk_cell Bx_31.out rfl
                    have xf4_31 : w31.frozen? ⟨g, 4, none⟩ = false := blk_frozen Bx_31.out
                    have x5_31 : w31.cell? ⟨g, 5, none⟩ = some (.bool fa1) := blk_cell Bx_31.out rfl
                    have xf5_31 : w31.frozen? ⟨g, 5, none⟩ = false := blk_frozen Bx_31.out
                    have x6_31 : w31.cell? ⟨g, 6, none⟩ = some (.int .i64 ag) := blk_cell Bx_31.out rfl
                    have xf6_31 : w31.frozen? ⟨g, 6, none⟩ = false := blk_frozen Bx_31.out
                    have x7_31 : w31.cell? ⟨g, 7, none⟩ = some (.bool jo) := blk_cell Bx_31.out rfl
                    have xf7_31 : w31.frozen? ⟨g, 7, none⟩ = false := blk_frozen Bx_31.out
                    have xz_31 : g < w31.heap.size := blk_lt Bx_31.out
                    have t0_31 : w31.cell? ⟨b, 0, none⟩ = some (.slice Au TT.length cu) := blk_cell Bt_31.out rfl
                    have tz_31 : b < w31.heap.size := blk_lt Bt_31.out
                    clear S1_30 S2_30 S3_30 Su_30 Bx_30 x0_30 x1_30 x2_30 x3_30 x4_30 x5_30 x6_30 x7_30 xf0_30 xf1_30 xf2_30 xf3_30 xf4_30 xf5_30 xf6_30 xf7_30 xz_30 Bt_30 t0_30 tz_30 HB_30 hb31
                    have htp := HTP.out
                    generalize lenL TT = lt at *
                    go_wp2_with fail
                    refine (less_any A1 c1 R Au cu TT _ (by repeat (first | exact S1_31.out | refine Sp.alloc ?_ _ | refine Sp.drewN ?_ _ | refine Sp.drew ?_)) (by repeat (first | exact Su_31.out | refine Sp.alloc ?_ _ | refine Sp.drewN ?_ _ | refine Sp.drew ?_)) KR.out KT.out (by omega) (by omega)).mono ?_
                    rintro e32 w32 ⟨Ar, cr, rfl, hs32, hb32⟩
                    have HB_32 : Hid (Below w.heap.size w w32) := bel_chain hb32 (by repeat (first | exact HB_31.out | refine bel_drewN ?_ _ | refine bel_drew ?_ | refine bel_alloc ?_ _))
                    have S1_32 : Hid (Sp w32 A1 c1 (R)) := Sp.below (by repeat (first | exact S1_31.out | refine Sp.alloc ?_ _ | refine Sp.drewN ?_ _ | refine Sp.drew ?_)) hb32
                    have S2_32 : Hid (Sp w32 A2 c2 (H)) := Sp.below (by repeat (first | exact S2_31.out | refine Sp.alloc ?_ _ | refine Sp.drewN ?_ _ | refine Sp.drew ?_)) hb32
                    have S3_32 : Hid (Sp w32 A3 c3 (F)) := Sp.below (by repeat (first | exact S3_31.out | refine Sp.alloc ?_ _ | refine Sp.drewN ?_ _ | refine Sp.drew ?_)) hb32
                    have Su_32 : Hid (Sp w32 Au cu (TT)) := Sp.below (by repeat (first | exact Su_31.out | refine Sp.alloc ?_ _ | refine Sp.drewN ?_ _ | refine Sp.drew ?_)) hb32
                    have Bx_32 : Hid (w32.heap[g]? = some (.cells #[.bool he, .slice A1 R.length c1, .slice A2 H.length c2, .slice A3 F.length c3, .bool tu1, .bool fa1, .int .i64 ag, .bool jo] 31 (0, 0))) := blk_keep hb32 (blk_keep (W := w31) (by (repeat (first | exact Below.refl _ _ | refine bel_drewN ?_ _ | refine bel_drew ?_ | refine bel_alloc ?_ _ | refine bel_set ?_ (by simp) _))) Bx_31.out)
                    have Bt_32 : Hid (w32.heap[b]? = some (.cells #[.slice Au TT.length cu] 29 (0, 0))) := blk_keep hb32 (blk_keep (W := w31) (by (repeat (first | exact Below.refl _ _ | refine bel_drewN ?_ _ | refine bel_drew ?_ | refine bel_alloc ?_ _ | refine bel_set ?_ (by simp) _))) Bt_31.out)
                    have x0_32 : w32.cell? ⟨g, 0, none⟩ = some (.bool he) := blk_cell Bx_32.out rfl
                    have xf0_32 : w32.frozen? ⟨g, 0, none⟩ = false := blk_frozen Bx_32.out
                    have x1_32 : w32.cell? ⟨g, 1, none⟩ = some (.slice A1 R.length c1) := blk_cell Bx_32.out rfl
                    have xf1_32 : w32.frozen? ⟨g, 1, none⟩ = false := blk_frozen Bx_32.out
                    have x2_32 : w32.cell? ⟨g, 2, none⟩ = some (.slice A2 H.length c2) := blk_cell Bx_32.out rfl
                    have xf2_32 : w32.frozen? ⟨g, 2, none⟩ = false := blk_frozen Bx_32.out
                    have x3_32 : w32.cell? ⟨g, 3, none⟩ = some (.slice A3 F.length c3) := blk_cell Bx_32.out rfl
                    have xf3_32 : w32.frozen? ⟨g, 3, none⟩ = false := blk_frozen Bx_32.out
                    have x4_32 : w32.cell? ⟨g, 4, none⟩ = some (.bool tu1) := blk_cell Bx_32.out rfl
                    have xf4_32 : w32.frozen? ⟨g, 4, none⟩ = false := blk_frozen Bx_32.out
                    have x5_32 : w32.cell? ⟨g, 5, none⟩ = some (.bool fa1) := blk_cell Bx_32.out rfl
                    have xf5_32 : w32.frozen? ⟨g, 5, none⟩ = false := blk_frozen Bx_32.out
                    have x6_32 : w32.cell? ⟨g, 6, none⟩ = some (.int .i64 ag) := blk_cell Bx_32.out rfl
                    have xf6_32 : w32.frozen? ⟨g, 6, none⟩ = false := blk_frozen Bx_32.out
                    have x7_32 : w32.cell? ⟨g, 7, none⟩ = some (.bool jo) := blk_cell Bx_32.out rfl
                    have xf7_32 : w32.frozen? ⟨g, 7, none⟩ = false := blk_frozen Bx_32.out
                    have xz_32 : g < w32.heap.size := blk_lt Bx_32.out
                    have t0_32 : w32.cell? ⟨b, 0, none⟩ = some (.slice Au TT.length cu) := blk_cell Bt_32.out rfl
                    have tz_32 : b < w32.heap.size := blk_lt Bt_32.out
                    have Sr_32 : Hid (Sp w32 Ar cr (ofOp R TT 3)) := hs32
                    clear S1_31 S2_31 S3_31 Su_31 Bx_31 x0_31 x1_31 x2_31 x3_31 x4_31 x5_31 x6_31 x7_31 xf0_31 xf1_31 xf2_31 xf3_31 xf4_31 xf5_31 xf6_31 xf7_31 xz_31 Bt_31 t0_31 tz_31 hs32 HB_31 hb32
                    go_wp2_with fail
                    go_meet
                    exact ⟨rfl, tu1, fa1, true, Ar, cr, ofOp R TT 3, A2, c2, H, A3, c3, F, HNX.out, ((EndsAt.mk Bx_32.out S1_32.out S2_32.out S3_32.out HB_32.out).set1 hg3 Sr_32.out).set0 hg3 true⟩
              · as_aux_lemma =>
                  have HNX := Lib.hid (HI.out.wait hR hx hf hn1 hn5)
                  have HTP := Lib.hid (told_pos hR HI.out.kR hn1 hf)
                  clear hR hx hf
                  have hgz : g < w24.heap.size := xz_24
                  have KN := Lib.hid (firstN_canon KR.out hn1)
                  have lN := firstN_length R n
                  have HA4 : Hid (EndsAt w w24 g he A1 c1 R A2 c2 H A3 c3 F tu1 fa1 ag jo) := ⟨Bx_24.out, S1_24.out, S2_24.out, S3_24.out, HB_24.out⟩
                  go_upto_region 25 with fail
                  go_cut [12] (fun s wx => ∃ (b : Nat) (Au : Option Addr) (cu : Nat), s = .pointer (some ⟨b, 0, none⟩) ∧ g < b ∧ wx.heap[b]? = some (.cells #[.slice Au (ofOp (firstN R n) F 2).length cu] 29 (0, 0)) ∧ Sp wx Au cu (ofOp (firstN R n) F 2) ∧ EndsAt w wx g he A1 c1 R A2 c2 H A3 c3 F tu1 fa1 ag jo)
                  case first =>
                    first
                      | (go_region_with ((first
                          | (go_at_call 16
                             refine (first37_any A1 c1 R n _ (by repeat (first | (with_reducible refine Sp.drew ?_) | (with_reducible exact S1_24.out) | (with_reducible refine Sp.alloc ?_ _))) KR.out (by omega) hn1 (by omega)).mono ?_
                             rintro e25 w25 ⟨At, ct, rfl, hs25, hb25⟩
                             have hq25 : Below w24.heap.size w24 w25 := bel_chain hb25 (by repeat (first | (with_reducible exact Below.refl _ _) | (with_reducible refine bel_alloc ?_ _) | (with_reducible refine bel_drew ?_)))
                             have Q25 := Lib.hid hq25
                             have ST_25 := Lib.hid hs25
                             have y_25 := cell_keep hq25 x3_24
                             have gz_25 : g < w25.heap.size := World.block_lt_of_cell? w25 ⟨g, 3, none⟩ y_25
                             (first
                               | (have xb_25 : Hid (w25.heap[w24.heap.size]? = some (.cells #[.slice none 0 0] 29 (0, 0))) := blk_keep hb25 (blk_drew (blk_new rfl)))
                               | skip)
                             clear hs25 hb25 hq25)
                          | (go_at_call 17
                             refine (and_any At ct (firstN R n) A3 c3 F _ (by repeat (first | (with_reducible refine Sp.drew ?_) | (with_reducible exact ST_25.out) | (with_reducible refine Sp.alloc ?_ _))) (by repeat (first | (with_reducible refine Sp.drew ?_) | (with_reducible exact S3_24.out.below Q25.out) | (with_reducible refine Sp.alloc ?_ _))) KN.out KF.out (by omega) (by omega)).mono ?_
                             rintro e26 w26 ⟨Au, cu, rfl, hs26, hb26⟩
                             have hq26 : Below w25.heap.size w25 w26 := bel_chain hb26 (by repeat (first | (with_reducible exact Below.refl _ _) | (with_reducible refine bel_alloc ?_ _) | (with_reducible refine bel_drew ?_)))
                             have Q26 := Lib.hid (bel_chain hq26 Q25.out)
                             have SU_26 := Lib.hid hs26
                             (first
                               | (have xb_26 := Lib.hid (blk_keep hq26 xb_25.out); have xc_26 := cells1 xb_26.out; have xf_26 := blk_frozen (i := 0) xb_26.out; have xz_26 := blk_lt xb_26.out)
                               | (have xb_26 : Hid (w26.heap[w25.heap.size]? = some (.cells #[.slice none 0 0] 29 (0, 0))) := blk_keep hb26 (blk_new rfl); have xc_26 := cells1 xb_26.out; have xf_26 := blk_frozen (i := 0) xb_26.out; have xz_26 := blk_lt xb_26.out)
                               | skip)
                             clear hs26 hb26 hq26))))
                      | fail
                    all_goals go_wp2_with fail
                    all_goals go_meet
                    all_goals (first
                      | exact ⟨_, Au, cu, rfl, by have := Q25.out.size; have := Q26.out.size; omega, blk_set xb_26.out, SU_26.out.setOff (fun h0 => SU_26.out.off_blk h0 xb_26.out (noPair1 _)) _, (HA4.out.below Q26.out).setOther (by have := Q25.out.size; omega) xb_26.out (by have := Q25.out.size; omega) _⟩
                      | exact ⟨_, Au, cu, rfl, by have := Q26.out.size; omega, blk_new rfl, SU_26.out.alloc _, (HA4.out.below Q26.out).below (bel_alloc (Below.refl _ _) _)⟩)
                  case rest =>
                    obtain ⟨b, Au, cu, rfl, hgb, hBb, hSu, hat2⟩ := hcut
                    obtain ⟨w30, rfl⟩ : ∃ w30 : World, w30 = wc := ⟨_, rfl⟩
                    have HB_30 := Lib.hid hat2.bel
                    have S1_30 := Lib.hid hat2.s1
                    have S2_30 := Lib.hid hat2.s2
                    have S3_30 := Lib.hid hat2.s3
                    have Bx_30 := Lib.hid hat2.st
                    have Bt_30 := Lib.hid hBb
                    have Su_30 := Lib.hid hSu
                    have KT := Lib.hid (ofOp_canon (firstN R n) F 2)
                    have lT := and_few (firstN R n) F
                    clear hat2 hBb hSu HA4 KN x0_24 x1_24 x2_24 x3_24 x4_24 x5_24 x6_24 x7_24 xf0_24 xf1_24 xf2_24 xf3_24 xf4_24 xf5_24 xf6_24 xf7_24 xz_24 Bx_24 S1_24 S2_24 S3_24 HB_24 hgz
                    generalize ofOp (firstN R n) F 2 = TT at *
                    have x0_30 : w30.cell? ⟨g, 0, none⟩ = some (.bool he) := blk_cell Bx_30.out rfl
                    have xf0_30 : w30.frozen? ⟨g, 0, none⟩ = false := blk_frozen Bx_30.out
                    have x1_30 : w30.cell? ⟨g, 1, none⟩ = some (.slice A1 R.length c1) := blk_cell Bx_30.out rfl
                    have xf1_30 : w30.frozen? ⟨g, 1, none⟩ = false := blk_frozen Bx_30.out
                    have x2_30 : w30.cell? ⟨g, 2, none⟩ = some (.slice A2 H.length c2) := blk_cell Bx_30.out rfl
                    have xf2_30 : w30.frozen? ⟨g, 2, none⟩ = false := blk_frozen Bx_30.out
                    have x3_30 : w30.cell? ⟨g, 3, none⟩ = some (.slice A3 F.length c3) := blk_cell Bx_30.out rfl
                    have xf3_30 : w30.frozen? ⟨g, 3, none⟩ = false := blk_frozen Bx_30.out
                    have x4_30 : w30.cell? ⟨g, 4, none⟩ = some (.bool tu1) := blk_cell Bx_30.out rfl
                    have xf4_30 : w30.frozen? ⟨g, 4, none⟩ = false := blk_frozen Bx_30.out
                    have x5_30 : w30.cell? ⟨g, 5, none⟩ = some (.bool fa1) := blk_cell Bx_30.out rfl
                    have xf5_30 : w30.frozen? ⟨g, 5, none⟩ = false := blk_frozen Bx_30.out
                    have x6_30 : w30.cell? ⟨g, 6, none⟩ = some (.int .i64 ag) := blk_cell Bx_30.out rfl
                    have xf6_30 : w30.frozen? ⟨g, 6, none⟩ = false := blk_frozen Bx_30.out
                    have x7_30 : w30.cell? ⟨g, 7, none⟩ = some (.bool jo) := blk_cell Bx_30.out rfl
                    have xf7_30 : w30.frozen? ⟨g, 7, none⟩ = false := blk_frozen Bx_30.out
                    have xz_30 : g < w30.heap.size := blk_lt Bx_30.out
                    have t0_30 : w30.cell? ⟨b, 0, none⟩ = some (.slice Au TT.length cu) := blk_cell Bt_30.out rfl
                    have tz_30 : b < w30.heap.size := blk_lt Bt_30.out
                    go_wp2_with fail
                    refine (len_any Au cu TT _ (by repeat (first | exact Su_30.out | refine Sp.alloc ?_ _ | refine Sp.drewN ?_ _ | refine Sp.drew ?_)) KT.out (by omega)).mono ?_
                    rintro e31 w31 ⟨rfl, hb31⟩
                    have HB_31 : Hid (Below w.heap.size w w31) := bel_chain hb31 (by repeat (first | exact HB_30.out | refine bel_drewN ?_ _ | refine bel_drew ?_ | refine bel_alloc ?_ _))
                    have S1_31 : Hid (Sp w31 A1 c1 (R)) := Sp.below (by repeat (first | exact S1_30.out | refine Sp.alloc ?_ _ | refine Sp.drewN ?_ _ | refine Sp.drew ?_)) hb31
                    have S2_31 : Hid (Sp w31 A2 c2 (H)) := Sp.below (by repeat (first | exact S2_30.out | refine Sp.alloc ?_ _ | refine Sp.drewN ?_ _ | refine Sp.drew ?_)) hb31
                    have S3_31 : Hid (Sp w31 A3 c3 (F)) := Sp.below (by repeat (first | exact S3_30.out | refine Sp.alloc ?_ _ | refine Sp.drewN ?_ _ | refine Sp.drew ?_)) hb31
                    have Su_31 : Hid (Sp w31 Au cu (TT)) := Sp.below (by repeat (first | exact Su_30.out | refine Sp.alloc ?_ _ | refine Sp.drewN ?_ _ | refine Sp.drew ?_)) hb31
                    have Bx_31 : Hid (w31.heap[g]? = some (.cells #[.bool he, .slice A1 R.length c1, .slice A2 H.length c2, .slice A3 F.length c3, .bool tu1, .bool fa1, .int .i64 ag, .bool jo] 31 (0, 0))) := blk_keep hb31 (blk_keep (W := w30) (by (repeat (first | exact Below.refl _ _ | refine bel_drewN ?_ _ | refine bel_drew ?_ | refine bel_alloc ?_ _ | refine bel_set ?_ (by simp) _))) Bx_30.out)
                    have Bt_31 : Hid (w31.heap[b]? = some (.cells #[.slice Au TT.length cu] 29 (0, 0))) := blk_keep hb31 (blk_keep (W := w30) (by (repeat (first | exact Below.refl _ _ | refine bel_drewN ?_ _ | refine bel_drew ?_ | refine bel_alloc ?_ _ | refine bel_set ?_ (by simp) _))) Bt_30.out)
                    have x0_31 : w31.cell? ⟨g, 0, none⟩ = some (.bool he) := blk_cell Bx_31.out rfl
                    have xf0_31 : w31.frozen? ⟨g, 0, none⟩ = false := blk_frozen Bx_31.out
                    have x1_31 : w31.cell? ⟨g, 1, none⟩ = some (.slice A1 R.length c1) := blk_cell Bx_31.out rfl
                    have xf1_31 : w31.frozen? ⟨g, 1, none⟩ = false := blk_frozen Bx_31.out
                    have x2_31 : w31.cell? ⟨g, 2, none⟩ = some (.slice A2 H.length c2) := blk_cell Bx_31.out rfl
                    have xf2_31 : w31.frozen? ⟨g, 2, none⟩ = false := blk_frozen Bx_31.out
                    have x3_31 : w31.cell? ⟨g, 3, none⟩ = some (.slice A3 F.length c3) := blk_cell Bx_31.out rfl
                    have xf3_31 : w31.frozen? ⟨g, 3, none⟩ = false := blk_frozen Bx_31.out
                    have x4_31 : w31.cell? ⟨g, 4, none⟩ = some (.bool tu1) := blk_cell Bx_31.out rfl
                    have xf4_31 : w31.frozen? ⟨g, 4, none⟩ = false := blk_frozen Bx_31.out
                    have x5_31 : w31.cell? ⟨g, 5, none⟩ = some (.bool fa1) := blk_cell Bx_31.out rfl
                    have xf5_31 : w31.frozen? ⟨g, 5, none⟩ = false := blk_frozen Bx_31.out
                    have x6_31 : w31.cell? ⟨g, 6, none⟩ = some (.int .i64 ag) := blk_cell Bx_31.out rfl
                    have xf6_31 : w31.frozen? ⟨g, 6, none⟩ = false := blk_frozen Bx_31.out
                    have x7_31 : w31.cell? ⟨g, 7, none⟩ = some (.bool jo) := blk_cell Bx_31.out rfl
                    have xf7_31 : w31.frozen? ⟨g, 7, none⟩ = false := blk_frozen Bx_31.out
                    have xz_31 : g < w31.heap.size := blk_lt Bx_31.out
                    have t0_31 : w31.cell? ⟨b, 0, none⟩ = some (.slice Au TT.length cu) := blk_cell Bt_31.out rfl
                    have tz_31 : b < w31.heap.size := blk_lt Bt_31.out
                    clear S1_30 S2_30 S3_30 Su_30 Bx_30 x0_30 x1_30 x2_30 x3_30 x4_30 x5_30 x6_30 x7_30 xf0_30 xf1_30 xf2_30 xf3_30 xf4_30 xf5_30 xf6_30 xf7_30 xz_30 Bt_30 t0_30 tz_30 HB_30 hb31
                    have htp := HTP.out
                    generalize lenL TT = lt at *
                    have lq : H.length ≤ 100000 := by omega
                    have lr : F.length ≤ 100000 := by omega
                    have ls : TT.length ≤ 100000 := by omega
                    have HA5 : Hid (EndsAt w w31 g he A1 c1 R A2 c2 H A3 c3 F tu1 fa1 ag jo) := ⟨Bx_31.out, S1_31.out, S2_31.out, S3_31.out, HB_31.out⟩
                    go_upto_region 28 with fail
                    clear HTP htp HI KR x0_31 x1_31 x4_31 x5_31 x6_31 x7_31 xf0_31 xf1_31 xf2_31 xf3_31 xf4_31 xf5_31 xf6_31 xf7_31 S1_31 HB_31 lT lN ll lR lH lF hi401 hi2 hn1 hn5
                    have hbg' : b ≠ g := by omega
                    refine wp_region_split (S := fun w' => w'.cell? ⟨b, 0, none⟩ = some (.slice Au TT.length cu) ∧ w'.cell? ⟨g, 2, none⟩ = some (.slice A2 H.length c2) ∧ w'.cell? ⟨g, 3, none⟩ = some (.slice A3 F.length c3)) 9 (by kernel_rfl) (by kernel_rfl) ⟨t0_31, x2_31, x3_31⟩ (fun hHeld => ?_)
                    simp only [List.take_succ_cons, List.take_zero, List.drop_succ_cons, List.drop_zero]
                    refine wpAnyH_take (i := 0) (oi := { dst := some 108, op := Op.fieldAddr 31 (Operand.tmp 5) 2, type := 0, pos := "law.go:188", after := #[], guard := none }) (v := ?va0) rfl (by kernel_rfl) (by kernel_rfl) (by kernel_rfl) (fun _ _ _ h => h) (Or.inl ⟨by rfl, ?ya0⟩) (by assumption) ?ra0
                    case ya0 =>
                      intro w hSw
                      (try dsimp only at hSw)
                      go_simp
                      first | done | (with_reducible rfl)
                    case ra0 =>
                      (try simp only [Act.put, List.setIfInBounds_toArray, List.set_cons_zero, List.set_cons_succ])
                      refine wpAnyH_take (i := 1) (oi := { dst := some 109, op := Op.load 29 (Operand.tmp 108), type := 29, pos := "law.go:188", after := #[{ on := 0, ground := Ground.data }], guard := none }) (v := ?va1) rfl (by kernel_rfl) (by kernel_rfl) (by kernel_rfl) (fun _ _ _ h => h) (Or.inl ⟨by rfl, ?ya1⟩) (by assumption) ?ra1
                      case ya1 =>
                        intro w hSw
                        (try dsimp only at hSw)
                        go_simp
                        first | done | (with_reducible rfl)
                      case ra1 =>
                        (try simp only [Act.put, List.setIfInBounds_toArray, List.set_cons_zero, List.set_cons_succ])
                        refine wpAnyH_take (i := 2) (oi := { dst := some 110, op := Op.load 29 (Operand.tmp 12), type := 29, pos := "law.go:188", after := #[], guard := none }) (v := ?va2) rfl (by kernel_rfl) (by kernel_rfl) (by kernel_rfl) (fun _ _ _ h => h) (Or.inl ⟨by rfl, ?ya2⟩) (by assumption) ?ra2
                        case ya2 =>
                          intro w hSw
                          (try dsimp only at hSw)
                          go_simp
                          first | done | (with_reducible rfl)
                        case ra2 =>
                          (try simp only [Act.put, List.setIfInBounds_toArray, List.set_cons_zero, List.set_cons_succ])
                          refine wpAnyH_take (i := 4) (oi := { dst := some 112, op := Op.fieldAddr 31 (Operand.tmp 5) 3, type := 0, pos := "law.go:188", after := #[], guard := none }) (v := ?va4) rfl (by kernel_rfl) (by kernel_rfl) (by kernel_rfl) (fun _ _ _ h => h) (Or.inl ⟨by rfl, ?ya4⟩) (by assumption) ?ra4
                          case ya4 =>
                            intro w hSw
                            (try dsimp only at hSw)
                            go_simp
                            first | done | (with_reducible rfl)
                          case ra4 =>
                            (try simp only [Act.put, List.setIfInBounds_toArray, List.set_cons_zero, List.set_cons_succ])
                            refine wpAnyH_take (i := 5) (oi := { dst := some 113, op := Op.load 29 (Operand.tmp 112), type := 29, pos := "law.go:188", after := #[{ on := 4, ground := Ground.data }], guard := none }) (v := ?va5) rfl (by kernel_rfl) (by kernel_rfl) (by kernel_rfl) (fun _ _ _ h => h) (Or.inl ⟨by rfl, ?ya5⟩) (by assumption) ?ra5
                            case ya5 =>
                              intro w hSw
                              (try dsimp only at hSw)
                              go_simp
                              first | done | (with_reducible rfl)
                            case ra5 =>
                              (try simp only [Act.put, List.setIfInBounds_toArray, List.set_cons_zero, List.set_cons_succ])
                              refine wpAnyH_take (i := 6) (oi := { dst := some 114, op := Op.load 29 (Operand.tmp 12), type := 29, pos := "law.go:188", after := #[], guard := none }) (v := ?va6) rfl (by kernel_rfl) (by kernel_rfl) (by kernel_rfl) (fun _ _ _ h => h) (Or.inl ⟨by rfl, ?ya6⟩) (by assumption) ?ra6
                              case ya6 =>
                                intro w hSw
                                (try dsimp only at hSw)
                                go_simp
                                first | done | (with_reducible rfl)
                              case ra6 =>
                                (try simp only [Act.put, List.setIfInBounds_toArray, List.set_cons_zero, List.set_cons_succ])
                                refine wpAnyH_ready (rs := [3]) (by kernel_rfl) (by simp) ?_
                                refine AllReadyH.cons (o := { dst := some 111, op := Op.call { callee := Callee.value (Operand.func 19), args := #[Operand.tmp 109, Operand.tmp 110], argTypes := #[29, 29] }, type := 29, pos := "law.go:188", after := #[{ on := 1, ground := Ground.data }, { on := 2, ground := Ground.data }], guard := none }) rfl (fun K hK => ?_) AllReadyH.nil
                                go_simp
                                go_wp2_with (go_at_call 19; go_must (refine (or_any A2 c2 H Au cu TT _ (by repeat (first | (with_reducible refine Sp.drew ?_) | (with_reducible exact S2_31.out))) (by repeat (first | (with_reducible refine Sp.drew ?_) | (with_reducible exact Su_31.out))) KH.out KT.out lq ls).mono ?_; rintro e32 w32 ⟨Ah, ch, rfl, hs32, hb32⟩))
                                have hq32 : Below w31.heap.size w31 w32 := bel_chain hb32 (by repeat (first | (with_reducible exact Below.refl _ _) | (with_reducible refine bel_drew ?_)))
                                have Q32 := Lib.hid hq32
                                have SH_32 := Lib.hid hs32
                                have HA_32 := Lib.hid (HA5.out.below hq32)
                                have Su_32 := Lib.hid (Su_31.out.below hq32)
                                have x2_32 : w32.cell? ⟨g, 2, none⟩ = some (.slice A2 H.length c2) := blk_cell HA_32.out.st rfl
                                have x3_32 : w32.cell? ⟨g, 3, none⟩ = some (.slice A3 F.length c3) := blk_cell HA_32.out.st rfl
                                have t0_32 := cell_keep hq32 t0_31
                                clear hs32 hb32 hq32
                                refine hK.out _ _ ⟨t0_32, x2_32, x3_32⟩ (fun hHeld => ?_)
                                clear hK K
                                (try simp only [Act.put, List.setIfInBounds_toArray, List.set_cons_zero, List.set_cons_succ])
                                refine wpAnyH_take (i := 8) (oi := { dst := some 116, op := Op.fieldAddr 31 (Operand.tmp 5) 2, type := 0, pos := "law.go:188", after := #[{ on := 0, ground := Ground.phase }, { on := 1, ground := Ground.phase }, { on := 2, ground := Ground.phase }, { on := 3, ground := Ground.phase }, { on := 4, ground := Ground.phase }, { on := 5, ground := Ground.phase }, { on := 6, ground := Ground.textOnly Departure.lateStores }, { on := 7, ground := Ground.textOnly Departure.lateStoresUnsure }], guard := none }) (v := ?va8) rfl (by kernel_rfl) (by kernel_rfl) (by kernel_rfl) (fun _ _ _ h => h) (Or.inl ⟨by rfl, ?ya8⟩) (by assumption) ?ra8
                                case ya8 =>
                                  intro w hSw
                                  (try dsimp only at hSw)
                                  go_simp
                                  first | done | (with_reducible rfl)
                                case ra8 =>
                                  (try simp only [Act.put, List.setIfInBounds_toArray, List.set_cons_zero, List.set_cons_succ])
                                  refine wpAnyH_ready (rs := [7]) (by kernel_rfl) (by simp) ?_
                                  refine AllReadyH.cons (o := { dst := some 115, op := Op.call { callee := Callee.value (Operand.func 18), args := #[Operand.tmp 113, Operand.tmp 114], argTypes := #[29, 29] }, type := 29, pos := "law.go:188", after := #[{ on := 5, ground := Ground.data }, { on := 6, ground := Ground.data }, { on := 3, ground := Ground.chain }], guard := none }) rfl (fun K hK => ?_) AllReadyH.nil
                                  go_simp
                                  go_wp2_with (go_at_call 18; go_must (refine (less_any A3 c3 F Au cu TT _ (by with_reducible exact HA_32.out.s3) (by with_reducible exact Su_32.out) KF.out KT.out lr ls).mono ?_; rintro e33 w33 ⟨Af, cf, rfl, hs33, hb33⟩))
                                  have Q33 := Lib.hid (bel_chain hb33 Q32.out)
                                  have SF_33 := Lib.hid hs33
                                  have SH_33 := Lib.hid (SH_32.out.below hb33)
                                  have HA_33 := Lib.hid (HA_32.out.below hb33)
                                  have x2_33 : w33.cell? ⟨g, 2, none⟩ = some (.slice A2 H.length c2) := blk_cell HA_33.out.st rfl
                                  have x3_33 : w33.cell? ⟨g, 3, none⟩ = some (.slice A3 F.length c3) := blk_cell HA_33.out.st rfl
                                  have xf2_33 : w33.frozen? ⟨g, 2, none⟩ = false := blk_frozen HA_33.out.st
                                  have xf3_33 : w33.frozen? ⟨g, 3, none⟩ = false := blk_frozen HA_33.out.st
                                  have xz_33 : g < w33.heap.size := blk_lt HA_33.out.st
                                  have t0_33 := cell_keep hb33 t0_32
                                  clear hs33 hb33
                                  refine hK.out _ _ ⟨t0_33, x2_33, x3_33⟩ (fun hHeld => ?_)
                                  clear hK K
                                  (try simp only [Act.put, List.setIfInBounds_toArray, List.set_cons_zero, List.set_cons_succ])
                                  refine wpAnyH_done (by kernel_rfl) ?_ _
                                  change wpList _ _ _ _ _ _
                                  go_wp2_with fail
                                  go_meet
                                  exact ⟨rfl, tu1, fa1, he, A1, c1, R, Ah, ch, ofOp H TT 1, Af, cf, ofOp F TT 3, HNX.out, (HA_33.out.set2 hg3 SH_33.out).set3 hg3 (HA_33.out.sp SF_33.out _)⟩
              · as_aux_lemma =>
                  have HNX := Lib.hid (HI.out.ask hw)
                  obtain rfl := sure_no HI.out hw
                  have lW := ofOp_length R H 3
                  clear hw
                  have lq : H.length ≤ 100000 := by omega
                  have lr : F.length ≤ 100000 := by omega
                  have ls : R.length ≤ 100000 := by omega
                  have lw : (ofOp R H 3).length ≤ 100000 := by omega
                  have HA5 : Hid (EndsAt w w24 g he A1 c1 R A2 c2 H A3 c3 F false false ag jo) := ⟨Bx_24.out, S1_24.out, S2_24.out, S3_24.out, HB_24.out⟩
                  go_upto_region 32 with fail
                  clear HI x0_24 x4_24 x5_24 x6_24 x7_24 xf0_24 xf1_24 xf2_24 xf3_24 xf4_24 xf5_24 xf6_24 xf7_24 HB_24 ll lR lH lF hi401 hi2 hn1 hn5 lW
                  first
                    | (go_region_with ((first
                        | (go_at_call 18
                           refine (less_any A1 c1 R A2 c2 H _ (by repeat (first | (with_reducible refine Sp.drew ?_) | (with_reducible exact S1_24.out))) (by repeat (first | (with_reducible refine Sp.drew ?_) | (with_reducible exact S2_24.out))) KR.out KH.out ls lq).mono ?_
                           rintro e25 w25 ⟨Aw, cw, rfl, hs25, hb25⟩
                           have hq25 : Below w24.heap.size w24 w25 := bel_chain hb25 (by repeat (first | (with_reducible exact Below.refl _ _) | (with_reducible refine bel_drew ?_)))
                           have Q25 := Lib.hid hq25
                           have SW_25 := Lib.hid hs25
                           have x3_25 := cell_keep hq25 x3_24
                           clear hs25 hb25 hq25)
                        | (go_at_call 19
                           refine (or_any A3 c3 F Aw cw (ofOp R H 3) _ (by repeat (first | (with_reducible refine Sp.drew ?_) | (with_reducible exact S3_24.out.below Q25.out))) (by repeat (first | (with_reducible refine Sp.drew ?_) | (with_reducible exact SW_25.out))) KF.out (ofOp_canon _ _ _) lr lw).mono ?_
                           rintro e26 w26 ⟨Af, cf, rfl, hs26, hb26⟩
                           have hq26 : Below w25.heap.size w25 w26 := bel_chain hb26 (by repeat (first | (with_reducible exact Below.refl _ _) | (with_reducible refine bel_drew ?_)))
                           have Q26 := Lib.hid (bel_chain hq26 Q25.out)
                           have SF_26 := Lib.hid hs26
                           have Bx_26 := Lib.hid (blk_keep Q26.out Bx_24.out)
                           have x3_26 : w26.cell? ⟨g, 3, none⟩ = some (.slice A3 F.length c3) := blk_cell Bx_26.out rfl
                           have xf3_26 : w26.frozen? ⟨g, 3, none⟩ = false := blk_frozen Bx_26.out
                           have xz_26 : g < w26.heap.size := blk_lt Bx_26.out
                           clear hs26 hb26 hq26))))
                    | fail
                  all_goals go_wp2_with fail
                  all_goals go_meet
                  all_goals exact ⟨rfl, false, false, he, A1, c1, R, A2, c2, H, Af, cf, ofOp F (ofOp R H 3) 1, HNX.out, (HA5.out.below Q26.out).set3 hg3 SF_26.out⟩
              · as_aux_lemma =>
                  obtain rfl := sure_no HI.out hw
                  clear hw
                  rcases hv with rfl | rfl
                  all_goals
                    go_wp2_with fail
                    go_ret
                    exact ⟨rfl, (by repeat (first | (with_reducible exact HB_24.out) | (with_reducible refine bel_drewN ?_ _) | (with_reducible refine bel_drew ?_) | (with_reducible refine bel_alloc ?_ _)))⟩
end Go.Proofs.YtfpfdgljhcpkpaaDoor
