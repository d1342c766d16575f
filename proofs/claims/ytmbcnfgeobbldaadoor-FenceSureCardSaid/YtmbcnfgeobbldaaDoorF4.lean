/- Contract of the reference's Decide; Great; spans; the texts. -/
import Derived.Test.YtmbcnfgeobbldaaDoorF3
namespace Go.Proofs.YtmbcnfgeobbldaaDoor
open Go.RowKit

set_option maxHeartbeats 4000000 in
set_option maxRecDepth 100000 in
theorem rdecide_any (he : Bool) (A1 : Option Addr) (c1 : Nat) (R : List (Int × Int)) (A2 : Option Addr) (c2 : Nat) (H : List (Int × Int)) (A3 : Option Addr) (c3 : Nat) (F : List (Int × Int)) (tu fa : Bool) (ag : Int) (jo : Bool) (w : World) (h1 : Sp w A1 c1 R) (h2 : Sp w A2 c2 H) (h3 : Sp w A3 c3 F) (l1 : R.length ≤ 10000) (l2 : H.length ≤ 10000) (l3 : F.length ≤ 10000) :
    Calls Tryd.prog 44 #[.agg #[.bool he, .slice A1 R.length c1, .slice A2 H.length c2, .slice A3 F.length c3, .bool tu, .bool fa, .int .i64 ag, .bool jo]] w fun e w' => e = .returned (.int .i64 (decideL he tu fa jo ag R H F)) ∧ Below w.heap.size w w' := by
  have S1_0 := Lib.hid h1
  have S2_0 := Lib.hid h2
  have S3_0 := Lib.hid h3
  clear h1 h2 h3
  rcases nil_or R with hR | ⟨x1, x2, r, hR⟩
  · rw [decideL_nil hR]
    have n0 : (R.length == 0) = true := by rw [hR]; rfl
    have n1 : ((R.length : Int) == 0) = true := by rw [hR]; rfl
    clear hR
    go_enter Tryd.func44, Tryd.ntmps44
    go_wp2_with fail
    go_ret
    exact ⟨rfl, by (repeat (first | exact Below.refl _ _ | refine bel_drewN ?_ _ | refine bel_drew ?_ | refine bel_alloc ?_ _ | refine bel_set ?_ (by simp) _))⟩
  · rw [decideL_cons hR]
    have HR := Lib.hid hR
    have hpos : 0 < R.length := by rw [hR]; simp
    have n0 : (R.length == 0) = false := by rw [hR]; rfl
    have n1 : ((R.length : Int) == 0) = false := by rw [beq_eq_false_iff_ne]; omega
    obtain ⟨b, off, hA, hb, d1, _⟩ := S1_0.out.at_ hpos
    have e0 : R[0] = (x1, x2) := by simp [hR]
    rw [e0] at d1
    have d1' : w.cell? ⟨b, off, none⟩ = some (.int .i64 x1) := by simpa using d1
    have D1 := Lib.hid d1'
    clear d1 d1' e0
    have HL := fun W h1 h2 h3 => Lib.hid (rlost_any he A1 c1 R A2 c2 H A3 c3 F tu fa ag jo W h1 h2 h3 l1 l2 l3)
    have lw := lostL_length tu fa jo R H F
    generalize lostL tu fa jo R H F = Y at *
    have HH := fun W h => Lib.hid (rin_any A2 c2 H x1 W h (by omega))
    have HF := fun W h => Lib.hid (rin_any A3 c3 F x1 W h (by omega))
    clear hR
    subst hA
    rcases nil_or Y with hY | ⟨y1, y2, q, hY⟩
    · have HYB : Hid (Y.isEmpty = true) := by simp only [Hid]; rw [hY]; rfl
      have m0 : decide (0 < Y.length) = false := by rw [hY]; rfl
      have m1 : decide ((0 : Int) < (Y.length : Int)) = false := by rw [hY]; rfl
      rw [HYB.out]
      clear hY
      cases hb1 : inB H x1
      · rw [hb1] at HH
        cases hb2 : inB F x1
        · rw [hb2] at HF
          clear hb1 hb2
          go_enter Tryd.func44, Tryd.ntmps44
          go_wp2_with fail
          refine ((HL _ (by repeat (first | exact S1_0.out | refine Sp.alloc ?_ _ | refine Sp.drewN ?_ _ | refine Sp.drew ?_)) (by repeat (first | exact S2_0.out | refine Sp.alloc ?_ _ | refine Sp.drewN ?_ _ | refine Sp.drew ?_)) (by repeat (first | exact S3_0.out | refine Sp.alloc ?_ _ | refine Sp.drewN ?_ _ | refine Sp.drew ?_))).out).mono ?_
          rintro e1 w1 ⟨Al, cl, rfl, hs1, hb1⟩
          have HB_1 : Hid (Below w.heap.size w w1) := bel_chain hb1 (by repeat (first | exact Below.refl _ _ | refine bel_drewN ?_ _ | refine bel_drew ?_ | refine bel_alloc ?_ _))
          have S1_1 : Hid (Sp w1 (some ⟨b, off, none⟩) c1 (R)) := Sp.below (by repeat (first | exact S1_0.out | refine Sp.alloc ?_ _ | refine Sp.drewN ?_ _ | refine Sp.drew ?_)) hb1
          have S2_1 : Hid (Sp w1 A2 c2 (H)) := Sp.below (by repeat (first | exact S2_0.out | refine Sp.alloc ?_ _ | refine Sp.drewN ?_ _ | refine Sp.drew ?_)) hb1
          have S3_1 : Hid (Sp w1 A3 c3 (F)) := Sp.below (by repeat (first | exact S3_0.out | refine Sp.alloc ?_ _ | refine Sp.drewN ?_ _ | refine Sp.drew ?_)) hb1
          have Bs_1 : Hid (w1.heap[w.heap.size]? = some (.cells #[.bool he, .slice (some ⟨b, off, none⟩) R.length c1, .slice A2 H.length c2, .slice A3 F.length c3, .bool tu, .bool fa, .int .i64 ag, .bool jo] 52 (0, 0))) := blk_keep hb1 (by repeat (first | exact blk_new (by first | rfl | (simp; done) | (simp; omega)) | refine blk_skip ?_ | refine blk_drewN ?_ | refine blk_drew ?_))
          have s0_1 : w1.cell? ⟨w.heap.size, 0, none⟩ = some (.bool he) := blk_cell Bs_1.out rfl
          have s1_1 : w1.cell? ⟨w.heap.size, 1, none⟩ = some (.slice (some ⟨b, off, none⟩) R.length c1) := blk_cell Bs_1.out rfl
          have s2_1 : w1.cell? ⟨w.heap.size, 2, none⟩ = some (.slice A2 H.length c2) := blk_cell Bs_1.out rfl
          have s3_1 : w1.cell? ⟨w.heap.size, 3, none⟩ = some (.slice A3 F.length c3) := blk_cell Bs_1.out rfl
          have s4_1 : w1.cell? ⟨w.heap.size, 4, none⟩ = some (.bool tu) := blk_cell Bs_1.out rfl
          have s5_1 : w1.cell? ⟨w.heap.size, 5, none⟩ = some (.bool fa) := blk_cell Bs_1.out rfl
          have s6_1 : w1.cell? ⟨w.heap.size, 6, none⟩ = some (.int .i64 ag) := blk_cell Bs_1.out rfl
          have s7_1 : w1.cell? ⟨w.heap.size, 7, none⟩ = some (.bool jo) := blk_cell Bs_1.out rfl
          have sz_1 : w.heap.size < w1.heap.size := blk_lt Bs_1.out
          have Sl_1 : Hid (Sp w1 Al cl (Y)) := hs1
          clear S1_0 S2_0 S3_0 hs1 hb1
          have x_1 : w1.cell? ⟨b, off, none⟩ = some (.int .i64 x1) := cell_keep HB_1.out D1.out
          have zx_1 : b < w1.heap.size := World.block_lt_of_cell? w1 ⟨b, off, none⟩ x_1
          go_wp2_with fail
          refine ((HH _ (by repeat (first | exact S2_1.out | refine Sp.alloc ?_ _ | refine Sp.drewN ?_ _ | refine Sp.drew ?_))).out).mono ?_
          rintro e2 w2 ⟨rfl, hb2⟩
          have HB_2 : Hid (Below w.heap.size w w2) := bel_chain hb2 (by repeat (first | exact HB_1.out | refine bel_drewN ?_ _ | refine bel_drew ?_ | refine bel_alloc ?_ _))
          have x_2 : w2.cell? ⟨b, off, none⟩ = some (.int .i64 x1) := cell_keep hb2 (cell_keep (W := w1) (by (repeat (first | exact Below.refl _ _ | refine bel_drewN ?_ _ | refine bel_drew ?_ | refine bel_alloc ?_ _ | refine bel_set ?_ (by simp) _))) x_1)
          have S1_2 : Hid (Sp w2 (some ⟨b, off, none⟩) c1 (R)) := Sp.below (by repeat (first | exact S1_1.out | refine Sp.alloc ?_ _ | refine Sp.drewN ?_ _ | refine Sp.drew ?_)) hb2
          have S2_2 : Hid (Sp w2 A2 c2 (H)) := Sp.below (by repeat (first | exact S2_1.out | refine Sp.alloc ?_ _ | refine Sp.drewN ?_ _ | refine Sp.drew ?_)) hb2
          have S3_2 : Hid (Sp w2 A3 c3 (F)) := Sp.below (by repeat (first | exact S3_1.out | refine Sp.alloc ?_ _ | refine Sp.drewN ?_ _ | refine Sp.drew ?_)) hb2
          have Sl_2 : Hid (Sp w2 Al cl (Y)) := Sp.below (by repeat (first | exact Sl_1.out | refine Sp.alloc ?_ _ | refine Sp.drewN ?_ _ | refine Sp.drew ?_)) hb2
          have Bs_2 : Hid (w2.heap[w.heap.size]? = some (.cells #[.bool he, .slice (some ⟨b, off, none⟩) R.length c1, .slice A2 H.length c2, .slice A3 F.length c3, .bool tu, .bool fa, .int .i64 ag, .bool jo] 52 (0, 0))) := blk_keep hb2 (blk_keep (W := w1) (by (repeat (first | exact Below.refl _ _ | refine bel_drewN ?_ _ | refine bel_drew ?_ | refine bel_alloc ?_ _ | refine bel_set ?_ (by simp) _))) Bs_1.out)
          have s0_2 : w2.cell? ⟨w.heap.size, 0, none⟩ = some (.bool he) := blk_cell Bs_2.out rfl
          have s1_2 : w2.cell? ⟨w.heap.size, 1, none⟩ = some (.slice (some ⟨b, off, none⟩) R.length c1) := blk_cell Bs_2.out rfl
          have s2_2 : w2.cell? ⟨w.heap.size, 2, none⟩ = some (.slice A2 H.length c2) := blk_cell Bs_2.out rfl
          have s3_2 : w2.cell? ⟨w.heap.size, 3, none⟩ = some (.slice A3 F.length c3) := blk_cell Bs_2.out rfl
          have s4_2 : w2.cell? ⟨w.heap.size, 4, none⟩ = some (.bool tu) := blk_cell Bs_2.out rfl
          have s5_2 : w2.cell? ⟨w.heap.size, 5, none⟩ = some (.bool fa) := blk_cell Bs_2.out rfl
          have s6_2 : w2.cell? ⟨w.heap.size, 6, none⟩ = some (.int .i64 ag) := blk_cell Bs_2.out rfl
          have s7_2 : w2.cell? ⟨w.heap.size, 7, none⟩ = some (.bool jo) := blk_cell Bs_2.out rfl
          have sz_2 : w.heap.size < w2.heap.size := blk_lt Bs_2.out
          have zx_2 : b < w2.heap.size := World.block_lt_of_cell? w2 ⟨b, off, none⟩ x_2
          clear x_1 S1_1 S2_1 S3_1 Sl_1 Bs_1 s0_1 s1_1 s2_1 s3_1 s4_1 s5_1 s6_1 s7_1 sz_1 HB_1 zx_1 hb2
          go_wp2_with fail
          refine ((HF _ (by repeat (first | exact S3_2.out | refine Sp.alloc ?_ _ | refine Sp.drewN ?_ _ | refine Sp.drew ?_))).out).mono ?_
          rintro e3 w3 ⟨rfl, hb3⟩
          have HB_3 : Hid (Below w.heap.size w w3) := bel_chain hb3 (by repeat (first | exact HB_2.out | refine bel_drewN ?_ _ | refine bel_drew ?_ | refine bel_alloc ?_ _))
          have x_3 : w3.cell? ⟨b, off, none⟩ = some (.int .i64 x1) := cell_keep hb3 (cell_keep (W := w2) (by (repeat (first | exact Below.refl _ _ | refine bel_drewN ?_ _ | refine bel_drew ?_ | refine bel_alloc ?_ _ | refine bel_set ?_ (by simp) _))) x_2)
          have S1_3 : Hid (Sp w3 (some ⟨b, off, none⟩) c1 (R)) := Sp.below (by repeat (first | exact S1_2.out | refine Sp.alloc ?_ _ | refine Sp.drewN ?_ _ | refine Sp.drew ?_)) hb3
          have S2_3 : Hid (Sp w3 A2 c2 (H)) := Sp.below (by repeat (first | exact S2_2.out | refine Sp.alloc ?_ _ | refine Sp.drewN ?_ _ | refine Sp.drew ?_)) hb3
          have S3_3 : Hid (Sp w3 A3 c3 (F)) := Sp.below (by repeat (first | exact S3_2.out | refine Sp.alloc ?_ _ | refine Sp.drewN ?_ _ | refine Sp.drew ?_)) hb3
          have Sl_3 : Hid (Sp w3 Al cl (Y)) := Sp.below (by repeat (first | exact Sl_2.out | refine Sp.alloc ?_ _ | refine Sp.drewN ?_ _ | refine Sp.drew ?_)) hb3
          have Bs_3 : Hid (w3.heap[w.heap.size]? = some (.cells #[.bool he, .slice (some ⟨b, off, none⟩) R.length c1, .slice A2 H.length c2, .slice A3 F.length c3, .bool tu, .bool fa, .int .i64 ag, .bool jo] 52 (0, 0))) := blk_keep hb3 (blk_keep (W := w2) (by (repeat (first | exact Below.refl _ _ | refine bel_drewN ?_ _ | refine bel_drew ?_ | refine bel_alloc ?_ _ | refine bel_set ?_ (by simp) _))) Bs_2.out)
          have s0_3 : w3.cell? ⟨w.heap.size, 0, none⟩ = some (.bool he) := blk_cell Bs_3.out rfl
          have s1_3 : w3.cell? ⟨w.heap.size, 1, none⟩ = some (.slice (some ⟨b, off, none⟩) R.length c1) := blk_cell Bs_3.out rfl
          have s2_3 : w3.cell? ⟨w.heap.size, 2, none⟩ = some (.slice A2 H.length c2) := blk_cell Bs_3.out rfl
          have s3_3 : w3.cell? ⟨w.heap.size, 3, none⟩ = some (.slice A3 F.length c3) := blk_cell Bs_3.out rfl
          have s4_3 : w3.cell? ⟨w.heap.size, 4, none⟩ = some (.bool tu) := blk_cell Bs_3.out rfl
          have s5_3 : w3.cell? ⟨w.heap.size, 5, none⟩ = some (.bool fa) := blk_cell Bs_3.out rfl
          have s6_3 : w3.cell? ⟨w.heap.size, 6, none⟩ = some (.int .i64 ag) := blk_cell Bs_3.out rfl
          have s7_3 : w3.cell? ⟨w.heap.size, 7, none⟩ = some (.bool jo) := blk_cell Bs_3.out rfl
          have sz_3 : w.heap.size < w3.heap.size := blk_lt Bs_3.out
          have zx_3 : b < w3.heap.size := World.block_lt_of_cell? w3 ⟨b, off, none⟩ x_3
          clear x_2 S1_2 S2_2 S3_2 Sl_2 Bs_2 s0_2 s1_2 s2_2 s3_2 s4_2 s5_2 s6_2 s7_2 sz_2 HB_2 zx_2 hb3
          go_wp2_with fail
          go_ret
          exact ⟨ret_int (by simp), (by repeat (first | (with_reducible exact HB_3.out) | (with_reducible refine bel_drewN ?_ _) | (with_reducible refine bel_drew ?_) | (with_reducible refine bel_alloc ?_ _) | (with_reducible refine bel_set ?_ (by first | omega | (dsimp only; omega)) _)))⟩
        · rw [hb2] at HF
          clear hb1 hb2
          go_enter Tryd.func44, Tryd.ntmps44
          go_wp2_with fail
          refine ((HL _ (by repeat (first | exact S1_0.out | refine Sp.alloc ?_ _ | refine Sp.drewN ?_ _ | refine Sp.drew ?_)) (by repeat (first | exact S2_0.out | refine Sp.alloc ?_ _ | refine Sp.drewN ?_ _ | refine Sp.drew ?_)) (by repeat (first | exact S3_0.out | refine Sp.alloc ?_ _ | refine Sp.drewN ?_ _ | refine Sp.drew ?_))).out).mono ?_
          rintro e1 w1 ⟨Al, cl, rfl, hs1, hb1⟩
          have HB_1 : Hid (Below w.heap.size w w1) := bel_chain hb1 (by repeat (first | exact Below.refl _ _ | refine bel_drewN ?_ _ | refine bel_drew ?_ | refine bel_alloc ?_ _))
          have S1_1 : Hid (Sp w1 (some ⟨b, off, none⟩) c1 (R)) := Sp.below (by repeat (first | exact S1_0.out | refine Sp.alloc ?_ _ | refine Sp.drewN ?_ _ | refine Sp.drew ?_)) hb1
          have S2_1 : Hid (Sp w1 A2 c2 (H)) := Sp.below (by repeat (first | exact S2_0.out | refine Sp.alloc ?_ _ | refine Sp.drewN ?_ _ | refine Sp.drew ?_)) hb1
          have S3_1 : Hid (Sp w1 A3 c3 (F)) := Sp.below (by repeat (first | exact S3_0.out | refine Sp.alloc ?_ _ | refine Sp.drewN ?_ _ | refine Sp.drew ?_)) hb1
          have Bs_1 : Hid (w1.heap[w.heap.size]? = some (.cells #[.bool he, .slice (some ⟨b, off, none⟩) R.length c1, .slice A2 H.length c2, .slice A3 F.length c3, .bool tu, .bool fa, .int .i64 ag, .bool jo] 52 (0, 0))) := blk_keep hb1 (by repeat (first | exact blk_new (by first | rfl | (simp; done) | (simp; omega)) | refine blk_skip ?_ | refine blk_drewN ?_ | refine blk_drew ?_))
          have s0_1 : w1.cell? ⟨w.heap.size, 0, none⟩ = some (.bool he) := blk_cell Bs_1.out rfl
          have s1_1 : w1.cell? ⟨w.heap.size, 1, none⟩ = some (.slice (some ⟨b, off, none⟩) R.length c1) := blk_cell Bs_1.out rfl
          have s2_1 : w1.cell? ⟨w.heap.size, 2, none⟩ = some (.slice A2 H.length c2) := blk_cell Bs_1.out rfl
          have s3_1 : w1.cell? ⟨w.heap.size, 3, none⟩ = some (.slice A3 F.length c3) := blk_cell Bs_1.out rfl
          have s4_1 : w1.cell? ⟨w.heap.size, 4, none⟩ = some (.bool tu) := blk_cell Bs_1.out rfl
          have s5_1 : w1.cell? ⟨w.heap.size, 5, none⟩ = some (.bool fa) := blk_cell Bs_1.out rfl
          have s6_1 : w1.cell? ⟨w.heap.size, 6, none⟩ = some (.int .i64 ag) := blk_cell Bs_1.out rfl
          have s7_1 : w1.cell? ⟨w.heap.size, 7, none⟩ = some (.bool jo) := blk_cell Bs_1.out rfl
          have sz_1 : w.heap.size < w1.heap.size := blk_lt Bs_1.out
          have Sl_1 : Hid (Sp w1 Al cl (Y)) := hs1
          clear S1_0 S2_0 S3_0 hs1 hb1
          have x_1 : w1.cell? ⟨b, off, none⟩ = some (.int .i64 x1) := cell_keep HB_1.out D1.out
          have zx_1 : b < w1.heap.size := World.block_lt_of_cell? w1 ⟨b, off, none⟩ x_1
          go_wp2_with fail
          refine ((HH _ (by repeat (first | exact S2_1.out | refine Sp.alloc ?_ _ | refine Sp.drewN ?_ _ | refine Sp.drew ?_))).out).mono ?_
          rintro e2 w2 ⟨rfl, hb2⟩
          have HB_2 : Hid (Below w.heap.size w w2) := bel_chain hb2 (by repeat (first | exact HB_1.out | refine bel_drewN ?_ _ | refine bel_drew ?_ | refine bel_alloc ?_ _))
          have x_2 : w2.cell? ⟨b, off, none⟩ = some (.int .i64 x1) := cell_keep hb2 (cell_keep (W := w1) (by (repeat (first | exact Below.refl _ _ | refine bel_drewN ?_ _ | refine bel_drew ?_ | refine bel_alloc ?_ _ | refine bel_set ?_ (by simp) _))) x_1)
          have S1_2 : Hid (Sp w2 (some ⟨b, off, none⟩) c1 (R)) := Sp.below (by repeat (first | exact S1_1.out | refine Sp.alloc ?_ _ | refine Sp.drewN ?_ _ | refine Sp.drew ?_)) hb2
          have S2_2 : Hid (Sp w2 A2 c2 (H)) := Sp.below (by repeat (first | exact S2_1.out | refine Sp.alloc ?_ _ | refine Sp.drewN ?_ _ | refine Sp.drew ?_)) hb2
          have S3_2 : Hid (Sp w2 A3 c3 (F)) := Sp.below (by repeat (first | exact S3_1.out | refine Sp.alloc ?_ _ | refine Sp.drewN ?_ _ | refine Sp.drew ?_)) hb2
          have Sl_2 : Hid (Sp w2 Al cl (Y)) := Sp.below (by repeat (first | exact Sl_1.out | refine Sp.alloc ?_ _ | refine Sp.drewN ?_ _ | refine Sp.drew ?_)) hb2
          have Bs_2 : Hid (w2.heap[w.heap.size]? = some (.cells #[.bool he, .slice (some ⟨b, off, none⟩) R.length c1, .slice A2 H.length c2, .slice A3 F.length c3, .bool tu, .bool fa, .int .i64 ag, .bool jo] 52 (0, 0))) := blk_keep hb2 (blk_keep (W := w1) (by (repeat (first | exact Below.refl _ _ | refine bel_drewN ?_ _ | refine bel_drew ?_ | refine bel_alloc ?_ _ | refine bel_set ?_ (by simp) _))) Bs_1.out)
          have s0_2 : w2.cell? ⟨w.heap.size, 0, none⟩ = some (.bool he) := blk_cell Bs_2.out rfl
          have s1_2 : w2.cell? ⟨w.heap.size, 1, none⟩ = some (.slice (some ⟨b, off, none⟩) R.length c1) := blk_cell Bs_2.out rfl
          have s2_2 : w2.cell? ⟨w.heap.size, 2, none⟩ = some (.slice A2 H.length c2) := blk_cell Bs_2.out rfl
          have s3_2 : w2.cell? ⟨w.heap.size, 3, none⟩ = some (.slice A3 F.length c3) := blk_cell Bs_2.out rfl
          have s4_2 : w2.cell? ⟨w.heap.size, 4, none⟩ = some (.bool tu) := blk_cell Bs_2.out rfl
          have s5_2 : w2.cell? ⟨w.heap.size, 5, none⟩ = some (.bool fa) := blk_cell Bs_2.out rfl
          have s6_2 : w2.cell? ⟨w.heap.size, 6, none⟩ = some (.int .i64 ag) := blk_cell Bs_2.out rfl
          have s7_2 : w2.cell? ⟨w.heap.size, 7, none⟩ = some (.bool jo) := blk_cell Bs_2.out rfl
          have sz_2 : w.heap.size < w2.heap.size := blk_lt Bs_2.out
          have zx_2 : b < w2.heap.size := World.block_lt_of_cell? w2 ⟨b, off, none⟩ x_2
          clear x_1 S1_1 S2_1 S3_1 Sl_1 Bs_1 s0_1 s1_1 s2_1 s3_1 s4_1 s5_1 s6_1 s7_1 sz_1 HB_1 zx_1 hb2
          go_wp2_with fail
          refine ((HF _ (by repeat (first | exact S3_2.out | refine Sp.alloc ?_ _ | refine Sp.drewN ?_ _ | refine Sp.drew ?_))).out).mono ?_
          rintro e3 w3 ⟨rfl, hb3⟩
          have HB_3 : Hid (Below w.heap.size w w3) := bel_chain hb3 (by repeat (first | exact HB_2.out | refine bel_drewN ?_ _ | refine bel_drew ?_ | refine bel_alloc ?_ _))
          have x_3 : w3.cell? ⟨b, off, none⟩ = some (.int .i64 x1) := cell_keep hb3 (cell_keep (W := w2) (by (repeat (first | exact Below.refl _ _ | refine bel_drewN ?_ _ | refine bel_drew ?_ | refine bel_alloc ?_ _ | refine bel_set ?_ (by simp) _))) x_2)
          have S1_3 : Hid (Sp w3 (some ⟨b, off, none⟩) c1 (R)) := Sp.below (by repeat (first | exact S1_2.out | refine Sp.alloc ?_ _ | refine Sp.drewN ?_ _ | refine Sp.drew ?_)) hb3
          have S2_3 : Hid (Sp w3 A2 c2 (H)) := Sp.below (by repeat (first | exact S2_2.out | refine Sp.alloc ?_ _ | refine Sp.drewN ?_ _ | refine Sp.drew ?_)) hb3
          have S3_3 : Hid (Sp w3 A3 c3 (F)) := Sp.below (by repeat (first | exact S3_2.out | refine Sp.alloc ?_ _ | refine Sp.drewN ?_ _ | refine Sp.drew ?_)) hb3
          have Sl_3 : Hid (Sp w3 Al cl (Y)) := Sp.below (by repeat (first | exact Sl_2.out | refine Sp.alloc ?_ _ | refine Sp.drewN ?_ _ | refine Sp.drew ?_)) hb3
          have Bs_3 : Hid (w3.heap[w.heap.size]? = some (.cells #[.bool he, .slice (some ⟨b, off, none⟩) R.length c1, .slice A2 H.length c2, .slice A3 F.length c3, .bool tu, .bool fa, .int .i64 ag, .bool jo] 52 (0, 0))) := blk_keep hb3 (blk_keep (W := w2) (by (repeat (first | exact Below.refl _ _ | refine bel_drewN ?_ _ | refine bel_drew ?_ | refine bel_alloc ?_ _ | refine bel_set ?_ (by simp) _))) Bs_2.out)
          have s0_3 : w3.cell? ⟨w.heap.size, 0, none⟩ = some (.bool he) := blk_cell Bs_3.out rfl
          have s1_3 : w3.cell? ⟨w.heap.size, 1, none⟩ = some (.slice (some ⟨b, off, none⟩) R.length c1) := blk_cell Bs_3.out rfl
          have s2_3 : w3.cell? ⟨w.heap.size, 2, none⟩ = some (.slice A2 H.length c2) := blk_cell Bs_3.out rfl
          have s3_3 : w3.cell? ⟨w.heap.size, 3, none⟩ = some (.slice A3 F.length c3) := blk_cell Bs_3.out rfl
          have s4_3 : w3.cell? ⟨w.heap.size, 4, none⟩ = some (.bool tu) := blk_cell Bs_3.out rfl
          have s5_3 : w3.cell? ⟨w.heap.size, 5, none⟩ = some (.bool fa) := blk_cell Bs_3.out rfl
          have s6_3 : w3.cell? ⟨w.heap.size, 6, none⟩ = some (.int .i64 ag) := blk_cell Bs_3.out rfl
          have s7_3 : w3.cell? ⟨w.heap.size, 7, none⟩ = some (.bool jo) := blk_cell Bs_3.out rfl
          have sz_3 : w.heap.size < w3.heap.size := blk_lt Bs_3.out
          have zx_3 : b < w3.heap.size := World.block_lt_of_cell? w3 ⟨b, off, none⟩ x_3
          clear x_2 S1_2 S2_2 S3_2 Sl_2 Bs_2 s0_2 s1_2 s2_2 s3_2 s4_2 s5_2 s6_2 s7_2 sz_2 HB_2 zx_2 hb3
          go_wp2_with fail
          go_ret
          exact ⟨ret_int (by simp), (by repeat (first | (with_reducible exact HB_3.out) | (with_reducible refine bel_drewN ?_ _) | (with_reducible refine bel_drew ?_) | (with_reducible refine bel_alloc ?_ _) | (with_reducible refine bel_set ?_ (by first | omega | (dsimp only; omega)) _)))⟩
      · rw [hb1] at HH
        clear hb1
        go_enter Tryd.func44, Tryd.ntmps44
        go_wp2_with fail
        refine ((HL _ (by repeat (first | exact S1_0.out | refine Sp.alloc ?_ _ | refine Sp.drewN ?_ _ | refine Sp.drew ?_)) (by repeat (first | exact S2_0.out | refine Sp.alloc ?_ _ | refine Sp.drewN ?_ _ | refine Sp.drew ?_)) (by repeat (first | exact S3_0.out | refine Sp.alloc ?_ _ | refine Sp.drewN ?_ _ | refine Sp.drew ?_))).out).mono ?_
        rintro e1 w1 ⟨Al, cl, rfl, hs1, hb1⟩
        have HB_1 : Hid (Below w.heap.size w w1) := bel_chain hb1 (by repeat (first | exact Below.refl _ _ | refine bel_drewN ?_ _ | refine bel_drew ?_ | refine bel_alloc ?_ _))
        have S1_1 : Hid (Sp w1 (some ⟨b, off, none⟩) c1 (R)) := Sp.below (by repeat (first | exact S1_0.out | refine Sp.alloc ?_ _ | refine Sp.drewN ?_ _ | refine Sp.drew ?_)) hb1
        have S2_1 : Hid (Sp w1 A2 c2 (H)) := Sp.below (by repeat (first | exact S2_0.out | refine Sp.alloc ?_ _ | refine Sp.drewN ?_ _ | refine Sp.drew ?_)) hb1
        have S3_1 : Hid (Sp w1 A3 c3 (F)) := Sp.below (by repeat (first | exact S3_0.out | refine Sp.alloc ?_ _ | refine Sp.drewN ?_ _ | refine Sp.drew ?_)) hb1
        have Bs_1 : Hid (w1.heap[w.heap.size]? = some (.cells #[.bool he, .slice (some ⟨b, off, none⟩) R.length c1, .slice A2 H.length c2, .slice A3 F.length c3, .bool tu, .bool fa, .int .i64 ag, .bool jo] 52 (0, 0))) := blk_keep hb1 (by repeat (first | exact blk_new (by first | rfl | (simp; done) | (simp; omega)) | refine blk_skip ?_ | refine blk_drewN ?_ | refine blk_drew ?_))
        have s0_1 : w1.cell? ⟨w.heap.size, 0, none⟩ = some (.bool he) := blk_cell Bs_1.out rfl
        have s1_1 : w1.cell? ⟨w.heap.size, 1, none⟩ = some (.slice (some ⟨b, off, none⟩) R.length c1) := blk_cell Bs_1.out rfl
        have s2_1 : w1.cell? ⟨w.heap.size, 2, none⟩ = some (.slice A2 H.length c2) := blk_cell Bs_1.out rfl
        have s3_1 : w1.cell? ⟨w.heap.size, 3, none⟩ = some (.slice A3 F.length c3) := blk_cell Bs_1.out rfl
        have s4_1 : w1.cell? ⟨w.heap.size, 4, none⟩ = some (.bool tu) := blk_cell Bs_1.out rfl
        have s5_1 : w1.cell? ⟨w.heap.size, 5, none⟩ = some (.bool fa) := blk_cell Bs_1.out rfl
        have s6_1 : w1.cell? ⟨w.heap.size, 6, none⟩ = some (.int .i64 ag) := blk_cell Bs_1.out rfl
        have s7_1 : w1.cell? ⟨w.heap.size, 7, none⟩ = some (.bool jo) := blk_cell Bs_1.out rfl
        have sz_1 : w.heap.size < w1.heap.size := blk_lt Bs_1.out
        have Sl_1 : Hid (Sp w1 Al cl (Y)) := hs1
        clear S1_0 S2_0 S3_0 hs1 hb1
        have x_1 : w1.cell? ⟨b, off, none⟩ = some (.int .i64 x1) := cell_keep HB_1.out D1.out
        have zx_1 : b < w1.heap.size := World.block_lt_of_cell? w1 ⟨b, off, none⟩ x_1
        go_wp2_with fail
        refine ((HH _ (by repeat (first | exact S2_1.out | refine Sp.alloc ?_ _ | refine Sp.drewN ?_ _ | refine Sp.drew ?_))).out).mono ?_
        rintro e2 w2 ⟨rfl, hb2⟩
        have HB_2 : Hid (Below w.heap.size w w2) := bel_chain hb2 (by repeat (first | exact HB_1.out | refine bel_drewN ?_ _ | refine bel_drew ?_ | refine bel_alloc ?_ _))
        have x_2 : w2.cell? ⟨b, off, none⟩ = some (.int .i64 x1) := cell_keep hb2 (cell_keep (W := w1) (by (repeat (first | exact Below.refl _ _ | refine bel_drewN ?_ _ | refine bel_drew ?_ | refine bel_alloc ?_ _ | refine bel_set ?_ (by simp) _))) x_1)
        have S1_2 : Hid (Sp w2 (some ⟨b, off, none⟩) c1 (R)) := Sp.below (by repeat (first | exact S1_1.out | refine Sp.alloc ?_ _ | refine Sp.drewN ?_ _ | refine Sp.drew ?_)) hb2
        have S2_2 : Hid (Sp w2 A2 c2 (H)) := Sp.below (by repeat (first | exact S2_1.out | refine Sp.alloc ?_ _ | refine Sp.drewN ?_ _ | refine Sp.drew ?_)) hb2
        have S3_2 : Hid (Sp w2 A3 c3 (F)) := Sp.below (by repeat (first | exact S3_1.out | refine Sp.alloc ?_ _ | refine Sp.drewN ?_ _ | refine Sp.drew ?_)) hb2
        have Sl_2 : Hid (Sp w2 Al cl (Y)) := Sp.below (by repeat (first | exact Sl_1.out | refine Sp.alloc ?_ _ | refine Sp.drewN ?_ _ | refine Sp.drew ?_)) hb2
        have Bs_2 : Hid (w2.heap[w.heap.size]? = some (.cells #[.bool he, .slice (some ⟨b, off, none⟩) R.length c1, .slice A2 H.length c2, .slice A3 F.length c3, .bool tu, .bool fa, .int .i64 ag, .bool jo] 52 (0, 0))) := blk_keep hb2 (blk_keep (W := w1) (by (repeat (first | exact Below.refl _ _ | refine bel_drewN ?_ _ | refine bel_drew ?_ | refine bel_alloc ?_ _ | refine bel_set ?_ (by simp) _))) Bs_1.out)
        have s0_2 : w2.cell? ⟨w.heap.size, 0, none⟩ = some (.bool he) := blk_cell Bs_2.out rfl
        have s1_2 : w2.cell? ⟨w.heap.size, 1, none⟩ = some (.slice (some ⟨b, off, none⟩) R.length c1) := blk_cell Bs_2.out rfl
        have s2_2 : w2.cell? ⟨w.heap.size, 2, none⟩ = some (.slice A2 H.length c2) := blk_cell Bs_2.out rfl
        have s3_2 : w2.cell? ⟨w.heap.size, 3, none⟩ = some (.slice A3 F.length c3) := blk_cell Bs_2.out rfl
        have s4_2 : w2.cell? ⟨w.heap.size, 4, none⟩ = some (.bool tu) := blk_cell Bs_2.out rfl
        have s5_2 : w2.cell? ⟨w.heap.size, 5, none⟩ = some (.bool fa) := blk_cell Bs_2.out rfl
        have s6_2 : w2.cell? ⟨w.heap.size, 6, none⟩ = some (.int .i64 ag) := blk_cell Bs_2.out rfl
        have s7_2 : w2.cell? ⟨w.heap.size, 7, none⟩ = some (.bool jo) := blk_cell Bs_2.out rfl
        have sz_2 : w.heap.size < w2.heap.size := blk_lt Bs_2.out
        have zx_2 : b < w2.heap.size := World.block_lt_of_cell? w2 ⟨b, off, none⟩ x_2
        clear x_1 S1_1 S2_1 S3_1 Sl_1 Bs_1 s0_1 s1_1 s2_1 s3_1 s4_1 s5_1 s6_1 s7_1 sz_1 HB_1 zx_1 hb2
        go_wp2_with fail
        go_ret
        exact ⟨ret_int (by simp), (by repeat (first | (with_reducible exact HB_2.out) | (with_reducible refine bel_drewN ?_ _) | (with_reducible refine bel_drew ?_) | (with_reducible refine bel_alloc ?_ _) | (with_reducible refine bel_set ?_ (by first | omega | (dsimp only; omega)) _)))⟩
    · have HYB : Hid (Y.isEmpty = false) := by simp only [Hid]; rw [hY]; rfl
      have m0 : 0 < Y.length := by rw [hY]; simp
      rw [HYB.out]
      clear hY
      cases he
      · by_cases hag : 0 < ag
        · go_enter Tryd.func44, Tryd.ntmps44
          go_wp2_with fail
          refine ((HL _ (by repeat (first | exact S1_0.out | refine Sp.alloc ?_ _ | refine Sp.drewN ?_ _ | refine Sp.drew ?_)) (by repeat (first | exact S2_0.out | refine Sp.alloc ?_ _ | refine Sp.drewN ?_ _ | refine Sp.drew ?_)) (by repeat (first | exact S3_0.out | refine Sp.alloc ?_ _ | refine Sp.drewN ?_ _ | refine Sp.drew ?_))).out).mono ?_
          rintro e1 w1 ⟨Al, cl, rfl, hs1, hb1⟩
          have HB_1 : Hid (Below w.heap.size w w1) := bel_chain hb1 (by repeat (first | exact Below.refl _ _ | refine bel_drewN ?_ _ | refine bel_drew ?_ | refine bel_alloc ?_ _))
          have S1_1 : Hid (Sp w1 (some ⟨b, off, none⟩) c1 (R)) := Sp.below (by repeat (first | exact S1_0.out | refine Sp.alloc ?_ _ | refine Sp.drewN ?_ _ | refine Sp.drew ?_)) hb1
          have S2_1 : Hid (Sp w1 A2 c2 (H)) := Sp.below (by repeat (first | exact S2_0.out | refine Sp.alloc ?_ _ | refine Sp.drewN ?_ _ | refine Sp.drew ?_)) hb1
          have S3_1 : Hid (Sp w1 A3 c3 (F)) := Sp.below (by repeat (first | exact S3_0.out | refine Sp.alloc ?_ _ | refine Sp.drewN ?_ _ | refine Sp.drew ?_)) hb1
          have Bs_1 : Hid (w1.heap[w.heap.size]? = some (.cells #[.bool false, .slice (some ⟨b, off, none⟩) R.length c1, .slice A2 H.length c2, .slice A3 F.length c3, .bool tu, .bool fa, .int .i64 ag, .bool jo] 52 (0, 0))) := blk_keep hb1 (by repeat (first | exact blk_new (by first | rfl | (simp; done) | (simp; omega)) | refine blk_skip ?_ | refine blk_drewN ?_ | refine blk_drew ?_))
          have s0_1 : w1.cell? ⟨w.heap.size, 0, none⟩ = some (.bool false) := blk_cell Bs_1.out rfl
          have s1_1 : w1.cell? ⟨w.heap.size, 1, none⟩ = some (.slice (some ⟨b, off, none⟩) R.length c1) := blk_cell Bs_1.out rfl
          have s2_1 : w1.cell? ⟨w.heap.size, 2, none⟩ = some (.slice A2 H.length c2) := blk_cell Bs_1.out rfl
          have s3_1 : w1.cell? ⟨w.heap.size, 3, none⟩ = some (.slice A3 F.length c3) := blk_cell Bs_1.out rfl
          have s4_1 : w1.cell? ⟨w.heap.size, 4, none⟩ = some (.bool tu) := blk_cell Bs_1.out rfl
          have s5_1 : w1.cell? ⟨w.heap.size, 5, none⟩ = some (.bool fa) := blk_cell Bs_1.out rfl
          have s6_1 : w1.cell? ⟨w.heap.size, 6, none⟩ = some (.int .i64 ag) := blk_cell Bs_1.out rfl
          have s7_1 : w1.cell? ⟨w.heap.size, 7, none⟩ = some (.bool jo) := blk_cell Bs_1.out rfl
          have sz_1 : w.heap.size < w1.heap.size := blk_lt Bs_1.out
          have Sl_1 : Hid (Sp w1 Al cl (Y)) := hs1
          clear S1_0 S2_0 S3_0 hs1 hb1
          have x_1 : w1.cell? ⟨b, off, none⟩ = some (.int .i64 x1) := cell_keep HB_1.out D1.out
          have zx_1 : b < w1.heap.size := World.block_lt_of_cell? w1 ⟨b, off, none⟩ x_1
          go_wp2_with fail
          go_ret
          exact ⟨ret_int (by simp [hag]), (by repeat (first | (with_reducible exact HB_1.out) | (with_reducible refine bel_drewN ?_ _) | (with_reducible refine bel_drew ?_) | (with_reducible refine bel_alloc ?_ _) | (with_reducible refine bel_set ?_ (by first | omega | (dsimp only; omega)) _)))⟩
        · go_enter Tryd.func44, Tryd.ntmps44
          go_wp2_with fail
          refine ((HL _ (by repeat (first | exact S1_0.out | refine Sp.alloc ?_ _ | refine Sp.drewN ?_ _ | refine Sp.drew ?_)) (by repeat (first | exact S2_0.out | refine Sp.alloc ?_ _ | refine Sp.drewN ?_ _ | refine Sp.drew ?_)) (by repeat (first | exact S3_0.out | refine Sp.alloc ?_ _ | refine Sp.drewN ?_ _ | refine Sp.drew ?_))).out).mono ?_
          rintro e1 w1 ⟨Al, cl, rfl, hs1, hb1⟩
          have HB_1 : Hid (Below w.heap.size w w1) := bel_chain hb1 (by repeat (first | exact Below.refl _ _ | refine bel_drewN ?_ _ | refine bel_drew ?_ | refine bel_alloc ?_ _))
          have S1_1 : Hid (Sp w1 (some ⟨b, off, none⟩) c1 (R)) := Sp.below (by repeat (first | exact S1_0.out | refine Sp.alloc ?_ _ | refine Sp.drewN ?_ _ | refine Sp.drew ?_)) hb1
          have S2_1 : Hid (Sp w1 A2 c2 (H)) := Sp.below (by repeat (first | exact S2_0.out | refine Sp.alloc ?_ _ | refine Sp.drewN ?_ _ | refine Sp.drew ?_)) hb1
          have S3_1 : Hid (Sp w1 A3 c3 (F)) := Sp.below (by repeat (first | exact S3_0.out | refine Sp.alloc ?_ _ | refine Sp.drewN ?_ _ | refine Sp.drew ?_)) hb1
          have Bs_1 : Hid (w1.heap[w.heap.size]? = some (.cells #[.bool false, .slice (some ⟨b, off, none⟩) R.length c1, .slice A2 H.length c2, .slice A3 F.length c3, .bool tu, .bool fa, .int .i64 ag, .bool jo] 52 (0, 0))) := blk_keep hb1 (by repeat (first | exact blk_new (by first | rfl | (simp; done) | (simp; omega)) | refine blk_skip ?_ | refine blk_drewN ?_ | refine blk_drew ?_))
          have s0_1 : w1.cell? ⟨w.heap.size, 0, none⟩ = some (.bool false) := blk_cell Bs_1.out rfl
          have s1_1 : w1.cell? ⟨w.heap.size, 1, none⟩ = some (.slice (some ⟨b, off, none⟩) R.length c1) := blk_cell Bs_1.out rfl
          have s2_1 : w1.cell? ⟨w.heap.size, 2, none⟩ = some (.slice A2 H.length c2) := blk_cell Bs_1.out rfl
          have s3_1 : w1.cell? ⟨w.heap.size, 3, none⟩ = some (.slice A3 F.length c3) := blk_cell Bs_1.out rfl
          have s4_1 : w1.cell? ⟨w.heap.size, 4, none⟩ = some (.bool tu) := blk_cell Bs_1.out rfl
          have s5_1 : w1.cell? ⟨w.heap.size, 5, none⟩ = some (.bool fa) := blk_cell Bs_1.out rfl
          have s6_1 : w1.cell? ⟨w.heap.size, 6, none⟩ = some (.int .i64 ag) := blk_cell Bs_1.out rfl
          have s7_1 : w1.cell? ⟨w.heap.size, 7, none⟩ = some (.bool jo) := blk_cell Bs_1.out rfl
          have sz_1 : w.heap.size < w1.heap.size := blk_lt Bs_1.out
          have Sl_1 : Hid (Sp w1 Al cl (Y)) := hs1
          clear S1_0 S2_0 S3_0 hs1 hb1
          have x_1 : w1.cell? ⟨b, off, none⟩ = some (.int .i64 x1) := cell_keep HB_1.out D1.out
          have zx_1 : b < w1.heap.size := World.block_lt_of_cell? w1 ⟨b, off, none⟩ x_1
          go_wp2_with fail
          go_ret
          exact ⟨ret_int (by simp [hag]), (by repeat (first | (with_reducible exact HB_1.out) | (with_reducible refine bel_drewN ?_ _) | (with_reducible refine bel_drew ?_) | (with_reducible refine bel_alloc ?_ _) | (with_reducible refine bel_set ?_ (by first | omega | (dsimp only; omega)) _)))⟩
      · cases hb1 : inB H x1
        · rw [hb1] at HH
          cases hb2 : inB F x1
          · rw [hb2] at HF
            clear hb1 hb2
            go_enter Tryd.func44, Tryd.ntmps44
            go_wp2_with fail
            refine ((HL _ (by repeat (first | exact S1_0.out | refine Sp.alloc ?_ _ | refine Sp.drewN ?_ _ | refine Sp.drew ?_)) (by repeat (first | exact S2_0.out | refine Sp.alloc ?_ _ | refine Sp.drewN ?_ _ | refine Sp.drew ?_)) (by repeat (first | exact S3_0.out | refine Sp.alloc ?_ _ | refine Sp.drewN ?_ _ | refine Sp.drew ?_))).out).mono ?_
            rintro e1 w1 ⟨Al, cl, rfl, hs1, hb1⟩
            have HB_1 : Hid (Below w.heap.size w w1) := bel_chain hb1 (by repeat (first | exact Below.refl _ _ | refine bel_drewN ?_ _ | refine bel_drew ?_ | refine bel_alloc ?_ _))
            have S1_1 : Hid (Sp w1 (some ⟨b, off, none⟩) c1 (R)) := Sp.below (by repeat (first | exact S1_0.out | refine Sp.alloc ?_ _ | refine Sp.drewN ?_ _ | refine Sp.drew ?_)) hb1
            have S2_1 : Hid (Sp w1 A2 c2 (H)) := Sp.below (by repeat (first | exact S2_0.out | refine Sp.alloc ?_ _ | refine Sp.drewN ?_ _ | refine Sp.drew ?_)) hb1
            have S3_1 : Hid (Sp w1 A3 c3 (F)) := Sp.below (by repeat (first | exact S3_0.out | refine Sp.alloc ?_ _ | refine Sp.drewN ?_ _ | refine Sp.drew ?_)) hb1
            have Bs_1 : Hid (w1.heap[w.heap.size]? = some (.cells #[.bool true, .slice (some ⟨b, off, none⟩) R.length c1, .slice A2 H.length c2, .slice A3 F.length c3, .bool tu, .bool fa, .int .i64 ag, .bool jo] 52 (0, 0))) := blk_keep hb1 (by repeat (first | exact blk_new (by first | rfl | (simp; done) | (simp; omega)) | refine blk_skip ?_ | refine blk_drewN ?_ | refine blk_drew ?_))
            have s0_1 : w1.cell? ⟨w.heap.size, 0, none⟩ = some (.bool true) := blk_cell Bs_1.out rfl
            have s1_1 : w1.cell? ⟨w.heap.size, 1, none⟩ = some (.slice (some ⟨b, off, none⟩) R.length c1) := blk_cell Bs_1.out rfl
            have s2_1 : w1.cell? ⟨w.heap.size, 2, none⟩ = some (.slice A2 H.length c2) := blk_cell Bs_1.out rfl
            have s3_1 : w1.cell? ⟨w.heap.size, 3, none⟩ = some (.slice A3 F.length c3) := blk_cell Bs_1.out rfl
            have s4_1 : w1.cell? ⟨w.heap.size, 4, none⟩ = some (.bool tu) := blk_cell Bs_1.out rfl
            have s5_1 : w1.cell? ⟨w.heap.size, 5, none⟩ = some (.bool fa) := blk_cell Bs_1.out rfl
            have s6_1 : w1.cell? ⟨w.heap.size, 6, none⟩ = some (.int .i64 ag) := blk_cell Bs_1.out rfl
            have s7_1 : w1.cell? ⟨w.heap.size, 7, none⟩ = some (.bool jo) := blk_cell Bs_1.out rfl
            have sz_1 : w.heap.size < w1.heap.size := blk_lt Bs_1.out
            have Sl_1 : Hid (Sp w1 Al cl (Y)) := hs1
            clear S1_0 S2_0 S3_0 hs1 hb1
            have x_1 : w1.cell? ⟨b, off, none⟩ = some (.int .i64 x1) := cell_keep HB_1.out D1.out
            have zx_1 : b < w1.heap.size := World.block_lt_of_cell? w1 ⟨b, off, none⟩ x_1
            go_wp2_with fail
            refine ((HH _ (by repeat (first | exact S2_1.out | refine Sp.alloc ?_ _ | refine Sp.drewN ?_ _ | refine Sp.drew ?_))).out).mono ?_
            rintro e2 w2 ⟨rfl, hb2⟩
            have HB_2 : Hid (Below w.heap.size w w2) := bel_chain hb2 (by repeat (first | exact HB_1.out | refine bel_drewN ?_ _ | refine bel_drew ?_ | refine bel_alloc ?_ _))
            have x_2 : w2.cell? ⟨b, off, none⟩ = some (.int .i64 x1) := cell_keep hb2 (cell_keep (W := w1) (by (repeat (first | exact Below.refl _ _ | refine bel_drewN ?_ _ | refine bel_drew ?_ | refine bel_alloc ?_ _ | refine bel_set ?_ (by simp) _))) x_1)
            have S1_2 : Hid (Sp w2 (some ⟨b, off, none⟩) c1 (R)) := Sp.below (by repeat (first | exact S1_1.out | refine Sp.alloc ?_ _ | refine Sp.drewN ?_ _ | refine Sp.drew ?_)) hb2
            have S2_2 : Hid (Sp w2 A2 c2 (H)) := Sp.below (by repeat (first | exact S2_1.out | refine Sp.alloc ?_ _ | refine Sp.drewN ?_ _ | refine Sp.drew ?_)) hb2
            have S3_2 : Hid (Sp w2 A3 c3 (F)) := Sp.below (by repeat (first | exact S3_1.out | refine Sp.alloc ?_ _ | refine Sp.drewN ?_ _ | refine Sp.drew ?_)) hb2
            have Sl_2 : Hid (Sp w2 Al cl (Y)) := Sp.below (by repeat (first | exact Sl_1.out | refine Sp.alloc ?_ _ | refine Sp.drewN ?_ _ | refine Sp.drew ?_)) hb2
            have Bs_2 : Hid (w2.heap[w.heap.size]? = some (.cells #[.bool true, .slice (some ⟨b, off, none⟩) R.length c1, .slice A2 H.length c2, .slice A3 F.length c3, .bool tu, .bool fa, .int .i64 ag, .bool jo] 52 (0, 0))) := blk_keep hb2 (blk_keep (W := w1) (by (repeat (first | exact Below.refl _ _ | refine bel_drewN ?_ _ | refine bel_drew ?_ | refine bel_alloc ?_ _ | refine bel_set ?_ (by simp) _))) Bs_1.out)
            have s0_2 : w2.cell? ⟨w.heap.size, 0, none⟩ = some (.bool true) := blk_cell Bs_2.out rfl
            have s1_2 : w2.cell? ⟨w.heap.size, 1, none⟩ = some (.slice (some ⟨b, off, none⟩) R.length c1) := blk_cell Bs_2.out rfl
            have s2_2 : w2.cell? ⟨w.heap.size, 2, none⟩ = some (.slice A2 H.length c2) := blk_cell Bs_2.out rfl
            have s3_2 : w2.cell? ⟨w.heap.size, 3, none⟩ = some (.slice A3 F.length c3) := blk_cell Bs_2.out rfl
            have s4_2 : w2.cell? ⟨w.heap.size, 4, none⟩ = some (.bool tu) := blk_cell Bs_2.out rfl
            have s5_2 : w2.cell? ⟨w.heap.size, 5, none⟩ = some (.bool fa) := blk_cell Bs_2.out rfl
            have s6_2 : w2.cell? ⟨w.heap.size, 6, none⟩ = some (.int .i64 ag) := blk_cell Bs_2.out rfl
            have s7_2 : w2.cell? ⟨w.heap.size, 7, none⟩ = some (.bool jo) := blk_cell Bs_2.out rfl
            have sz_2 : w.heap.size < w2.heap.size := blk_lt Bs_2.out
            have zx_2 : b < w2.heap.size := World.block_lt_of_cell? w2 ⟨b, off, none⟩ x_2
            clear x_1 S1_1 S2_1 S3_1 Sl_1 Bs_1 s0_1 s1_1 s2_1 s3_1 s4_1 s5_1 s6_1 s7_1 sz_1 HB_1 zx_1 hb2
            go_wp2_with fail
            refine ((HF _ (by repeat (first | exact S3_2.out | refine Sp.alloc ?_ _ | refine Sp.drewN ?_ _ | refine Sp.drew ?_))).out).mono ?_
            rintro e3 w3 ⟨rfl, hb3⟩
            have HB_3 : Hid (Below w.heap.size w w3) := bel_chain hb3 (by repeat (first | exact HB_2.out | refine bel_drewN ?_ _ | refine bel_drew ?_ | refine bel_alloc ?_ _))
            have x_3 : w3.cell? ⟨b, off, none⟩ = some (.int .i64 x1) := cell_keep hb3 (cell_keep (W := w2) (by (repeat (first | exact Below.refl _ _ | refine bel_drewN ?_ _ | refine bel_drew ?_ | refine bel_alloc ?_ _ | refine bel_set ?_ (by simp) _))) x_2)
            have S1_3 : Hid (Sp w3 (some ⟨b, off, none⟩) c1 (R)) := Sp.below (by repeat (first | exact S1_2.out | refine Sp.alloc ?_ _ | refine Sp.drewN ?_ _ | refine Sp.drew ?_)) hb3
            have S2_3 : Hid (Sp w3 A2 c2 (H)) := Sp.below (by repeat (first | exact S2_2.out | refine Sp.alloc ?_ _ | refine Sp.drewN ?_ _ | refine Sp.drew ?_)) hb3
            have S3_3 : Hid (Sp w3 A3 c3 (F)) := Sp.below (by repeat (first | exact S3_2.out | refine Sp.alloc ?_ _ | refine Sp.drewN ?_ _ | refine Sp.drew ?_)) hb3
            have Sl_3 : Hid (Sp w3 Al cl (Y)) := Sp.below (by repeat (first | exact Sl_2.out | refine Sp.alloc ?_ _ | refine Sp.drewN ?_ _ | refine Sp.drew ?_)) hb3
            have Bs_3 : Hid (w3.heap[w.heap.size]? = some (.cells #[.bool true, .slice (some ⟨b, off, none⟩) R.length c1, .slice A2 H.length c2, .slice A3 F.length c3, .bool tu, .bool fa, .int .i64 ag, .bool jo] 52 (0, 0))) := blk_keep hb3 (blk_keep (W := w2) (by (repeat (first | exact Below.refl _ _ | refine bel_drewN ?_ _ | refine bel_drew ?_ | refine bel_alloc ?_ _ | refine bel_set ?_ (by simp) _))) Bs_2.out)
            have s0_3 : w3.cell? ⟨w.heap.size, 0, none⟩ = some (.bool true) := blk_cell Bs_3.out rfl
            have s1_3 : w3.cell? ⟨w.heap.size, 1, none⟩ = some (.slice (some ⟨b, off, none⟩) R.length c1) := blk_cell Bs_3.out rfl
            have s2_3 : w3.cell? ⟨w.heap.size, 2, none⟩ = some (.slice A2 H.length c2) := blk_cell Bs_3.out rfl
            have s3_3 : w3.cell? ⟨w.heap.size, 3, none⟩ = some (.slice A3 F.length c3) := blk_cell Bs_3.out rfl
            have s4_3 : w3.cell? ⟨w.heap.size, 4, none⟩ = some (.bool tu) := blk_cell Bs_3.out rfl
            have s5_3 : w3.cell? ⟨w.heap.size, 5, none⟩ = some (.bool fa) := blk_cell Bs_3.out rfl
            have s6_3 : w3.cell? ⟨w.heap.size, 6, none⟩ = some (.int .i64 ag) := blk_cell Bs_3.out rfl
            have s7_3 : w3.cell? ⟨w.heap.size, 7, none⟩ = some (.bool jo) := blk_cell Bs_3.out rfl
            have sz_3 : w.heap.size < w3.heap.size := blk_lt Bs_3.out
            have zx_3 : b < w3.heap.size := World.block_lt_of_cell? w3 ⟨b, off, none⟩ x_3
            clear x_2 S1_2 S2_2 S3_2 Sl_2 Bs_2 s0_2 s1_2 s2_2 s3_2 s4_2 s5_2 s6_2 s7_2 sz_2 HB_2 zx_2 hb3
            go_wp2_with fail
            go_ret
            exact ⟨ret_int (by simp), (by repeat (first | (with_reducible exact HB_3.out) | (with_reducible refine bel_drewN ?_ _) | (with_reducible refine bel_drew ?_) | (with_reducible refine bel_alloc ?_ _) | (with_reducible refine bel_set ?_ (by first | omega | (dsimp only; omega)) _)))⟩
          · rw [hb2] at HF
            clear hb1 hb2
            go_enter Tryd.func44, Tryd.ntmps44
            go_wp2_with fail
            refine ((HL _ (by repeat (first | exact S1_0.out | refine Sp.alloc ?_ _ | refine Sp.drewN ?_ _ | refine Sp.drew ?_)) (by repeat (first | exact S2_0.out | refine Sp.alloc ?_ _ | refine Sp.drewN ?_ _ | refine Sp.drew ?_)) (by repeat (first | exact S3_0.out | refine Sp.alloc ?_ _ | refine Sp.drewN ?_ _ | refine Sp.drew ?_))).out).mono ?_
            rintro e1 w1 ⟨Al, cl, rfl, hs1, hb1⟩
            have HB_1 : Hid (Below w.heap.size w w1) := bel_chain hb1 (by repeat (first | exact Below.refl _ _ | refine bel_drewN ?_ _ | refine bel_drew ?_ | refine bel_alloc ?_ _))
            have S1_1 : Hid (Sp w1 (some ⟨b, off, none⟩) c1 (R)) := Sp.below (by repeat (first | exact S1_0.out | refine Sp.alloc ?_ _ | refine Sp.drewN ?_ _ | refine Sp.drew ?_)) hb1
            have S2_1 : Hid (Sp w1 A2 c2 (H)) := Sp.below (by repeat (first | exact S2_0.out | refine Sp.alloc ?_ _ | refine Sp.drewN ?_ _ | refine Sp.drew ?_)) hb1
            have S3_1 : Hid (Sp w1 A3 c3 (F)) := Sp.below (by repeat (first | exact S3_0.out | refine Sp.alloc ?_ _ | refine Sp.drewN ?_ _ | refine Sp.drew ?_)) hb1
            have Bs_1 : Hid (w1.heap[w.heap.size]? = some (.cells #[.bool true, .slice (some ⟨b, off, none⟩) R.length c1, .slice A2 H.length c2, .slice A3 F.length c3, .bool tu, .bool fa, .int .i64 ag, .bool jo] 52 (0, 0))) := blk_keep hb1 (by repeat (first | exact blk_new (by first | rfl | (simp; done) | (simp; omega)) | refine blk_skip ?_ | refine blk_drewN ?_ | refine blk_drew ?_))
            have s0_1 : w1.cell? ⟨w.heap.size, 0, none⟩ = some (.bool true) := blk_cell Bs_1.out rfl
            have s1_1 : w1.cell? ⟨w.heap.size, 1, none⟩ = some (.slice (some ⟨b, off, none⟩) R.length c1) := blk_cell Bs_1.out rfl
            have s2_1 : w1.cell? ⟨w.heap.size, 2, none⟩ = some (.slice A2 H.length c2) := blk_cell Bs_1.out rfl
            have s3_1 : w1.cell? ⟨w.heap.size, 3, none⟩ = some (.slice A3 F.length c3) := blk_cell Bs_1.out rfl
            have s4_1 : w1.cell? ⟨w.heap.size, 4, none⟩ = some (.bool tu) := blk_cell Bs_1.out rfl
            have s5_1 : w1.cell? ⟨w.heap.size, 5, none⟩ = some (.bool fa) := blk_cell Bs_1.out rfl
            have s6_1 : w1.cell? ⟨w.heap.size, 6, none⟩ = some (.int .i64 ag) := blk_cell Bs_1.out rfl
            have s7_1 : w1.cell? ⟨w.heap.size, 7, none⟩ = some (.bool jo) := blk_cell Bs_1.out rfl
            have sz_1 : w.heap.size < w1.heap.size := blk_lt Bs_1.out
            have Sl_1 : Hid (Sp w1 Al cl (Y)) := hs1
            clear S1_0 S2_0 S3_0 hs1 hb1
            have x_1 : w1.cell? ⟨b, off, none⟩ = some (.int .i64 x1) := cell_keep HB_1.out D1.out
            have zx_1 : b < w1.heap.size := World.block_lt_of_cell? w1 ⟨b, off, none⟩ x_1
            go_wp2_with fail
            refine ((HH _ (by repeat (first | exact S2_1.out | refine Sp.alloc ?_ _ | refine Sp.drewN ?_ _ | refine Sp.drew ?_))).out).mono ?_
            rintro e2 w2 ⟨rfl, hb2⟩
            have HB_2 : Hid (Below w.heap.size w w2) := bel_chain hb2 (by repeat (first | exact HB_1.out | refine bel_drewN ?_ _ | refine bel_drew ?_ | refine bel_alloc ?_ _))
            have x_2 : w2.cell? ⟨b, off, none⟩ = some (.int .i64 x1) := cell_keep hb2 (cell_keep (W := w1) (by (repeat (first | exact Below.refl _ _ | refine bel_drewN ?_ _ | refine bel_drew ?_ | refine bel_alloc ?_ _ | refine bel_set ?_ (by simp) _))) x_1)
            have S1_2 : Hid (Sp w2 (some ⟨b, off, none⟩) c1 (R)) := Sp.below (by repeat (first | exact S1_1.out | refine Sp.alloc ?_ _ | refine Sp.drewN ?_ _ | refine Sp.drew ?_)) hb2
            have S2_2 : Hid (Sp w2 A2 c2 (H)) := Sp.below (by repeat (first | exact S2_1.out | refine Sp.alloc ?_ _ | refine Sp.drewN ?_ _ | refine Sp.drew ?_)) hb2
            have S3_2 : Hid (Sp w2 A3 c3 (F)) := Sp.below (by repeat (first | exact S3_1.out | refine Sp.alloc ?_ _ | refine Sp.drewN ?_ _ | refine Sp.drew ?_)) hb2
            have Sl_2 : Hid (Sp w2 Al cl (Y)) := Sp.below (by repeat (first | exact Sl_1.out | refine Sp.alloc ?_ _ | refine Sp.drewN ?_ _ | refine Sp.drew ?_)) hb2
            have Bs_2 : Hid (w2.heap[w.heap.size]? = some (.cells #[.bool true, .slice (some ⟨b, off, none⟩) R.length c1, .slice A2 H.length c2, .slice A3 F.length c3, .bool tu, .bool fa, .int .i64 ag, .bool jo] 52 (0, 0))) := blk_keep hb2 (blk_keep (W := w1) (by (repeat (first | exact Below.refl _ _ | refine bel_drewN ?_ _ | refine bel_drew ?_ | refine bel_alloc ?_ _ | refine bel_set ?_ (by simp) _))) Bs_1.out)
            have s0_2 : w2.cell? ⟨w.heap.size, 0, none⟩ = some (.bool true) := blk_cell Bs_2.out rfl
            have s1_2 : w2.cell? ⟨w.heap.size, 1, none⟩ = some (.slice (some ⟨b, off, none⟩) R.length c1) := blk_cell Bs_2.out rfl
            have s2_2 : w2.cell? ⟨w.heap.size, 2, none⟩ = some (.slice A2 H.length c2) := blk_cell Bs_2.out rfl
            have s3_2 : w2.cell? ⟨w.heap.size, 3, none⟩ = some (.slice A3 F.length c3) := blk_cell Bs_2.out rfl
            have s4_2 : w2.cell? ⟨w.heap.size, 4, none⟩ = some (.bool tu) := blk_cell Bs_2.out rfl
            have s5_2 : w2.cell? ⟨w.heap.size, 5, none⟩ = some (.bool fa) := blk_cell Bs_2.out rfl
            have s6_2 : w2.cell? ⟨w.heap.size, 6, none⟩ = some (.int .i64 ag) := blk_cell Bs_2.out rfl
            have s7_2 : w2.cell? ⟨w.heap.size, 7, none⟩ = some (.bool jo) := blk_cell Bs_2.out rfl
            have sz_2 : w.heap.size < w2.heap.size := blk_lt Bs_2.out
            have zx_2 : b < w2.heap.size := World.block_lt_of_cell? w2 ⟨b, off, none⟩ x_2
            clear x_1 S1_1 S2_1 S3_1 Sl_1 Bs_1 s0_1 s1_1 s2_1 s3_1 s4_1 s5_1 s6_1 s7_1 sz_1 HB_1 zx_1 hb2
            go_wp2_with fail
            refine ((HF _ (by repeat (first | exact S3_2.out | refine Sp.alloc ?_ _ | refine Sp.drewN ?_ _ | refine Sp.drew ?_))).out).mono ?_
            rintro e3 w3 ⟨rfl, hb3⟩
            have HB_3 : Hid (Below w.heap.size w w3) := bel_chain hb3 (by repeat (first | exact HB_2.out | refine bel_drewN ?_ _ | refine bel_drew ?_ | refine bel_alloc ?_ _))
            have x_3 : w3.cell? ⟨b, off, none⟩ = some (.int .i64 x1) := cell_keep hb3 (cell_keep (W := w2) (by (repeat (first | exact Below.refl _ _ | refine bel_drewN ?_ _ | refine bel_drew ?_ | refine bel_alloc ?_ _ | refine bel_set ?_ (by simp) _))) x_2)
            have S1_3 : Hid (Sp w3 (some ⟨b, off, none⟩) c1 (R)) := Sp.below (by repeat (first | exact S1_2.out | refine Sp.alloc ?_ _ | refine Sp.drewN ?_ _ | refine Sp.drew ?_)) hb3
            have S2_3 : Hid (Sp w3 A2 c2 (H)) := Sp.below (by repeat (first | exact S2_2.out | refine Sp.alloc ?_ _ | refine Sp.drewN ?_ _ | refine Sp.drew ?_)) hb3
            have S3_3 : Hid (Sp w3 A3 c3 (F)) := Sp.below (by repeat (first | exact S3_2.out | refine Sp.alloc ?_ _ | refine Sp.drewN ?_ _ | refine Sp.drew ?_)) hb3
            have Sl_3 : Hid (Sp w3 Al cl (Y)) := Sp.below (by repeat (first | exact Sl_2.out | refine Sp.alloc ?_ _ | refine Sp.drewN ?_ _ | refine Sp.drew ?_)) hb3
            have Bs_3 : Hid (w3.heap[w.heap.size]? = some (.cells #[.bool true, .slice (some ⟨b, off, none⟩) R.length c1, .slice A2 H.length c2, .slice A3 F.length c3, .bool tu, .bool fa, .int .i64 ag, .bool jo] 52 (0, 0))) := blk_keep hb3 (blk_keep (W := w2) (by (repeat (first | exact Below.refl _ _ | refine bel_drewN ?_ _ | refine bel_drew ?_ | refine bel_alloc ?_ _ | refine bel_set ?_ (by simp) _))) Bs_2.out)
            have s0_3 : w3.cell? ⟨w.heap.size, 0, none⟩ = some (.bool true) := blk_cell Bs_3.out rfl
            have s1_3 : w3.cell? ⟨w.heap.size, 1, none⟩ = some (.slice (some ⟨b, off, none⟩) R.length c1) := blk_cell Bs_3.out rfl
            have s2_3 : w3.cell? ⟨w.heap.size, 2, none⟩ = some (.slice A2 H.length c2) := blk_cell Bs_3.out rfl
            have s3_3 : w3.cell? ⟨w.heap.size, 3, none⟩ = some (.slice A3 F.length c3) := blk_cell Bs_3.out rfl
            have s4_3 : w3.cell? ⟨w.heap.size, 4, none⟩ = some (.bool tu) := blk_cell Bs_3.out rfl
            have s5_3 : w3.cell? ⟨w.heap.size, 5, none⟩ = some (.bool fa) := blk_cell Bs_3.out rfl
            have s6_3 : w3.cell? ⟨w.heap.size, 6, none⟩ = some (.int .i64 ag) := blk_cell Bs_3.out rfl
            have s7_3 : w3.cell? ⟨w.heap.size, 7, none⟩ = some (.bool jo) := blk_cell Bs_3.out rfl
            have sz_3 : w.heap.size < w3.heap.size := blk_lt Bs_3.out
            have zx_3 : b < w3.heap.size := World.block_lt_of_cell? w3 ⟨b, off, none⟩ x_3
            clear x_2 S1_2 S2_2 S3_2 Sl_2 Bs_2 s0_2 s1_2 s2_2 s3_2 s4_2 s5_2 s6_2 s7_2 sz_2 HB_2 zx_2 hb3
            go_wp2_with fail
            go_ret
            exact ⟨ret_int (by simp), (by repeat (first | (with_reducible exact HB_3.out) | (with_reducible refine bel_drewN ?_ _) | (with_reducible refine bel_drew ?_) | (with_reducible refine bel_alloc ?_ _) | (with_reducible refine bel_set ?_ (by first | omega | (dsimp only; omega)) _)))⟩
        · rw [hb1] at HH
          clear hb1
          go_enter Tryd.func44, Tryd.ntmps44
          go_wp2_with fail
          refine ((HL _ (by repeat (first | exact S1_0.out | refine Sp.alloc ?_ _ | refine Sp.drewN ?_ _ | refine Sp.drew ?_)) (by repeat (first | exact S2_0.out | refine Sp.alloc ?_ _ | refine Sp.drewN ?_ _ | refine Sp.drew ?_)) (by repeat (first | exact S3_0.out | refine Sp.alloc ?_ _ | refine Sp.drewN ?_ _ | refine Sp.drew ?_))).out).mono ?_
          rintro e1 w1 ⟨Al, cl, rfl, hs1, hb1⟩
          have HB_1 : Hid (Below w.heap.size w w1) := bel_chain hb1 (by repeat (first | exact Below.refl _ _ | refine bel_drewN ?_ _ | refine bel_drew ?_ | refine bel_alloc ?_ _))
          have S1_1 : Hid (Sp w1 (some ⟨b, off, none⟩) c1 (R)) := Sp.below (by repeat (first | exact S1_0.out | refine Sp.alloc ?_ _ | refine Sp.drewN ?_ _ | refine Sp.drew ?_)) hb1
          have S2_1 : Hid (Sp w1 A2 c2 (H)) := Sp.below (by repeat (first | exact S2_0.out | refine Sp.alloc ?_ _ | refine Sp.drewN ?_ _ | refine Sp.drew ?_)) hb1
          have S3_1 : Hid (Sp w1 A3 c3 (F)) := Sp.below (by repeat (first | exact S3_0.out | refine Sp.alloc ?_ _ | refine Sp.drewN ?_ _ | refine Sp.drew ?_)) hb1
          have Bs_1 : Hid (w1.heap[w.heap.size]? = some (.cells #[.bool true, .slice (some ⟨b, off, none⟩) R.length c1, .slice A2 H.length c2, .slice A3 F.length c3, .bool tu, .bool fa, .int .i64 ag, .bool jo] 52 (0, 0))) := blk_keep hb1 (by repeat (first | exact blk_new (by first | rfl | (simp; done) | (simp; omega)) | refine blk_skip ?_ | refine blk_drewN ?_ | refine blk_drew ?_))
          have s0_1 : w1.cell? ⟨w.heap.size, 0, none⟩ = some (.bool true) := blk_cell Bs_1.out rfl
          have s1_1 : w1.cell? ⟨w.heap.size, 1, none⟩ = some (.slice (some ⟨b, off, none⟩) R.length c1) := blk_cell Bs_1.out rfl
          have s2_1 : w1.cell? ⟨w.heap.size, 2, none⟩ = some (.slice A2 H.length c2) := blk_cell Bs_1.out rfl
          have s3_1 : w1.cell? ⟨w.heap.size, 3, none⟩ = some (.slice A3 F.length c3) := blk_cell Bs_1.out rfl
          have s4_1 : w1.cell? ⟨w.heap.size, 4, none⟩ = some (.bool tu) := blk_cell Bs_1.out rfl
          have s5_1 : w1.cell? ⟨w.heap.size, 5, none⟩ = some (.bool fa) := blk_cell Bs_1.out rfl
          have s6_1 : w1.cell? ⟨w.heap.size, 6, none⟩ = some (.int .i64 ag) := blk_cell Bs_1.out rfl
          have s7_1 : w1.cell? ⟨w.heap.size, 7, none⟩ = some (.bool jo) := blk_cell Bs_1.out rfl
          have sz_1 : w.heap.size < w1.heap.size := blk_lt Bs_1.out
          have Sl_1 : Hid (Sp w1 Al cl (Y)) := hs1
          clear S1_0 S2_0 S3_0 hs1 hb1
          have x_1 : w1.cell? ⟨b, off, none⟩ = some (.int .i64 x1) := cell_keep HB_1.out D1.out
          have zx_1 : b < w1.heap.size := World.block_lt_of_cell? w1 ⟨b, off, none⟩ x_1
          go_wp2_with fail
          refine ((HH _ (by repeat (first | exact S2_1.out | refine Sp.alloc ?_ _ | refine Sp.drewN ?_ _ | refine Sp.drew ?_))).out).mono ?_
          rintro e2 w2 ⟨rfl, hb2⟩
          have HB_2 : Hid (Below w.heap.size w w2) := bel_chain hb2 (by repeat (first | exact HB_1.out | refine bel_drewN ?_ _ | refine bel_drew ?_ | refine bel_alloc ?_ _))
          have x_2 : w2.cell? ⟨b, off, none⟩ = some (.int .i64 x1) := cell_keep hb2 (cell_keep (W := w1) (by (repeat (first | exact Below.refl _ _ | refine bel_drewN ?_ _ | refine bel_drew ?_ | refine bel_alloc ?_ _ | refine bel_set ?_ (by simp) _))) x_1)
          have S1_2 : Hid (Sp w2 (some ⟨b, off, none⟩) c1 (R)) := Sp.below (by repeat (first | exact S1_1.out | refine Sp.alloc ?_ _ | refine Sp.drewN ?_ _ | refine Sp.drew ?_)) hb2
          have S2_2 : Hid (Sp w2 A2 c2 (H)) := Sp.below (by repeat (first | exact S2_1.out | refine Sp.alloc ?_ _ | refine Sp.drewN ?_ _ | refine Sp.drew ?_)) hb2
          have S3_2 : Hid (Sp w2 A3 c3 (F)) := Sp.below (by repeat (first | exact S3_1.out | refine Sp.alloc ?_ _ | refine Sp.drewN ?_ _ | refine Sp.drew ?_)) hb2
          have Sl_2 : Hid (Sp w2 Al cl (Y)) := Sp.below (by repeat (first | exact Sl_1.out | refine Sp.alloc ?_ _ | refine Sp.drewN ?_ _ | refine Sp.drew ?_)) hb2
          have Bs_2 : Hid (w2.heap[w.heap.size]? = some (.cells #[.bool true, .slice (some ⟨b, off, none⟩) R.length c1, .slice A2 H.length c2, .slice A3 F.length c3, .bool tu, .bool fa, .int .i64 ag, .bool jo] 52 (0, 0))) := blk_keep hb2 (blk_keep (W := w1) (by (repeat (first | exact Below.refl _ _ | refine bel_drewN ?_ _ | refine bel_drew ?_ | refine bel_alloc ?_ _ | refine bel_set ?_ (by simp) _))) Bs_1.out)
          have s0_2 : w2.cell? ⟨w.heap.size, 0, none⟩ = some (.bool true) := blk_cell Bs_2.out rfl
          have s1_2 : w2.cell? ⟨w.heap.size, 1, none⟩ = some (.slice (some ⟨b, off, none⟩) R.length c1) := blk_cell Bs_2.out rfl
          have s2_2 : w2.cell? ⟨w.heap.size, 2, none⟩ = some (.slice A2 H.length c2) := blk_cell Bs_2.out rfl
          have s3_2 : w2.cell? ⟨w.heap.size, 3, none⟩ = some (.slice A3 F.length c3) := blk_cell Bs_2.out rfl
          have s4_2 : w2.cell? ⟨w.heap.size, 4, none⟩ = some (.bool tu) := blk_cell Bs_2.out rfl
          have s5_2 : w2.cell? ⟨w.heap.size, 5, none⟩ = some (.bool fa) := blk_cell Bs_2.out rfl
          have s6_2 : w2.cell? ⟨w.heap.size, 6, none⟩ = some (.int .i64 ag) := blk_cell Bs_2.out rfl
          have s7_2 : w2.cell? ⟨w.heap.size, 7, none⟩ = some (.bool jo) := blk_cell Bs_2.out rfl
          have sz_2 : w.heap.size < w2.heap.size := blk_lt Bs_2.out
          have zx_2 : b < w2.heap.size := World.block_lt_of_cell? w2 ⟨b, off, none⟩ x_2
          clear x_1 S1_1 S2_1 S3_1 Sl_1 Bs_1 s0_1 s1_1 s2_1 s3_1 s4_1 s5_1 s6_1 s7_1 sz_1 HB_1 zx_1 hb2
          go_wp2_with fail
          go_ret
          exact ⟨ret_int (by simp), (by repeat (first | (with_reducible exact HB_2.out) | (with_reducible refine bel_drewN ?_ _) | (with_reducible refine bel_drew ?_) | (with_reducible refine bel_alloc ?_ _) | (with_reducible refine bel_set ?_ (by first | omega | (dsimp only; omega)) _)))⟩
end Go.Proofs.YtmbcnfgeobbldaaDoor
