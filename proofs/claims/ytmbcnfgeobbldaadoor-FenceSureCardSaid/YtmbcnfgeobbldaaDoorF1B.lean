/- Contract of the reference's Of for states. -/
import Derived.Test.YtmbcnfgeobbldaaDoorF0
namespace Go.Proofs.YtmbcnfgeobbldaaDoor
open Go.RowKit

set_option maxHeartbeats 4000000 in
set_option maxRecDepth 100000 in
theorem r37Of_any (he : Bool) (A1 : Option Addr) (c1 : Nat) (R : List (Int × Int)) (A2 : Option Addr) (c2 : Nat) (H : List (Int × Int)) (A3 : Option Addr) (c3 : Nat) (F : List (Int × Int)) (tu fa : Bool) (ag : Int) (jo : Bool) (w : World) (h1 : Sp w A1 c1 R) (h2 : Sp w A2 c2 H) (h3 : Sp w A3 c3 F) (l1 : R.length ≤ 10000) (l2 : H.length ≤ 10000) (l3 : F.length ≤ 10000) :
    Calls Tryd.prog 45 #[.agg #[.bool he, .slice A1 R.length c1, .slice A2 H.length c2, .slice A3 F.length c3, .bool tu, .bool fa, .int .i64 ag, .bool jo]] w (RetSt he (cano R) (cano H) (cano F) tu fa ag jo w) := by
  have S1_0 := Lib.hid (h1)
  have S2_0 := Lib.hid (h2)
  have S3_0 := Lib.hid (h3)
  clear h1 h2 h3
  go_enter Tryd.func45, Tryd.ntmps45
  go_wp2_with fail
  refine (rOf_any A1 c1 R _ (by repeat (first | exact S1_0.out | refine Sp.alloc ?_ _ | refine Sp.drewN ?_ _ | refine Sp.drew ?_)) (by omega)).mono ?_
  rintro e1 w1 ⟨Au, cu, rfl, hs1, hb1⟩
  have HB_1 : Hid (Below w.heap.size w w1) := bel_chain hb1 (by repeat (first | exact Below.refl _ _ | refine bel_drewN ?_ _ | refine bel_drew ?_ | refine bel_alloc ?_ _))
  have S1_1 : Hid (Sp w1 A1 c1 (R)) := Sp.below (by repeat (first | exact S1_0.out | refine Sp.alloc ?_ _ | refine Sp.drewN ?_ _ | refine Sp.drew ?_)) hb1
  have S2_1 : Hid (Sp w1 A2 c2 (H)) := Sp.below (by repeat (first | exact S2_0.out | refine Sp.alloc ?_ _ | refine Sp.drewN ?_ _ | refine Sp.drew ?_)) hb1
  have S3_1 : Hid (Sp w1 A3 c3 (F)) := Sp.below (by repeat (first | exact S3_0.out | refine Sp.alloc ?_ _ | refine Sp.drewN ?_ _ | refine Sp.drew ?_)) hb1
  have Bs_1 : Hid (w1.heap[w.heap.size]? = some (.cells #[.bool he, .slice A1 R.length c1, .slice A2 H.length c2, .slice A3 F.length c3, .bool tu, .bool fa, .int .i64 ag, .bool jo] 52 (0, 0))) := blk_keep hb1 (by repeat (first | exact blk_new (by first | rfl | (simp; done) | (simp; omega)) | refine blk_skip ?_ | refine blk_drewN ?_ | refine blk_drew ?_))
  have Br_1 : Hid (w1.heap[w.heap.size + 1]? = some (.cells #[.bool false, .slice none 0 0, .slice none 0 0, .slice none 0 0, .bool false, .bool false, .int .i64 0, .bool false] 52 (0, 0))) := blk_keep hb1 (by repeat (first | exact blk_new (by first | rfl | (simp; done) | (simp; omega)) | refine blk_skip ?_ | refine blk_drewN ?_ | refine blk_drew ?_))
  have s0_1 : w1.cell? ⟨w.heap.size, 0, none⟩ = some (.bool he) := blk_cell Bs_1.out rfl
  have sf0_1 : w1.frozen? ⟨w.heap.size, 0, none⟩ = false := blk_frozen Bs_1.out
  have s1_1 : w1.cell? ⟨w.heap.size, 1, none⟩ = some (.slice A1 R.length c1) := blk_cell Bs_1.out rfl
  have sf1_1 : w1.frozen? ⟨w.heap.size, 1, none⟩ = false := blk_frozen Bs_1.out
  have s2_1 : w1.cell? ⟨w.heap.size, 2, none⟩ = some (.slice A2 H.length c2) := blk_cell Bs_1.out rfl
  have sf2_1 : w1.frozen? ⟨w.heap.size, 2, none⟩ = false := blk_frozen Bs_1.out
  have s3_1 : w1.cell? ⟨w.heap.size, 3, none⟩ = some (.slice A3 F.length c3) := blk_cell Bs_1.out rfl
  have sf3_1 : w1.frozen? ⟨w.heap.size, 3, none⟩ = false := blk_frozen Bs_1.out
  have s4_1 : w1.cell? ⟨w.heap.size, 4, none⟩ = some (.bool tu) := blk_cell Bs_1.out rfl
  have sf4_1 : w1.frozen? ⟨w.heap.size, 4, none⟩ = false := blk_frozen Bs_1.out
  have s5_1 : w1.cell? ⟨w.heap.size, 5, none⟩ = some (.bool fa) := blk_cell Bs_1.out rfl
  have sf5_1 : w1.frozen? ⟨w.heap.size, 5, none⟩ = false := blk_frozen Bs_1.out
  have s6_1 : w1.cell? ⟨w.heap.size, 6, none⟩ = some (.int .i64 ag) := blk_cell Bs_1.out rfl
  have sf6_1 : w1.frozen? ⟨w.heap.size, 6, none⟩ = false := blk_frozen Bs_1.out
  have s7_1 : w1.cell? ⟨w.heap.size, 7, none⟩ = some (.bool jo) := blk_cell Bs_1.out rfl
  have sf7_1 : w1.frozen? ⟨w.heap.size, 7, none⟩ = false := blk_frozen Bs_1.out
  have sz_1 : w.heap.size < w1.heap.size := blk_lt Bs_1.out
  have r0_1 : w1.cell? ⟨w.heap.size + 1, 0, none⟩ = some (.bool false) := blk_cell Br_1.out rfl
  have rf0_1 : w1.frozen? ⟨w.heap.size + 1, 0, none⟩ = false := blk_frozen Br_1.out
  have r1_1 : w1.cell? ⟨w.heap.size + 1, 1, none⟩ = some (.slice none 0 0) := blk_cell Br_1.out rfl
  have rf1_1 : w1.frozen? ⟨w.heap.size + 1, 1, none⟩ = false := blk_frozen Br_1.out
  have r2_1 : w1.cell? ⟨w.heap.size + 1, 2, none⟩ = some (.slice none 0 0) := blk_cell Br_1.out rfl
  have rf2_1 : w1.frozen? ⟨w.heap.size + 1, 2, none⟩ = false := blk_frozen Br_1.out
  have r3_1 : w1.cell? ⟨w.heap.size + 1, 3, none⟩ = some (.slice none 0 0) := blk_cell Br_1.out rfl
  have rf3_1 : w1.frozen? ⟨w.heap.size + 1, 3, none⟩ = false := blk_frozen Br_1.out
  have r4_1 : w1.cell? ⟨w.heap.size + 1, 4, none⟩ = some (.bool false) := blk_cell Br_1.out rfl
  have rf4_1 : w1.frozen? ⟨w.heap.size + 1, 4, none⟩ = false := blk_frozen Br_1.out
  have r5_1 : w1.cell? ⟨w.heap.size + 1, 5, none⟩ = some (.bool false) := blk_cell Br_1.out rfl
  have rf5_1 : w1.frozen? ⟨w.heap.size + 1, 5, none⟩ = false := blk_frozen Br_1.out
  have r6_1 : w1.cell? ⟨w.heap.size + 1, 6, none⟩ = some (.int .i64 0) := blk_cell Br_1.out rfl
  have rf6_1 : w1.frozen? ⟨w.heap.size + 1, 6, none⟩ = false := blk_frozen Br_1.out
  have r7_1 : w1.cell? ⟨w.heap.size + 1, 7, none⟩ = some (.bool false) := blk_cell Br_1.out rfl
  have rf7_1 : w1.frozen? ⟨w.heap.size + 1, 7, none⟩ = false := blk_frozen Br_1.out
  have rz_1 : w.heap.size + 1 < w1.heap.size := blk_lt Br_1.out
  have Su_1 : Hid (Sp w1 Au cu (cano R)) := Own.sp hs1
  clear S1_0 S2_0 S3_0 hs1 hb1
  go_wp2_with fail
  obtain ⟨w2, hw2⟩ : ∃ w2, World.setCell w1 ⟨w.heap.size, 1, none⟩ (.slice Au (cano R).length cu) = w2 := ⟨_, rfl⟩
  rw [hw2]
  have hg2 : w1.grownBy w2 (some (w.heap.size)) := by rw [← hw2]; exact grown_set (p := ⟨w.heap.size, 1, none⟩) (World.grownBy.refl _ _) _
  have HB_2 : Hid (Below w.heap.size w w2) := Below.grown HB_1.out hg2 HB_1.out.size (fun j hj => by injection hj with hj; omega)
  have S1_2 : Hid (Sp w2 A1 c1 (R)) := S1_1.out.grown' (fun h0 => S1_1.out.off_blk h0 Bs_1.out (noPair8 ..)) hg2
  have S2_2 : Hid (Sp w2 A2 c2 (H)) := S2_1.out.grown' (fun h0 => S2_1.out.off_blk h0 Bs_1.out (noPair8 ..)) hg2
  have S3_2 : Hid (Sp w2 A3 c3 (F)) := S3_1.out.grown' (fun h0 => S3_1.out.off_blk h0 Bs_1.out (noPair8 ..)) hg2
  have Su_2 : Hid (Sp w2 Au cu (cano R)) := Su_1.out.grown' (fun h0 => Su_1.out.off_blk h0 Bs_1.out (noPair8 ..)) hg2
  have Bs_2 : Hid (w2.heap[w.heap.size]? = some (.cells #[.bool he, .slice Au (cano R).length cu, .slice A2 H.length c2, .slice A3 F.length c3, .bool tu, .bool fa, .int .i64 ag, .bool jo] 52 (0, 0))) := by simp only [Hid]; rw [← hw2]; exact blk_set Bs_1.out
  have Br_2 : Hid (w2.heap[w.heap.size + 1]? = some (.cells #[.bool false, .slice none 0 0, .slice none 0 0, .slice none 0 0, .bool false, .bool false, .int .i64 0, .bool false] 52 (0, 0))) := (hg2.block _ (by omega) (by intro e; injection e with e; omega)).trans Br_1.out
  have s0_2 : w2.cell? ⟨w.heap.size, 0, none⟩ = some (.bool he) := blk_cell Bs_2.out rfl
  have sf0_2 : w2.frozen? ⟨w.heap.size, 0, none⟩ = false := blk_frozen Bs_2.out
  have s1_2 : w2.cell? ⟨w.heap.size, 1, none⟩ = some (.slice Au (cano R).length cu) := blk_cell Bs_2.out rfl
  have sf1_2 : w2.frozen? ⟨w.heap.size, 1, none⟩ = false := blk_frozen Bs_2.out
  have s2_2 : w2.cell? ⟨w.heap.size, 2, none⟩ = some (.slice A2 H.length c2) := blk_cell Bs_2.out rfl
  have sf2_2 : w2.frozen? ⟨w.heap.size, 2, none⟩ = false := blk_frozen Bs_2.out
  have s3_2 : w2.cell? ⟨w.heap.size, 3, none⟩ = some (.slice A3 F.length c3) := blk_cell Bs_2.out rfl
  have sf3_2 : w2.frozen? ⟨w.heap.size, 3, none⟩ = false := blk_frozen Bs_2.out
  have s4_2 : w2.cell? ⟨w.heap.size, 4, none⟩ = some (.bool tu) := blk_cell Bs_2.out rfl
  have sf4_2 : w2.frozen? ⟨w.heap.size, 4, none⟩ = false := blk_frozen Bs_2.out
  have s5_2 : w2.cell? ⟨w.heap.size, 5, none⟩ = some (.bool fa) := blk_cell Bs_2.out rfl
  have sf5_2 : w2.frozen? ⟨w.heap.size, 5, none⟩ = false := blk_frozen Bs_2.out
  have s6_2 : w2.cell? ⟨w.heap.size, 6, none⟩ = some (.int .i64 ag) := blk_cell Bs_2.out rfl
  have sf6_2 : w2.frozen? ⟨w.heap.size, 6, none⟩ = false := blk_frozen Bs_2.out
  have s7_2 : w2.cell? ⟨w.heap.size, 7, none⟩ = some (.bool jo) := blk_cell Bs_2.out rfl
  have sf7_2 : w2.frozen? ⟨w.heap.size, 7, none⟩ = false := blk_frozen Bs_2.out
  have sz_2 : w.heap.size < w2.heap.size := blk_lt Bs_2.out
  have r0_2 : w2.cell? ⟨w.heap.size + 1, 0, none⟩ = some (.bool false) := blk_cell Br_2.out rfl
  have rf0_2 : w2.frozen? ⟨w.heap.size + 1, 0, none⟩ = false := blk_frozen Br_2.out
  have r1_2 : w2.cell? ⟨w.heap.size + 1, 1, none⟩ = some (.slice none 0 0) := blk_cell Br_2.out rfl
  have rf1_2 : w2.frozen? ⟨w.heap.size + 1, 1, none⟩ = false := blk_frozen Br_2.out
  have r2_2 : w2.cell? ⟨w.heap.size + 1, 2, none⟩ = some (.slice none 0 0) := blk_cell Br_2.out rfl
  have rf2_2 : w2.frozen? ⟨w.heap.size + 1, 2, none⟩ = false := blk_frozen Br_2.out
  have r3_2 : w2.cell? ⟨w.heap.size + 1, 3, none⟩ = some (.slice none 0 0) := blk_cell Br_2.out rfl
  have rf3_2 : w2.frozen? ⟨w.heap.size + 1, 3, none⟩ = false := blk_frozen Br_2.out
  have r4_2 : w2.cell? ⟨w.heap.size + 1, 4, none⟩ = some (.bool false) := blk_cell Br_2.out rfl
  have rf4_2 : w2.frozen? ⟨w.heap.size + 1, 4, none⟩ = false := blk_frozen Br_2.out
  have r5_2 : w2.cell? ⟨w.heap.size + 1, 5, none⟩ = some (.bool false) := blk_cell Br_2.out rfl
  have rf5_2 : w2.frozen? ⟨w.heap.size + 1, 5, none⟩ = false := blk_frozen Br_2.out
  have r6_2 : w2.cell? ⟨w.heap.size + 1, 6, none⟩ = some (.int .i64 0) := blk_cell Br_2.out rfl
  have rf6_2 : w2.frozen? ⟨w.heap.size + 1, 6, none⟩ = false := blk_frozen Br_2.out
  have r7_2 : w2.cell? ⟨w.heap.size + 1, 7, none⟩ = some (.bool false) := blk_cell Br_2.out rfl
  have rf7_2 : w2.frozen? ⟨w.heap.size + 1, 7, none⟩ = false := blk_frozen Br_2.out
  have rz_2 : w.heap.size + 1 < w2.heap.size := blk_lt Br_2.out
  clear HB_1 hw2 hg2 S1_1 S2_1 S3_1 Su_1 Bs_1 s0_1 s1_1 s2_1 s3_1 s4_1 s5_1 s6_1 s7_1 sf0_1 sf1_1 sf2_1 sf3_1 sf4_1 sf5_1 sf6_1 sf7_1 sz_1 Br_1 r0_1 r1_1 r2_1 r3_1 r4_1 r5_1 r6_1 r7_1 rf0_1 rf1_1 rf2_1 rf3_1 rf4_1 rf5_1 rf6_1 rf7_1 rz_1
  refine (rOf_any A2 c2 H _ (by repeat (first | exact S2_2.out | refine Sp.alloc ?_ _ | refine Sp.drewN ?_ _ | refine Sp.drew ?_)) (by omega)).mono ?_
  rintro e3 w3 ⟨Av, cv, rfl, hs3, hb3⟩
  have HB_3 : Hid (Below w.heap.size w w3) := bel_chain hb3 (by repeat (first | exact HB_2.out | refine bel_drewN ?_ _ | refine bel_drew ?_ | refine bel_alloc ?_ _))
  have S1_3 : Hid (Sp w3 A1 c1 (R)) := Sp.below (by repeat (first | exact S1_2.out | refine Sp.alloc ?_ _ | refine Sp.drewN ?_ _ | refine Sp.drew ?_)) hb3
  have S2_3 : Hid (Sp w3 A2 c2 (H)) := Sp.below (by repeat (first | exact S2_2.out | refine Sp.alloc ?_ _ | refine Sp.drewN ?_ _ | refine Sp.drew ?_)) hb3
  have S3_3 : Hid (Sp w3 A3 c3 (F)) := Sp.below (by repeat (first | exact S3_2.out | refine Sp.alloc ?_ _ | refine Sp.drewN ?_ _ | refine Sp.drew ?_)) hb3
  have Su_3 : Hid (Sp w3 Au cu (cano R)) := Sp.below (by repeat (first | exact Su_2.out | refine Sp.alloc ?_ _ | refine Sp.drewN ?_ _ | refine Sp.drew ?_)) hb3
  have Bs_3 : Hid (w3.heap[w.heap.size]? = some (.cells #[.bool he, .slice Au (cano R).length cu, .slice A2 H.length c2, .slice A3 F.length c3, .bool tu, .bool fa, .int .i64 ag, .bool jo] 52 (0, 0))) := blk_keep hb3 (blk_keep (W := w2) (by (repeat (first | exact Below.refl _ _ | refine bel_drewN ?_ _ | refine bel_drew ?_ | refine bel_alloc ?_ _ | refine bel_set ?_ (by simp) _))) Bs_2.out)
  have Br_3 : Hid (w3.heap[w.heap.size + 1]? = some (.cells #[.bool false, .slice none 0 0, .slice none 0 0, .slice none 0 0, .bool false, .bool false, .int .i64 0, .bool false] 52 (0, 0))) := blk_keep hb3 (blk_keep (W := w2) (by (repeat (first | exact Below.refl _ _ | refine bel_drewN ?_ _ | refine bel_drew ?_ | refine bel_alloc ?_ _ | refine bel_set ?_ (by simp) _))) Br_2.out)
  have s0_3 : w3.cell? ⟨w.heap.size, 0, none⟩ = some (.bool he) := blk_cell Bs_3.out rfl
  have sf0_3 : w3.frozen? ⟨w.heap.size, 0, none⟩ = false := blk_frozen Bs_3.out
  have s1_3 : w3.cell? ⟨w.heap.size, 1, none⟩ = some (.slice Au (cano R).length cu) := blk_cell Bs_3.out rfl
  have sf1_3 : w3.frozen? ⟨w.heap.size, 1, none⟩ = false := blk_frozen Bs_3.out
  have s2_3 : w3.cell? ⟨w.heap.size, 2, none⟩ = some (.slice A2 H.length c2) := blk_cell Bs_3.out rfl
  have sf2_3 : w3.frozen? ⟨w.heap.size, 2, none⟩ = false := blk_frozen Bs_3.out
  have s3_3 : w3.cell? ⟨w.heap.size, 3, none⟩ = some (.slice A3 F.length c3) := blk_cell Bs_3.out rfl
  have sf3_3 : w3.frozen? ⟨w.heap.size, 3, none⟩ = false := blk_frozen Bs_3.out
  have s4_3 : w3.cell? ⟨w.heap.size, 4, none⟩ = some (.bool tu) := blk_cell Bs_3.out rfl
  have sf4_3 : w3.frozen? ⟨w.heap.size, 4, none⟩ = false := blk_frozen Bs_3.out
  have s5_3 : w3.cell? ⟨w.heap.size, 5, none⟩ = some (.bool fa) := blk_cell Bs_3.out rfl
  have sf5_3 : w3.frozen? ⟨w.heap.size, 5, none⟩ = false := blk_frozen Bs_3.out
  have s6_3 : w3.cell? ⟨w.heap.size, 6, none⟩ = some (.int .i64 ag) := blk_cell Bs_3.out rfl
  have sf6_3 : w3.frozen? ⟨w.heap.size, 6, none⟩ = false := blk_frozen Bs_3.out
  have s7_3 : w3.cell? ⟨w.heap.size, 7, none⟩ = some (.bool jo) := blk_cell Bs_3.out rfl
  have sf7_3 : w3.frozen? ⟨w.heap.size, 7, none⟩ = false := blk_frozen Bs_3.out
  have sz_3 : w.heap.size < w3.heap.size := blk_lt Bs_3.out
  have r0_3 : w3.cell? ⟨w.heap.size + 1, 0, none⟩ = some (.bool false) := blk_cell Br_3.out rfl
  have rf0_3 : w3.frozen? ⟨w.heap.size + 1, 0, none⟩ = false := blk_frozen Br_3.out
  have r1_3 : w3.cell? ⟨w.heap.size + 1, 1, none⟩ = some (.slice none 0 0) := blk_cell Br_3.out rfl
  have rf1_3 : w3.frozen? ⟨w.heap.size + 1, 1, none⟩ = false := blk_frozen Br_3.out
  have r2_3 : w3.cell? ⟨w.heap.size + 1, 2, none⟩ = some (.slice none 0 0) := blk_cell Br_3.out rfl
  have rf2_3 : w3.frozen? ⟨w.heap.size + 1, 2, none⟩ = false := blk_frozen Br_3.out
  have r3_3 : w3.cell? ⟨w.heap.size + 1, 3, none⟩ = some (.slice none 0 0) := blk_cell Br_3.out rfl
  have rf3_3 : w3.frozen? ⟨w.heap.size + 1, 3, none⟩ = false := blk_frozen Br_3.out
  have r4_3 : w3.cell? ⟨w.heap.size + 1, 4, none⟩ = some (.bool false) := blk_cell Br_3.out rfl
  have rf4_3 : w3.frozen? ⟨w.heap.size + 1, 4, none⟩ = false := blk_frozen Br_3.out
  have r5_3 : w3.cell? ⟨w.heap.size + 1, 5, none⟩ = some (.bool false) := blk_cell Br_3.out rfl
  have rf5_3 : w3.frozen? ⟨w.heap.size + 1, 5, none⟩ = false := blk_frozen Br_3.out
  have r6_3 : w3.cell? ⟨w.heap.size + 1, 6, none⟩ = some (.int .i64 0) := blk_cell Br_3.out rfl
  have rf6_3 : w3.frozen? ⟨w.heap.size + 1, 6, none⟩ = false := blk_frozen Br_3.out
  have r7_3 : w3.cell? ⟨w.heap.size + 1, 7, none⟩ = some (.bool false) := blk_cell Br_3.out rfl
  have rf7_3 : w3.frozen? ⟨w.heap.size + 1, 7, none⟩ = false := blk_frozen Br_3.out
  have rz_3 : w.heap.size + 1 < w3.heap.size := blk_lt Br_3.out
  have Sv_3 : Hid (Sp w3 Av cv (cano H)) := Own.sp hs3
  clear S1_2 S2_2 S3_2 Su_2 Bs_2 s0_2 s1_2 s2_2 s3_2 s4_2 s5_2 s6_2 s7_2 sf0_2 sf1_2 sf2_2 sf3_2 sf4_2 sf5_2 sf6_2 sf7_2 sz_2 Br_2 r0_2 r1_2 r2_2 r3_2 r4_2 r5_2 r6_2 r7_2 rf0_2 rf1_2 rf2_2 rf3_2 rf4_2 rf5_2 rf6_2 rf7_2 rz_2 hs3 HB_2 hb3
  go_wp2_with fail
  obtain ⟨w4, hw4⟩ : ∃ w4, World.setCell w3 ⟨w.heap.size, 2, none⟩ (.slice Av (cano H).length cv) = w4 := ⟨_, rfl⟩
  rw [hw4]
  have hg4 : w3.grownBy w4 (some (w.heap.size)) := by rw [← hw4]; exact grown_set (p := ⟨w.heap.size, 2, none⟩) (World.grownBy.refl _ _) _
  have HB_4 : Hid (Below w.heap.size w w4) := Below.grown HB_3.out hg4 HB_3.out.size (fun j hj => by injection hj with hj; omega)
  have S1_4 : Hid (Sp w4 A1 c1 (R)) := S1_3.out.grown' (fun h0 => S1_3.out.off_blk h0 Bs_3.out (noPair8 ..)) hg4
  have S2_4 : Hid (Sp w4 A2 c2 (H)) := S2_3.out.grown' (fun h0 => S2_3.out.off_blk h0 Bs_3.out (noPair8 ..)) hg4
  have S3_4 : Hid (Sp w4 A3 c3 (F)) := S3_3.out.grown' (fun h0 => S3_3.out.off_blk h0 Bs_3.out (noPair8 ..)) hg4
  have Su_4 : Hid (Sp w4 Au cu (cano R)) := Su_3.out.grown' (fun h0 => Su_3.out.off_blk h0 Bs_3.out (noPair8 ..)) hg4
  have Sv_4 : Hid (Sp w4 Av cv (cano H)) := Sv_3.out.grown' (fun h0 => Sv_3.out.off_blk h0 Bs_3.out (noPair8 ..)) hg4
  have Bs_4 : Hid (w4.heap[w.heap.size]? = some (.cells #[.bool he, .slice Au (cano R).length cu, .slice Av (cano H).length cv, .slice A3 F.length c3, .bool tu, .bool fa, .int .i64 ag, .bool jo] 52 (0, 0))) := by simp only [Hid]; rw [← hw4]; exact blk_set Bs_3.out
  have Br_4 : Hid (w4.heap[w.heap.size + 1]? = some (.cells #[.bool false, .slice none 0 0, .slice none 0 0, .slice none 0 0, .bool false, .bool false, .int .i64 0, .bool false] 52 (0, 0))) := (hg4.block _ (by omega) (by intro e; injection e with e; omega)).trans Br_3.out
  have s0_4 : w4.cell? ⟨w.heap.size, 0, none⟩ = some (.bool he) := blk_cell Bs_4.out rfl
  have sf0_4 : w4.frozen? ⟨w.heap.size, 0, none⟩ = false := blk_frozen Bs_4.out
  have s1_4 : w4.cell? ⟨w.heap.size, 1, none⟩ = some (.slice Au (cano R).length cu) := blk_cell Bs_4.out rfl
  have sf1_4 : w4.frozen? ⟨w.heap.size, 1, none⟩ = false := blk_frozen Bs_4.out
  have s2_4 : w4.cell? ⟨w.heap.size, 2, none⟩ = some (.slice Av (cano H).length cv) := blk_cell Bs_4.out rfl
  have sf2_4 : w4.frozen? ⟨w.heap.size, 2, none⟩ = false := blk_frozen Bs_4.out
  have s3_4 : w4.cell? ⟨w.heap.size, 3, none⟩ = some (.slice A3 F.length c3) := blk_cell Bs_4.out rfl
  have sf3_4 : w4.frozen? ⟨w.heap.size, 3, none⟩ = false := blk_frozen Bs_4.out
  have s4_4 : w4.cell? ⟨w.heap.size, 4, none⟩ = some (.bool tu) := blk_cell Bs_4.out rfl
  have sf4_4 : w4.frozen? ⟨w.heap.size, 4, none⟩ = false := blk_frozen Bs_4.out
  have s5_4 : w4.cell? ⟨w.heap.size, 5, none⟩ = some (.bool fa) := blk_cell Bs_4.out rfl
  have sf5_4 : w4.frozen? ⟨w.heap.size, 5, none⟩ = false := blk_frozen Bs_4.out
  have s6_4 : w4.cell? ⟨w.heap.size, 6, none⟩ = some (.int .i64 ag) := blk_cell Bs_4.out rfl
  have sf6_4 : w4.frozen? ⟨w.heap.size, 6, none⟩ = false := blk_frozen Bs_4.out
  have s7_4 : w4.cell? ⟨w.heap.size, 7, none⟩ = some (.bool jo) := blk_cell Bs_4.out rfl
  have sf7_4 : w4.frozen? ⟨w.heap.size, 7, none⟩ = false := blk_frozen Bs_4.out
  have sz_4 : w.heap.size < w4.heap.size := blk_lt Bs_4.out
  have r0_4 : w4.cell? ⟨w.heap.size + 1, 0, none⟩ = some (.bool false) := blk_cell Br_4.out rfl
  have rf0_4 : w4.frozen? ⟨w.heap.size + 1, 0, none⟩ = false := blk_frozen Br_4.out
  have r1_4 : w4.cell? ⟨w.heap.size + 1, 1, none⟩ = some (.slice none 0 0) := blk_cell Br_4.out rfl
  have rf1_4 : w4.frozen? ⟨w.heap.size + 1, 1, none⟩ = false := blk_frozen Br_4.out
  have r2_4 : w4.cell? ⟨w.heap.size + 1, 2, none⟩ = some (.slice none 0 0) := blk_cell Br_4.out rfl
  have rf2_4 : w4.frozen? ⟨w.heap.size + 1, 2, none⟩ = false := blk_frozen Br_4.out
  have r3_4 : w4.cell? ⟨w.heap.size + 1, 3, none⟩ = some (.slice none 0 0) := blk_cell Br_4.out rfl
  have rf3_4 : w4.frozen? ⟨w.heap.size + 1, 3, none⟩ = false := blk_frozen Br_4.out
  have r4_4 : w4.cell? ⟨w.heap.size + 1, 4, none⟩ = some (.bool false) := blk_cell Br_4.out rfl
  have rf4_4 : w4.frozen? ⟨w.heap.size + 1, 4, none⟩ = false := blk_frozen Br_4.out
  have r5_4 : w4.cell? ⟨w.heap.size + 1, 5, none⟩ = some (.bool false) := blk_cell Br_4.out rfl
  have rf5_4 : w4.frozen? ⟨w.heap.size + 1, 5, none⟩ = false := blk_frozen Br_4.out
  have r6_4 : w4.cell? ⟨w.heap.size + 1, 6, none⟩ = some (.int .i64 0) := blk_cell Br_4.out rfl
  have rf6_4 : w4.frozen? ⟨w.heap.size + 1, 6, none⟩ = false := blk_frozen Br_4.out
  have r7_4 : w4.cell? ⟨w.heap.size + 1, 7, none⟩ = some (.bool false) := blk_cell Br_4.out rfl
  have rf7_4 : w4.frozen? ⟨w.heap.size + 1, 7, none⟩ = false := blk_frozen Br_4.out
  have rz_4 : w.heap.size + 1 < w4.heap.size := blk_lt Br_4.out
  clear HB_3 hw4 hg4 S1_3 S2_3 S3_3 Su_3 Sv_3 Bs_3 s0_3 s1_3 s2_3 s3_3 s4_3 s5_3 s6_3 s7_3 sf0_3 sf1_3 sf2_3 sf3_3 sf4_3 sf5_3 sf6_3 sf7_3 sz_3 Br_3 r0_3 r1_3 r2_3 r3_3 r4_3 r5_3 r6_3 r7_3 rf0_3 rf1_3 rf2_3 rf3_3 rf4_3 rf5_3 rf6_3 rf7_3 rz_3
  refine (rOf_any A3 c3 F _ (by repeat (first | exact S3_4.out | refine Sp.alloc ?_ _ | refine Sp.drewN ?_ _ | refine Sp.drew ?_)) (by omega)).mono ?_
  rintro e5 w5 ⟨Ax, cx, rfl, hs5, hb5⟩
  have HB_5 : Hid (Below w.heap.size w w5) := bel_chain hb5 (by repeat (first | exact HB_4.out | refine bel_drewN ?_ _ | refine bel_drew ?_ | refine bel_alloc ?_ _))
  have S1_5 : Hid (Sp w5 A1 c1 (R)) := Sp.below (by repeat (first | exact S1_4.out | refine Sp.alloc ?_ _ | refine Sp.drewN ?_ _ | refine Sp.drew ?_)) hb5
  have S2_5 : Hid (Sp w5 A2 c2 (H)) := Sp.below (by repeat (first | exact S2_4.out | refine Sp.alloc ?_ _ | refine Sp.drewN ?_ _ | refine Sp.drew ?_)) hb5
  have S3_5 : Hid (Sp w5 A3 c3 (F)) := Sp.below (by repeat (first | exact S3_4.out | refine Sp.alloc ?_ _ | refine Sp.drewN ?_ _ | refine Sp.drew ?_)) hb5
  have Su_5 : Hid (Sp w5 Au cu (cano R)) := Sp.below (by repeat (first | exact Su_4.out | refine Sp.alloc ?_ _ | refine Sp.drewN ?_ _ | refine Sp.drew ?_)) hb5
  have Sv_5 : Hid (Sp w5 Av cv (cano H)) := Sp.below (by repeat (first | exact Sv_4.out | refine Sp.alloc ?_ _ | refine Sp.drewN ?_ _ | refine Sp.drew ?_)) hb5
  have Bs_5 : Hid (w5.heap[w.heap.size]? = some (.cells #[.bool he, .slice Au (cano R).length cu, .slice Av (cano H).length cv, .slice A3 F.length c3, .bool tu, .bool fa, .int .i64 ag, .bool jo] 52 (0, 0))) := blk_keep hb5 (blk_keep (W := w4) (by (repeat (first | exact Below.refl _ _ | refine bel_drewN ?_ _ | refine bel_drew ?_ | refine bel_alloc ?_ _ | refine bel_set ?_ (by simp) _))) Bs_4.out)
  have Br_5 : Hid (w5.heap[w.heap.size + 1]? = some (.cells #[.bool false, .slice none 0 0, .slice none 0 0, .slice none 0 0, .bool false, .bool false, .int .i64 0, .bool false] 52 (0, 0))) := blk_keep hb5 (blk_keep (W := w4) (by (repeat (first | exact Below.refl _ _ | refine bel_drewN ?_ _ | refine bel_drew ?_ | refine bel_alloc ?_ _ | refine bel_set ?_ (by simp) _))) Br_4.out)
  have s0_5 : w5.cell? ⟨w.heap.size, 0, none⟩ = some (.bool he) := blk_cell Bs_5.out rfl
  have sf0_5 : w5.frozen? ⟨w.heap.size, 0, none⟩ = false := blk_frozen Bs_5.out
  have s1_5 : w5.cell? ⟨w.heap.size, 1, none⟩ = some (.slice Au (cano R).length cu) := blk_cell Bs_5.out rfl
  have sf1_5 : w5.frozen? ⟨w.heap.size, 1, none⟩ = false := blk_frozen Bs_5.out
  have s2_5 : w5.cell? ⟨w.heap.size, 2, none⟩ = some (.slice Av (cano H).length cv) := blk_cell Bs_5.out rfl
  have sf2_5 : w5.frozen? ⟨w.heap.size, 2, none⟩ = false := blk_frozen Bs_5.out
  have s3_5 : w5.cell? ⟨w.heap.size, 3, none⟩ = some (.slice A3 F.length c3) := blk_cell Bs_5.out rfl
  have sf3_5 : w5.frozen? ⟨w.heap.size, 3, none⟩ = false := blk_frozen Bs_5.out
  have s4_5 : w5.cell? ⟨w.heap.size, 4, none⟩ = some (.bool tu) := blk_cell Bs_5.out rfl
  have sf4_5 : w5.frozen? ⟨w.heap.size, 4, none⟩ = false := blk_frozen Bs_5.out
  have s5_5 : w5.cell? ⟨w.heap.size, 5, none⟩ = some (.bool fa) := blk_cell Bs_5.out rfl
  have sf5_5 : w5.frozen? ⟨w.heap.size, 5, none⟩ = false := blk_frozen Bs_5.out
  have s6_5 : w5.cell? ⟨w.heap.size, 6, none⟩ = some (.int .i64 ag) := blk_cell Bs_5.out rfl
  have sf6_5 : w5.frozen? ⟨w.heap.size, 6, none⟩ = false := blk_frozen Bs_5.out
  have s7_5 : w5.cell? ⟨w.heap.size, 7, none⟩ = some (.bool jo) := blk_cell Bs_5.out rfl
  have sf7_5 : w5.frozen? ⟨w.heap.size, 7, none⟩ = false := blk_frozen Bs_5.out
  have sz_5 : w.heap.size < w5.heap.size := blk_lt Bs_5.out
  have r0_5 : w5.cell? ⟨w.heap.size + 1, 0, none⟩ = some (.bool false) := blk_cell Br_5.out rfl
  have rf0_5 : w5.frozen? ⟨w.heap.size + 1, 0, none⟩ = false := blk_frozen Br_5.out
  have r1_5 : w5.cell? ⟨w.heap.size + 1, 1, none⟩ = some (.slice none 0 0) := blk_cell Br_5.out rfl
  have rf1_5 : w5.frozen? ⟨w.heap.size + 1, 1, none⟩ = false := blk_frozen Br_5.out
  have r2_5 : w5.cell? ⟨w.heap.size + 1, 2, none⟩ = some (.slice none 0 0) := blk_cell Br_5.out rfl
  have rf2_5 : w5.frozen? ⟨w.heap.size + 1, 2, none⟩ = false := blk_frozen Br_5.out
  have r3_5 : w5.cell? ⟨w.heap.size + 1, 3, none⟩ = some (.slice none 0 0) := blk_cell Br_5.out rfl
  have rf3_5 : w5.frozen? ⟨w.heap.size + 1, 3, none⟩ = false := blk_frozen Br_5.out
  have r4_5 : w5.cell? ⟨w.heap.size + 1, 4, none⟩ = some (.bool false) := blk_cell Br_5.out rfl
  have rf4_5 : w5.frozen? ⟨w.heap.size + 1, 4, none⟩ = false := blk_frozen Br_5.out
  have r5_5 : w5.cell? ⟨w.heap.size + 1, 5, none⟩ = some (.bool false) := blk_cell Br_5.out rfl
  have rf5_5 : w5.frozen? ⟨w.heap.size + 1, 5, none⟩ = false := blk_frozen Br_5.out
  have r6_5 : w5.cell? ⟨w.heap.size + 1, 6, none⟩ = some (.int .i64 0) := blk_cell Br_5.out rfl
  have rf6_5 : w5.frozen? ⟨w.heap.size + 1, 6, none⟩ = false := blk_frozen Br_5.out
  have r7_5 : w5.cell? ⟨w.heap.size + 1, 7, none⟩ = some (.bool false) := blk_cell Br_5.out rfl
  have rf7_5 : w5.frozen? ⟨w.heap.size + 1, 7, none⟩ = false := blk_frozen Br_5.out
  have rz_5 : w.heap.size + 1 < w5.heap.size := blk_lt Br_5.out
  have Sx_5 : Hid (Sp w5 Ax cx (cano F)) := Own.sp hs5
  clear S1_4 S2_4 S3_4 Su_4 Sv_4 Bs_4 s0_4 s1_4 s2_4 s3_4 s4_4 s5_4 s6_4 s7_4 sf0_4 sf1_4 sf2_4 sf3_4 sf4_4 sf5_4 sf6_4 sf7_4 sz_4 Br_4 r0_4 r1_4 r2_4 r3_4 r4_4 r5_4 r6_4 r7_4 rf0_4 rf1_4 rf2_4 rf3_4 rf4_4 rf5_4 rf6_4 rf7_4 rz_4 hs5 HB_4 hb5
  have OU := Lib.hid (fun h0 => Su_5.out.off_blk h0 Br_5.out (noPair8 ..))
  have OV := Lib.hid (fun h0 => Sv_5.out.off_blk h0 Br_5.out (noPair8 ..))
  have OX := Lib.hid (fun h0 => Sx_5.out.off_blk h0 Br_5.out (noPair8 ..))
  have PU := Lib.hid (fun h0 => Su_5.out.off_blk h0 Bs_5.out (noPair8 ..))
  have PV := Lib.hid (fun h0 => Sv_5.out.off_blk h0 Bs_5.out (noPair8 ..))
  have PX := Lib.hid (fun h0 => Sx_5.out.off_blk h0 Bs_5.out (noPair8 ..))
  go_wp2_with fail
  refine bodyPost_ret (by simp [results, Tryd.results45, go_sem, r0_5, r1_5, r2_5, r3_5, r4_5, r5_5, r6_5, r7_5, s0_5, s1_5, s2_5, s3_5, s4_5, s5_5, s6_5, s7_5]; try rfl) rfl ?_
  exact ⟨Au, cu, Av, cv, Ax, cx, rfl, (by repeat (first | (with_reducible exact Su_5.out) | (refine Sp.setOff ?_ OU.out _) | (refine Sp.setOff ?_ PU.out _))), (by repeat (first | (with_reducible exact Sv_5.out) | (refine Sp.setOff ?_ OV.out _) | (refine Sp.setOff ?_ PV.out _))), (by repeat (first | (with_reducible exact Sx_5.out) | (refine Sp.setOff ?_ OX.out _) | (refine Sp.setOff ?_ PX.out _))), (by repeat (first | (with_reducible exact HB_5.out) | (with_reducible refine bel_drewN ?_ _) | (with_reducible refine bel_drew ?_) | (with_reducible refine bel_alloc ?_ _) | (with_reducible refine bel_set ?_ (by first | omega | (dsimp only; omega)) _)))⟩
end Go.Proofs.YtmbcnfgeobbldaaDoor
