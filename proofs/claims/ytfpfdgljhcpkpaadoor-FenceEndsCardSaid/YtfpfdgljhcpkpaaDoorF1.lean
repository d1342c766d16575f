/- Contracts of the functions that make states of sets. -/
import Derived.Test.YtfpfdgljhcpkpaaDoorF0
namespace Go.Proofs.YtfpfdgljhcpkpaaDoor
open Go.RowKit

set_option maxHeartbeats 4000000 in
set_option maxRecDepth 100000 in
theorem own_any (he : Bool) (A1 : Option Addr) (c1 : Nat) (R : List (Int × Int)) (A2 : Option Addr) (c2 : Nat) (H : List (Int × Int)) (A3 : Option Addr) (c3 : Nat) (F : List (Int × Int)) (tu fa : Bool) (ag : Int) (jo : Bool) (w : World) (h1 : Sp w A1 c1 R) (h2 : Sp w A2 c2 H) (h3 : Sp w A3 c3 F) (l1 : R.length ≤ 10000) (l2 : H.length ≤ 10000) (l3 : F.length ≤ 10000) :
    Calls Tryd.prog 11 #[.agg #[.bool he, .slice A1 R.length c1, .slice A2 H.length c2, .slice A3 F.length c3, .bool tu, .bool fa, .int .i64 ag, .bool jo]] w (RetSt he (cano R) (cano H) (cano F) tu fa ag jo w) := by
  have S1_0 := Lib.hid (h1)
  have S2_0 := Lib.hid (h2)
  have S3_0 := Lib.hid (h3)
  clear h1 h2 h3
  go_enter Tryd.func11, Tryd.ntmps11
  have tok1 : True := trivial
  go_wp2_with fail
  go_region_held3 (fun w' => w'.cell? ⟨w.heap.size, 0, none⟩ = some (.bool he) ∧ w'.cell? ⟨w.heap.size, 1, none⟩ = some (.slice A1 R.length c1) ∧ w'.cell? ⟨w.heap.size, 2, none⟩ = some (.slice A2 H.length c2) ∧ w'.cell? ⟨w.heap.size, 3, none⟩ = some (.slice A3 F.length c3) ∧ w'.cell? ⟨w.heap.size, 4, none⟩ = some (.bool tu) ∧ w'.cell? ⟨w.heap.size, 5, none⟩ = some (.bool fa) ∧ w'.cell? ⟨w.heap.size, 6, none⟩ = some (.int .i64 ag) ∧ w'.cell? ⟨w.heap.size, 7, none⟩ = some (.bool jo))
    (first | (refine cells8 (t := 24) (f := (0, 0)) (a0 := .bool he) (a1 := .slice A1 R.length c1) (a2 := .slice A2 H.length c2) (a3 := .slice A3 F.length c3) (a4 := .bool tu) (a5 := .bool fa) (a6 := .int .i64 ag) (a7 := .bool jo) ?_; repeat (first | (with_reducible exact Bs_3.out) | (with_reducible exact Bs_2.out) | (with_reducible exact Bs_1.out) | (with_reducible exact blk_new rfl) | (with_reducible refine blk_skip ?_) | (with_reducible refine blk_set_ne (by show w.heap.size ≠ w.heap.size + 1; omega) ?_) | (with_reducible refine blk_drew ?_) | (with_reducible refine blk_drewN ?_))))
    (first
      | (go_at_call 49
         have _tk := tok1
         clear _tk tok1
         refine (of_any A1 c1 R _ (by repeat (first | exact S1_0.out | refine Sp.alloc ?_ _ | refine Sp.drewN ?_ _ | refine Sp.drew ?_)) (by omega)).mono ?_
         rintro e1 w1 ⟨Au, cu, rfl, hs1, hb1⟩
         have HB_1 : Hid (Below w.heap.size w w1) := bel_chain hb1 (by repeat (first | exact Below.refl _ _ | refine bel_drewN ?_ _ | refine bel_drew ?_ | refine bel_alloc ?_ _))
         have S1_1 : Hid (Sp w1 A1 c1 (R)) := Sp.below (by repeat (first | exact S1_0.out | refine Sp.alloc ?_ _ | refine Sp.drewN ?_ _ | refine Sp.drew ?_)) hb1
         have S2_1 : Hid (Sp w1 A2 c2 (H)) := Sp.below (by repeat (first | exact S2_0.out | refine Sp.alloc ?_ _ | refine Sp.drewN ?_ _ | refine Sp.drew ?_)) hb1
         have S3_1 : Hid (Sp w1 A3 c3 (F)) := Sp.below (by repeat (first | exact S3_0.out | refine Sp.alloc ?_ _ | refine Sp.drewN ?_ _ | refine Sp.drew ?_)) hb1
         have Bs_1 : Hid (w1.heap[w.heap.size]? = some (.cells #[.bool he, .slice A1 R.length c1, .slice A2 H.length c2, .slice A3 F.length c3, .bool tu, .bool fa, .int .i64 ag, .bool jo] 24 (0, 0))) := blk_keep hb1 (by repeat (first | exact blk_new (by first | rfl | (simp; done) | (simp; omega)) | refine blk_skip ?_ | refine blk_drewN ?_ | refine blk_drew ?_))
         have Br_1 : Hid (w1.heap[w.heap.size + 1]? = some (.cells #[.bool false, .slice none 0 0, .slice none 0 0, .slice none 0 0, .bool false, .bool false, .int .i64 0, .bool false] 31 (0, 0))) := blk_keep hb1 (by repeat (first | exact blk_new (by first | rfl | (simp; done) | (simp; omega)) | refine blk_skip ?_ | refine blk_drewN ?_ | refine blk_drew ?_))
         have sz_1 : w.heap.size < w1.heap.size := blk_lt Bs_1.out
         have rz_1 : w.heap.size + 1 < w1.heap.size := blk_lt Br_1.out
         have Su_1 : Hid (Sp w1 Au cu (cano R)) := hs1
         clear S1_0 S2_0 S3_0 hs1 hb1
         have tok2 : True := trivial)
      | (go_at_call 49
         have _tk := tok2
         clear _tk tok2
         refine (of_any A2 c2 H _ (by repeat (first | exact S2_1.out | refine Sp.alloc ?_ _ | refine Sp.drewN ?_ _ | refine Sp.drew ?_)) (by omega)).mono ?_
         rintro e2 w2 ⟨Av, cv, rfl, hs2, hb2⟩
         have HB_2 : Hid (Below w.heap.size w w2) := bel_chain hb2 (by repeat (first | exact HB_1.out | refine bel_drewN ?_ _ | refine bel_drew ?_ | refine bel_alloc ?_ _))
         have S1_2 : Hid (Sp w2 A1 c1 (R)) := Sp.below (by repeat (first | exact S1_1.out | refine Sp.alloc ?_ _ | refine Sp.drewN ?_ _ | refine Sp.drew ?_)) hb2
         have S2_2 : Hid (Sp w2 A2 c2 (H)) := Sp.below (by repeat (first | exact S2_1.out | refine Sp.alloc ?_ _ | refine Sp.drewN ?_ _ | refine Sp.drew ?_)) hb2
         have S3_2 : Hid (Sp w2 A3 c3 (F)) := Sp.below (by repeat (first | exact S3_1.out | refine Sp.alloc ?_ _ | refine Sp.drewN ?_ _ | refine Sp.drew ?_)) hb2
         have Su_2 : Hid (Sp w2 Au cu (cano R)) := Sp.below (by repeat (first | exact Su_1.out | refine Sp.alloc ?_ _ | refine Sp.drewN ?_ _ | refine Sp.drew ?_)) hb2
         have Bs_2 : Hid (w2.heap[w.heap.size]? = some (.cells #[.bool he, .slice A1 R.length c1, .slice A2 H.length c2, .slice A3 F.length c3, .bool tu, .bool fa, .int .i64 ag, .bool jo] 24 (0, 0))) := blk_keep hb2 (blk_keep (W := w1) (by (repeat (first | exact Below.refl _ _ | refine bel_drewN ?_ _ | refine bel_drew ?_ | refine bel_alloc ?_ _ | refine bel_set ?_ (by simp) _))) Bs_1.out)
         have Br_2 : Hid (w2.heap[w.heap.size + 1]? = some (.cells #[.bool false, .slice none 0 0, .slice none 0 0, .slice none 0 0, .bool false, .bool false, .int .i64 0, .bool false] 31 (0, 0))) := blk_keep hb2 (blk_keep (W := w1) (by (repeat (first | exact Below.refl _ _ | refine bel_drewN ?_ _ | refine bel_drew ?_ | refine bel_alloc ?_ _ | refine bel_set ?_ (by simp) _))) Br_1.out)
         have sz_2 : w.heap.size < w2.heap.size := blk_lt Bs_2.out
         have rz_2 : w.heap.size + 1 < w2.heap.size := blk_lt Br_2.out
         have Sv_2 : Hid (Sp w2 Av cv (cano H)) := hs2
         clear S1_1 S2_1 S3_1 Su_1 Bs_1 sz_1 Br_1 rz_1 hs2 HB_1 hb2
         have tok3 : True := trivial)
      | (go_at_call 49
         have _tk := tok3
         clear _tk tok3
         refine (of_any A3 c3 F _ (by repeat (first | exact S3_2.out | refine Sp.alloc ?_ _ | refine Sp.drewN ?_ _ | refine Sp.drew ?_)) (by omega)).mono ?_
         rintro e3 w3 ⟨Ax, cx, rfl, hs3, hb3⟩
         have HB_3 : Hid (Below w.heap.size w w3) := bel_chain hb3 (by repeat (first | exact HB_2.out | refine bel_drewN ?_ _ | refine bel_drew ?_ | refine bel_alloc ?_ _))
         have S1_3 : Hid (Sp w3 A1 c1 (R)) := Sp.below (by repeat (first | exact S1_2.out | refine Sp.alloc ?_ _ | refine Sp.drewN ?_ _ | refine Sp.drew ?_)) hb3
         have S2_3 : Hid (Sp w3 A2 c2 (H)) := Sp.below (by repeat (first | exact S2_2.out | refine Sp.alloc ?_ _ | refine Sp.drewN ?_ _ | refine Sp.drew ?_)) hb3
         have S3_3 : Hid (Sp w3 A3 c3 (F)) := Sp.below (by repeat (first | exact S3_2.out | refine Sp.alloc ?_ _ | refine Sp.drewN ?_ _ | refine Sp.drew ?_)) hb3
         have Su_3 : Hid (Sp w3 Au cu (cano R)) := Sp.below (by repeat (first | exact Su_2.out | refine Sp.alloc ?_ _ | refine Sp.drewN ?_ _ | refine Sp.drew ?_)) hb3
         have Sv_3 : Hid (Sp w3 Av cv (cano H)) := Sp.below (by repeat (first | exact Sv_2.out | refine Sp.alloc ?_ _ | refine Sp.drewN ?_ _ | refine Sp.drew ?_)) hb3
         have Bs_3 : Hid (w3.heap[w.heap.size]? = some (.cells #[.bool he, .slice A1 R.length c1, .slice A2 H.length c2, .slice A3 F.length c3, .bool tu, .bool fa, .int .i64 ag, .bool jo] 24 (0, 0))) := blk_keep hb3 (blk_keep (W := w2) (by (repeat (first | exact Below.refl _ _ | refine bel_drewN ?_ _ | refine bel_drew ?_ | refine bel_alloc ?_ _ | refine bel_set ?_ (by simp) _))) Bs_2.out)
         have Br_3 : Hid (w3.heap[w.heap.size + 1]? = some (.cells #[.bool false, .slice none 0 0, .slice none 0 0, .slice none 0 0, .bool false, .bool false, .int .i64 0, .bool false] 31 (0, 0))) := blk_keep hb3 (blk_keep (W := w2) (by (repeat (first | exact Below.refl _ _ | refine bel_drewN ?_ _ | refine bel_drew ?_ | refine bel_alloc ?_ _ | refine bel_set ?_ (by simp) _))) Br_2.out)
         have sz_3 : w.heap.size < w3.heap.size := blk_lt Bs_3.out
         have rz_3 : w.heap.size + 1 < w3.heap.size := blk_lt Br_3.out
         have Sx_3 : Hid (Sp w3 Ax cx (cano F)) := hs3
         have r0 : w3.cell? ⟨w.heap.size + 1, 0, none⟩ = some (.bool false) := blk_cell Br_3.out rfl
         have rf0 : w3.frozen? ⟨w.heap.size + 1, 0, none⟩ = false := blk_frozen Br_3.out
         have r1 : w3.cell? ⟨w.heap.size + 1, 1, none⟩ = some (.slice none 0 0) := blk_cell Br_3.out rfl
         have rf1 : w3.frozen? ⟨w.heap.size + 1, 1, none⟩ = false := blk_frozen Br_3.out
         have r2 : w3.cell? ⟨w.heap.size + 1, 2, none⟩ = some (.slice none 0 0) := blk_cell Br_3.out rfl
         have rf2 : w3.frozen? ⟨w.heap.size + 1, 2, none⟩ = false := blk_frozen Br_3.out
         have r3 : w3.cell? ⟨w.heap.size + 1, 3, none⟩ = some (.slice none 0 0) := blk_cell Br_3.out rfl
         have rf3 : w3.frozen? ⟨w.heap.size + 1, 3, none⟩ = false := blk_frozen Br_3.out
         have r4 : w3.cell? ⟨w.heap.size + 1, 4, none⟩ = some (.bool false) := blk_cell Br_3.out rfl
         have rf4 : w3.frozen? ⟨w.heap.size + 1, 4, none⟩ = false := blk_frozen Br_3.out
         have r5 : w3.cell? ⟨w.heap.size + 1, 5, none⟩ = some (.bool false) := blk_cell Br_3.out rfl
         have rf5 : w3.frozen? ⟨w.heap.size + 1, 5, none⟩ = false := blk_frozen Br_3.out
         have r6 : w3.cell? ⟨w.heap.size + 1, 6, none⟩ = some (.int .i64 0) := blk_cell Br_3.out rfl
         have rf6 : w3.frozen? ⟨w.heap.size + 1, 6, none⟩ = false := blk_frozen Br_3.out
         have r7 : w3.cell? ⟨w.heap.size + 1, 7, none⟩ = some (.bool false) := blk_cell Br_3.out rfl
         have rf7 : w3.frozen? ⟨w.heap.size + 1, 7, none⟩ = false := blk_frozen Br_3.out
         clear S1_2 S2_2 S3_2 Su_2 Sv_2 Bs_2 sz_2 Br_2 rz_2 hs3 HB_2 hb3
         have tok4 : True := trivial))
  have OU := Lib.hid (fun h0 => Su_3.out.off_blk h0 Br_3.out (noPair8 ..))
  have OV := Lib.hid (fun h0 => Sv_3.out.off_blk h0 Br_3.out (noPair8 ..))
  have OX := Lib.hid (fun h0 => Sx_3.out.off_blk h0 Br_3.out (noPair8 ..))
  go_wp2_with fail
  refine bodyPost_ret (by simp [results, Tryd.results11, go_sem, r0, r1, r2, r3, r4, r5, r6, r7]; try rfl) rfl ?_
  exact ⟨Au, cu, Av, cv, Ax, cx, rfl, (by repeat (first | (with_reducible exact Su_3.out) | (with_reducible refine Sp.alloc ?_ _) | (with_reducible refine Sp.drewN ?_ _) | (with_reducible refine Sp.drew ?_) | (refine Sp.setOff ?_ OU.out _))), (by repeat (first | (with_reducible exact Sv_3.out) | (with_reducible refine Sp.alloc ?_ _) | (with_reducible refine Sp.drewN ?_ _) | (with_reducible refine Sp.drew ?_) | (refine Sp.setOff ?_ OV.out _))), (by repeat (first | (with_reducible exact Sx_3.out) | (with_reducible refine Sp.alloc ?_ _) | (with_reducible refine Sp.drewN ?_ _) | (with_reducible refine Sp.drew ?_) | (refine Sp.setOff ?_ OX.out _))), (by repeat (first | (with_reducible exact HB_3.out) | (with_reducible refine bel_drewN ?_ _) | (with_reducible refine bel_drew ?_) | (with_reducible refine bel_alloc ?_ _) | (with_reducible refine bel_set ?_ (by first | omega | (dsimp only; omega)) _)))⟩
end Go.Proofs.YtfpfdgljhcpkpaaDoor
