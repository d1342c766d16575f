/- Contracts of wanting, Lost and Sure, and of the reference's. -/
import Derived.Test.YtfpfdgljhcpkpaaDoorF0
namespace Go.Proofs.YtfpfdgljhcpkpaaDoor
open Go.RowKit

set_option maxHeartbeats 4000000 in
set_option maxRecDepth 100000 in
theorem wanting_any (he : Bool) (A1 : Option Addr) (c1 : Nat) (R : List (Int × Int)) (A2 : Option Addr) (c2 : Nat) (H : List (Int × Int)) (A3 : Option Addr) (c3 : Nat) (F : List (Int × Int)) (tu fa : Bool) (ag : Int) (jo : Bool) (w : World) (h1 : Sp w A1 c1 R) (h2 : Sp w A2 c2 H) (h3 : Sp w A3 c3 F) (k1 : Canon R) (k2 : Canon H) (k3 : Canon F) (l1 : R.length ≤ 10000) (l2 : H.length ≤ 10000) (l3 : F.length ≤ 10000) :
    Calls Tryd.prog 50 #[.agg #[.bool he, .slice A1 R.length c1, .slice A2 H.length c2, .slice A3 F.length c3, .bool tu, .bool fa, .int .i64 ag, .bool jo]] w (RetSet (wantL R H F) w) := by
  have S1_0 := Lib.hid (h1)
  have S2_0 := Lib.hid (h2)
  have S3_0 := Lib.hid (h3)
  clear h1 h2 h3
  have K1 := Lib.hid k1
  have K2 := Lib.hid k2
  have K3 := Lib.hid k3
  clear k1 k2 k3
  go_enter Tryd.func50, Tryd.ntmps50
  have lw := ofOp_length R H 3
  have tok1 : True := trivial
  go_wp2_with fail
  go_region_held3 (fun w' => w'.cell? ⟨w.heap.size, 1, none⟩ = some (.slice A1 R.length c1) ∧ w'.cell? ⟨w.heap.size, 2, none⟩ = some (.slice A2 H.length c2) ∧ w'.cell? ⟨w.heap.size, 3, none⟩ = some (.slice A3 F.length c3))
    (first | (refine cells123 (t := 31) (f := (0, 0)) (a0 := .bool he) (a1 := .slice A1 R.length c1) (a2 := .slice A2 H.length c2) (a3 := .slice A3 F.length c3) (a4 := .bool tu) (a5 := .bool fa) (a6 := .int .i64 ag) (a7 := .bool jo) ?_; repeat (first | (with_reducible exact Bs_2.out) | (with_reducible exact Bs_1.out) | (with_reducible exact blk_new rfl) | (with_reducible refine blk_skip ?_) | (with_reducible refine blk_set_ne (by show w.heap.size ≠ w.heap.size + 1; omega) ?_) | (with_reducible refine blk_drew ?_) | (with_reducible refine blk_drewN ?_))))
    (first
      | (go_at_call 18
         have _tk := tok1
         clear _tk tok1
         refine (less_any A1 c1 R A2 c2 H _ (by repeat (first | exact S1_0.out | refine Sp.alloc ?_ _ | refine Sp.drewN ?_ _ | refine Sp.drew ?_)) (by repeat (first | exact S2_0.out | refine Sp.alloc ?_ _ | refine Sp.drewN ?_ _ | refine Sp.drew ?_)) K1.out K2.out (by omega) (by omega)).mono ?_
         rintro e1 w1 ⟨Au, cu, rfl, hs1, hb1⟩
         have HB_1 : Hid (Below w.heap.size w w1) := bel_chain hb1 (by repeat (first | exact Below.refl _ _ | refine bel_drewN ?_ _ | refine bel_drew ?_ | refine bel_alloc ?_ _))
         have S1_1 : Hid (Sp w1 A1 c1 (R)) := Sp.below (by repeat (first | exact S1_0.out | refine Sp.alloc ?_ _ | refine Sp.drewN ?_ _ | refine Sp.drew ?_)) hb1
         have S2_1 : Hid (Sp w1 A2 c2 (H)) := Sp.below (by repeat (first | exact S2_0.out | refine Sp.alloc ?_ _ | refine Sp.drewN ?_ _ | refine Sp.drew ?_)) hb1
         have S3_1 : Hid (Sp w1 A3 c3 (F)) := Sp.below (by repeat (first | exact S3_0.out | refine Sp.alloc ?_ _ | refine Sp.drewN ?_ _ | refine Sp.drew ?_)) hb1
         have Bs_1 : Hid (w1.heap[w.heap.size]? = some (.cells #[.bool he, .slice A1 R.length c1, .slice A2 H.length c2, .slice A3 F.length c3, .bool tu, .bool fa, .int .i64 ag, .bool jo] 31 (0, 0))) := blk_keep hb1 (by repeat (first | exact blk_new (by first | rfl | (simp; done) | (simp; omega)) | refine blk_skip ?_ | refine blk_drewN ?_ | refine blk_drew ?_))
         have Br_1 : Hid (w1.heap[w.heap.size + 1]? = some (.cells #[.slice none 0 0] 29 (0, 0))) := blk_keep hb1 (by repeat (first | exact blk_new (by first | rfl | (simp; done) | (simp; omega)) | refine blk_skip ?_ | refine blk_drewN ?_ | refine blk_drew ?_))
         have sz_1 : w.heap.size < w1.heap.size := blk_lt Bs_1.out
         have rz_1 : w.heap.size + 1 < w1.heap.size := blk_lt Br_1.out
         have Su_1 : Hid (Sp w1 Au cu (ofOp R H 3)) := hs1
         clear S1_0 S2_0 S3_0 hs1 hb1
         have tok2 : True := trivial)
      | (go_at_call 18
         have _tk := tok2
         clear _tk tok2
         refine (less_any Au cu (ofOp R H 3) A3 c3 F _ (by repeat (first | exact Su_1.out | refine Sp.alloc ?_ _ | refine Sp.drewN ?_ _ | refine Sp.drew ?_)) (by repeat (first | exact S3_1.out | refine Sp.alloc ?_ _ | refine Sp.drewN ?_ _ | refine Sp.drew ?_)) (ofOp_canon _ _ _) K3.out (by omega) (by omega)).mono ?_
         rintro e2 w2 ⟨Av, cv, rfl, hs2, hb2⟩
         have HB_2 : Hid (Below w.heap.size w w2) := bel_chain hb2 (by repeat (first | exact HB_1.out | refine bel_drewN ?_ _ | refine bel_drew ?_ | refine bel_alloc ?_ _))
         have S1_2 : Hid (Sp w2 A1 c1 (R)) := Sp.below (by repeat (first | exact S1_1.out | refine Sp.alloc ?_ _ | refine Sp.drewN ?_ _ | refine Sp.drew ?_)) hb2
         have S2_2 : Hid (Sp w2 A2 c2 (H)) := Sp.below (by repeat (first | exact S2_1.out | refine Sp.alloc ?_ _ | refine Sp.drewN ?_ _ | refine Sp.drew ?_)) hb2
         have S3_2 : Hid (Sp w2 A3 c3 (F)) := Sp.below (by repeat (first | exact S3_1.out | refine Sp.alloc ?_ _ | refine Sp.drewN ?_ _ | refine Sp.drew ?_)) hb2
         have Su_2 : Hid (Sp w2 Au cu (ofOp R H 3)) := Sp.below (by repeat (first | exact Su_1.out | refine Sp.alloc ?_ _ | refine Sp.drewN ?_ _ | refine Sp.drew ?_)) hb2
         have Bs_2 : Hid (w2.heap[w.heap.size]? = some (.cells #[.bool he, .slice A1 R.length c1, .slice A2 H.length c2, .slice A3 F.length c3, .bool tu, .bool fa, .int .i64 ag, .bool jo] 31 (0, 0))) := blk_keep hb2 (blk_keep (W := w1) (by (repeat (first | exact Below.refl _ _ | refine bel_drewN ?_ _ | refine bel_drew ?_ | refine bel_alloc ?_ _ | refine bel_set ?_ (by simp) _))) Bs_1.out)
         have Br_2 : Hid (w2.heap[w.heap.size + 1]? = some (.cells #[.slice none 0 0] 29 (0, 0))) := blk_keep hb2 (blk_keep (W := w1) (by (repeat (first | exact Below.refl _ _ | refine bel_drewN ?_ _ | refine bel_drew ?_ | refine bel_alloc ?_ _ | refine bel_set ?_ (by simp) _))) Br_1.out)
         have sz_2 : w.heap.size < w2.heap.size := blk_lt Bs_2.out
         have rz_2 : w.heap.size + 1 < w2.heap.size := blk_lt Br_2.out
         have Sv_2 : Hid (Sp w2 Av cv (wantL R H F)) := hs2
         have r0_2 : w2.cell? ⟨w.heap.size + 1, 0, none⟩ = some (.slice none 0 0) := blk_cell Br_2.out rfl
         have rf0_2 : w2.frozen? ⟨w.heap.size + 1, 0, none⟩ = false := blk_frozen Br_2.out
         clear S1_1 S2_1 S3_1 Su_1 Bs_1 sz_1 Br_1 rz_1 hs2 HB_1 hb2
         have tok3 : True := trivial))
  have OV := Lib.hid (fun h0 => Sv_2.out.off_blk h0 Br_2.out (noPair1 _))
  go_wp2_with fail
  refine bodyPost_ret (by simp [results, Tryd.results50, go_sem, r0_2]; try rfl) rfl ?_
  exact ⟨Av, cv, rfl, (by repeat (first | (with_reducible exact Sv_2.out) | (with_reducible refine Sp.alloc ?_ _) | (with_reducible refine Sp.drewN ?_ _) | (with_reducible refine Sp.drew ?_) | (refine Sp.setOff ?_ OV.out _))), (by repeat (first | (with_reducible exact HB_2.out) | (with_reducible refine bel_drewN ?_ _) | (with_reducible refine bel_drew ?_) | (with_reducible refine bel_alloc ?_ _) | (with_reducible refine bel_set ?_ (by first | omega | (dsimp only; omega)) _)))⟩

/-- It hands back a slice. -/
def RetSl (L : List (Int × Int)) (w : World) (e : Ending) (w' : World) : Prop := ∃ A c, e = .returned (.slice A L.length c) ∧ Sp w' A c L ∧ Below w.heap.size w w'
set_option maxHeartbeats 4000000 in
set_option maxRecDepth 100000 in
theorem lost_any (he : Bool) (A1 : Option Addr) (c1 : Nat) (R : List (Int × Int)) (A2 : Option Addr) (c2 : Nat) (H : List (Int × Int)) (A3 : Option Addr) (c3 : Nat) (F : List (Int × Int)) (tu fa : Bool) (ag : Int) (jo : Bool) (w : World) (h1 : Sp w A1 c1 R) (h2 : Sp w A2 c2 H) (h3 : Sp w A3 c3 F) (k1 : Canon R) (k2 : Canon H) (k3 : Canon F) (l1 : R.length ≤ 10000) (l2 : H.length ≤ 10000) (l3 : F.length ≤ 10000) :
    Calls Tryd.prog 14 #[.agg #[.bool he, .slice A1 R.length c1, .slice A2 H.length c2, .slice A3 F.length c3, .bool tu, .bool fa, .int .i64 ag, .bool jo]] w (RetSet (lostL tu fa jo R H F) w) := by
  have S1_0 := Lib.hid (h1)
  have S2_0 := Lib.hid (h2)
  have S3_0 := Lib.hid (h3)
  clear h1 h2 h3
  have K1 := Lib.hid k1
  have K2 := Lib.hid k2
  have K3 := Lib.hid k3
  clear k1 k2 k3
  cases tu <;> cases fa <;> cases jo
  · rw [lostL_yes (by rfl)]
    go_enter Tryd.func14, Tryd.ntmps14
    go_wp2_with fail
    refine (wanting_any _ A1 c1 R A2 c2 H A3 c3 F _ _ _ _ _ (by repeat (first | exact S1_0.out | refine Sp.alloc ?_ _ | refine Sp.drewN ?_ _ | refine Sp.drew ?_)) (by repeat (first | exact S2_0.out | refine Sp.alloc ?_ _ | refine Sp.drewN ?_ _ | refine Sp.drew ?_)) (by repeat (first | exact S3_0.out | refine Sp.alloc ?_ _ | refine Sp.drewN ?_ _ | refine Sp.drew ?_)) K1.out K2.out K3.out l1 l2 l3).mono ?_
    rintro e1 w1 ⟨Av, cv, rfl, hs1, hb1⟩
    have HB_1 : Hid (Below w.heap.size w w1) := bel_chain hb1 (by repeat (first | exact Below.refl _ _ | refine bel_drewN ?_ _ | refine bel_drew ?_ | refine bel_alloc ?_ _))
    have S1_1 : Hid (Sp w1 A1 c1 (R)) := Sp.below (by repeat (first | exact S1_0.out | refine Sp.alloc ?_ _ | refine Sp.drewN ?_ _ | refine Sp.drew ?_)) hb1
    have S2_1 : Hid (Sp w1 A2 c2 (H)) := Sp.below (by repeat (first | exact S2_0.out | refine Sp.alloc ?_ _ | refine Sp.drewN ?_ _ | refine Sp.drew ?_)) hb1
    have S3_1 : Hid (Sp w1 A3 c3 (F)) := Sp.below (by repeat (first | exact S3_0.out | refine Sp.alloc ?_ _ | refine Sp.drewN ?_ _ | refine Sp.drew ?_)) hb1
    have Br_1 : Hid (w1.heap[w.heap.size + 1]? = some (.cells #[.slice none 0 0] 29 (0, 0))) := blk_keep hb1 (by repeat (first | exact blk_new (by first | rfl | (simp; done) | (simp; omega)) | refine blk_skip ?_ | refine blk_drewN ?_ | refine blk_drew ?_))
    have r0_1 : w1.cell? ⟨w.heap.size + 1, 0, none⟩ = some (.slice none 0 0) := blk_cell Br_1.out rfl
    have rf0_1 : w1.frozen? ⟨w.heap.size + 1, 0, none⟩ = false := blk_frozen Br_1.out
    have rz_1 : w.heap.size + 1 < w1.heap.size := blk_lt Br_1.out
    have Sv_1 : Hid (Sp w1 Av cv (wantL R H F)) := hs1
    clear S1_0 S2_0 S3_0 hs1 hb1
    have OV := Lib.hid (fun h0 => Sv_1.out.off_blk h0 Br_1.out (noPair1 _))
    go_wp2_with fail
    refine bodyPost_ret (by simp [results, Tryd.results14, go_sem, r0_1]; try rfl) rfl ?_
    exact ⟨Av, cv, rfl, (by repeat (first | (with_reducible exact Sv_1.out) | (with_reducible refine Sp.alloc ?_ _) | (with_reducible refine Sp.drewN ?_ _) | (with_reducible refine Sp.drew ?_) | (refine Sp.setOff ?_ OV.out _))), (by repeat (first | (with_reducible exact HB_1.out) | (with_reducible refine bel_drewN ?_ _) | (with_reducible refine bel_drew ?_) | (with_reducible refine bel_alloc ?_ _) | (with_reducible refine bel_set ?_ (by first | omega | (dsimp only; omega)) _)))⟩
  · rw [lostL_no (by rfl)]
    go_enter Tryd.func14, Tryd.ntmps14
    go_wp2_with fail
    refine bodyPost_ret (by simp [results, Tryd.results14, go_sem]; try rfl) rfl ?_
    exact ⟨none, 0, rfl, Sp.nil _, by (repeat (first | exact Below.refl _ _ | refine bel_drewN ?_ _ | refine bel_drew ?_ | refine bel_alloc ?_ _ | refine bel_set ?_ (by simp) _))⟩
  · rw [lostL_yes (by rfl)]
    go_enter Tryd.func14, Tryd.ntmps14
    go_wp2_with fail
    refine (wanting_any _ A1 c1 R A2 c2 H A3 c3 F _ _ _ _ _ (by repeat (first | exact S1_0.out | refine Sp.alloc ?_ _ | refine Sp.drewN ?_ _ | refine Sp.drew ?_)) (by repeat (first | exact S2_0.out | refine Sp.alloc ?_ _ | refine Sp.drewN ?_ _ | refine Sp.drew ?_)) (by repeat (first | exact S3_0.out | refine Sp.alloc ?_ _ | refine Sp.drewN ?_ _ | refine Sp.drew ?_)) K1.out K2.out K3.out l1 l2 l3).mono ?_
    rintro e1 w1 ⟨Av, cv, rfl, hs1, hb1⟩
    have HB_1 : Hid (Below w.heap.size w w1) := bel_chain hb1 (by repeat (first | exact Below.refl _ _ | refine bel_drewN ?_ _ | refine bel_drew ?_ | refine bel_alloc ?_ _))
    have S1_1 : Hid (Sp w1 A1 c1 (R)) := Sp.below (by repeat (first | exact S1_0.out | refine Sp.alloc ?_ _ | refine Sp.drewN ?_ _ | refine Sp.drew ?_)) hb1
    have S2_1 : Hid (Sp w1 A2 c2 (H)) := Sp.below (by repeat (first | exact S2_0.out | refine Sp.alloc ?_ _ | refine Sp.drewN ?_ _ | refine Sp.drew ?_)) hb1
    have S3_1 : Hid (Sp w1 A3 c3 (F)) := Sp.below (by repeat (first | exact S3_0.out | refine Sp.alloc ?_ _ | refine Sp.drewN ?_ _ | refine Sp.drew ?_)) hb1
    have Br_1 : Hid (w1.heap[w.heap.size + 1]? = some (.cells #[.slice none 0 0] 29 (0, 0))) := blk_keep hb1 (by repeat (first | exact blk_new (by first | rfl | (simp; done) | (simp; omega)) | refine blk_skip ?_ | refine blk_drewN ?_ | refine blk_drew ?_))
    have r0_1 : w1.cell? ⟨w.heap.size + 1, 0, none⟩ = some (.slice none 0 0) := blk_cell Br_1.out rfl
    have rf0_1 : w1.frozen? ⟨w.heap.size + 1, 0, none⟩ = false := blk_frozen Br_1.out
    have rz_1 : w.heap.size + 1 < w1.heap.size := blk_lt Br_1.out
    have Sv_1 : Hid (Sp w1 Av cv (wantL R H F)) := hs1
    clear S1_0 S2_0 S3_0 hs1 hb1
    have OV := Lib.hid (fun h0 => Sv_1.out.off_blk h0 Br_1.out (noPair1 _))
    go_wp2_with fail
    refine bodyPost_ret (by simp [results, Tryd.results14, go_sem, r0_1]; try rfl) rfl ?_
    exact ⟨Av, cv, rfl, (by repeat (first | (with_reducible exact Sv_1.out) | (with_reducible refine Sp.alloc ?_ _) | (with_reducible refine Sp.drewN ?_ _) | (with_reducible refine Sp.drew ?_) | (refine Sp.setOff ?_ OV.out _))), (by repeat (first | (with_reducible exact HB_1.out) | (with_reducible refine bel_drewN ?_ _) | (with_reducible refine bel_drew ?_) | (with_reducible refine bel_alloc ?_ _) | (with_reducible refine bel_set ?_ (by first | omega | (dsimp only; omega)) _)))⟩
  · rw [lostL_yes (by rfl)]
    go_enter Tryd.func14, Tryd.ntmps14
    go_wp2_with fail
    refine (wanting_any _ A1 c1 R A2 c2 H A3 c3 F _ _ _ _ _ (by repeat (first | exact S1_0.out | refine Sp.alloc ?_ _ | refine Sp.drewN ?_ _ | refine Sp.drew ?_)) (by repeat (first | exact S2_0.out | refine Sp.alloc ?_ _ | refine Sp.drewN ?_ _ | refine Sp.drew ?_)) (by repeat (first | exact S3_0.out | refine Sp.alloc ?_ _ | refine Sp.drewN ?_ _ | refine Sp.drew ?_)) K1.out K2.out K3.out l1 l2 l3).mono ?_
    rintro e1 w1 ⟨Av, cv, rfl, hs1, hb1⟩
    have HB_1 : Hid (Below w.heap.size w w1) := bel_chain hb1 (by repeat (first | exact Below.refl _ _ | refine bel_drewN ?_ _ | refine bel_drew ?_ | refine bel_alloc ?_ _))
    have S1_1 : Hid (Sp w1 A1 c1 (R)) := Sp.below (by repeat (first | exact S1_0.out | refine Sp.alloc ?_ _ | refine Sp.drewN ?_ _ | refine Sp.drew ?_)) hb1
    have S2_1 : Hid (Sp w1 A2 c2 (H)) := Sp.below (by repeat (first | exact S2_0.out | refine Sp.alloc ?_ _ | refine Sp.drewN ?_ _ | refine Sp.drew ?_)) hb1
    have S3_1 : Hid (Sp w1 A3 c3 (F)) := Sp.below (by repeat (first | exact S3_0.out | refine Sp.alloc ?_ _ | refine Sp.drewN ?_ _ | refine Sp.drew ?_)) hb1
    have Br_1 : Hid (w1.heap[w.heap.size + 1]? = some (.cells #[.slice none 0 0] 29 (0, 0))) := blk_keep hb1 (by repeat (first | exact blk_new (by first | rfl | (simp; done) | (simp; omega)) | refine blk_skip ?_ | refine blk_drewN ?_ | refine blk_drew ?_))
    have r0_1 : w1.cell? ⟨w.heap.size + 1, 0, none⟩ = some (.slice none 0 0) := blk_cell Br_1.out rfl
    have rf0_1 : w1.frozen? ⟨w.heap.size + 1, 0, none⟩ = false := blk_frozen Br_1.out
    have rz_1 : w.heap.size + 1 < w1.heap.size := blk_lt Br_1.out
    have Sv_1 : Hid (Sp w1 Av cv (wantL R H F)) := hs1
    clear S1_0 S2_0 S3_0 hs1 hb1
    have OV := Lib.hid (fun h0 => Sv_1.out.off_blk h0 Br_1.out (noPair1 _))
    go_wp2_with fail
    refine bodyPost_ret (by simp [results, Tryd.results14, go_sem, r0_1]; try rfl) rfl ?_
    exact ⟨Av, cv, rfl, (by repeat (first | (with_reducible exact Sv_1.out) | (with_reducible refine Sp.alloc ?_ _) | (with_reducible refine Sp.drewN ?_ _) | (with_reducible refine Sp.drew ?_) | (refine Sp.setOff ?_ OV.out _))), (by repeat (first | (with_reducible exact HB_1.out) | (with_reducible refine bel_drewN ?_ _) | (with_reducible refine bel_drew ?_) | (with_reducible refine bel_alloc ?_ _) | (with_reducible refine bel_set ?_ (by first | omega | (dsimp only; omega)) _)))⟩
  · rw [lostL_yes (by rfl)]
    go_enter Tryd.func14, Tryd.ntmps14
    go_wp2_with fail
    refine (wanting_any _ A1 c1 R A2 c2 H A3 c3 F _ _ _ _ _ (by repeat (first | exact S1_0.out | refine Sp.alloc ?_ _ | refine Sp.drewN ?_ _ | refine Sp.drew ?_)) (by repeat (first | exact S2_0.out | refine Sp.alloc ?_ _ | refine Sp.drewN ?_ _ | refine Sp.drew ?_)) (by repeat (first | exact S3_0.out | refine Sp.alloc ?_ _ | refine Sp.drewN ?_ _ | refine Sp.drew ?_)) K1.out K2.out K3.out l1 l2 l3).mono ?_
    rintro e1 w1 ⟨Av, cv, rfl, hs1, hb1⟩
    have HB_1 : Hid (Below w.heap.size w w1) := bel_chain hb1 (by repeat (first | exact Below.refl _ _ | refine bel_drewN ?_ _ | refine bel_drew ?_ | refine bel_alloc ?_ _))
    have S1_1 : Hid (Sp w1 A1 c1 (R)) := Sp.below (by repeat (first | exact S1_0.out | refine Sp.alloc ?_ _ | refine Sp.drewN ?_ _ | refine Sp.drew ?_)) hb1
    have S2_1 : Hid (Sp w1 A2 c2 (H)) := Sp.below (by repeat (first | exact S2_0.out | refine Sp.alloc ?_ _ | refine Sp.drewN ?_ _ | refine Sp.drew ?_)) hb1
    have S3_1 : Hid (Sp w1 A3 c3 (F)) := Sp.below (by repeat (first | exact S3_0.out | refine Sp.alloc ?_ _ | refine Sp.drewN ?_ _ | refine Sp.drew ?_)) hb1
    have Br_1 : Hid (w1.heap[w.heap.size + 1]? = some (.cells #[.slice none 0 0] 29 (0, 0))) := blk_keep hb1 (by repeat (first | exact blk_new (by first | rfl | (simp; done) | (simp; omega)) | refine blk_skip ?_ | refine blk_drewN ?_ | refine blk_drew ?_))
    have r0_1 : w1.cell? ⟨w.heap.size + 1, 0, none⟩ = some (.slice none 0 0) := blk_cell Br_1.out rfl
    have rf0_1 : w1.frozen? ⟨w.heap.size + 1, 0, none⟩ = false := blk_frozen Br_1.out
    have rz_1 : w.heap.size + 1 < w1.heap.size := blk_lt Br_1.out
    have Sv_1 : Hid (Sp w1 Av cv (wantL R H F)) := hs1
    clear S1_0 S2_0 S3_0 hs1 hb1
    have OV := Lib.hid (fun h0 => Sv_1.out.off_blk h0 Br_1.out (noPair1 _))
    go_wp2_with fail
    refine bodyPost_ret (by simp [results, Tryd.results14, go_sem, r0_1]; try rfl) rfl ?_
    exact ⟨Av, cv, rfl, (by repeat (first | (with_reducible exact Sv_1.out) | (with_reducible refine Sp.alloc ?_ _) | (with_reducible refine Sp.drewN ?_ _) | (with_reducible refine Sp.drew ?_) | (refine Sp.setOff ?_ OV.out _))), (by repeat (first | (with_reducible exact HB_1.out) | (with_reducible refine bel_drewN ?_ _) | (with_reducible refine bel_drew ?_) | (with_reducible refine bel_alloc ?_ _) | (with_reducible refine bel_set ?_ (by first | omega | (dsimp only; omega)) _)))⟩
  · rw [lostL_yes (by rfl)]
    go_enter Tryd.func14, Tryd.ntmps14
    go_wp2_with fail
    refine (wanting_any _ A1 c1 R A2 c2 H A3 c3 F _ _ _ _ _ (by repeat (first | exact S1_0.out | refine Sp.alloc ?_ _ | refine Sp.drewN ?_ _ | refine Sp.drew ?_)) (by repeat (first | exact S2_0.out | refine Sp.alloc ?_ _ | refine Sp.drewN ?_ _ | refine Sp.drew ?_)) (by repeat (first | exact S3_0.out | refine Sp.alloc ?_ _ | refine Sp.drewN ?_ _ | refine Sp.drew ?_)) K1.out K2.out K3.out l1 l2 l3).mono ?_
    rintro e1 w1 ⟨Av, cv, rfl, hs1, hb1⟩
    have HB_1 : Hid (Below w.heap.size w w1) := bel_chain hb1 (by repeat (first | exact Below.refl _ _ | refine bel_drewN ?_ _ | refine bel_drew ?_ | refine bel_alloc ?_ _))
    have S1_1 : Hid (Sp w1 A1 c1 (R)) := Sp.below (by repeat (first | exact S1_0.out | refine Sp.alloc ?_ _ | refine Sp.drewN ?_ _ | refine Sp.drew ?_)) hb1
    have S2_1 : Hid (Sp w1 A2 c2 (H)) := Sp.below (by repeat (first | exact S2_0.out | refine Sp.alloc ?_ _ | refine Sp.drewN ?_ _ | refine Sp.drew ?_)) hb1
    have S3_1 : Hid (Sp w1 A3 c3 (F)) := Sp.below (by repeat (first | exact S3_0.out | refine Sp.alloc ?_ _ | refine Sp.drewN ?_ _ | refine Sp.drew ?_)) hb1
    have Br_1 : Hid (w1.heap[w.heap.size + 1]? = some (.cells #[.slice none 0 0] 29 (0, 0))) := blk_keep hb1 (by repeat (first | exact blk_new (by first | rfl | (simp; done) | (simp; omega)) | refine blk_skip ?_ | refine blk_drewN ?_ | refine blk_drew ?_))
    have r0_1 : w1.cell? ⟨w.heap.size + 1, 0, none⟩ = some (.slice none 0 0) := blk_cell Br_1.out rfl
    have rf0_1 : w1.frozen? ⟨w.heap.size + 1, 0, none⟩ = false := blk_frozen Br_1.out
    have rz_1 : w.heap.size + 1 < w1.heap.size := blk_lt Br_1.out
    have Sv_1 : Hid (Sp w1 Av cv (wantL R H F)) := hs1
    clear S1_0 S2_0 S3_0 hs1 hb1
    have OV := Lib.hid (fun h0 => Sv_1.out.off_blk h0 Br_1.out (noPair1 _))
    go_wp2_with fail
    refine bodyPost_ret (by simp [results, Tryd.results14, go_sem, r0_1]; try rfl) rfl ?_
    exact ⟨Av, cv, rfl, (by repeat (first | (with_reducible exact Sv_1.out) | (with_reducible refine Sp.alloc ?_ _) | (with_reducible refine Sp.drewN ?_ _) | (with_reducible refine Sp.drew ?_) | (refine Sp.setOff ?_ OV.out _))), (by repeat (first | (with_reducible exact HB_1.out) | (with_reducible refine bel_drewN ?_ _) | (with_reducible refine bel_drew ?_) | (with_reducible refine bel_alloc ?_ _) | (with_reducible refine bel_set ?_ (by first | omega | (dsimp only; omega)) _)))⟩
  · rw [lostL_yes (by rfl)]
    go_enter Tryd.func14, Tryd.ntmps14
    go_wp2_with fail
    refine (wanting_any _ A1 c1 R A2 c2 H A3 c3 F _ _ _ _ _ (by repeat (first | exact S1_0.out | refine Sp.alloc ?_ _ | refine Sp.drewN ?_ _ | refine Sp.drew ?_)) (by repeat (first | exact S2_0.out | refine Sp.alloc ?_ _ | refine Sp.drewN ?_ _ | refine Sp.drew ?_)) (by repeat (first | exact S3_0.out | refine Sp.alloc ?_ _ | refine Sp.drewN ?_ _ | refine Sp.drew ?_)) K1.out K2.out K3.out l1 l2 l3).mono ?_
    rintro e1 w1 ⟨Av, cv, rfl, hs1, hb1⟩
    have HB_1 : Hid (Below w.heap.size w w1) := bel_chain hb1 (by repeat (first | exact Below.refl _ _ | refine bel_drewN ?_ _ | refine bel_drew ?_ | refine bel_alloc ?_ _))
    have S1_1 : Hid (Sp w1 A1 c1 (R)) := Sp.below (by repeat (first | exact S1_0.out | refine Sp.alloc ?_ _ | refine Sp.drewN ?_ _ | refine Sp.drew ?_)) hb1
    have S2_1 : Hid (Sp w1 A2 c2 (H)) := Sp.below (by repeat (first | exact S2_0.out | refine Sp.alloc ?_ _ | refine Sp.drewN ?_ _ | refine Sp.drew ?_)) hb1
    have S3_1 : Hid (Sp w1 A3 c3 (F)) := Sp.below (by repeat (first | exact S3_0.out | refine Sp.alloc ?_ _ | refine Sp.drewN ?_ _ | refine Sp.drew ?_)) hb1
    have Br_1 : Hid (w1.heap[w.heap.size + 1]? = some (.cells #[.slice none 0 0] 29 (0, 0))) := blk_keep hb1 (by repeat (first | exact blk_new (by first | rfl | (simp; done) | (simp; omega)) | refine blk_skip ?_ | refine blk_drewN ?_ | refine blk_drew ?_))
    have r0_1 : w1.cell? ⟨w.heap.size + 1, 0, none⟩ = some (.slice none 0 0) := blk_cell Br_1.out rfl
    have rf0_1 : w1.frozen? ⟨w.heap.size + 1, 0, none⟩ = false := blk_frozen Br_1.out
    have rz_1 : w.heap.size + 1 < w1.heap.size := blk_lt Br_1.out
    have Sv_1 : Hid (Sp w1 Av cv (wantL R H F)) := hs1
    clear S1_0 S2_0 S3_0 hs1 hb1
    have OV := Lib.hid (fun h0 => Sv_1.out.off_blk h0 Br_1.out (noPair1 _))
    go_wp2_with fail
    refine bodyPost_ret (by simp [results, Tryd.results14, go_sem, r0_1]; try rfl) rfl ?_
    exact ⟨Av, cv, rfl, (by repeat (first | (with_reducible exact Sv_1.out) | (with_reducible refine Sp.alloc ?_ _) | (with_reducible refine Sp.drewN ?_ _) | (with_reducible refine Sp.drew ?_) | (refine Sp.setOff ?_ OV.out _))), (by repeat (first | (with_reducible exact HB_1.out) | (with_reducible refine bel_drewN ?_ _) | (with_reducible refine bel_drew ?_) | (with_reducible refine bel_alloc ?_ _) | (with_reducible refine bel_set ?_ (by first | omega | (dsimp only; omega)) _)))⟩
  · rw [lostL_yes (by rfl)]
    go_enter Tryd.func14, Tryd.ntmps14
    go_wp2_with fail
    refine (wanting_any _ A1 c1 R A2 c2 H A3 c3 F _ _ _ _ _ (by repeat (first | exact S1_0.out | refine Sp.alloc ?_ _ | refine Sp.drewN ?_ _ | refine Sp.drew ?_)) (by repeat (first | exact S2_0.out | refine Sp.alloc ?_ _ | refine Sp.drewN ?_ _ | refine Sp.drew ?_)) (by repeat (first | exact S3_0.out | refine Sp.alloc ?_ _ | refine Sp.drewN ?_ _ | refine Sp.drew ?_)) K1.out K2.out K3.out l1 l2 l3).mono ?_
    rintro e1 w1 ⟨Av, cv, rfl, hs1, hb1⟩
    have HB_1 : Hid (Below w.heap.size w w1) := bel_chain hb1 (by repeat (first | exact Below.refl _ _ | refine bel_drewN ?_ _ | refine bel_drew ?_ | refine bel_alloc ?_ _))
    have S1_1 : Hid (Sp w1 A1 c1 (R)) := Sp.below (by repeat (first | exact S1_0.out | refine Sp.alloc ?_ _ | refine Sp.drewN ?_ _ | refine Sp.drew ?_)) hb1
    have S2_1 : Hid (Sp w1 A2 c2 (H)) := Sp.below (by repeat (first | exact S2_0.out | refine Sp.alloc ?_ _ | refine Sp.drewN ?_ _ | refine Sp.drew ?_)) hb1
    have S3_1 : Hid (Sp w1 A3 c3 (F)) := Sp.below (by repeat (first | exact S3_0.out | refine Sp.alloc ?_ _ | refine Sp.drewN ?_ _ | refine Sp.drew ?_)) hb1
    have Br_1 : Hid (w1.heap[w.heap.size + 1]? = some (.cells #[.slice none 0 0] 29 (0, 0))) := blk_keep hb1 (by repeat (first | exact blk_new (by first | rfl | (simp; done) | (simp; omega)) | refine blk_skip ?_ | refine blk_drewN ?_ | refine blk_drew ?_))
    have r0_1 : w1.cell? ⟨w.heap.size + 1, 0, none⟩ = some (.slice none 0 0) := blk_cell Br_1.out rfl
    have rf0_1 : w1.frozen? ⟨w.heap.size + 1, 0, none⟩ = false := blk_frozen Br_1.out
    have rz_1 : w.heap.size + 1 < w1.heap.size := blk_lt Br_1.out
    have Sv_1 : Hid (Sp w1 Av cv (wantL R H F)) := hs1
    clear S1_0 S2_0 S3_0 hs1 hb1
    have OV := Lib.hid (fun h0 => Sv_1.out.off_blk h0 Br_1.out (noPair1 _))
    go_wp2_with fail
    refine bodyPost_ret (by simp [results, Tryd.results14, go_sem, r0_1]; try rfl) rfl ?_
    exact ⟨Av, cv, rfl, (by repeat (first | (with_reducible exact Sv_1.out) | (with_reducible refine Sp.alloc ?_ _) | (with_reducible refine Sp.drewN ?_ _) | (with_reducible refine Sp.drew ?_) | (refine Sp.setOff ?_ OV.out _))), (by repeat (first | (with_reducible exact HB_1.out) | (with_reducible refine bel_drewN ?_ _) | (with_reducible refine bel_drew ?_) | (with_reducible refine bel_alloc ?_ _) | (with_reducible refine bel_set ?_ (by first | omega | (dsimp only; omega)) _)))⟩

set_option maxHeartbeats 4000000 in
set_option maxRecDepth 100000 in
theorem sure_any (he : Bool) (A1 : Option Addr) (c1 : Nat) (R : List (Int × Int)) (A2 : Option Addr) (c2 : Nat) (H : List (Int × Int)) (A3 : Option Addr) (c3 : Nat) (F : List (Int × Int)) (tu fa : Bool) (ag : Int) (jo : Bool) (w : World) (h1 : Sp w A1 c1 R) (h2 : Sp w A2 c2 H) (h3 : Sp w A3 c3 F) (k1 : Canon R) (k2 : Canon H) (k3 : Canon F) (l1 : R.length ≤ 10000) (l2 : H.length ≤ 10000) (l3 : F.length ≤ 10000) :
    Calls Tryd.prog 13 #[.agg #[.bool he, .slice A1 R.length c1, .slice A2 H.length c2, .slice A3 F.length c3, .bool tu, .bool fa, .int .i64 ag, .bool jo]] w fun e w' => e = .returned (.bool (wantL R H F).isEmpty) ∧ Below w.heap.size w w' := by
  have S1_0 := Lib.hid (h1)
  have S2_0 := Lib.hid (h2)
  have S3_0 := Lib.hid (h3)
  clear h1 h2 h3
  have K1 := Lib.hid k1
  have K2 := Lib.hid k2
  have K3 := Lib.hid k3
  clear k1 k2 k3
  have lw := wantL_length R H F
  have HW := fun W h1 h2 h3 => Lib.hid (wanting_any he A1 c1 R A2 c2 H A3 c3 F tu fa ag jo W h1 h2 h3 K1.out K2.out K3.out l1 l2 l3)
  have KW := Lib.hid (wantL_canon R H F)
  generalize wantL R H F = Y at *
  rcases Y with _ | ⟨y, r⟩
  · go_enter Tryd.func13, Tryd.ntmps13
    go_wp2_with fail
    refine ((HW _ (by repeat (first | exact S1_0.out | refine Sp.alloc ?_ _ | refine Sp.drewN ?_ _ | refine Sp.drew ?_)) (by repeat (first | exact S2_0.out | refine Sp.alloc ?_ _ | refine Sp.drewN ?_ _ | refine Sp.drew ?_)) (by repeat (first | exact S3_0.out | refine Sp.alloc ?_ _ | refine Sp.drewN ?_ _ | refine Sp.drew ?_))).out).mono ?_
    rintro e1 w1 ⟨Av, cv, rfl, hs1, hb1⟩
    have HB_1 : Hid (Below w.heap.size w w1) := bel_chain hb1 (by repeat (first | exact Below.refl _ _ | refine bel_drewN ?_ _ | refine bel_drew ?_ | refine bel_alloc ?_ _))
    have S1_1 : Hid (Sp w1 A1 c1 (R)) := Sp.below (by repeat (first | exact S1_0.out | refine Sp.alloc ?_ _ | refine Sp.drewN ?_ _ | refine Sp.drew ?_)) hb1
    have S2_1 : Hid (Sp w1 A2 c2 (H)) := Sp.below (by repeat (first | exact S2_0.out | refine Sp.alloc ?_ _ | refine Sp.drewN ?_ _ | refine Sp.drew ?_)) hb1
    have S3_1 : Hid (Sp w1 A3 c3 (F)) := Sp.below (by repeat (first | exact S3_0.out | refine Sp.alloc ?_ _ | refine Sp.drewN ?_ _ | refine Sp.drew ?_)) hb1
    have Sv_1 : Hid (Sp w1 Av cv ([])) := hs1
    clear S1_0 S2_0 S3_0 hs1 hb1
    go_wp2_with fail
    refine (first_nil Av cv _ (by repeat (first | exact Sv_1.out | refine Sp.alloc ?_ _ | refine Sp.drewN ?_ _ | refine Sp.drew ?_))).mono ?_
    rintro e2 w2 ⟨rfl, hb2⟩
    have HB_2 : Hid (Below w.heap.size w w2) := bel_chain hb2 (by repeat (first | exact HB_1.out | refine bel_drewN ?_ _ | refine bel_drew ?_ | refine bel_alloc ?_ _))
    have S1_2 : Hid (Sp w2 A1 c1 (R)) := Sp.below (by repeat (first | exact S1_1.out | refine Sp.alloc ?_ _ | refine Sp.drewN ?_ _ | refine Sp.drew ?_)) hb2
    have S2_2 : Hid (Sp w2 A2 c2 (H)) := Sp.below (by repeat (first | exact S2_1.out | refine Sp.alloc ?_ _ | refine Sp.drewN ?_ _ | refine Sp.drew ?_)) hb2
    have S3_2 : Hid (Sp w2 A3 c3 (F)) := Sp.below (by repeat (first | exact S3_1.out | refine Sp.alloc ?_ _ | refine Sp.drewN ?_ _ | refine Sp.drew ?_)) hb2
    have Sv_2 : Hid (Sp w2 Av cv ([])) := Sp.below (by repeat (first | exact Sv_1.out | refine Sp.alloc ?_ _ | refine Sp.drewN ?_ _ | refine Sp.drew ?_)) hb2
    clear S1_1 S2_1 S3_1 Sv_1 HB_1 hb2
    go_wp2_with fail
    go_ret
    exact ⟨rfl, (by repeat (first | (with_reducible exact HB_2.out) | (with_reducible refine bel_drewN ?_ _) | (with_reducible refine bel_drew ?_) | (with_reducible refine bel_alloc ?_ _) | (with_reducible refine bel_set ?_ (by first | omega | (dsimp only; omega)) _)))⟩
  · go_enter Tryd.func13, Tryd.ntmps13
    go_wp2_with fail
    refine ((HW _ (by repeat (first | exact S1_0.out | refine Sp.alloc ?_ _ | refine Sp.drewN ?_ _ | refine Sp.drew ?_)) (by repeat (first | exact S2_0.out | refine Sp.alloc ?_ _ | refine Sp.drewN ?_ _ | refine Sp.drew ?_)) (by repeat (first | exact S3_0.out | refine Sp.alloc ?_ _ | refine Sp.drewN ?_ _ | refine Sp.drew ?_))).out).mono ?_
    rintro e1 w1 ⟨Av, cv, rfl, hs1, hb1⟩
    have HB_1 : Hid (Below w.heap.size w w1) := bel_chain hb1 (by repeat (first | exact Below.refl _ _ | refine bel_drewN ?_ _ | refine bel_drew ?_ | refine bel_alloc ?_ _))
    have S1_1 : Hid (Sp w1 A1 c1 (R)) := Sp.below (by repeat (first | exact S1_0.out | refine Sp.alloc ?_ _ | refine Sp.drewN ?_ _ | refine Sp.drew ?_)) hb1
    have S2_1 : Hid (Sp w1 A2 c2 (H)) := Sp.below (by repeat (first | exact S2_0.out | refine Sp.alloc ?_ _ | refine Sp.drewN ?_ _ | refine Sp.drew ?_)) hb1
    have S3_1 : Hid (Sp w1 A3 c3 (F)) := Sp.below (by repeat (first | exact S3_0.out | refine Sp.alloc ?_ _ | refine Sp.drewN ?_ _ | refine Sp.drew ?_)) hb1
    have Sv_1 : Hid (Sp w1 Av cv (y :: r)) := hs1
    clear S1_0 S2_0 S3_0 hs1 hb1
    go_wp2_with fail
    refine (first_cons Av cv y r _ (by repeat (first | exact Sv_1.out | refine Sp.alloc ?_ _ | refine Sp.drewN ?_ _ | refine Sp.drew ?_)) KW.out (by omega)).mono ?_
    rintro e2 w2 ⟨rfl, hb2⟩
    have HB_2 : Hid (Below w.heap.size w w2) := bel_chain hb2 (by repeat (first | exact HB_1.out | refine bel_drewN ?_ _ | refine bel_drew ?_ | refine bel_alloc ?_ _))
    have S1_2 : Hid (Sp w2 A1 c1 (R)) := Sp.below (by repeat (first | exact S1_1.out | refine Sp.alloc ?_ _ | refine Sp.drewN ?_ _ | refine Sp.drew ?_)) hb2
    have S2_2 : Hid (Sp w2 A2 c2 (H)) := Sp.below (by repeat (first | exact S2_1.out | refine Sp.alloc ?_ _ | refine Sp.drewN ?_ _ | refine Sp.drew ?_)) hb2
    have S3_2 : Hid (Sp w2 A3 c3 (F)) := Sp.below (by repeat (first | exact S3_1.out | refine Sp.alloc ?_ _ | refine Sp.drewN ?_ _ | refine Sp.drew ?_)) hb2
    have Sv_2 : Hid (Sp w2 Av cv (y :: r)) := Sp.below (by repeat (first | exact Sv_1.out | refine Sp.alloc ?_ _ | refine Sp.drewN ?_ _ | refine Sp.drew ?_)) hb2
    clear S1_1 S2_1 S3_1 Sv_1 HB_1 hb2
    go_wp2_with fail
    go_ret
    exact ⟨rfl, (by repeat (first | (with_reducible exact HB_2.out) | (with_reducible refine bel_drewN ?_ _) | (with_reducible refine bel_drew ?_) | (with_reducible refine bel_alloc ?_ _) | (with_reducible refine bel_set ?_ (by first | omega | (dsimp only; omega)) _)))⟩

end Go.Proofs.YtfpfdgljhcpkpaaDoor
