/- The walk of FenceLost. -/
import Derived.Test.YtmbcnfgeobbldaaDoorF6
namespace Go.Proofs.YtmbcnfgeobbldaaDoor
open Go.RowKit

theorem and9 {a0 a1 a2 a3 a4 a5 a6 a7 b : Prop} (h : a0 ∧ a1 ∧ a2 ∧ a3 ∧ a4 ∧ a5 ∧ a6 ∧ a7) (h2 : b) : a0 ∧ a1 ∧ a2 ∧ a3 ∧ a4 ∧ a5 ∧ a6 ∧ a7 ∧ b := ⟨h.1, h.2.1, h.2.2.1, h.2.2.2.1, h.2.2.2.2.1, h.2.2.2.2.2.1, h.2.2.2.2.2.2.1, h.2.2.2.2.2.2.2, h2⟩
set_option maxHeartbeats 4000000 in
set_option maxRecDepth 100000 in
theorem fenceLost_any (he : Bool) (A1 : Option Addr) (c1 : Nat) (R : List (Int × Int)) (A2 : Option Addr) (c2 : Nat) (H : List (Int × Int)) (A3 : Option Addr) (c3 : Nat) (F : List (Int × Int)) (tu fa : Bool) (ag : Int) (jo : Bool) (w : World) (h1 : Sp w A1 c1 R) (h2 : Sp w A2 c2 H) (h3 : Sp w A3 c3 F) (n1 : R.length ≤ 9223372036854775807) (n2 : H.length ≤ 9223372036854775807) (n3 : F.length ≤ 9223372036854775807) (hn : Names w) :
    Calls Tryd.prog 12 #[.agg #[.bool he, .slice A1 R.length c1, .slice A2 H.length c2, .slice A3 F.length c3, .bool tu, .bool fa, .int .i64 ag, .bool jo]] w fun e w' => e = .returned (.bool true) ∧ Below w.heap.size w w' := by
  have S1_0 := Lib.hid (h1)
  have S2_0 := Lib.hid (h2)
  have S3_0 := Lib.hid (h3)
  clear h1 h2 h3
  have HN := Lib.hid hn
  clear hn
  go_enter Tryd.func12, Tryd.ntmps12
  go_wp2_with fail
  refine (awake_any _ (HN.out.alloc _)).mono ?_
  rintro e1 w1 ⟨rfl, hb1⟩
  have HB_1 : Hid (Below w.heap.size w w1) := bel_chain hb1 (by repeat (first | exact Below.refl _ _ | refine bel_drewN ?_ _ | refine bel_drew ?_ | refine bel_alloc ?_ _))
  have S1_1 : Hid (Sp w1 A1 c1 (R)) := Sp.below (by repeat (first | exact S1_0.out | refine Sp.alloc ?_ _ | refine Sp.drewN ?_ _ | refine Sp.drew ?_)) hb1
  have S2_1 : Hid (Sp w1 A2 c2 (H)) := Sp.below (by repeat (first | exact S2_0.out | refine Sp.alloc ?_ _ | refine Sp.drewN ?_ _ | refine Sp.drew ?_)) hb1
  have S3_1 : Hid (Sp w1 A3 c3 (F)) := Sp.below (by repeat (first | exact S3_0.out | refine Sp.alloc ?_ _ | refine Sp.drewN ?_ _ | refine Sp.drew ?_)) hb1
  have Bs_1 : Hid (w1.heap[w.heap.size]? = some (.cells #[.bool he, .slice A1 R.length c1, .slice A2 H.length c2, .slice A3 F.length c3, .bool tu, .bool fa, .int .i64 ag, .bool jo] 52 (0, 0))) := blk_keep hb1 (by repeat (first | exact blk_new (by first | rfl | (simp; done) | (simp; omega)) | refine blk_skip ?_ | refine blk_drewN ?_ | refine blk_drew ?_))
  have s0_1 : w1.cell? ⟨w.heap.size, 0, none⟩ = some (.bool he) := blk_cell Bs_1.out rfl
  have s1_1 : w1.cell? ⟨w.heap.size, 1, none⟩ = some (.slice A1 R.length c1) := blk_cell Bs_1.out rfl
  have s2_1 : w1.cell? ⟨w.heap.size, 2, none⟩ = some (.slice A2 H.length c2) := blk_cell Bs_1.out rfl
  have s3_1 : w1.cell? ⟨w.heap.size, 3, none⟩ = some (.slice A3 F.length c3) := blk_cell Bs_1.out rfl
  have s4_1 : w1.cell? ⟨w.heap.size, 4, none⟩ = some (.bool tu) := blk_cell Bs_1.out rfl
  have s5_1 : w1.cell? ⟨w.heap.size, 5, none⟩ = some (.bool fa) := blk_cell Bs_1.out rfl
  have s6_1 : w1.cell? ⟨w.heap.size, 6, none⟩ = some (.int .i64 ag) := blk_cell Bs_1.out rfl
  have s7_1 : w1.cell? ⟨w.heap.size, 7, none⟩ = some (.bool jo) := blk_cell Bs_1.out rfl
  have sz_1 : w.heap.size < w1.heap.size := blk_lt Bs_1.out
  clear S1_0 S2_0 S3_0 hb1
  go_wp2_with fail
  refine (rgreat_any he A1 c1 R A2 c2 H A3 c3 F tu fa ag jo _ n1 n2 n3).mono ?_
  rintro e2 w2 ⟨rfl, hb2⟩
  have HB_2 : Hid (Below w.heap.size w w2) := bel_chain hb2 (by repeat (first | exact HB_1.out | refine bel_drewN ?_ _ | refine bel_drew ?_ | refine bel_alloc ?_ _))
  have S1_2 : Hid (Sp w2 A1 c1 (R)) := Sp.below (by repeat (first | exact S1_1.out | refine Sp.alloc ?_ _ | refine Sp.drewN ?_ _ | refine Sp.drew ?_)) hb2
  have S2_2 : Hid (Sp w2 A2 c2 (H)) := Sp.below (by repeat (first | exact S2_1.out | refine Sp.alloc ?_ _ | refine Sp.drewN ?_ _ | refine Sp.drew ?_)) hb2
  have S3_2 : Hid (Sp w2 A3 c3 (F)) := Sp.below (by repeat (first | exact S3_1.out | refine Sp.alloc ?_ _ | refine Sp.drewN ?_ _ | refine Sp.drew ?_)) hb2
  have Bs_2 : Hid (w2.heap[w.heap.size]? = some (.cells #[.bool he, .slice A1 R.length c1, .slice A2 H.length c2, .slice A3 F.length c3, .bool tu, .bool fa, .int .i64 ag, .bool jo] 52 (0, 0))) := blk_keep hb2 (blk_keep (W := w1) (by (repeat (first | exact Below.refl _ _ | refine bel_drewN ?_ _ | refine bel_drew ?_ | refine bel_alloc ?_ _ | refine bel_set ?_ (by simp) _))) Bs_1.out)
  have s0_2 : w2.cell? ⟨w.heap.size, 0, none⟩ = some (.bool he) := blk_cell Bs_2.out rfl
  have s1_2 : w2.cell? ⟨w.heap.size, 1, none⟩ = some (.slice A1 R.length c1) := blk_cell Bs_2.out rfl
  have s2_2 : w2.cell? ⟨w.heap.size, 2, none⟩ = some (.slice A2 H.length c2) := blk_cell Bs_2.out rfl
  have s3_2 : w2.cell? ⟨w.heap.size, 3, none⟩ = some (.slice A3 F.length c3) := blk_cell Bs_2.out rfl
  have s4_2 : w2.cell? ⟨w.heap.size, 4, none⟩ = some (.bool tu) := blk_cell Bs_2.out rfl
  have s5_2 : w2.cell? ⟨w.heap.size, 5, none⟩ = some (.bool fa) := blk_cell Bs_2.out rfl
  have s6_2 : w2.cell? ⟨w.heap.size, 6, none⟩ = some (.int .i64 ag) := blk_cell Bs_2.out rfl
  have s7_2 : w2.cell? ⟨w.heap.size, 7, none⟩ = some (.bool jo) := blk_cell Bs_2.out rfl
  have sz_2 : w.heap.size < w2.heap.size := blk_lt Bs_2.out
  clear S1_1 S2_1 S3_1 Bs_1 s0_1 s1_1 s2_1 s3_1 s4_1 s5_1 s6_1 s7_1 sz_1 HB_1 hb2
  cases hg : greatS R H F
  rotate_left
  · go_wp2_with fail
    refine (awake_any _ (HN.out.below HB_2.out)).mono ?_
    rintro e3 w3 ⟨rfl, hb3⟩
    have HB_3 : Hid (Below w.heap.size w w3) := bel_chain hb3 (by repeat (first | exact HB_2.out | refine bel_drewN ?_ _ | refine bel_drew ?_ | refine bel_alloc ?_ _))
    have S1_3 : Hid (Sp w3 A1 c1 (R)) := Sp.below (by repeat (first | exact S1_2.out | refine Sp.alloc ?_ _ | refine Sp.drewN ?_ _ | refine Sp.drew ?_)) hb3
    have S2_3 : Hid (Sp w3 A2 c2 (H)) := Sp.below (by repeat (first | exact S2_2.out | refine Sp.alloc ?_ _ | refine Sp.drewN ?_ _ | refine Sp.drew ?_)) hb3
    have S3_3 : Hid (Sp w3 A3 c3 (F)) := Sp.below (by repeat (first | exact S3_2.out | refine Sp.alloc ?_ _ | refine Sp.drewN ?_ _ | refine Sp.drew ?_)) hb3
    have Bs_3 : Hid (w3.heap[w.heap.size]? = some (.cells #[.bool he, .slice A1 R.length c1, .slice A2 H.length c2, .slice A3 F.length c3, .bool tu, .bool fa, .int .i64 ag, .bool jo] 52 (0, 0))) := blk_keep hb3 (blk_keep (W := w2) (by (repeat (first | exact Below.refl _ _ | refine bel_drewN ?_ _ | refine bel_drew ?_ | refine bel_alloc ?_ _ | refine bel_set ?_ (by simp) _))) Bs_2.out)
    have s0_3 : w3.cell? ⟨w.heap.size, 0, none⟩ = some (.bool he) := blk_cell Bs_3.out rfl
    have s1_3 : w3.cell? ⟨w.heap.size, 1, none⟩ = some (.slice A1 R.length c1) := blk_cell Bs_3.out rfl
    have s2_3 : w3.cell? ⟨w.heap.size, 2, none⟩ = some (.slice A2 H.length c2) := blk_cell Bs_3.out rfl
    have s3_3 : w3.cell? ⟨w.heap.size, 3, none⟩ = some (.slice A3 F.length c3) := blk_cell Bs_3.out rfl
    have s4_3 : w3.cell? ⟨w.heap.size, 4, none⟩ = some (.bool tu) := blk_cell Bs_3.out rfl
    have s5_3 : w3.cell? ⟨w.heap.size, 5, none⟩ = some (.bool fa) := blk_cell Bs_3.out rfl
    have s6_3 : w3.cell? ⟨w.heap.size, 6, none⟩ = some (.int .i64 ag) := blk_cell Bs_3.out rfl
    have s7_3 : w3.cell? ⟨w.heap.size, 7, none⟩ = some (.bool jo) := blk_cell Bs_3.out rfl
    have sz_3 : w.heap.size < w3.heap.size := blk_lt Bs_3.out
    clear S1_2 S2_2 S3_2 Bs_2 s0_2 s1_2 s2_2 s3_2 s4_2 s5_2 s6_2 s7_2 sz_2 HB_2 hb3
    go_wp2_with fail
    go_ret
    exact ⟨rfl, (by repeat (first | (with_reducible exact HB_3.out) | (with_reducible refine bel_drewN ?_ _) | (with_reducible refine bel_drew ?_) | (with_reducible refine bel_alloc ?_ _) | (with_reducible refine bel_set ?_ (by first | omega | (dsimp only; omega)) _)))⟩
  · have hgs : R.length ≤ 12 ∧ H.length ≤ 12 ∧ F.length ≤ 12 := by simp [greatS] at hg; omega
    obtain ⟨l1, l2, l3⟩ := hgs
    have m1 := cano_length R
    have m2 := cano_length H
    have m3 := cano_length F
    have K1 := Lib.hid (cano_canon R)
    have K2 := Lib.hid (cano_canon H)
    have K3 := Lib.hid (cano_canon F)
    clear hg
    have HL := fun W A1 c1 A2 c2 A3 c3 h1 h2 h3 => Lib.hid (lost_any he A1 c1 (cano R) A2 c2 (cano H) A3 c3 (cano F) tu fa ag jo W h1 h2 h3 K1.out K2.out K3.out (by omega) (by omega) (by omega))
    have HM := fun W A1 c1 A2 c2 A3 c3 h1 h2 h3 => Lib.hid (rlost_any he A1 c1 (cano R) A2 c2 (cano H) A3 c3 (cano F) tu fa ag jo W h1 h2 h3 (by omega) (by omega) (by omega))
    have ly := lostL_length tu fa jo (cano R) (cano H) (cano F)
    generalize lostL tu fa jo (cano R) (cano H) (cano F) = Y at HL HM ly
    go_wp2_with fail
    refine (own_any he A1 c1 R A2 c2 H A3 c3 F tu fa ag jo _ (by repeat (first | exact S1_2.out | refine Sp.alloc ?_ _ | refine Sp.drewN ?_ _ | refine Sp.drew ?_)) (by repeat (first | exact S2_2.out | refine Sp.alloc ?_ _ | refine Sp.drewN ?_ _ | refine Sp.drew ?_)) (by repeat (first | exact S3_2.out | refine Sp.alloc ?_ _ | refine Sp.drewN ?_ _ | refine Sp.drew ?_)) (by omega) (by omega) (by omega)).mono ?_
    rintro e3 w3 ⟨B1, d1, B2, d2, B3, d3, rfl, hs3, ht3, hu3, hb3⟩
    have HB_3 : Hid (Below w.heap.size w w3) := bel_chain hb3 (by repeat (first | exact HB_2.out | refine bel_drewN ?_ _ | refine bel_drew ?_ | refine bel_alloc ?_ _))
    have S1_3 : Hid (Sp w3 A1 c1 (R)) := Sp.below (by repeat (first | exact S1_2.out | refine Sp.alloc ?_ _ | refine Sp.drewN ?_ _ | refine Sp.drew ?_)) hb3
    have S2_3 : Hid (Sp w3 A2 c2 (H)) := Sp.below (by repeat (first | exact S2_2.out | refine Sp.alloc ?_ _ | refine Sp.drewN ?_ _ | refine Sp.drew ?_)) hb3
    have S3_3 : Hid (Sp w3 A3 c3 (F)) := Sp.below (by repeat (first | exact S3_2.out | refine Sp.alloc ?_ _ | refine Sp.drewN ?_ _ | refine Sp.drew ?_)) hb3
    have Bs_3 : Hid (w3.heap[w.heap.size]? = some (.cells #[.bool he, .slice A1 R.length c1, .slice A2 H.length c2, .slice A3 F.length c3, .bool tu, .bool fa, .int .i64 ag, .bool jo] 52 (0, 0))) := blk_keep hb3 (blk_keep (W := w2) (by (repeat (first | exact Below.refl _ _ | refine bel_drewN ?_ _ | refine bel_drew ?_ | refine bel_alloc ?_ _ | refine bel_set ?_ (by simp) _))) Bs_2.out)
    have s0_3 : w3.cell? ⟨w.heap.size, 0, none⟩ = some (.bool he) := blk_cell Bs_3.out rfl
    have s1_3 : w3.cell? ⟨w.heap.size, 1, none⟩ = some (.slice A1 R.length c1) := blk_cell Bs_3.out rfl
    have s2_3 : w3.cell? ⟨w.heap.size, 2, none⟩ = some (.slice A2 H.length c2) := blk_cell Bs_3.out rfl
    have s3_3 : w3.cell? ⟨w.heap.size, 3, none⟩ = some (.slice A3 F.length c3) := blk_cell Bs_3.out rfl
    have s4_3 : w3.cell? ⟨w.heap.size, 4, none⟩ = some (.bool tu) := blk_cell Bs_3.out rfl
    have s5_3 : w3.cell? ⟨w.heap.size, 5, none⟩ = some (.bool fa) := blk_cell Bs_3.out rfl
    have s6_3 : w3.cell? ⟨w.heap.size, 6, none⟩ = some (.int .i64 ag) := blk_cell Bs_3.out rfl
    have s7_3 : w3.cell? ⟨w.heap.size, 7, none⟩ = some (.bool jo) := blk_cell Bs_3.out rfl
    have sz_3 : w.heap.size < w3.heap.size := blk_lt Bs_3.out
    have Sa1_3 : Hid (Sp w3 B1 d1 (cano R)) := hs3
    have Sa2_3 : Hid (Sp w3 B2 d2 (cano H)) := ht3
    have Sa3_3 : Hid (Sp w3 B3 d3 (cano F)) := hu3
    clear S1_2 S2_2 S3_2 Bs_2 s0_2 s1_2 s2_2 s3_2 s4_2 s5_2 s6_2 s7_2 sz_2 hs3 ht3 hu3 HB_2 hb3
    go_wp2_with fail
    refine ((HL _ B1 d1 B2 d2 B3 d3 (by repeat (first | exact Sa1_3.out | refine Sp.alloc ?_ _ | refine Sp.drewN ?_ _ | refine Sp.drew ?_)) (by repeat (first | exact Sa2_3.out | refine Sp.alloc ?_ _ | refine Sp.drewN ?_ _ | refine Sp.drew ?_)) (by repeat (first | exact Sa3_3.out | refine Sp.alloc ?_ _ | refine Sp.drewN ?_ _ | refine Sp.drew ?_))).out).mono ?_
    rintro e4 w4 ⟨Al, cl, rfl, hs4, hb4⟩
    have HB_4 : Hid (Below w.heap.size w w4) := bel_chain hb4 (by repeat (first | exact HB_3.out | refine bel_drewN ?_ _ | refine bel_drew ?_ | refine bel_alloc ?_ _))
    have S1_4 : Hid (Sp w4 A1 c1 (R)) := Sp.below (by repeat (first | exact S1_3.out | refine Sp.alloc ?_ _ | refine Sp.drewN ?_ _ | refine Sp.drew ?_)) hb4
    have S2_4 : Hid (Sp w4 A2 c2 (H)) := Sp.below (by repeat (first | exact S2_3.out | refine Sp.alloc ?_ _ | refine Sp.drewN ?_ _ | refine Sp.drew ?_)) hb4
    have S3_4 : Hid (Sp w4 A3 c3 (F)) := Sp.below (by repeat (first | exact S3_3.out | refine Sp.alloc ?_ _ | refine Sp.drewN ?_ _ | refine Sp.drew ?_)) hb4
    have Sa1_4 : Hid (Sp w4 B1 d1 (cano R)) := Sp.below (by repeat (first | exact Sa1_3.out | refine Sp.alloc ?_ _ | refine Sp.drewN ?_ _ | refine Sp.drew ?_)) hb4
    have Sa2_4 : Hid (Sp w4 B2 d2 (cano H)) := Sp.below (by repeat (first | exact Sa2_3.out | refine Sp.alloc ?_ _ | refine Sp.drewN ?_ _ | refine Sp.drew ?_)) hb4
    have Sa3_4 : Hid (Sp w4 B3 d3 (cano F)) := Sp.below (by repeat (first | exact Sa3_3.out | refine Sp.alloc ?_ _ | refine Sp.drewN ?_ _ | refine Sp.drew ?_)) hb4
    have Bs_4 : Hid (w4.heap[w.heap.size]? = some (.cells #[.bool he, .slice A1 R.length c1, .slice A2 H.length c2, .slice A3 F.length c3, .bool tu, .bool fa, .int .i64 ag, .bool jo] 52 (0, 0))) := blk_keep hb4 (blk_keep (W := w3) (by (repeat (first | exact Below.refl _ _ | refine bel_drewN ?_ _ | refine bel_drew ?_ | refine bel_alloc ?_ _ | refine bel_set ?_ (by simp) _))) Bs_3.out)
    have s0_4 : w4.cell? ⟨w.heap.size, 0, none⟩ = some (.bool he) := blk_cell Bs_4.out rfl
    have s1_4 : w4.cell? ⟨w.heap.size, 1, none⟩ = some (.slice A1 R.length c1) := blk_cell Bs_4.out rfl
    have s2_4 : w4.cell? ⟨w.heap.size, 2, none⟩ = some (.slice A2 H.length c2) := blk_cell Bs_4.out rfl
    have s3_4 : w4.cell? ⟨w.heap.size, 3, none⟩ = some (.slice A3 F.length c3) := blk_cell Bs_4.out rfl
    have s4_4 : w4.cell? ⟨w.heap.size, 4, none⟩ = some (.bool tu) := blk_cell Bs_4.out rfl
    have s5_4 : w4.cell? ⟨w.heap.size, 5, none⟩ = some (.bool fa) := blk_cell Bs_4.out rfl
    have s6_4 : w4.cell? ⟨w.heap.size, 6, none⟩ = some (.int .i64 ag) := blk_cell Bs_4.out rfl
    have s7_4 : w4.cell? ⟨w.heap.size, 7, none⟩ = some (.bool jo) := blk_cell Bs_4.out rfl
    have sz_4 : w.heap.size < w4.heap.size := blk_lt Bs_4.out
    have Sl_4 : Hid (Sp w4 Al cl (Y)) := hs4
    clear S1_3 S2_3 S3_3 Sa1_3 Sa2_3 Sa3_3 Bs_3 s0_3 s1_3 s2_3 s3_3 s4_3 s5_3 s6_3 s7_3 sz_3 hs4 HB_3 hb4
    clear Sa1_4
    clear Sa2_4
    clear Sa3_4
    clear s0_4 s1_4 s2_4 s3_4 s4_4 s5_4 s6_4 s7_4
    go_wp2_with fail
    obtain ⟨w5, hw5⟩ : ∃ w5, World.alloc w4 (.cells #[.slice Al Y.length cl] 26) = w5 := ⟨_, rfl⟩
    rw [hw5]
    have hb5 : Below w4.heap.size w4 w5 := by rw [← hw5]; exact bel_alloc (Below.refl _ _) _
    have Bl_5 : Hid (w5.heap[w4.heap.size]? = some (.cells #[.slice Al Y.length cl] 26 (0, 0))) := by simp only [Hid]; rw [← hw5]; exact blk_new rfl
    have Bs_5 := Lib.hid (blk_keep hb5 Bs_4.out)
    have HB_5 : Hid (Below w.heap.size w w5) := bel_chain hb5 HB_4.out
    have S1_5 := Lib.hid (S1_4.out.below hb5)
    have S2_5 := Lib.hid (S2_4.out.below hb5)
    have S3_5 := Lib.hid (S3_4.out.below hb5)
    have Sl_5 := Lib.hid (Sl_4.out.below hb5)
    have lz_5 : w4.heap.size < w5.heap.size := blk_lt Bl_5.out
    have sz_5 : w.heap.size < w5.heap.size := blk_lt Bs_5.out
    clear hw5 hb5 Bs_4 HB_4 S1_4 S2_4 S3_4 Sl_4 sz_4
    have tok6 : True := trivial
    go_region_held3 (fun w' => w'.cell? ⟨w.heap.size, 0, none⟩ = some (.bool he) ∧ w'.cell? ⟨w.heap.size, 1, none⟩ = some (.slice A1 R.length c1) ∧ w'.cell? ⟨w.heap.size, 2, none⟩ = some (.slice A2 H.length c2) ∧ w'.cell? ⟨w.heap.size, 3, none⟩ = some (.slice A3 F.length c3) ∧ w'.cell? ⟨w.heap.size, 4, none⟩ = some (.bool tu) ∧ w'.cell? ⟨w.heap.size, 5, none⟩ = some (.bool fa) ∧ w'.cell? ⟨w.heap.size, 6, none⟩ = some (.int .i64 ag) ∧ w'.cell? ⟨w.heap.size, 7, none⟩ = some (.bool jo) ∧ w'.cell? ⟨w4.heap.size, 0, none⟩ = some (.slice Al Y.length cl))
      (first | ((refine and9 (cells8 (t := 52) (f := (0, 0)) (a0 := .bool he) (a1 := .slice A1 R.length c1) (a2 := .slice A2 H.length c2) (a3 := .slice A3 F.length c3) (a4 := .bool tu) (a5 := .bool fa) (a6 := .int .i64 ag) (a7 := .bool jo) ?_) (cells1 (t := 26) (f := (0, 0)) ?_)) <;> (repeat (first | (with_reducible exact Bs_9.out) | (with_reducible exact Bs_8.out) | (with_reducible exact Bs_7.out) | (with_reducible exact Bs_6.out) | (with_reducible exact Bs_5.out) | (with_reducible exact Bl_9.out) | (with_reducible exact Bl_8.out) | (with_reducible exact Bl_7.out) | (with_reducible exact Bl_6.out) | (with_reducible exact Bl_5.out) | (with_reducible refine blk_drew ?_) | (with_reducible refine blk_drewN ?_) | (with_reducible refine blk_skip ?_)))))
      (first
        | (go_at_call 31
           have _tk := tok6
           clear _tk tok6
           refine (spans_any Al cl Y _ (by repeat (first | exact Sl_5.out | refine Sp.alloc ?_ _ | refine Sp.drewN ?_ _ | refine Sp.drew ?_)) (by omega)).mono ?_
           rintro e6 w6 ⟨Ap, cp, rfl, hs6, hb6⟩
           have HB_6 : Hid (Below w.heap.size w w6) := bel_chain hb6 (by repeat (first | exact HB_5.out | refine bel_drewN ?_ _ | refine bel_drew ?_ | refine bel_alloc ?_ _))
           have S1_6 : Hid (Sp w6 A1 c1 (R)) := Sp.below (by repeat (first | exact S1_5.out | refine Sp.alloc ?_ _ | refine Sp.drewN ?_ _ | refine Sp.drew ?_)) hb6
           have S2_6 : Hid (Sp w6 A2 c2 (H)) := Sp.below (by repeat (first | exact S2_5.out | refine Sp.alloc ?_ _ | refine Sp.drewN ?_ _ | refine Sp.drew ?_)) hb6
           have S3_6 : Hid (Sp w6 A3 c3 (F)) := Sp.below (by repeat (first | exact S3_5.out | refine Sp.alloc ?_ _ | refine Sp.drewN ?_ _ | refine Sp.drew ?_)) hb6
           have Sl_6 : Hid (Sp w6 Al cl (Y)) := Sp.below (by repeat (first | exact Sl_5.out | refine Sp.alloc ?_ _ | refine Sp.drewN ?_ _ | refine Sp.drew ?_)) hb6
           have Bs_6 : Hid (w6.heap[w.heap.size]? = some (.cells #[.bool he, .slice A1 R.length c1, .slice A2 H.length c2, .slice A3 F.length c3, .bool tu, .bool fa, .int .i64 ag, .bool jo] 52 (0, 0))) := blk_keep hb6 (blk_keep (W := w5) (by (repeat (first | exact Below.refl _ _ | refine bel_drewN ?_ _ | refine bel_drew ?_ | refine bel_alloc ?_ _ | refine bel_set ?_ (by simp) _))) Bs_5.out)
           have Bl_6 : Hid (w6.heap[w4.heap.size]? = some (.cells #[.slice Al Y.length cl] 26 (0, 0))) := blk_keep hb6 (blk_keep (W := w5) (by (repeat (first | exact Below.refl _ _ | refine bel_drewN ?_ _ | refine bel_drew ?_ | refine bel_alloc ?_ _ | refine bel_set ?_ (by simp) _))) Bl_5.out)
           have sz_6 : w.heap.size < w6.heap.size := blk_lt Bs_6.out
           have lz_6 : w4.heap.size < w6.heap.size := blk_lt Bl_6.out
           have Sp_6 : Hid (Sp w6 Ap cp (Y)) := Own.sp hs6
           clear S1_5 S2_5 S3_5 Sl_5 Bs_5 sz_5 Bl_5 lz_5 hs6 HB_5 hb6
           have tok7 : True := trivial)
        | (go_at_call 45
           have _tk := tok7
           clear _tk tok7
           refine (r37Of_any he A1 c1 R A2 c2 H A3 c3 F tu fa ag jo _ (by repeat (first | exact S1_6.out | refine Sp.alloc ?_ _ | refine Sp.drewN ?_ _ | refine Sp.drew ?_)) (by repeat (first | exact S2_6.out | refine Sp.alloc ?_ _ | refine Sp.drewN ?_ _ | refine Sp.drew ?_)) (by repeat (first | exact S3_6.out | refine Sp.alloc ?_ _ | refine Sp.drewN ?_ _ | refine Sp.drew ?_)) (by omega) (by omega) (by omega)).mono ?_
           rintro e7 w7 ⟨C1, e1, C2, e2, C3, e3, rfl, hs7, ht7, hu7, hb7⟩
           have HB_7 : Hid (Below w.heap.size w w7) := bel_chain hb7 (by repeat (first | exact HB_6.out | refine bel_drewN ?_ _ | refine bel_drew ?_ | refine bel_alloc ?_ _))
           have S1_7 : Hid (Sp w7 A1 c1 (R)) := Sp.below (by repeat (first | exact S1_6.out | refine Sp.alloc ?_ _ | refine Sp.drewN ?_ _ | refine Sp.drew ?_)) hb7
           have S2_7 : Hid (Sp w7 A2 c2 (H)) := Sp.below (by repeat (first | exact S2_6.out | refine Sp.alloc ?_ _ | refine Sp.drewN ?_ _ | refine Sp.drew ?_)) hb7
           have S3_7 : Hid (Sp w7 A3 c3 (F)) := Sp.below (by repeat (first | exact S3_6.out | refine Sp.alloc ?_ _ | refine Sp.drewN ?_ _ | refine Sp.drew ?_)) hb7
           have Sl_7 : Hid (Sp w7 Al cl (Y)) := Sp.below (by repeat (first | exact Sl_6.out | refine Sp.alloc ?_ _ | refine Sp.drewN ?_ _ | refine Sp.drew ?_)) hb7
           have Sp_7 : Hid (Sp w7 Ap cp (Y)) := Sp.below (by repeat (first | exact Sp_6.out | refine Sp.alloc ?_ _ | refine Sp.drewN ?_ _ | refine Sp.drew ?_)) hb7
           have Bs_7 : Hid (w7.heap[w.heap.size]? = some (.cells #[.bool he, .slice A1 R.length c1, .slice A2 H.length c2, .slice A3 F.length c3, .bool tu, .bool fa, .int .i64 ag, .bool jo] 52 (0, 0))) := blk_keep hb7 (blk_keep (W := w6) (by (repeat (first | exact Below.refl _ _ | refine bel_drewN ?_ _ | refine bel_drew ?_ | refine bel_alloc ?_ _ | refine bel_set ?_ (by simp) _))) Bs_6.out)
           have Bl_7 : Hid (w7.heap[w4.heap.size]? = some (.cells #[.slice Al Y.length cl] 26 (0, 0))) := blk_keep hb7 (blk_keep (W := w6) (by (repeat (first | exact Below.refl _ _ | refine bel_drewN ?_ _ | refine bel_drew ?_ | refine bel_alloc ?_ _ | refine bel_set ?_ (by simp) _))) Bl_6.out)
           have sz_7 : w.heap.size < w7.heap.size := blk_lt Bs_7.out
           have lz_7 : w4.heap.size < w7.heap.size := blk_lt Bl_7.out
           have Sa1_7 : Hid (Sp w7 C1 e1 (cano R)) := hs7
           have Sa2_7 : Hid (Sp w7 C2 e2 (cano H)) := ht7
           have Sa3_7 : Hid (Sp w7 C3 e3 (cano F)) := hu7
           clear S1_6 S2_6 S3_6 Sl_6 Sp_6 Bs_6 sz_6 Bl_6 lz_6 hs7 ht7 hu7 HB_6 hb7
           have tok8 : True := trivial)
        | (go_at_call 50
           have _tk := tok8
           clear _tk tok8
           refine ((HM _ C1 e1 C2 e2 C3 e3 (by repeat (first | exact Sa1_7.out | refine Sp.alloc ?_ _ | refine Sp.drewN ?_ _ | refine Sp.drew ?_)) (by repeat (first | exact Sa2_7.out | refine Sp.alloc ?_ _ | refine Sp.drewN ?_ _ | refine Sp.drew ?_)) (by repeat (first | exact Sa3_7.out | refine Sp.alloc ?_ _ | refine Sp.drewN ?_ _ | refine Sp.drew ?_))).out).mono ?_
           rintro e8 w8 ⟨Ar, cr, rfl, hs8, hb8⟩
           have HB_8 : Hid (Below w.heap.size w w8) := bel_chain hb8 (by repeat (first | exact HB_7.out | refine bel_drewN ?_ _ | refine bel_drew ?_ | refine bel_alloc ?_ _))
           have S1_8 : Hid (Sp w8 A1 c1 (R)) := Sp.below (by repeat (first | exact S1_7.out | refine Sp.alloc ?_ _ | refine Sp.drewN ?_ _ | refine Sp.drew ?_)) hb8
           have S2_8 : Hid (Sp w8 A2 c2 (H)) := Sp.below (by repeat (first | exact S2_7.out | refine Sp.alloc ?_ _ | refine Sp.drewN ?_ _ | refine Sp.drew ?_)) hb8
           have S3_8 : Hid (Sp w8 A3 c3 (F)) := Sp.below (by repeat (first | exact S3_7.out | refine Sp.alloc ?_ _ | refine Sp.drewN ?_ _ | refine Sp.drew ?_)) hb8
           have Sl_8 : Hid (Sp w8 Al cl (Y)) := Sp.below (by repeat (first | exact Sl_7.out | refine Sp.alloc ?_ _ | refine Sp.drewN ?_ _ | refine Sp.drew ?_)) hb8
           have Sp_8 : Hid (Sp w8 Ap cp (Y)) := Sp.below (by repeat (first | exact Sp_7.out | refine Sp.alloc ?_ _ | refine Sp.drewN ?_ _ | refine Sp.drew ?_)) hb8
           have Sa1_8 : Hid (Sp w8 C1 e1 (cano R)) := Sp.below (by repeat (first | exact Sa1_7.out | refine Sp.alloc ?_ _ | refine Sp.drewN ?_ _ | refine Sp.drew ?_)) hb8
           have Sa2_8 : Hid (Sp w8 C2 e2 (cano H)) := Sp.below (by repeat (first | exact Sa2_7.out | refine Sp.alloc ?_ _ | refine Sp.drewN ?_ _ | refine Sp.drew ?_)) hb8
           have Sa3_8 : Hid (Sp w8 C3 e3 (cano F)) := Sp.below (by repeat (first | exact Sa3_7.out | refine Sp.alloc ?_ _ | refine Sp.drewN ?_ _ | refine Sp.drew ?_)) hb8
           have Bs_8 : Hid (w8.heap[w.heap.size]? = some (.cells #[.bool he, .slice A1 R.length c1, .slice A2 H.length c2, .slice A3 F.length c3, .bool tu, .bool fa, .int .i64 ag, .bool jo] 52 (0, 0))) := blk_keep hb8 (blk_keep (W := w7) (by (repeat (first | exact Below.refl _ _ | refine bel_drewN ?_ _ | refine bel_drew ?_ | refine bel_alloc ?_ _ | refine bel_set ?_ (by simp) _))) Bs_7.out)
           have Bl_8 : Hid (w8.heap[w4.heap.size]? = some (.cells #[.slice Al Y.length cl] 26 (0, 0))) := blk_keep hb8 (blk_keep (W := w7) (by (repeat (first | exact Below.refl _ _ | refine bel_drewN ?_ _ | refine bel_drew ?_ | refine bel_alloc ?_ _ | refine bel_set ?_ (by simp) _))) Bl_7.out)
           have sz_8 : w.heap.size < w8.heap.size := blk_lt Bs_8.out
           have lz_8 : w4.heap.size < w8.heap.size := blk_lt Bl_8.out
           have Sr_8 : Hid (Sp w8 Ar cr (Y)) := hs8
           clear S1_7 S2_7 S3_7 Sl_7 Sp_7 Sa1_7 Sa2_7 Sa3_7 Bs_7 sz_7 Bl_7 lz_7 hs8 HB_7 hb8
           clear Sa1_8
           clear Sa2_8
           clear Sa3_8
           have tok9 : True := trivial)
        | (go_at_call 49
           have _tk := tok9
           clear _tk tok9
           refine (rsame_any Ap cp Y Ar cr Y _ (by repeat (first | exact Sp_8.out | refine Sp.alloc ?_ _ | refine Sp.drewN ?_ _ | refine Sp.drew ?_)) (by repeat (first | exact Sr_8.out | refine Sp.alloc ?_ _ | refine Sp.drewN ?_ _ | refine Sp.drew ?_)) (by omega) (by omega)).mono ?_
           rintro e9 w9 ⟨rfl, hb9⟩
           have HB_9 : Hid (Below w.heap.size w w9) := bel_chain hb9 (by repeat (first | exact HB_8.out | refine bel_drewN ?_ _ | refine bel_drew ?_ | refine bel_alloc ?_ _))
           have S1_9 : Hid (Sp w9 A1 c1 (R)) := Sp.below (by repeat (first | exact S1_8.out | refine Sp.alloc ?_ _ | refine Sp.drewN ?_ _ | refine Sp.drew ?_)) hb9
           have S2_9 : Hid (Sp w9 A2 c2 (H)) := Sp.below (by repeat (first | exact S2_8.out | refine Sp.alloc ?_ _ | refine Sp.drewN ?_ _ | refine Sp.drew ?_)) hb9
           have S3_9 : Hid (Sp w9 A3 c3 (F)) := Sp.below (by repeat (first | exact S3_8.out | refine Sp.alloc ?_ _ | refine Sp.drewN ?_ _ | refine Sp.drew ?_)) hb9
           have Sl_9 : Hid (Sp w9 Al cl (Y)) := Sp.below (by repeat (first | exact Sl_8.out | refine Sp.alloc ?_ _ | refine Sp.drewN ?_ _ | refine Sp.drew ?_)) hb9
           have Sp_9 : Hid (Sp w9 Ap cp (Y)) := Sp.below (by repeat (first | exact Sp_8.out | refine Sp.alloc ?_ _ | refine Sp.drewN ?_ _ | refine Sp.drew ?_)) hb9
           have Sr_9 : Hid (Sp w9 Ar cr (Y)) := Sp.below (by repeat (first | exact Sr_8.out | refine Sp.alloc ?_ _ | refine Sp.drewN ?_ _ | refine Sp.drew ?_)) hb9
           have Bs_9 : Hid (w9.heap[w.heap.size]? = some (.cells #[.bool he, .slice A1 R.length c1, .slice A2 H.length c2, .slice A3 F.length c3, .bool tu, .bool fa, .int .i64 ag, .bool jo] 52 (0, 0))) := blk_keep hb9 (blk_keep (W := w8) (by (repeat (first | exact Below.refl _ _ | refine bel_drewN ?_ _ | refine bel_drew ?_ | refine bel_alloc ?_ _ | refine bel_set ?_ (by simp) _))) Bs_8.out)
           have Bl_9 : Hid (w9.heap[w4.heap.size]? = some (.cells #[.slice Al Y.length cl] 26 (0, 0))) := blk_keep hb9 (blk_keep (W := w8) (by (repeat (first | exact Below.refl _ _ | refine bel_drewN ?_ _ | refine bel_drew ?_ | refine bel_alloc ?_ _ | refine bel_set ?_ (by simp) _))) Bl_8.out)
           have sz_9 : w.heap.size < w9.heap.size := blk_lt Bs_9.out
           have lz_9 : w4.heap.size < w9.heap.size := blk_lt Bl_9.out
           rw [show decide (cano Y = cano Y) = true from by simp]
           clear S1_8 S2_8 S3_8 Sl_8 Sp_8 Sr_8 Bs_8 sz_8 Bl_8 lz_8 HB_8 hb9
           have tok10 : True := trivial))
    go_wp2_with fail
    go_ret
    exact ⟨rfl, (by repeat (first | (with_reducible exact HB_9.out) | (with_reducible refine bel_drewN ?_ _) | (with_reducible refine bel_drew ?_) | (with_reducible refine bel_alloc ?_ _) | (with_reducible refine bel_set ?_ (by first | omega | (dsimp only; omega)) _)))⟩
end Go.Proofs.YtmbcnfgeobbldaaDoor
