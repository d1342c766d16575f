/- The walk of FenceTurns. -/
import Derived.Test.YtmbcnfgeobbldaaDoorF6
import Derived.Test.YtmbcnfgeobbldaaDoorG0
namespace Go.Proofs.YtmbcnfgeobbldaaDoor
open Go.RowKit

set_option maxHeartbeats 4000000 in
set_option maxRecDepth 100000 in
theorem fenceTurns_any (he : Bool) (A1 : Option Addr) (c1 : Nat) (R : List (Int × Int)) (A2 : Option Addr) (c2 : Nat) (H : List (Int × Int)) (A3 : Option Addr) (c3 : Nat) (F : List (Int × Int)) (tu fa : Bool) (ag : Int) (jo : Bool) (w : World) (h1 : Sp w A1 c1 R) (h2 : Sp w A2 c2 H) (h3 : Sp w A3 c3 F) (n1 : R.length ≤ 9223372036854775807) (n2 : H.length ≤ 9223372036854775807) (n3 : F.length ≤ 9223372036854775807) (hn : Names w) :
    Calls Tryd.prog 11 #[.agg #[.bool he, .slice A1 R.length c1, .slice A2 H.length c2, .slice A3 F.length c3, .bool tu, .bool fa, .int .i64 ag, .bool jo]] w fun e w' => e = .returned (.bool true) ∧ Below w.heap.size w w' := by
  have S1_0 := Lib.hid (h1)
  have S2_0 := Lib.hid (h2)
  have S3_0 := Lib.hid (h3)
  clear h1 h2 h3
  have HN := Lib.hid hn
  clear hn
  go_enter Tryd.func11, Tryd.ntmps11
  go_wp2_with fail
  refine (awake_any _ (HN.out.alloc _)).mono ?_
  rintro e1 w1 ⟨rfl, hb1⟩
  have HB_1 : Hid (Below w.heap.size w w1) := bel_chain hb1 (by repeat (first | exact Below.refl _ _ | refine bel_drewN ?_ _ | refine bel_drew ?_ | refine bel_alloc ?_ _))
  have S1_1 : Hid (Sp w1 A1 c1 (R)) := Sp.below (by repeat (first | exact S1_0.out | refine Sp.alloc ?_ _ | refine Sp.drewN ?_ _ | refine Sp.drew ?_)) hb1
  have S2_1 : Hid (Sp w1 A2 c2 (H)) := Sp.below (by repeat (first | exact S2_0.out | refine Sp.alloc ?_ _ | refine Sp.drewN ?_ _ | refine Sp.drew ?_)) hb1
  have S3_1 : Hid (Sp w1 A3 c3 (F)) := Sp.below (by repeat (first | exact S3_0.out | refine Sp.alloc ?_ _ | refine Sp.drewN ?_ _ | refine Sp.drew ?_)) hb1
  have Bs_1 : Hid (w1.heap[w.heap.size]? = some (.cells #[.bool he, .slice A1 R.length c1, .slice A2 H.length c2, .slice A3 F.length c3, .bool tu, .bool fa, .int .i64 ag, .bool jo] 52 (0, 0))) := blk_keep hb1 (by repeat (first | exact blk_new (by first | rfl | (simp; done) | (simp; omega)) | refine blk_skip ?_ | refine blk_drewN ?_ | refine blk_drew ?_))
  have s0_1 : w1.cell? ⟨w.heap.size, 0, none⟩ = some (.bool he) := blk_cell Bs_1.out rfl
  have s1_1 : w1.cell? ⟨w.heap.size, 1, none⟩ = some (.slice A1 R.length c1) := blk_cell Bs_1.out rfl
  have s2_1 : w1.cell? ⟨w.heap.size, 2, none⟩ = some (.slice A2 H.length c2) := blk_cell Bs_1.out rfl
  have s3_1 : w1.cell? ⟨w.heap.size, 3, none⟩ = some (.slice A3 F.length c3) := blk_cell Bs_1.out rfl
  have s4_1 : w1.cell? ⟨w.heap.size, 4, none⟩ = some (.bool tu) := blk_cell Bs_1.out rfl
  have s5_1 : w1.cell? ⟨w.heap.size, 5, none⟩ = some (.bool fa) := blk_cell Bs_1.out rfl
  have s6_1 : w1.cell? ⟨w.heap.size, 6, none⟩ = some (.int .i64 ag) := blk_cell Bs_1.out rfl
  have s7_1 : w1.cell? ⟨w.heap.size, 7, none⟩ = some (.bool jo) := blk_cell Bs_1.out rfl
  have sz_1 : w.heap.size < w1.heap.size := blk_lt Bs_1.out
  clear S1_0 S2_0 S3_0 hb1
  go_wp2_with fail
  refine (rgreat_any he A1 c1 R A2 c2 H A3 c3 F tu fa ag jo _ n1 n2 n3).mono ?_
  rintro e2 w2 ⟨rfl, hb2⟩
  have HB_2 : Hid (Below w.heap.size w w2) := bel_chain hb2 (by repeat (first | exact HB_1.out | refine bel_drewN ?_ _ | refine bel_drew ?_ | refine bel_alloc ?_ _))
  have S1_2 : Hid (Sp w2 A1 c1 (R)) := Sp.below (by repeat (first | exact S1_1.out | refine Sp.alloc ?_ _ | refine Sp.drewN ?_ _ | refine Sp.drew ?_)) hb2
  have S2_2 : Hid (Sp w2 A2 c2 (H)) := Sp.below (by repeat (first | exact S2_1.out | refine Sp.alloc ?_ _ | refine Sp.drewN ?_ _ | refine Sp.drew ?_)) hb2
  have S3_2 : Hid (Sp w2 A3 c3 (F)) := Sp.below (by repeat (first | exact S3_1.out | refine Sp.alloc ?_ _ | refine Sp.drewN ?_ _ | refine Sp.drew ?_)) hb2
  have Bs_2 : Hid (w2.heap[w.heap.size]? = some (.cells #[.bool he, .slice A1 R.length c1, .slice A2 H.length c2, .slice A3 F.length c3, .bool tu, .bool fa, .int .i64 ag, .bool jo] 52 (0, 0))) := blk_keep hb2 (blk_keep (W := w1) (by (repeat (first | exact Below.refl _ _ | refine bel_drewN ?_ _ | refine bel_drew ?_ | refine bel_alloc ?_ _ | refine bel_set ?_ (by simp) _))) Bs_1.out)
  have s0_2 : w2.cell? ⟨w.heap.size, 0, none⟩ = some (.bool he) := blk_cell Bs_2.out rfl
  have s1_2 : w2.cell? ⟨w.heap.size, 1, none⟩ = some (.slice A1 R.length c1) := blk_cell Bs_2.out rfl
  have s2_2 : w2.cell? ⟨w.heap.size, 2, none⟩ = some (.slice A2 H.length c2) := blk_cell Bs_2.out rfl
  have s3_2 : w2.cell? ⟨w.heap.size, 3, none⟩ = some (.slice A3 F.length c3) := blk_cell Bs_2.out rfl
  have s4_2 : w2.cell? ⟨w.heap.size, 4, none⟩ = some (.bool tu) := blk_cell Bs_2.out rfl
  have s5_2 : w2.cell? ⟨w.heap.size, 5, none⟩ = some (.bool fa) := blk_cell Bs_2.out rfl
  have s6_2 : w2.cell? ⟨w.heap.size, 6, none⟩ = some (.int .i64 ag) := blk_cell Bs_2.out rfl
  have s7_2 : w2.cell? ⟨w.heap.size, 7, none⟩ = some (.bool jo) := blk_cell Bs_2.out rfl
  have sz_2 : w.heap.size < w2.heap.size := blk_lt Bs_2.out
  clear S1_1 S2_1 S3_1 Bs_1 s0_1 s1_1 s2_1 s3_1 s4_1 s5_1 s6_1 s7_1 sz_1 HB_1 hb2
  cases hg : greatS R H F
  rotate_left
  · go_wp2_with fail
    refine (awake_any _ (HN.out.below HB_2.out)).mono ?_
    rintro e3 w3 ⟨rfl, hb3⟩
    have HB_3 : Hid (Below w.heap.size w w3) := bel_chain hb3 (by repeat (first | exact HB_2.out | refine bel_drewN ?_ _ | refine bel_drew ?_ | refine bel_alloc ?_ _))
    have S1_3 : Hid (Sp w3 A1 c1 (R)) := Sp.below (by repeat (first | exact S1_2.out | refine Sp.alloc ?_ _ | refine Sp.drewN ?_ _ | refine Sp.drew ?_)) hb3
    have S2_3 : Hid (Sp w3 A2 c2 (H)) := Sp.below (by repeat (first | exact S2_2.out | refine Sp.alloc ?_ _ | refine Sp.drewN ?_ _ | refine Sp.drew ?_)) hb3
    have S3_3 : Hid (Sp w3 A3 c3 (F)) := Sp.below (by repeat (first | exact S3_2.out | refine Sp.alloc ?_ _ | refine Sp.drewN ?_ _ | refine Sp.drew ?_)) hb3
    have Bs_3 : Hid (w3.heap[w.heap.size]? = some (.cells #[.bool he, .slice A1 R.length c1, .slice A2 H.length c2, .slice A3 F.length c3, .bool tu, .bool fa, .int .i64 ag, .bool jo] 52 (0, 0))) := blk_keep hb3 (blk_keep (W := w2) (by (repeat (first | exact Below.refl _ _ | refine bel_drewN ?_ _ | refine bel_drew ?_ | refine bel_alloc ?_ _ | refine bel_set ?_ (by simp) _))) Bs_2.out)
    have s0_3 : w3.cell? ⟨w.heap.size, 0, none⟩ = some (.bool he) := blk_cell Bs_3.out rfl
    have s1_3 : w3.cell? ⟨w.heap.size, 1, none⟩ = some (.slice A1 R.length c1) := blk_cell Bs_3.out rfl
    have s2_3 : w3.cell? ⟨w.heap.size, 2, none⟩ = some (.slice A2 H.length c2) := blk_cell Bs_3.out rfl
    have s3_3 : w3.cell? ⟨w.heap.size, 3, none⟩ = some (.slice A3 F.length c3) := blk_cell Bs_3.out rfl
    have s4_3 : w3.cell? ⟨w.heap.size, 4, none⟩ = some (.bool tu) := blk_cell Bs_3.out rfl
    have s5_3 : w3.cell? ⟨w.heap.size, 5, none⟩ = some (.bool fa) := blk_cell Bs_3.out rfl
    have s6_3 : w3.cell? ⟨w.heap.size, 6, none⟩ = some (.int .i64 ag) := blk_cell Bs_3.out rfl
    have s7_3 : w3.cell? ⟨w.heap.size, 7, none⟩ = some (.bool jo) := blk_cell Bs_3.out rfl
    have sz_3 : w.heap.size < w3.heap.size := blk_lt Bs_3.out
    clear S1_2 S2_2 S3_2 Bs_2 s0_2 s1_2 s2_2 s3_2 s4_2 s5_2 s6_2 s7_2 sz_2 HB_2 hb3
    go_wp2_with fail
    go_ret
    exact ⟨rfl, (by repeat (first | (with_reducible exact HB_3.out) | (with_reducible refine bel_drewN ?_ _) | (with_reducible refine bel_drew ?_) | (with_reducible refine bel_alloc ?_ _) | (with_reducible refine bel_set ?_ (by first | omega | (dsimp only; omega)) _)))⟩
  · have hgs : R.length ≤ 12 ∧ H.length ≤ 12 ∧ F.length ≤ 12 := by simp [greatS] at hg; omega
    obtain ⟨l1, l2, l3⟩ := hgs
    have m1 := cano_length R
    have m2 := cano_length H
    have m3 := cano_length F
    have K1 := Lib.hid (cano_canon R)
    have K2 := Lib.hid (cano_canon H)
    have K3 := Lib.hid (cano_canon F)
    clear hg
    have HD := fun tu fa W A1 c1 A2 c2 A3 c3 h1 h2 h3 => Lib.hid (decide_any he A1 c1 (cano R) A2 c2 (cano H) A3 c3 (cano F) tu fa ag jo W h1 h2 h3 K1.out K2.out K3.out (by omega) (by omega) (by omega))
    have D1 := HD tu fa
    have D2 := HD true fa
    have D3 := HD true true
    rw [decide_failed he fa jo ag (cano R) (cano H) (cano F)] at D3
    have HT := Lib.hid (turns_plain he tu fa jo ag (cano H) (cano F) K1.out)
    generalize decideL he tu fa jo ag (cano R) (cano H) (cano F) = d at D1 HT
    generalize decideL he true fa jo ag (cano R) (cano H) (cano F) = e at D2 D3 HT
    clear HD
    have sf0_2 : w2.frozen? ⟨w.heap.size, 0, none⟩ = false := blk_frozen Bs_2.out
    have sf1_2 : w2.frozen? ⟨w.heap.size, 1, none⟩ = false := blk_frozen Bs_2.out
    have sf2_2 : w2.frozen? ⟨w.heap.size, 2, none⟩ = false := blk_frozen Bs_2.out
    have sf3_2 : w2.frozen? ⟨w.heap.size, 3, none⟩ = false := blk_frozen Bs_2.out
    have sf4_2 : w2.frozen? ⟨w.heap.size, 4, none⟩ = false := blk_frozen Bs_2.out
    have sf5_2 : w2.frozen? ⟨w.heap.size, 5, none⟩ = false := blk_frozen Bs_2.out
    have sf6_2 : w2.frozen? ⟨w.heap.size, 6, none⟩ = false := blk_frozen Bs_2.out
    have sf7_2 : w2.frozen? ⟨w.heap.size, 7, none⟩ = false := blk_frozen Bs_2.out
    go_wp2_with fail
    refine (own_any he A1 c1 R A2 c2 H A3 c3 F tu fa ag jo _ (by repeat (first | exact S1_2.out | refine Sp.alloc ?_ _ | refine Sp.drewN ?_ _ | refine Sp.drew ?_)) (by repeat (first | exact S2_2.out | refine Sp.alloc ?_ _ | refine Sp.drewN ?_ _ | refine Sp.drew ?_)) (by repeat (first | exact S3_2.out | refine Sp.alloc ?_ _ | refine Sp.drewN ?_ _ | refine Sp.drew ?_)) (by omega) (by omega) (by omega)).mono ?_
    rintro e3 w3 ⟨B1, d1, B2, d2, B3, d3, rfl, hs3, ht3, hu3, hb3⟩
    have HB_3 : Hid (Below w.heap.size w w3) := bel_chain hb3 (by repeat (first | exact HB_2.out | refine bel_drewN ?_ _ | refine bel_drew ?_ | refine bel_alloc ?_ _))
    have S1_3 : Hid (Sp w3 A1 c1 (R)) := Sp.below (by repeat (first | exact S1_2.out | refine Sp.alloc ?_ _ | refine Sp.drewN ?_ _ | refine Sp.drew ?_)) hb3
    have S2_3 : Hid (Sp w3 A2 c2 (H)) := Sp.below (by repeat (first | exact S2_2.out | refine Sp.alloc ?_ _ | refine Sp.drewN ?_ _ | refine Sp.drew ?_)) hb3
    have S3_3 : Hid (Sp w3 A3 c3 (F)) := Sp.below (by repeat (first | exact S3_2.out | refine Sp.alloc ?_ _ | refine Sp.drewN ?_ _ | refine Sp.drew ?_)) hb3
    have Bs_3 : Hid (w3.heap[w.heap.size]? = some (.cells #[.bool he, .slice A1 R.length c1, .slice A2 H.length c2, .slice A3 F.length c3, .bool tu, .bool fa, .int .i64 ag, .bool jo] 52 (0, 0))) := blk_keep hb3 (blk_keep (W := w2) (by (repeat (first | exact Below.refl _ _ | refine bel_drewN ?_ _ | refine bel_drew ?_ | refine bel_alloc ?_ _ | refine bel_set ?_ (by simp) _))) Bs_2.out)
    have s0_3 : w3.cell? ⟨w.heap.size, 0, none⟩ = some (.bool he) := blk_cell Bs_3.out rfl
    have sf0_3 : w3.frozen? ⟨w.heap.size, 0, none⟩ = false := blk_frozen Bs_3.out
    have s1_3 : w3.cell? ⟨w.heap.size, 1, none⟩ = some (.slice A1 R.length c1) := blk_cell Bs_3.out rfl
    have sf1_3 : w3.frozen? ⟨w.heap.size, 1, none⟩ = false := blk_frozen Bs_3.out
    have s2_3 : w3.cell? ⟨w.heap.size, 2, none⟩ = some (.slice A2 H.length c2) := blk_cell Bs_3.out rfl
    have sf2_3 : w3.frozen? ⟨w.heap.size, 2, none⟩ = false := blk_frozen Bs_3.out
    have s3_3 : w3.cell? ⟨w.heap.size, 3, none⟩ = some (.slice A3 F.length c3) := blk_cell Bs_3.out rfl
    have sf3_3 : w3.frozen? ⟨w.heap.size, 3, none⟩ = false := blk_frozen Bs_3.out
    have s4_3 : w3.cell? ⟨w.heap.size, 4, none⟩ = some (.bool tu) := blk_cell Bs_3.out rfl
    have sf4_3 : w3.frozen? ⟨w.heap.size, 4, none⟩ = false := blk_frozen Bs_3.out
    have s5_3 : w3.cell? ⟨w.heap.size, 5, none⟩ = some (.bool fa) := blk_cell Bs_3.out rfl
    have sf5_3 : w3.frozen? ⟨w.heap.size, 5, none⟩ = false := blk_frozen Bs_3.out
    have s6_3 : w3.cell? ⟨w.heap.size, 6, none⟩ = some (.int .i64 ag) := blk_cell Bs_3.out rfl
    have sf6_3 : w3.frozen? ⟨w.heap.size, 6, none⟩ = false := blk_frozen Bs_3.out
    have s7_3 : w3.cell? ⟨w.heap.size, 7, none⟩ = some (.bool jo) := blk_cell Bs_3.out rfl
    have sf7_3 : w3.frozen? ⟨w.heap.size, 7, none⟩ = false := blk_frozen Bs_3.out
    have sz_3 : w.heap.size < w3.heap.size := blk_lt Bs_3.out
    have Sa1_3 : Hid (Sp w3 B1 d1 (cano R)) := hs3
    have Sa2_3 : Hid (Sp w3 B2 d2 (cano H)) := ht3
    have Sa3_3 : Hid (Sp w3 B3 d3 (cano F)) := hu3
    clear S1_2 S2_2 S3_2 Bs_2 s0_2 s1_2 s2_2 s3_2 s4_2 s5_2 s6_2 s7_2 sf0_2 sf1_2 sf2_2 sf3_2 sf4_2 sf5_2 sf6_2 sf7_2 sz_2 hs3 ht3 hu3 HB_2 hb3
    go_wp2_with fail
    refine ((D1 _ B1 d1 B2 d2 B3 d3 (by repeat (first | exact Sa1_3.out | refine Sp.alloc ?_ _ | refine Sp.drewN ?_ _ | refine Sp.drew ?_)) (by repeat (first | exact Sa2_3.out | refine Sp.alloc ?_ _ | refine Sp.drewN ?_ _ | refine Sp.drew ?_)) (by repeat (first | exact Sa3_3.out | refine Sp.alloc ?_ _ | refine Sp.drewN ?_ _ | refine Sp.drew ?_))).out).mono ?_
    rintro e4 w4 ⟨rfl, hb4⟩
    have HB_4 : Hid (Below w.heap.size w w4) := bel_chain hb4 (by repeat (first | exact HB_3.out | refine bel_drewN ?_ _ | refine bel_drew ?_ | refine bel_alloc ?_ _))
    have S1_4 : Hid (Sp w4 A1 c1 (R)) := Sp.below (by repeat (first | exact S1_3.out | refine Sp.alloc ?_ _ | refine Sp.drewN ?_ _ | refine Sp.drew ?_)) hb4
    have S2_4 : Hid (Sp w4 A2 c2 (H)) := Sp.below (by repeat (first | exact S2_3.out | refine Sp.alloc ?_ _ | refine Sp.drewN ?_ _ | refine Sp.drew ?_)) hb4
    have S3_4 : Hid (Sp w4 A3 c3 (F)) := Sp.below (by repeat (first | exact S3_3.out | refine Sp.alloc ?_ _ | refine Sp.drewN ?_ _ | refine Sp.drew ?_)) hb4
    have Sa1_4 : Hid (Sp w4 B1 d1 (cano R)) := Sp.below (by repeat (first | exact Sa1_3.out | refine Sp.alloc ?_ _ | refine Sp.drewN ?_ _ | refine Sp.drew ?_)) hb4
    have Sa2_4 : Hid (Sp w4 B2 d2 (cano H)) := Sp.below (by repeat (first | exact Sa2_3.out | refine Sp.alloc ?_ _ | refine Sp.drewN ?_ _ | refine Sp.drew ?_)) hb4
    have Sa3_4 : Hid (Sp w4 B3 d3 (cano F)) := Sp.below (by repeat (first | exact Sa3_3.out | refine Sp.alloc ?_ _ | refine Sp.drewN ?_ _ | refine Sp.drew ?_)) hb4
    have Bs_4 : Hid (w4.heap[w.heap.size]? = some (.cells #[.bool he, .slice A1 R.length c1, .slice A2 H.length c2, .slice A3 F.length c3, .bool tu, .bool fa, .int .i64 ag, .bool jo] 52 (0, 0))) := blk_keep hb4 (blk_keep (W := w3) (by (repeat (first | exact Below.refl _ _ | refine bel_drewN ?_ _ | refine bel_drew ?_ | refine bel_alloc ?_ _ | refine bel_set ?_ (by simp) _))) Bs_3.out)
    have s0_4 : w4.cell? ⟨w.heap.size, 0, none⟩ = some (.bool he) := blk_cell Bs_4.out rfl
    have sf0_4 : w4.frozen? ⟨w.heap.size, 0, none⟩ = false := blk_frozen Bs_4.out
    have s1_4 : w4.cell? ⟨w.heap.size, 1, none⟩ = some (.slice A1 R.length c1) := blk_cell Bs_4.out rfl
    have sf1_4 : w4.frozen? ⟨w.heap.size, 1, none⟩ = false := blk_frozen Bs_4.out
    have s2_4 : w4.cell? ⟨w.heap.size, 2, none⟩ = some (.slice A2 H.length c2) := blk_cell Bs_4.out rfl
    have sf2_4 : w4.frozen? ⟨w.heap.size, 2, none⟩ = false := blk_frozen Bs_4.out
    have s3_4 : w4.cell? ⟨w.heap.size, 3, none⟩ = some (.slice A3 F.length c3) := blk_cell Bs_4.out rfl
    have sf3_4 : w4.frozen? ⟨w.heap.size, 3, none⟩ = false := blk_frozen Bs_4.out
    have s4_4 : w4.cell? ⟨w.heap.size, 4, none⟩ = some (.bool tu) := blk_cell Bs_4.out rfl
    have sf4_4 : w4.frozen? ⟨w.heap.size, 4, none⟩ = false := blk_frozen Bs_4.out
    have s5_4 : w4.cell? ⟨w.heap.size, 5, none⟩ = some (.bool fa) := blk_cell Bs_4.out rfl
    have sf5_4 : w4.frozen? ⟨w.heap.size, 5, none⟩ = false := blk_frozen Bs_4.out
    have s6_4 : w4.cell? ⟨w.heap.size, 6, none⟩ = some (.int .i64 ag) := blk_cell Bs_4.out rfl
    have sf6_4 : w4.frozen? ⟨w.heap.size, 6, none⟩ = false := blk_frozen Bs_4.out
    have s7_4 : w4.cell? ⟨w.heap.size, 7, none⟩ = some (.bool jo) := blk_cell Bs_4.out rfl
    have sf7_4 : w4.frozen? ⟨w.heap.size, 7, none⟩ = false := blk_frozen Bs_4.out
    have sz_4 : w.heap.size < w4.heap.size := blk_lt Bs_4.out
    clear S1_3 S2_3 S3_3 Sa1_3 Sa2_3 Sa3_3 Bs_3 s0_3 s1_3 s2_3 s3_3 s4_3 s5_3 s6_3 s7_3 sf0_3 sf1_3 sf2_3 sf3_3 sf4_3 sf5_3 sf6_3 sf7_3 sz_3 HB_3 hb4
    clear Sa1_4
    clear Sa2_4
    clear Sa3_4
    go_wp2_with fail
    obtain ⟨w5, hw5⟩ : ∃ w5, World.setCell w4 ⟨w.heap.size, 4, none⟩ (.bool true) = w5 := ⟨_, rfl⟩
    rw [hw5]
    have hg5 : w4.grownBy w5 (some (w.heap.size)) := by rw [← hw5]; exact grown_set (p := ⟨w.heap.size, 4, none⟩) (World.grownBy.refl _ _) _
    have HB_5 : Hid (Below w.heap.size w w5) := Below.grown HB_4.out hg5 HB_4.out.size (fun j hj => by injection hj with hj; omega)
    have S1_5 : Hid (Sp w5 A1 c1 (R)) := S1_4.out.grown' (fun h0 => S1_4.out.off_blk h0 Bs_4.out (noPair8 ..)) hg5
    have S2_5 : Hid (Sp w5 A2 c2 (H)) := S2_4.out.grown' (fun h0 => S2_4.out.off_blk h0 Bs_4.out (noPair8 ..)) hg5
    have S3_5 : Hid (Sp w5 A3 c3 (F)) := S3_4.out.grown' (fun h0 => S3_4.out.off_blk h0 Bs_4.out (noPair8 ..)) hg5
    have Bs_5 : Hid (w5.heap[w.heap.size]? = some (.cells #[.bool he, .slice A1 R.length c1, .slice A2 H.length c2, .slice A3 F.length c3, .bool true, .bool fa, .int .i64 ag, .bool jo] 52 (0, 0))) := by simp only [Hid]; rw [← hw5]; exact blk_set Bs_4.out
    have s0_5 : w5.cell? ⟨w.heap.size, 0, none⟩ = some (.bool he) := blk_cell Bs_5.out rfl
    have sf0_5 : w5.frozen? ⟨w.heap.size, 0, none⟩ = false := blk_frozen Bs_5.out
    have s1_5 : w5.cell? ⟨w.heap.size, 1, none⟩ = some (.slice A1 R.length c1) := blk_cell Bs_5.out rfl
    have sf1_5 : w5.frozen? ⟨w.heap.size, 1, none⟩ = false := blk_frozen Bs_5.out
    have s2_5 : w5.cell? ⟨w.heap.size, 2, none⟩ = some (.slice A2 H.length c2) := blk_cell Bs_5.out rfl
    have sf2_5 : w5.frozen? ⟨w.heap.size, 2, none⟩ = false := blk_frozen Bs_5.out
    have s3_5 : w5.cell? ⟨w.heap.size, 3, none⟩ = some (.slice A3 F.length c3) := blk_cell Bs_5.out rfl
    have sf3_5 : w5.frozen? ⟨w.heap.size, 3, none⟩ = false := blk_frozen Bs_5.out
    have s4_5 : w5.cell? ⟨w.heap.size, 4, none⟩ = some (.bool true) := blk_cell Bs_5.out rfl
    have sf4_5 : w5.frozen? ⟨w.heap.size, 4, none⟩ = false := blk_frozen Bs_5.out
    have s5_5 : w5.cell? ⟨w.heap.size, 5, none⟩ = some (.bool fa) := blk_cell Bs_5.out rfl
    have sf5_5 : w5.frozen? ⟨w.heap.size, 5, none⟩ = false := blk_frozen Bs_5.out
    have s6_5 : w5.cell? ⟨w.heap.size, 6, none⟩ = some (.int .i64 ag) := blk_cell Bs_5.out rfl
    have sf6_5 : w5.frozen? ⟨w.heap.size, 6, none⟩ = false := blk_frozen Bs_5.out
    have s7_5 : w5.cell? ⟨w.heap.size, 7, none⟩ = some (.bool jo) := blk_cell Bs_5.out rfl
    have sf7_5 : w5.frozen? ⟨w.heap.size, 7, none⟩ = false := blk_frozen Bs_5.out
    have sz_5 : w.heap.size < w5.heap.size := blk_lt Bs_5.out
    clear HB_4 hw5 hg5 S1_4 S2_4 S3_4 Bs_4 s0_4 s1_4 s2_4 s3_4 s4_4 s5_4 s6_4 s7_4 sf0_4 sf1_4 sf2_4 sf3_4 sf4_4 sf5_4 sf6_4 sf7_4 sz_4
    refine (own_any he A1 c1 R A2 c2 H A3 c3 F true fa ag jo _ (by repeat (first | exact S1_5.out | refine Sp.alloc ?_ _ | refine Sp.drewN ?_ _ | refine Sp.drew ?_)) (by repeat (first | exact S2_5.out | refine Sp.alloc ?_ _ | refine Sp.drewN ?_ _ | refine Sp.drew ?_)) (by repeat (first | exact S3_5.out | refine Sp.alloc ?_ _ | refine Sp.drewN ?_ _ | refine Sp.drew ?_)) (by omega) (by omega) (by omega)).mono ?_
    rintro e6 w6 ⟨C1, e1, C2, e2, C3, e3, rfl, hs6, ht6, hu6, hb6⟩
    have HB_6 : Hid (Below w.heap.size w w6) := bel_chain hb6 (by repeat (first | exact HB_5.out | refine bel_drewN ?_ _ | refine bel_drew ?_ | refine bel_alloc ?_ _))
    have S1_6 : Hid (Sp w6 A1 c1 (R)) := Sp.below (by repeat (first | exact S1_5.out | refine Sp.alloc ?_ _ | refine Sp.drewN ?_ _ | refine Sp.drew ?_)) hb6
    have S2_6 : Hid (Sp w6 A2 c2 (H)) := Sp.below (by repeat (first | exact S2_5.out | refine Sp.alloc ?_ _ | refine Sp.drewN ?_ _ | refine Sp.drew ?_)) hb6
    have S3_6 : Hid (Sp w6 A3 c3 (F)) := Sp.below (by repeat (first | exact S3_5.out | refine Sp.alloc ?_ _ | refine Sp.drewN ?_ _ | refine Sp.drew ?_)) hb6
    have Bs_6 : Hid (w6.heap[w.heap.size]? = some (.cells #[.bool he, .slice A1 R.length c1, .slice A2 H.length c2, .slice A3 F.length c3, .bool true, .bool fa, .int .i64 ag, .bool jo] 52 (0, 0))) := blk_keep hb6 (blk_keep (W := w5) (by (repeat (first | exact Below.refl _ _ | refine bel_drewN ?_ _ | refine bel_drew ?_ | refine bel_alloc ?_ _ | refine bel_set ?_ (by simp) _))) Bs_5.out)
    have s0_6 : w6.cell? ⟨w.heap.size, 0, none⟩ = some (.bool he) := blk_cell Bs_6.out rfl
    have sf0_6 : w6.frozen? ⟨w.heap.size, 0, none⟩ = false := blk_frozen Bs_6.out
    have s1_6 : w6.cell? ⟨w.heap.size, 1, none⟩ = some (.slice A1 R.length c1) := blk_cell Bs_6.out rfl
    have sf1_6 : w6.frozen? ⟨w.heap.size, 1, none⟩ = false := blk_frozen Bs_6.out
    have s2_6 : w6.cell? ⟨w.heap.size, 2, none⟩ = some (.slice A2 H.length c2) := blk_cell Bs_6.out rfl
    have sf2_6 : w6.frozen? ⟨w.heap.size, 2, none⟩ = false := blk_frozen Bs_6.out
    have s3_6 : w6.cell? ⟨w.heap.size, 3, none⟩ = some (.slice A3 F.length c3) := blk_cell Bs_6.out rfl
    have sf3_6 : w6.frozen? ⟨w.heap.size, 3, none⟩ = false := blk_frozen Bs_6.out
    have s4_6 : w6.cell? ⟨w.heap.size, 4, none⟩ = some (.bool true) := blk_cell Bs_6.out rfl
    have sf4_6 : w6.frozen? ⟨w.heap.size, 4, none⟩ = false := blk_frozen Bs_6.out
    have s5_6 : w6.cell? ⟨w.heap.size, 5, none⟩ = some (.bool fa) := blk_cell Bs_6.out rfl
    have sf5_6 : w6.frozen? ⟨w.heap.size, 5, none⟩ = false := blk_frozen Bs_6.out
    have s6_6 : w6.cell? ⟨w.heap.size, 6, none⟩ = some (.int .i64 ag) := blk_cell Bs_6.out rfl
    have sf6_6 : w6.frozen? ⟨w.heap.size, 6, none⟩ = false := blk_frozen Bs_6.out
    have s7_6 : w6.cell? ⟨w.heap.size, 7, none⟩ = some (.bool jo) := blk_cell Bs_6.out rfl
    have sf7_6 : w6.frozen? ⟨w.heap.size, 7, none⟩ = false := blk_frozen Bs_6.out
    have sz_6 : w.heap.size < w6.heap.size := blk_lt Bs_6.out
    have Sa1_6 : Hid (Sp w6 C1 e1 (cano R)) := hs6
    have Sa2_6 : Hid (Sp w6 C2 e2 (cano H)) := ht6
    have Sa3_6 : Hid (Sp w6 C3 e3 (cano F)) := hu6
    clear S1_5 S2_5 S3_5 Bs_5 s0_5 s1_5 s2_5 s3_5 s4_5 s5_5 s6_5 s7_5 sf0_5 sf1_5 sf2_5 sf3_5 sf4_5 sf5_5 sf6_5 sf7_5 sz_5 hs6 ht6 hu6 HB_5 hb6
    go_wp2_with fail
    refine ((D2 _ C1 e1 C2 e2 C3 e3 (by repeat (first | exact Sa1_6.out | refine Sp.alloc ?_ _ | refine Sp.drewN ?_ _ | refine Sp.drew ?_)) (by repeat (first | exact Sa2_6.out | refine Sp.alloc ?_ _ | refine Sp.drewN ?_ _ | refine Sp.drew ?_)) (by repeat (first | exact Sa3_6.out | refine Sp.alloc ?_ _ | refine Sp.drewN ?_ _ | refine Sp.drew ?_))).out).mono ?_
    rintro e7 w7 ⟨rfl, hb7⟩
    have HB_7 : Hid (Below w.heap.size w w7) := bel_chain hb7 (by repeat (first | exact HB_6.out | refine bel_drewN ?_ _ | refine bel_drew ?_ | refine bel_alloc ?_ _))
    have S1_7 : Hid (Sp w7 A1 c1 (R)) := Sp.below (by repeat (first | exact S1_6.out | refine Sp.alloc ?_ _ | refine Sp.drewN ?_ _ | refine Sp.drew ?_)) hb7
    have S2_7 : Hid (Sp w7 A2 c2 (H)) := Sp.below (by repeat (first | exact S2_6.out | refine Sp.alloc ?_ _ | refine Sp.drewN ?_ _ | refine Sp.drew ?_)) hb7
    have S3_7 : Hid (Sp w7 A3 c3 (F)) := Sp.below (by repeat (first | exact S3_6.out | refine Sp.alloc ?_ _ | refine Sp.drewN ?_ _ | refine Sp.drew ?_)) hb7
    have Sa1_7 : Hid (Sp w7 C1 e1 (cano R)) := Sp.below (by repeat (first | exact Sa1_6.out | refine Sp.alloc ?_ _ | refine Sp.drewN ?_ _ | refine Sp.drew ?_)) hb7
    have Sa2_7 : Hid (Sp w7 C2 e2 (cano H)) := Sp.below (by repeat (first | exact Sa2_6.out | refine Sp.alloc ?_ _ | refine Sp.drewN ?_ _ | refine Sp.drew ?_)) hb7
    have Sa3_7 : Hid (Sp w7 C3 e3 (cano F)) := Sp.below (by repeat (first | exact Sa3_6.out | refine Sp.alloc ?_ _ | refine Sp.drewN ?_ _ | refine Sp.drew ?_)) hb7
    have Bs_7 : Hid (w7.heap[w.heap.size]? = some (.cells #[.bool he, .slice A1 R.length c1, .slice A2 H.length c2, .slice A3 F.length c3, .bool true, .bool fa, .int .i64 ag, .bool jo] 52 (0, 0))) := blk_keep hb7 (blk_keep (W := w6) (by (repeat (first | exact Below.refl _ _ | refine bel_drewN ?_ _ | refine bel_drew ?_ | refine bel_alloc ?_ _ | refine bel_set ?_ (by simp) _))) Bs_6.out)
    have s0_7 : w7.cell? ⟨w.heap.size, 0, none⟩ = some (.bool he) := blk_cell Bs_7.out rfl
    have sf0_7 : w7.frozen? ⟨w.heap.size, 0, none⟩ = false := blk_frozen Bs_7.out
    have s1_7 : w7.cell? ⟨w.heap.size, 1, none⟩ = some (.slice A1 R.length c1) := blk_cell Bs_7.out rfl
    have sf1_7 : w7.frozen? ⟨w.heap.size, 1, none⟩ = false := blk_frozen Bs_7.out
    have s2_7 : w7.cell? ⟨w.heap.size, 2, none⟩ = some (.slice A2 H.length c2) := blk_cell Bs_7.out rfl
    have sf2_7 : w7.frozen? ⟨w.heap.size, 2, none⟩ = false := blk_frozen Bs_7.out
    have s3_7 : w7.cell? ⟨w.heap.size, 3, none⟩ = some (.slice A3 F.length c3) := blk_cell Bs_7.out rfl
    have sf3_7 : w7.frozen? ⟨w.heap.size, 3, none⟩ = false := blk_frozen Bs_7.out
    have s4_7 : w7.cell? ⟨w.heap.size, 4, none⟩ = some (.bool true) := blk_cell Bs_7.out rfl
    have sf4_7 : w7.frozen? ⟨w.heap.size, 4, none⟩ = false := blk_frozen Bs_7.out
    have s5_7 : w7.cell? ⟨w.heap.size, 5, none⟩ = some (.bool fa) := blk_cell Bs_7.out rfl
    have sf5_7 : w7.frozen? ⟨w.heap.size, 5, none⟩ = false := blk_frozen Bs_7.out
    have s6_7 : w7.cell? ⟨w.heap.size, 6, none⟩ = some (.int .i64 ag) := blk_cell Bs_7.out rfl
    have sf6_7 : w7.frozen? ⟨w.heap.size, 6, none⟩ = false := blk_frozen Bs_7.out
    have s7_7 : w7.cell? ⟨w.heap.size, 7, none⟩ = some (.bool jo) := blk_cell Bs_7.out rfl
    have sf7_7 : w7.frozen? ⟨w.heap.size, 7, none⟩ = false := blk_frozen Bs_7.out
    have sz_7 : w.heap.size < w7.heap.size := blk_lt Bs_7.out
    clear S1_6 S2_6 S3_6 Sa1_6 Sa2_6 Sa3_6 Bs_6 s0_6 s1_6 s2_6 s3_6 s4_6 s5_6 s6_6 s7_6 sf0_6 sf1_6 sf2_6 sf3_6 sf4_6 sf5_6 sf6_6 sf7_6 sz_6 HB_6 hb7
    clear Sa1_7
    clear Sa2_7
    clear Sa3_7
    go_wp2_with fail
    obtain ⟨w8, hw8⟩ : ∃ w8, World.setCell w7 ⟨w.heap.size, 5, none⟩ (.bool true) = w8 := ⟨_, rfl⟩
    rw [hw8]
    have hg8 : w7.grownBy w8 (some (w.heap.size)) := by rw [← hw8]; exact grown_set (p := ⟨w.heap.size, 5, none⟩) (World.grownBy.refl _ _) _
    have HB_8 : Hid (Below w.heap.size w w8) := Below.grown HB_7.out hg8 HB_7.out.size (fun j hj => by injection hj with hj; omega)
    have S1_8 : Hid (Sp w8 A1 c1 (R)) := S1_7.out.grown' (fun h0 => S1_7.out.off_blk h0 Bs_7.out (noPair8 ..)) hg8
    have S2_8 : Hid (Sp w8 A2 c2 (H)) := S2_7.out.grown' (fun h0 => S2_7.out.off_blk h0 Bs_7.out (noPair8 ..)) hg8
    have S3_8 : Hid (Sp w8 A3 c3 (F)) := S3_7.out.grown' (fun h0 => S3_7.out.off_blk h0 Bs_7.out (noPair8 ..)) hg8
    have Bs_8 : Hid (w8.heap[w.heap.size]? = some (.cells #[.bool he, .slice A1 R.length c1, .slice A2 H.length c2, .slice A3 F.length c3, .bool true, .bool true, .int .i64 ag, .bool jo] 52 (0, 0))) := by simp only [Hid]; rw [← hw8]; exact blk_set Bs_7.out
    have s0_8 : w8.cell? ⟨w.heap.size, 0, none⟩ = some (.bool he) := blk_cell Bs_8.out rfl
    have sf0_8 : w8.frozen? ⟨w.heap.size, 0, none⟩ = false := blk_frozen Bs_8.out
    have s1_8 : w8.cell? ⟨w.heap.size, 1, none⟩ = some (.slice A1 R.length c1) := blk_cell Bs_8.out rfl
    have sf1_8 : w8.frozen? ⟨w.heap.size, 1, none⟩ = false := blk_frozen Bs_8.out
    have s2_8 : w8.cell? ⟨w.heap.size, 2, none⟩ = some (.slice A2 H.length c2) := blk_cell Bs_8.out rfl
    have sf2_8 : w8.frozen? ⟨w.heap.size, 2, none⟩ = false := blk_frozen Bs_8.out
    have s3_8 : w8.cell? ⟨w.heap.size, 3, none⟩ = some (.slice A3 F.length c3) := blk_cell Bs_8.out rfl
    have sf3_8 : w8.frozen? ⟨w.heap.size, 3, none⟩ = false := blk_frozen Bs_8.out
    have s4_8 : w8.cell? ⟨w.heap.size, 4, none⟩ = some (.bool true) := blk_cell Bs_8.out rfl
    have sf4_8 : w8.frozen? ⟨w.heap.size, 4, none⟩ = false := blk_frozen Bs_8.out
    have s5_8 : w8.cell? ⟨w.heap.size, 5, none⟩ = some (.bool true) := blk_cell Bs_8.out rfl
    have sf5_8 : w8.frozen? ⟨w.heap.size, 5, none⟩ = false := blk_frozen Bs_8.out
    have s6_8 : w8.cell? ⟨w.heap.size, 6, none⟩ = some (.int .i64 ag) := blk_cell Bs_8.out rfl
    have sf6_8 : w8.frozen? ⟨w.heap.size, 6, none⟩ = false := blk_frozen Bs_8.out
    have s7_8 : w8.cell? ⟨w.heap.size, 7, none⟩ = some (.bool jo) := blk_cell Bs_8.out rfl
    have sf7_8 : w8.frozen? ⟨w.heap.size, 7, none⟩ = false := blk_frozen Bs_8.out
    have sz_8 : w.heap.size < w8.heap.size := blk_lt Bs_8.out
    clear HB_7 hw8 hg8 S1_7 S2_7 S3_7 Bs_7 s0_7 s1_7 s2_7 s3_7 s4_7 s5_7 s6_7 s7_7 sf0_7 sf1_7 sf2_7 sf3_7 sf4_7 sf5_7 sf6_7 sf7_7 sz_7
    refine (own_any he A1 c1 R A2 c2 H A3 c3 F true true ag jo _ (by repeat (first | exact S1_8.out | refine Sp.alloc ?_ _ | refine Sp.drewN ?_ _ | refine Sp.drew ?_)) (by repeat (first | exact S2_8.out | refine Sp.alloc ?_ _ | refine Sp.drewN ?_ _ | refine Sp.drew ?_)) (by repeat (first | exact S3_8.out | refine Sp.alloc ?_ _ | refine Sp.drewN ?_ _ | refine Sp.drew ?_)) (by omega) (by omega) (by omega)).mono ?_
    rintro e9 w9 ⟨E1, f1, E2, f2, E3, f3, rfl, hs9, ht9, hu9, hb9⟩
    have HB_9 : Hid (Below w.heap.size w w9) := bel_chain hb9 (by repeat (first | exact HB_8.out | refine bel_drewN ?_ _ | refine bel_drew ?_ | refine bel_alloc ?_ _))
    have S1_9 : Hid (Sp w9 A1 c1 (R)) := Sp.below (by repeat (first | exact S1_8.out | refine Sp.alloc ?_ _ | refine Sp.drewN ?_ _ | refine Sp.drew ?_)) hb9
    have S2_9 : Hid (Sp w9 A2 c2 (H)) := Sp.below (by repeat (first | exact S2_8.out | refine Sp.alloc ?_ _ | refine Sp.drewN ?_ _ | refine Sp.drew ?_)) hb9
    have S3_9 : Hid (Sp w9 A3 c3 (F)) := Sp.below (by repeat (first | exact S3_8.out | refine Sp.alloc ?_ _ | refine Sp.drewN ?_ _ | refine Sp.drew ?_)) hb9
    have Bs_9 : Hid (w9.heap[w.heap.size]? = some (.cells #[.bool he, .slice A1 R.length c1, .slice A2 H.length c2, .slice A3 F.length c3, .bool true, .bool true, .int .i64 ag, .bool jo] 52 (0, 0))) := blk_keep hb9 (blk_keep (W := w8) (by (repeat (first | exact Below.refl _ _ | refine bel_drewN ?_ _ | refine bel_drew ?_ | refine bel_alloc ?_ _ | refine bel_set ?_ (by simp) _))) Bs_8.out)
    have s0_9 : w9.cell? ⟨w.heap.size, 0, none⟩ = some (.bool he) := blk_cell Bs_9.out rfl
    have sf0_9 : w9.frozen? ⟨w.heap.size, 0, none⟩ = false := blk_frozen Bs_9.out
    have s1_9 : w9.cell? ⟨w.heap.size, 1, none⟩ = some (.slice A1 R.length c1) := blk_cell Bs_9.out rfl
    have sf1_9 : w9.frozen? ⟨w.heap.size, 1, none⟩ = false := blk_frozen Bs_9.out
    have s2_9 : w9.cell? ⟨w.heap.size, 2, none⟩ = some (.slice A2 H.length c2) := blk_cell Bs_9.out rfl
    have sf2_9 : w9.frozen? ⟨w.heap.size, 2, none⟩ = false := blk_frozen Bs_9.out
    have s3_9 : w9.cell? ⟨w.heap.size, 3, none⟩ = some (.slice A3 F.length c3) := blk_cell Bs_9.out rfl
    have sf3_9 : w9.frozen? ⟨w.heap.size, 3, none⟩ = false := blk_frozen Bs_9.out
    have s4_9 : w9.cell? ⟨w.heap.size, 4, none⟩ = some (.bool true) := blk_cell Bs_9.out rfl
    have sf4_9 : w9.frozen? ⟨w.heap.size, 4, none⟩ = false := blk_frozen Bs_9.out
    have s5_9 : w9.cell? ⟨w.heap.size, 5, none⟩ = some (.bool true) := blk_cell Bs_9.out rfl
    have sf5_9 : w9.frozen? ⟨w.heap.size, 5, none⟩ = false := blk_frozen Bs_9.out
    have s6_9 : w9.cell? ⟨w.heap.size, 6, none⟩ = some (.int .i64 ag) := blk_cell Bs_9.out rfl
    have sf6_9 : w9.frozen? ⟨w.heap.size, 6, none⟩ = false := blk_frozen Bs_9.out
    have s7_9 : w9.cell? ⟨w.heap.size, 7, none⟩ = some (.bool jo) := blk_cell Bs_9.out rfl
    have sf7_9 : w9.frozen? ⟨w.heap.size, 7, none⟩ = false := blk_frozen Bs_9.out
    have sz_9 : w.heap.size < w9.heap.size := blk_lt Bs_9.out
    have Sa1_9 : Hid (Sp w9 E1 f1 (cano R)) := hs9
    have Sa2_9 : Hid (Sp w9 E2 f2 (cano H)) := ht9
    have Sa3_9 : Hid (Sp w9 E3 f3 (cano F)) := hu9
    clear S1_8 S2_8 S3_8 Bs_8 s0_8 s1_8 s2_8 s3_8 s4_8 s5_8 s6_8 s7_8 sf0_8 sf1_8 sf2_8 sf3_8 sf4_8 sf5_8 sf6_8 sf7_8 sz_8 hs9 ht9 hu9 HB_8 hb9
    go_wp2_with fail
    refine ((D3 _ E1 f1 E2 f2 E3 f3 (by repeat (first | exact Sa1_9.out | refine Sp.alloc ?_ _ | refine Sp.drewN ?_ _ | refine Sp.drew ?_)) (by repeat (first | exact Sa2_9.out | refine Sp.alloc ?_ _ | refine Sp.drewN ?_ _ | refine Sp.drew ?_)) (by repeat (first | exact Sa3_9.out | refine Sp.alloc ?_ _ | refine Sp.drewN ?_ _ | refine Sp.drew ?_))).out).mono ?_
    rintro e10 w10 ⟨rfl, hb10⟩
    have HB_10 : Hid (Below w.heap.size w w10) := bel_chain hb10 (by repeat (first | exact HB_9.out | refine bel_drewN ?_ _ | refine bel_drew ?_ | refine bel_alloc ?_ _))
    have S1_10 : Hid (Sp w10 A1 c1 (R)) := Sp.below (by repeat (first | exact S1_9.out | refine Sp.alloc ?_ _ | refine Sp.drewN ?_ _ | refine Sp.drew ?_)) hb10
    have S2_10 : Hid (Sp w10 A2 c2 (H)) := Sp.below (by repeat (first | exact S2_9.out | refine Sp.alloc ?_ _ | refine Sp.drewN ?_ _ | refine Sp.drew ?_)) hb10
    have S3_10 : Hid (Sp w10 A3 c3 (F)) := Sp.below (by repeat (first | exact S3_9.out | refine Sp.alloc ?_ _ | refine Sp.drewN ?_ _ | refine Sp.drew ?_)) hb10
    have Sa1_10 : Hid (Sp w10 E1 f1 (cano R)) := Sp.below (by repeat (first | exact Sa1_9.out | refine Sp.alloc ?_ _ | refine Sp.drewN ?_ _ | refine Sp.drew ?_)) hb10
    have Sa2_10 : Hid (Sp w10 E2 f2 (cano H)) := Sp.below (by repeat (first | exact Sa2_9.out | refine Sp.alloc ?_ _ | refine Sp.drewN ?_ _ | refine Sp.drew ?_)) hb10
    have Sa3_10 : Hid (Sp w10 E3 f3 (cano F)) := Sp.below (by repeat (first | exact Sa3_9.out | refine Sp.alloc ?_ _ | refine Sp.drewN ?_ _ | refine Sp.drew ?_)) hb10
    have Bs_10 : Hid (w10.heap[w.heap.size]? = some (.cells #[.bool he, .slice A1 R.length c1, .slice A2 H.length c2, .slice A3 F.length c3, .bool true, .bool true, .int .i64 ag, .bool jo] 52 (0, 0))) := blk_keep hb10 (blk_keep (W := w9) (by (repeat (first | exact Below.refl _ _ | refine bel_drewN ?_ _ | refine bel_drew ?_ | refine bel_alloc ?_ _ | refine bel_set ?_ (by simp) _))) Bs_9.out)
    have s0_10 : w10.cell? ⟨w.heap.size, 0, none⟩ = some (.bool he) := blk_cell Bs_10.out rfl
    have sf0_10 : w10.frozen? ⟨w.heap.size, 0, none⟩ = false := blk_frozen Bs_10.out
    have s1_10 : w10.cell? ⟨w.heap.size, 1, none⟩ = some (.slice A1 R.length c1) := blk_cell Bs_10.out rfl
    have sf1_10 : w10.frozen? ⟨w.heap.size, 1, none⟩ = false := blk_frozen Bs_10.out
    have s2_10 : w10.cell? ⟨w.heap.size, 2, none⟩ = some (.slice A2 H.length c2) := blk_cell Bs_10.out rfl
    have sf2_10 : w10.frozen? ⟨w.heap.size, 2, none⟩ = false := blk_frozen Bs_10.out
    have s3_10 : w10.cell? ⟨w.heap.size, 3, none⟩ = some (.slice A3 F.length c3) := blk_cell Bs_10.out rfl
    have sf3_10 : w10.frozen? ⟨w.heap.size, 3, none⟩ = false := blk_frozen Bs_10.out
    have s4_10 : w10.cell? ⟨w.heap.size, 4, none⟩ = some (.bool true) := blk_cell Bs_10.out rfl
    have sf4_10 : w10.frozen? ⟨w.heap.size, 4, none⟩ = false := blk_frozen Bs_10.out
    have s5_10 : w10.cell? ⟨w.heap.size, 5, none⟩ = some (.bool true) := blk_cell Bs_10.out rfl
    have sf5_10 : w10.frozen? ⟨w.heap.size, 5, none⟩ = false := blk_frozen Bs_10.out
    have s6_10 : w10.cell? ⟨w.heap.size, 6, none⟩ = some (.int .i64 ag) := blk_cell Bs_10.out rfl
    have sf6_10 : w10.frozen? ⟨w.heap.size, 6, none⟩ = false := blk_frozen Bs_10.out
    have s7_10 : w10.cell? ⟨w.heap.size, 7, none⟩ = some (.bool jo) := blk_cell Bs_10.out rfl
    have sf7_10 : w10.frozen? ⟨w.heap.size, 7, none⟩ = false := blk_frozen Bs_10.out
    have sz_10 : w.heap.size < w10.heap.size := blk_lt Bs_10.out
    clear S1_9 S2_9 S3_9 Sa1_9 Sa2_9 Sa3_9 Bs_9 s0_9 s1_9 s2_9 s3_9 s4_9 s5_9 s6_9 s7_9 sf0_9 sf1_9 sf2_9 sf3_9 sf4_9 sf5_9 sf6_9 sf7_9 sz_9 HB_9 hb10
    clear Sa1_10
    clear Sa2_10
    clear Sa3_10
    have hT := HT.out
    unfold TurnsL at hT
    clear HT D1 D2 D3
    rcases hT with ⟨rfl, h4⟩ | hT
    · rcases h4 with ⟨rfl, rfl⟩ | ⟨rfl, rfl⟩ | ⟨rfl, rfl⟩ | ⟨rfl, rfl⟩
      all_goals
        go_wp2_with fail
        go_ret
        exact ⟨rfl, (by repeat (first | (with_reducible exact HB_10.out) | (with_reducible refine bel_drewN ?_ _) | (with_reducible refine bel_drew ?_) | (with_reducible refine bel_alloc ?_ _) | (with_reducible refine bel_set ?_ (by first | omega | (dsimp only; omega)) _)))⟩
    · cases he
      all_goals
        rcases hT with ⟨rfl, rfl⟩ | ⟨rfl, rfl⟩ | ⟨rfl, rfl⟩ | ⟨rfl, rfl⟩ | ⟨rfl, rfl⟩ | ⟨rfl, rfl⟩ | ⟨rfl, rfl⟩
      all_goals
        go_wp2_with fail
        go_ret
        exact ⟨rfl, (by repeat (first | (with_reducible exact HB_10.out) | (with_reducible refine bel_drewN ?_ _) | (with_reducible refine bel_drew ?_) | (with_reducible refine bel_alloc ?_ _) | (with_reducible refine bel_set ?_ (by first | omega | (dsimp only; omega)) _)))⟩
end Go.Proofs.YtmbcnfgeobbldaaDoor
