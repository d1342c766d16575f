/- The walk of FenceDecides. -/
import Derived.Test.YtmbcnfgeobbldaaDoorF6
namespace Go.Proofs.YtmbcnfgeobbldaaDoor
open Go.RowKit

set_option maxHeartbeats 4000000 in
set_option maxRecDepth 100000 in
theorem fenceDecides_any (he : Bool) (A1 : Option Addr) (c1 : Nat) (R : List (Int × Int)) (A2 : Option Addr) (c2 : Nat) (H : List (Int × Int)) (A3 : Option Addr) (c3 : Nat) (F : List (Int × Int)) (tu fa : Bool) (ag : Int) (jo : Bool) (w : World) (h1 : Sp w A1 c1 R) (h2 : Sp w A2 c2 H) (h3 : Sp w A3 c3 F) (n1 : R.length ≤ 9223372036854775807) (n2 : H.length ≤ 9223372036854775807) (n3 : F.length ≤ 9223372036854775807) (hn : Names w) :
    Calls Tryd.prog 9 #[.agg #[.bool he, .slice A1 R.length c1, .slice A2 H.length c2, .slice A3 F.length c3, .bool tu, .bool fa, .int .i64 ag, .bool jo]] w fun e w' => e = .returned (.bool true) ∧ Below w.heap.size w w' := by
  have S1_0 := Lib.hid (h1)
  have S2_0 := Lib.hid (h2)
  have S3_0 := Lib.hid (h3)
  clear h1 h2 h3
  have HN := Lib.hid hn
  clear hn
  go_enter Tryd.func9, Tryd.ntmps9
  go_wp2_with fail
  refine (awake_any _ (HN.out.alloc _)).mono ?_
  rintro e1 w1 ⟨rfl, hb1⟩
  have HB_1 : Hid (Below w.heap.size w w1) := bel_chain hb1 (by repeat (first | exact Below.refl _ _ | refine bel_drewN ?_ _ | refine bel_drew ?_ | refine bel_alloc ?_ _))
  have S1_1 : Hid (Sp w1 A1 c1 (R)) := Sp.below (by repeat (first | exact S1_0.out | refine Sp.alloc ?_ _ | refine Sp.drewN ?_ _ | refine Sp.drew ?_)) hb1
  have S2_1 : Hid (Sp w1 A2 c2 (H)) := Sp.below (by repeat (first | exact S2_0.out | refine Sp.alloc ?_ _ | refine Sp.drewN ?_ _ | refine Sp.drew ?_)) hb1
  have S3_1 : Hid (Sp w1 A3 c3 (F)) := Sp.below (by repeat (first | exact S3_0.out | refine Sp.alloc ?_ _ | refine Sp.drewN ?_ _ | refine Sp.drew ?_)) hb1
  have Bs_1 : Hid (w1.heap[w.heap.size]? = some (.cells #[.bool he, .slice A1 R.length c1, .slice A2 H.length c2, .slice A3 F.length c3, .bool tu, .bool fa, .int .i64 ag, .bool jo] 52 (0, 0))) := blk_keep hb1 (by repeat (first | exact blk_new (by first | rfl | (simp; done) | (simp; omega)) | refine blk_skip ?_ | refine blk_drewN ?_ | refine blk_drew ?_))
  have s0_1 : w1.cell? ⟨w.heap.size, 0, none⟩ = some (.bool he) := blk_cell Bs_1.out rfl
  have s1_1 : w1.cell? ⟨w.heap.size, 1, none⟩ = some (.slice A1 R.length c1) := blk_cell Bs_1.out rfl
  have s2_1 : w1.cell? ⟨w.heap.size, 2, none⟩ = some (.slice A2 H.length c2) := blk_cell Bs_1.out rfl
  have s3_1 : w1.cell? ⟨w.heap.size, 3, none⟩ = some (.slice A3 F.length c3) := blk_cell Bs_1.out rfl
  have s4_1 : w1.cell? ⟨w.heap.size, 4, none⟩ = some (.bool tu) := blk_cell Bs_1.out rfl
  have s5_1 : w1.cell? ⟨w.heap.size, 5, none⟩ = some (.bool fa) := blk_cell Bs_1.out rfl
  have s6_1 : w1.cell? ⟨w.heap.size, 6, none⟩ = some (.int .i64 ag) := blk_cell Bs_1.out rfl
  have s7_1 : w1.cell? ⟨w.heap.size, 7, none⟩ = some (.bool jo) := blk_cell Bs_1.out rfl
  have sz_1 : w.heap.size < w1.heap.size := blk_lt Bs_1.out
  clear S1_0 S2_0 S3_0 hb1
  go_wp2_with fail
  refine (rgreat_any he A1 c1 R A2 c2 H A3 c3 F tu fa ag jo _ n1 n2 n3).mono ?_
  rintro e2 w2 ⟨rfl, hb2⟩
  have HB_2 : Hid (Below w.heap.size w w2) := bel_chain hb2 (by repeat (first | exact HB_1.out | refine bel_drewN ?_ _ | refine bel_drew ?_ | refine bel_alloc ?_ _))
  have S1_2 : Hid (Sp w2 A1 c1 (R)) := Sp.below (by repeat (first | exact S1_1.out | refine Sp.alloc ?_ _ | refine Sp.drewN ?_ _ | refine Sp.drew ?_)) hb2
  have S2_2 : Hid (Sp w2 A2 c2 (H)) := Sp.below (by repeat (first | exact S2_1.out | refine Sp.alloc ?_ _ | refine Sp.drewN ?_ _ | refine Sp.drew ?_)) hb2
  have S3_2 : Hid (Sp w2 A3 c3 (F)) := Sp.below (by repeat (first | exact S3_1.out | refine Sp.alloc ?_ _ | refine Sp.drewN ?_ _ | refine Sp.drew ?_)) hb2
  have Bs_2 : Hid (w2.heap[w.heap.size]? = some (.cells #[.bool he, .slice A1 R.length c1, .slice A2 H.length c2, .slice A3 F.length c3, .bool tu, .bool fa, .int .i64 ag, .bool jo] 52 (0, 0))) := blk_keep hb2 (blk_keep (W := w1) (by (repeat (first | exact Below.refl _ _ | refine bel_drewN ?_ _ | refine bel_drew ?_ | refine bel_alloc ?_ _ | refine bel_set ?_ (by simp) _))) Bs_1.out)
  have s0_2 : w2.cell? ⟨w.heap.size, 0, none⟩ = some (.bool he) := blk_cell Bs_2.out rfl
  have s1_2 : w2.cell? ⟨w.heap.size, 1, none⟩ = some (.slice A1 R.length c1) := blk_cell Bs_2.out rfl
  have s2_2 : w2.cell? ⟨w.heap.size, 2, none⟩ = some (.slice A2 H.length c2) := blk_cell Bs_2.out rfl
  have s3_2 : w2.cell? ⟨w.heap.size, 3, none⟩ = some (.slice A3 F.length c3) := blk_cell Bs_2.out rfl
  have s4_2 : w2.cell? ⟨w.heap.size, 4, none⟩ = some (.bool tu) := blk_cell Bs_2.out rfl
  have s5_2 : w2.cell? ⟨w.heap.size, 5, none⟩ = some (.bool fa) := blk_cell Bs_2.out rfl
  have s6_2 : w2.cell? ⟨w.heap.size, 6, none⟩ = some (.int .i64 ag) := blk_cell Bs_2.out rfl
  have s7_2 : w2.cell? ⟨w.heap.size, 7, none⟩ = some (.bool jo) := blk_cell Bs_2.out rfl
  have sz_2 : w.heap.size < w2.heap.size := blk_lt Bs_2.out
  clear S1_1 S2_1 S3_1 Bs_1 s0_1 s1_1 s2_1 s3_1 s4_1 s5_1 s6_1 s7_1 sz_1 HB_1 hb2
  cases hg : greatS R H F
  rotate_left
  · go_wp2_with fail
    refine (awake_any _ (HN.out.below HB_2.out)).mono ?_
    rintro e3 w3 ⟨rfl, hb3⟩
    have HB_3 : Hid (Below w.heap.size w w3) := bel_chain hb3 (by repeat (first | exact HB_2.out | refine bel_drewN ?_ _ | refine bel_drew ?_ | refine bel_alloc ?_ _))
    have S1_3 : Hid (Sp w3 A1 c1 (R)) := Sp.below (by repeat (first | exact S1_2.out | refine Sp.alloc ?_ _ | refine Sp.drewN ?_ _ | refine Sp.drew ?_)) hb3
    have S2_3 : Hid (Sp w3 A2 c2 (H)) := Sp.below (by repeat (first | exact S2_2.out | refine Sp.alloc ?_ _ | refine Sp.drewN ?_ _ | refine Sp.drew ?_)) hb3
    have S3_3 : Hid (Sp w3 A3 c3 (F)) := Sp.below (by repeat (first | exact S3_2.out | refine Sp.alloc ?_ _ | refine Sp.drewN ?_ _ | refine Sp.drew ?_)) hb3
    have Bs_3 : Hid (w3.heap[w.heap.size]? = some (.cells #[.bool he, .slice A1 R.length c1, .slice A2 H.length c2, .slice A3 F.length c3, .bool tu, .bool fa, .int .i64 ag, .bool jo] 52 (0, 0))) := blk_keep hb3 (blk_keep (W := w2) (by (repeat (first | exact Below.refl _ _ | refine bel_drewN ?_ _ | refine bel_drew ?_ | refine bel_alloc ?_ _ | refine bel_set ?_ (by simp) _))) Bs_2.out)
    have s0_3 : w3.cell? ⟨w.heap.size, 0, none⟩ = some (.bool he) := blk_cell Bs_3.out rfl
    have s1_3 : w3.cell? ⟨w.heap.size, 1, none⟩ = some (.slice A1 R.length c1) := blk_cell Bs_3.out rfl
    have s2_3 : w3.cell? ⟨w.heap.size, 2, none⟩ = some (.slice A2 H.length c2) := blk_cell Bs_3.out rfl
    have s3_3 : w3.cell? ⟨w.heap.size, 3, none⟩ = some (.slice A3 F.length c3) := blk_cell Bs_3.out rfl
    have s4_3 : w3.cell? ⟨w.heap.size, 4, none⟩ = some (.bool tu) := blk_cell Bs_3.out rfl
    have s5_3 : w3.cell? ⟨w.heap.size, 5, none⟩ = some (.bool fa) := blk_cell Bs_3.out rfl
    have s6_3 : w3.cell? ⟨w.heap.size, 6, none⟩ = some (.int .i64 ag) := blk_cell Bs_3.out rfl
    have s7_3 : w3.cell? ⟨w.heap.size, 7, none⟩ = some (.bool jo) := blk_cell Bs_3.out rfl
    have sz_3 : w.heap.size < w3.heap.size := blk_lt Bs_3.out
    clear S1_2 S2_2 S3_2 Bs_2 s0_2 s1_2 s2_2 s3_2 s4_2 s5_2 s6_2 s7_2 sz_2 HB_2 hb3
    go_wp2_with fail
    go_ret
    exact ⟨rfl, (by repeat (first | (with_reducible exact HB_3.out) | (with_reducible refine bel_drewN ?_ _) | (with_reducible refine bel_drew ?_) | (with_reducible refine bel_alloc ?_ _) | (with_reducible refine bel_set ?_ (by first | omega | (dsimp only; omega)) _)))⟩
  · have hgs : R.length ≤ 12 ∧ H.length ≤ 12 ∧ F.length ≤ 12 := by simp [greatS] at hg; omega
    obtain ⟨l1, l2, l3⟩ := hgs
    have m1 := cano_length R
    have m2 := cano_length H
    have m3 := cano_length F
    have K1 := Lib.hid (cano_canon R)
    have K2 := Lib.hid (cano_canon H)
    have K3 := Lib.hid (cano_canon F)
    clear hg
    have HD := fun W A1 c1 A2 c2 A3 c3 h1 h2 h3 => Lib.hid (decide_any he A1 c1 (cano R) A2 c2 (cano H) A3 c3 (cano F) tu fa ag jo W h1 h2 h3 K1.out K2.out K3.out (by omega) (by omega) (by omega))
    have HE := fun W A1 c1 A2 c2 A3 c3 h1 h2 h3 => Lib.hid (rdecide_any he A1 c1 (cano R) A2 c2 (cano H) A3 c3 (cano F) tu fa ag jo W h1 h2 h3 (by omega) (by omega) (by omega))
    generalize decideL he tu fa jo ag (cano R) (cano H) (cano F) = v at HD HE
    clear s0_2 s1_2 s2_2 s3_2 s4_2 s5_2 s6_2 s7_2
    have tok3 : True := trivial
    go_wp2_with fail
    go_region_held3 (fun w' => w'.cell? ⟨w.heap.size, 0, none⟩ = some (.bool he) ∧ w'.cell? ⟨w.heap.size, 1, none⟩ = some (.slice A1 R.length c1) ∧ w'.cell? ⟨w.heap.size, 2, none⟩ = some (.slice A2 H.length c2) ∧ w'.cell? ⟨w.heap.size, 3, none⟩ = some (.slice A3 F.length c3) ∧ w'.cell? ⟨w.heap.size, 4, none⟩ = some (.bool tu) ∧ w'.cell? ⟨w.heap.size, 5, none⟩ = some (.bool fa) ∧ w'.cell? ⟨w.heap.size, 6, none⟩ = some (.int .i64 ag) ∧ w'.cell? ⟨w.heap.size, 7, none⟩ = some (.bool jo))
      (first | (refine cells8 (t := 52) (f := (0, 0)) (a0 := .bool he) (a1 := .slice A1 R.length c1) (a2 := .slice A2 H.length c2) (a3 := .slice A3 F.length c3) (a4 := .bool tu) (a5 := .bool fa) (a6 := .int .i64 ag) (a7 := .bool jo) ?_; repeat (first | (with_reducible exact Bs_6.out) | (with_reducible exact Bs_5.out) | (with_reducible exact Bs_4.out) | (with_reducible exact Bs_3.out) | (with_reducible exact Bs_2.out) | (with_reducible exact blk_new rfl) | (with_reducible refine blk_skip ?_) | (with_reducible refine blk_set_ne (by omega) ?_) | (with_reducible refine blk_drew ?_) | (with_reducible refine blk_drewN ?_))))
      (first
        | (go_at_call 43
           have _tk := tok3
           clear _tk tok3
           refine (own_any he A1 c1 R A2 c2 H A3 c3 F tu fa ag jo _ (by repeat (first | exact S1_2.out | refine Sp.alloc ?_ _ | refine Sp.drewN ?_ _ | refine Sp.drew ?_)) (by repeat (first | exact S2_2.out | refine Sp.alloc ?_ _ | refine Sp.drewN ?_ _ | refine Sp.drew ?_)) (by repeat (first | exact S3_2.out | refine Sp.alloc ?_ _ | refine Sp.drewN ?_ _ | refine Sp.drew ?_)) (by omega) (by omega) (by omega)).mono ?_
           rintro e3 w3 ⟨B1, d1, B2, d2, B3, d3, rfl, hs3, ht3, hu3, hb3⟩
           have HB_3 : Hid (Below w.heap.size w w3) := bel_chain hb3 (by repeat (first | exact HB_2.out | refine bel_drewN ?_ _ | refine bel_drew ?_ | refine bel_alloc ?_ _))
           have S1_3 : Hid (Sp w3 A1 c1 (R)) := Sp.below (by repeat (first | exact S1_2.out | refine Sp.alloc ?_ _ | refine Sp.drewN ?_ _ | refine Sp.drew ?_)) hb3
           have S2_3 : Hid (Sp w3 A2 c2 (H)) := Sp.below (by repeat (first | exact S2_2.out | refine Sp.alloc ?_ _ | refine Sp.drewN ?_ _ | refine Sp.drew ?_)) hb3
           have S3_3 : Hid (Sp w3 A3 c3 (F)) := Sp.below (by repeat (first | exact S3_2.out | refine Sp.alloc ?_ _ | refine Sp.drewN ?_ _ | refine Sp.drew ?_)) hb3
           have Bs_3 : Hid (w3.heap[w.heap.size]? = some (.cells #[.bool he, .slice A1 R.length c1, .slice A2 H.length c2, .slice A3 F.length c3, .bool tu, .bool fa, .int .i64 ag, .bool jo] 52 (0, 0))) := blk_keep hb3 (blk_keep (W := w2) (by (repeat (first | exact Below.refl _ _ | refine bel_drewN ?_ _ | refine bel_drew ?_ | refine bel_alloc ?_ _ | refine bel_set ?_ (by simp) _))) Bs_2.out)
           have sz_3 : w.heap.size < w3.heap.size := blk_lt Bs_3.out
           have Sa1_3 : Hid (Sp w3 B1 d1 (cano R)) := hs3
           have Sa2_3 : Hid (Sp w3 B2 d2 (cano H)) := ht3
           have Sa3_3 : Hid (Sp w3 B3 d3 (cano F)) := hu3
           clear S1_2 S2_2 S3_2 Bs_2 sz_2 hs3 ht3 hu3 HB_2 hb3
           have tok4 : True := trivial)
        | (go_at_call 42
           have _tk := tok4
           clear _tk tok4
           refine ((HD _ B1 d1 B2 d2 B3 d3 (by repeat (first | exact Sa1_3.out | refine Sp.alloc ?_ _ | refine Sp.drewN ?_ _ | refine Sp.drew ?_)) (by repeat (first | exact Sa2_3.out | refine Sp.alloc ?_ _ | refine Sp.drewN ?_ _ | refine Sp.drew ?_)) (by repeat (first | exact Sa3_3.out | refine Sp.alloc ?_ _ | refine Sp.drewN ?_ _ | refine Sp.drew ?_))).out).mono ?_
           rintro e4 w4 ⟨rfl, hb4⟩
           have HB_4 : Hid (Below w.heap.size w w4) := bel_chain hb4 (by repeat (first | exact HB_3.out | refine bel_drewN ?_ _ | refine bel_drew ?_ | refine bel_alloc ?_ _))
           have S1_4 : Hid (Sp w4 A1 c1 (R)) := Sp.below (by repeat (first | exact S1_3.out | refine Sp.alloc ?_ _ | refine Sp.drewN ?_ _ | refine Sp.drew ?_)) hb4
           have S2_4 : Hid (Sp w4 A2 c2 (H)) := Sp.below (by repeat (first | exact S2_3.out | refine Sp.alloc ?_ _ | refine Sp.drewN ?_ _ | refine Sp.drew ?_)) hb4
           have S3_4 : Hid (Sp w4 A3 c3 (F)) := Sp.below (by repeat (first | exact S3_3.out | refine Sp.alloc ?_ _ | refine Sp.drewN ?_ _ | refine Sp.drew ?_)) hb4
           have Sa1_4 : Hid (Sp w4 B1 d1 (cano R)) := Sp.below (by repeat (first | exact Sa1_3.out | refine Sp.alloc ?_ _ | refine Sp.drewN ?_ _ | refine Sp.drew ?_)) hb4
           have Sa2_4 : Hid (Sp w4 B2 d2 (cano H)) := Sp.below (by repeat (first | exact Sa2_3.out | refine Sp.alloc ?_ _ | refine Sp.drewN ?_ _ | refine Sp.drew ?_)) hb4
           have Sa3_4 : Hid (Sp w4 B3 d3 (cano F)) := Sp.below (by repeat (first | exact Sa3_3.out | refine Sp.alloc ?_ _ | refine Sp.drewN ?_ _ | refine Sp.drew ?_)) hb4
           have Bs_4 : Hid (w4.heap[w.heap.size]? = some (.cells #[.bool he, .slice A1 R.length c1, .slice A2 H.length c2, .slice A3 F.length c3, .bool tu, .bool fa, .int .i64 ag, .bool jo] 52 (0, 0))) := blk_keep hb4 (blk_keep (W := w3) (by (repeat (first | exact Below.refl _ _ | refine bel_drewN ?_ _ | refine bel_drew ?_ | refine bel_alloc ?_ _ | refine bel_set ?_ (by simp) _))) Bs_3.out)
           have sz_4 : w.heap.size < w4.heap.size := blk_lt Bs_4.out
           clear S1_3 S2_3 S3_3 Sa1_3 Sa2_3 Sa3_3 Bs_3 sz_3 HB_3 hb4
           clear Sa1_4
           clear Sa2_4
           clear Sa3_4
           have tok5 : True := trivial)
        | (go_at_call 45
           have _tk := tok5
           clear _tk tok5
           refine (r37Of_any he A1 c1 R A2 c2 H A3 c3 F tu fa ag jo _ (by repeat (first | exact S1_4.out | refine Sp.alloc ?_ _ | refine Sp.drewN ?_ _ | refine Sp.drew ?_)) (by repeat (first | exact S2_4.out | refine Sp.alloc ?_ _ | refine Sp.drewN ?_ _ | refine Sp.drew ?_)) (by repeat (first | exact S3_4.out | refine Sp.alloc ?_ _ | refine Sp.drewN ?_ _ | refine Sp.drew ?_)) (by omega) (by omega) (by omega)).mono ?_
           rintro e5 w5 ⟨C1, e1, C2, e2, C3, e3, rfl, hs5, ht5, hu5, hb5⟩
           have HB_5 : Hid (Below w.heap.size w w5) := bel_chain hb5 (by repeat (first | exact HB_4.out | refine bel_drewN ?_ _ | refine bel_drew ?_ | refine bel_alloc ?_ _))
           have S1_5 : Hid (Sp w5 A1 c1 (R)) := Sp.below (by repeat (first | exact S1_4.out | refine Sp.alloc ?_ _ | refine Sp.drewN ?_ _ | refine Sp.drew ?_)) hb5
           have S2_5 : Hid (Sp w5 A2 c2 (H)) := Sp.below (by repeat (first | exact S2_4.out | refine Sp.alloc ?_ _ | refine Sp.drewN ?_ _ | refine Sp.drew ?_)) hb5
           have S3_5 : Hid (Sp w5 A3 c3 (F)) := Sp.below (by repeat (first | exact S3_4.out | refine Sp.alloc ?_ _ | refine Sp.drewN ?_ _ | refine Sp.drew ?_)) hb5
           have Bs_5 : Hid (w5.heap[w.heap.size]? = some (.cells #[.bool he, .slice A1 R.length c1, .slice A2 H.length c2, .slice A3 F.length c3, .bool tu, .bool fa, .int .i64 ag, .bool jo] 52 (0, 0))) := blk_keep hb5 (blk_keep (W := w4) (by (repeat (first | exact Below.refl _ _ | refine bel_drewN ?_ _ | refine bel_drew ?_ | refine bel_alloc ?_ _ | refine bel_set ?_ (by simp) _))) Bs_4.out)
           have sz_5 : w.heap.size < w5.heap.size := blk_lt Bs_5.out
           have Sa1_5 : Hid (Sp w5 C1 e1 (cano R)) := hs5
           have Sa2_5 : Hid (Sp w5 C2 e2 (cano H)) := ht5
           have Sa3_5 : Hid (Sp w5 C3 e3 (cano F)) := hu5
           clear S1_4 S2_4 S3_4 Bs_4 sz_4 hs5 ht5 hu5 HB_4 hb5
           have tok6 : True := trivial)
        | (go_at_call 44
           have _tk := tok6
           clear _tk tok6
           refine ((HE _ C1 e1 C2 e2 C3 e3 (by repeat (first | exact Sa1_5.out | refine Sp.alloc ?_ _ | refine Sp.drewN ?_ _ | refine Sp.drew ?_)) (by repeat (first | exact Sa2_5.out | refine Sp.alloc ?_ _ | refine Sp.drewN ?_ _ | refine Sp.drew ?_)) (by repeat (first | exact Sa3_5.out | refine Sp.alloc ?_ _ | refine Sp.drewN ?_ _ | refine Sp.drew ?_))).out).mono ?_
           rintro e6 w6 ⟨rfl, hb6⟩
           have HB_6 : Hid (Below w.heap.size w w6) := bel_chain hb6 (by repeat (first | exact HB_5.out | refine bel_drewN ?_ _ | refine bel_drew ?_ | refine bel_alloc ?_ _))
           have S1_6 : Hid (Sp w6 A1 c1 (R)) := Sp.below (by repeat (first | exact S1_5.out | refine Sp.alloc ?_ _ | refine Sp.drewN ?_ _ | refine Sp.drew ?_)) hb6
           have S2_6 : Hid (Sp w6 A2 c2 (H)) := Sp.below (by repeat (first | exact S2_5.out | refine Sp.alloc ?_ _ | refine Sp.drewN ?_ _ | refine Sp.drew ?_)) hb6
           have S3_6 : Hid (Sp w6 A3 c3 (F)) := Sp.below (by repeat (first | exact S3_5.out | refine Sp.alloc ?_ _ | refine Sp.drewN ?_ _ | refine Sp.drew ?_)) hb6
           have Sa1_6 : Hid (Sp w6 C1 e1 (cano R)) := Sp.below (by repeat (first | exact Sa1_5.out | refine Sp.alloc ?_ _ | refine Sp.drewN ?_ _ | refine Sp.drew ?_)) hb6
           have Sa2_6 : Hid (Sp w6 C2 e2 (cano H)) := Sp.below (by repeat (first | exact Sa2_5.out | refine Sp.alloc ?_ _ | refine Sp.drewN ?_ _ | refine Sp.drew ?_)) hb6
           have Sa3_6 : Hid (Sp w6 C3 e3 (cano F)) := Sp.below (by repeat (first | exact Sa3_5.out | refine Sp.alloc ?_ _ | refine Sp.drewN ?_ _ | refine Sp.drew ?_)) hb6
           have Bs_6 : Hid (w6.heap[w.heap.size]? = some (.cells #[.bool he, .slice A1 R.length c1, .slice A2 H.length c2, .slice A3 F.length c3, .bool tu, .bool fa, .int .i64 ag, .bool jo] 52 (0, 0))) := blk_keep hb6 (blk_keep (W := w5) (by (repeat (first | exact Below.refl _ _ | refine bel_drewN ?_ _ | refine bel_drew ?_ | refine bel_alloc ?_ _ | refine bel_set ?_ (by simp) _))) Bs_5.out)
           have sz_6 : w.heap.size < w6.heap.size := blk_lt Bs_6.out
           clear S1_5 S2_5 S3_5 Sa1_5 Sa2_5 Sa3_5 Bs_5 sz_5 HB_5 hb6
           clear Sa1_6
           clear Sa2_6
           clear Sa3_6
           have tok7 : True := trivial))
    go_wp2_with fail
    go_ret
    exact ⟨ret_bool (by simp), (by repeat (first | (with_reducible exact HB_6.out) | (with_reducible refine bel_drewN ?_ _) | (with_reducible refine bel_drew ?_) | (with_reducible refine bel_alloc ?_ _) | (with_reducible refine bel_set ?_ (by first | omega | (dsimp only; omega)) _)))⟩
end Go.Proofs.YtmbcnfgeobbldaaDoor
