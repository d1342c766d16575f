/- The walk of RangesNear. -/
import Derived.Test.YtmbcnfgeobbldaaDoorC2
import Derived.Test.YtmbcnfgeobbldaaDoorD4
namespace Go.Proofs.YtmbcnfgeobbldaaDoor
open Go.RowKit

set_option maxHeartbeats 8000000 in
set_option maxRecDepth 100000 in
theorem rangesNear_any (A : Option Addr) (c : Nat) (L : List (Int × Int)) (gap : Int) (w : World) (h : Sp w A c L) (hn : L.length ≤ 9223372036854775807) (_hp : (Lit.int .i64 gap).wf = true) :
    Calls Tryd.prog 8 #[.slice A L.length c, .int .i64 gap] w fun e w' => e = .returned (.bool true) ∧ Below w.heap.size w w' := by
  have Sa_0 := Lib.hid (h)
  clear h
  go_enter Tryd.func8, Tryd.ntmps8
  go_wp2_with fail
  refine (wakes_any _).mono ?_
  rintro e1 w1 ⟨rfl, hb1⟩
  have HB_1 : Hid (Below w.heap.size w w1) := bel_chain hb1 (by repeat (first | exact Below.refl _ _ | refine bel_drewN ?_ _ | refine bel_drew ?_ | refine bel_alloc ?_ _))
  have Sa_1 : Hid (Sp w1 A c (L)) := Sp.below (by repeat (first | exact Sa_0.out | refine Sp.alloc ?_ _ | refine Sp.drewN ?_ _ | refine Sp.drew ?_)) hb1
  clear Sa_0 hb1
  go_wp2_with fail
  refine (great1_b A L.length c _ _ (by simp [go_sem]) hn).mono ?_
  rintro e2 w2 ⟨rfl, hb2⟩
  have HB_2 : Hid (Below w.heap.size w w2) := bel_chain hb2 (by repeat (first | exact HB_1.out | refine bel_drewN ?_ _ | refine bel_drew ?_ | refine bel_alloc ?_ _))
  have Sa_2 : Hid (Sp w2 A c (L)) := Sp.below (by repeat (first | exact Sa_1.out | refine Sp.alloc ?_ _ | refine Sp.drewN ?_ _ | refine Sp.drew ?_)) hb2
  clear Sa_1 HB_1 hb2
  by_cases hg : 20 < L.length
  · have hgd : decide (20 < L.length) = true := by simpa using hg
    rw [hgd]
    go_wp2_with fail
    go_ret
    exact ⟨rfl, HB_2.out⟩
  · have hgd : decide (20 < L.length) = false := by simpa using hg
    rw [hgd]
    have hl : L.length ≤ 20 := by omega
    have hcl := cano_length L
    have hnl := nearP_length gap (cano L)
    have HCC := Lib.hid (cano_canon L)
    have HCN := Lib.hid (nearP_canon gap (cano_canon L))
    clear hgd hg
    go_wp2_with fail
    refine (of_any A c L _ (by repeat (first | exact Sa_2.out | refine Sp.alloc ?_ _ | refine Sp.drewN ?_ _ | refine Sp.drew ?_)) (by omega)).mono ?_
    rintro e3 w3 ⟨As, cs, rfl, hs3, hb3⟩
    have HB_3 : Hid (Below w.heap.size w w3) := bel_chain hb3 (by repeat (first | exact HB_2.out | refine bel_drewN ?_ _ | refine bel_drew ?_ | refine bel_alloc ?_ _))
    have Sa_3 : Hid (Sp w3 A c (L)) := Sp.below (by repeat (first | exact Sa_2.out | refine Sp.alloc ?_ _ | refine Sp.drewN ?_ _ | refine Sp.drew ?_)) hb3
    have Ss_3 : Hid (Sp w3 As cs (cano L)) := hs3
    clear Sa_2 hs3 HB_2 hb3
    go_wp2_with fail
    refine (near_any As cs (cano L) gap _ (by repeat (first | exact Ss_3.out | refine Sp.alloc ?_ _ | refine Sp.drewN ?_ _ | refine Sp.drew ?_)) HCC.out (by omega)).mono ?_
    rintro e4 w4 ⟨An, cn, rfl, hs4, hb4⟩
    have HB_4 : Hid (Below w.heap.size w w4) := bel_chain hb4 (by repeat (first | exact HB_3.out | refine bel_drewN ?_ _ | refine bel_drew ?_ | refine bel_alloc ?_ _))
    have Sa_4 : Hid (Sp w4 A c (L)) := Sp.below (by repeat (first | exact Sa_3.out | refine Sp.alloc ?_ _ | refine Sp.drewN ?_ _ | refine Sp.drew ?_)) hb4
    have Ss_4 : Hid (Sp w4 As cs (cano L)) := Sp.below (by repeat (first | exact Ss_3.out | refine Sp.alloc ?_ _ | refine Sp.drewN ?_ _ | refine Sp.drew ?_)) hb4
    have Sn_4 : Hid (Sp w4 An cn (nearP gap (cano L))) := hs4
    clear Sa_3 Ss_3 hs4 HB_3 hb4
    clear Ss_4
    have HAG : Hid (∀ W A3 c3, Sp W A3 c3 (nearP gap (cano L)) → Calls Tryd.prog 37 #[.agg #[.slice A3 (nearP gap (cano L)).length c3], .int .i64 gap] W (RetSet (nearP gap (cano L)) W)) := fun W A3 c3 h => by
      have := near_any A3 c3 (nearP gap (cano L)) gap W h HCN.out (by omega)
      rw [nearP_again] at this
      exact this
    have bn_4 : True := trivial
    clear bn_4
    go_wp2_with fail
    obtain ⟨w5, hw5⟩ : ∃ w5, World.alloc w4 (.cells #[.slice An (nearP gap (cano L)).length cn] 26) = w5 := ⟨_, rfl⟩
    rw [hw5]
    have hb5 : Below w4.heap.size w4 w5 := by rw [← hw5]; exact bel_alloc (Below.refl _ _) _
    have bn_5 : w5.cell? ⟨w4.heap.size, 0, none⟩ = some (.slice An (nearP gap (cano L)).length cn) := by rw [← hw5]; simp [go_sem]
    have zbn_5 : w4.heap.size < w5.heap.size := World.block_lt_of_cell? w5 ⟨w4.heap.size, 0, none⟩ bn_5
    have HB_5 : Hid (Below w.heap.size w w5) := bel_chain hb5 HB_4.out
    have Sa_5 := Lib.hid (Sa_4.out.below hb5)
    have Sn_5 := Lib.hid (Sn_4.out.below hb5)
    clear hw5 hb5 HB_4 Sa_4 Sn_4
    have tok6 : True := trivial
    go_wp2_with fail
    go_region_held3 (fun w' => w'.cell? ⟨w4.heap.size, 0, none⟩ = some (.slice An (nearP gap (cano L)).length cn))
      (first | exact bn_11 | exact bn_10 | exact bn_9 | exact bn_8 | exact bn_7 | exact bn_6 | exact bn_5 | exact cell_keep (W := w11) (by (repeat (first | exact Below.refl _ _ | refine bel_drewN ?_ _ | refine bel_drew ?_ | refine bel_alloc ?_ _ | refine bel_set ?_ (by simp) _))) bn_11 | exact cell_keep (W := w10) (by (repeat (first | exact Below.refl _ _ | refine bel_drewN ?_ _ | refine bel_drew ?_ | refine bel_alloc ?_ _ | refine bel_set ?_ (by simp) _))) bn_10 | exact cell_keep (W := w9) (by (repeat (first | exact Below.refl _ _ | refine bel_drewN ?_ _ | refine bel_drew ?_ | refine bel_alloc ?_ _ | refine bel_set ?_ (by simp) _))) bn_9 | exact cell_keep (W := w8) (by (repeat (first | exact Below.refl _ _ | refine bel_drewN ?_ _ | refine bel_drew ?_ | refine bel_alloc ?_ _ | refine bel_set ?_ (by simp) _))) bn_8 | exact cell_keep (W := w7) (by (repeat (first | exact Below.refl _ _ | refine bel_drewN ?_ _ | refine bel_drew ?_ | refine bel_alloc ?_ _ | refine bel_set ?_ (by simp) _))) bn_7 | exact cell_keep (W := w6) (by (repeat (first | exact Below.refl _ _ | refine bel_drewN ?_ _ | refine bel_drew ?_ | refine bel_alloc ?_ _ | refine bel_set ?_ (by simp) _))) bn_6 | exact cell_keep (W := w5) (by (repeat (first | exact Below.refl _ _ | refine bel_drewN ?_ _ | refine bel_drew ?_ | refine bel_alloc ?_ _ | refine bel_set ?_ (by simp) _))) bn_5)
      (first
        | (go_at_call 31
           have _tk := tok6
           clear _tk tok6
           refine (spans_any An cn (nearP gap (cano L)) _ (by repeat (first | exact Sn_5.out | refine Sp.alloc ?_ _ | refine Sp.drewN ?_ _ | refine Sp.drew ?_)) (by omega)).mono ?_
           rintro e6 w6 ⟨Ap, cp, rfl, hs6, hb6⟩
           have HB_6 : Hid (Below w.heap.size w w6) := bel_chain hb6 (by repeat (first | exact HB_5.out | refine bel_drewN ?_ _ | refine bel_drew ?_ | refine bel_alloc ?_ _))
           have bn_6 : w6.cell? ⟨w4.heap.size, 0, none⟩ = some (.slice An (nearP gap (cano L)).length cn) := cell_keep hb6 (cell_keep (W := w5) (by (repeat (first | exact Below.refl _ _ | refine bel_drewN ?_ _ | refine bel_drew ?_ | refine bel_alloc ?_ _ | refine bel_set ?_ (by simp) _))) bn_5)
           have Sa_6 : Hid (Sp w6 A c (L)) := Sp.below (by repeat (first | exact Sa_5.out | refine Sp.alloc ?_ _ | refine Sp.drewN ?_ _ | refine Sp.drew ?_)) hb6
           have Sn_6 : Hid (Sp w6 An cn (nearP gap (cano L))) := Sp.below (by repeat (first | exact Sn_5.out | refine Sp.alloc ?_ _ | refine Sp.drewN ?_ _ | refine Sp.drew ?_)) hb6
           have zbn_6 : w4.heap.size < w6.heap.size := World.block_lt_of_cell? w6 ⟨w4.heap.size, 0, none⟩ bn_6
           have Sp_6 : Hid (Sp w6 Ap cp (nearP gap (cano L))) := Own.sp hs6
           clear bn_5 Sa_5 Sn_5 hs6 HB_5 zbn_5 hb6
           have tok7 : True := trivial)
        | (go_at_call 24
           have _tk := tok7
           clear _tk tok7
           refine (rOf_any A c L _ (by repeat (first | exact Sa_6.out | refine Sp.alloc ?_ _ | refine Sp.drewN ?_ _ | refine Sp.drew ?_)) (by omega)).mono ?_
           rintro e7 w7 ⟨Ax, cx, rfl, hs7, hb7⟩
           have HB_7 : Hid (Below w.heap.size w w7) := bel_chain hb7 (by repeat (first | exact HB_6.out | refine bel_drewN ?_ _ | refine bel_drew ?_ | refine bel_alloc ?_ _))
           have bn_7 : w7.cell? ⟨w4.heap.size, 0, none⟩ = some (.slice An (nearP gap (cano L)).length cn) := cell_keep hb7 (cell_keep (W := w6) (by (repeat (first | exact Below.refl _ _ | refine bel_drewN ?_ _ | refine bel_drew ?_ | refine bel_alloc ?_ _ | refine bel_set ?_ (by simp) _))) bn_6)
           have Sa_7 : Hid (Sp w7 A c (L)) := Sp.below (by repeat (first | exact Sa_6.out | refine Sp.alloc ?_ _ | refine Sp.drewN ?_ _ | refine Sp.drew ?_)) hb7
           have Sn_7 : Hid (Sp w7 An cn (nearP gap (cano L))) := Sp.below (by repeat (first | exact Sn_6.out | refine Sp.alloc ?_ _ | refine Sp.drewN ?_ _ | refine Sp.drew ?_)) hb7
           have Sp_7 : Hid (Sp w7 Ap cp (nearP gap (cano L))) := Sp.below (by repeat (first | exact Sp_6.out | refine Sp.alloc ?_ _ | refine Sp.drewN ?_ _ | refine Sp.drew ?_)) hb7
           have zbn_7 : w4.heap.size < w7.heap.size := World.block_lt_of_cell? w7 ⟨w4.heap.size, 0, none⟩ bn_7
           have Sx_7 : Hid (Sp w7 Ax cx (cano L)) := Own.sp hs7
           clear bn_6 Sa_6 Sn_6 Sp_6 hs7 HB_6 zbn_6 hb7
           have tok8 : True := trivial)
        | (go_at_call 38
           have _tk := tok8
           clear _tk tok8
           refine (rnear_any Ax cx (cano L) gap _ (by repeat (first | exact Sx_7.out | refine Sp.alloc ?_ _ | refine Sp.drewN ?_ _ | refine Sp.drew ?_)) HCC.out (by omega)).mono ?_
           rintro e8 w8 ⟨Ar, cr, rfl, hs8, hb8⟩
           have HB_8 : Hid (Below w.heap.size w w8) := bel_chain hb8 (by repeat (first | exact HB_7.out | refine bel_drewN ?_ _ | refine bel_drew ?_ | refine bel_alloc ?_ _))
           have bn_8 : w8.cell? ⟨w4.heap.size, 0, none⟩ = some (.slice An (nearP gap (cano L)).length cn) := cell_keep hb8 (cell_keep (W := w7) (by (repeat (first | exact Below.refl _ _ | refine bel_drewN ?_ _ | refine bel_drew ?_ | refine bel_alloc ?_ _ | refine bel_set ?_ (by simp) _))) bn_7)
           have Sa_8 : Hid (Sp w8 A c (L)) := Sp.below (by repeat (first | exact Sa_7.out | refine Sp.alloc ?_ _ | refine Sp.drewN ?_ _ | refine Sp.drew ?_)) hb8
           have Sn_8 : Hid (Sp w8 An cn (nearP gap (cano L))) := Sp.below (by repeat (first | exact Sn_7.out | refine Sp.alloc ?_ _ | refine Sp.drewN ?_ _ | refine Sp.drew ?_)) hb8
           have Sp_8 : Hid (Sp w8 Ap cp (nearP gap (cano L))) := Sp.below (by repeat (first | exact Sp_7.out | refine Sp.alloc ?_ _ | refine Sp.drewN ?_ _ | refine Sp.drew ?_)) hb8
           have Sx_8 : Hid (Sp w8 Ax cx (cano L)) := Sp.below (by repeat (first | exact Sx_7.out | refine Sp.alloc ?_ _ | refine Sp.drewN ?_ _ | refine Sp.drew ?_)) hb8
           have zbn_8 : w4.heap.size < w8.heap.size := World.block_lt_of_cell? w8 ⟨w4.heap.size, 0, none⟩ bn_8
           have Sr_8 : Hid (Sp w8 Ar cr (nearP gap (cano L))) := Own.sp hs8
           clear bn_7 Sa_7 Sn_7 Sp_7 Sx_7 hs8 HB_7 zbn_7 hb8
           have tok9 : True := trivial)
        | (go_at_call 33
           have _tk := tok9
           clear _tk tok9
           refine (rlist_same Ap cp (nearP gap (cano L)) Ar cr _ (by repeat (first | exact Sp_8.out | refine Sp.alloc ?_ _ | refine Sp.drewN ?_ _ | refine Sp.drew ?_)) (by repeat (first | exact Sr_8.out | refine Sp.alloc ?_ _ | refine Sp.drewN ?_ _ | refine Sp.drew ?_)) (by omega)).mono ?_
           rintro e9 w9 ⟨rfl, hb9⟩
           have HB_9 : Hid (Below w.heap.size w w9) := bel_chain hb9 (by repeat (first | exact HB_8.out | refine bel_drewN ?_ _ | refine bel_drew ?_ | refine bel_alloc ?_ _))
           have bn_9 : w9.cell? ⟨w4.heap.size, 0, none⟩ = some (.slice An (nearP gap (cano L)).length cn) := cell_keep hb9 (cell_keep (W := w8) (by (repeat (first | exact Below.refl _ _ | refine bel_drewN ?_ _ | refine bel_drew ?_ | refine bel_alloc ?_ _ | refine bel_set ?_ (by simp) _))) bn_8)
           have Sa_9 : Hid (Sp w9 A c (L)) := Sp.below (by repeat (first | exact Sa_8.out | refine Sp.alloc ?_ _ | refine Sp.drewN ?_ _ | refine Sp.drew ?_)) hb9
           have Sn_9 : Hid (Sp w9 An cn (nearP gap (cano L))) := Sp.below (by repeat (first | exact Sn_8.out | refine Sp.alloc ?_ _ | refine Sp.drewN ?_ _ | refine Sp.drew ?_)) hb9
           have Sp_9 : Hid (Sp w9 Ap cp (nearP gap (cano L))) := Sp.below (by repeat (first | exact Sp_8.out | refine Sp.alloc ?_ _ | refine Sp.drewN ?_ _ | refine Sp.drew ?_)) hb9
           have Sx_9 : Hid (Sp w9 Ax cx (cano L)) := Sp.below (by repeat (first | exact Sx_8.out | refine Sp.alloc ?_ _ | refine Sp.drewN ?_ _ | refine Sp.drew ?_)) hb9
           have Sr_9 : Hid (Sp w9 Ar cr (nearP gap (cano L))) := Sp.below (by repeat (first | exact Sr_8.out | refine Sp.alloc ?_ _ | refine Sp.drewN ?_ _ | refine Sp.drew ?_)) hb9
           have zbn_9 : w4.heap.size < w9.heap.size := World.block_lt_of_cell? w9 ⟨w4.heap.size, 0, none⟩ bn_9
           clear bn_8 Sa_8 Sn_8 Sp_8 Sx_8 Sr_8 HB_8 zbn_8 hb9
           clear Sp_9
           clear Sr_9
           clear Sx_9
           have tok10 : True := trivial)
        | (go_at_call 37
           have _tk := tok10
           clear _tk tok10
           refine (HAG.out _ An cn (by repeat (first | exact Sn_9.out | refine Sp.alloc ?_ _ | refine Sp.drewN ?_ _ | refine Sp.drew ?_))).mono ?_
           rintro e10 w10 ⟨Am, cm, rfl, hs10, hb10⟩
           have HB_10 : Hid (Below w.heap.size w w10) := bel_chain hb10 (by repeat (first | exact HB_9.out | refine bel_drewN ?_ _ | refine bel_drew ?_ | refine bel_alloc ?_ _))
           have bn_10 : w10.cell? ⟨w4.heap.size, 0, none⟩ = some (.slice An (nearP gap (cano L)).length cn) := cell_keep hb10 (cell_keep (W := w9) (by (repeat (first | exact Below.refl _ _ | refine bel_drewN ?_ _ | refine bel_drew ?_ | refine bel_alloc ?_ _ | refine bel_set ?_ (by simp) _))) bn_9)
           have Sa_10 : Hid (Sp w10 A c (L)) := Sp.below (by repeat (first | exact Sa_9.out | refine Sp.alloc ?_ _ | refine Sp.drewN ?_ _ | refine Sp.drew ?_)) hb10
           have Sn_10 : Hid (Sp w10 An cn (nearP gap (cano L))) := Sp.below (by repeat (first | exact Sn_9.out | refine Sp.alloc ?_ _ | refine Sp.drewN ?_ _ | refine Sp.drew ?_)) hb10
           have zbn_10 : w4.heap.size < w10.heap.size := World.block_lt_of_cell? w10 ⟨w4.heap.size, 0, none⟩ bn_10
           have Sm_10 : Hid (Sp w10 Am cm (nearP gap (cano L))) := hs10
           clear bn_9 Sa_9 Sn_9 hs10 HB_9 zbn_9 hb10
           have tok11 : True := trivial)
        | (go_at_call 39
           have _tk := tok11
           clear _tk tok11
           refine (same_same Am cm (nearP gap (cano L)) An cn _ (by repeat (first | exact Sm_10.out | refine Sp.alloc ?_ _ | refine Sp.drewN ?_ _ | refine Sp.drew ?_)) (by repeat (first | exact Sn_10.out | refine Sp.alloc ?_ _ | refine Sp.drewN ?_ _ | refine Sp.drew ?_)) (by omega)).mono ?_
           rintro e11 w11 ⟨rfl, hb11⟩
           have HB_11 : Hid (Below w.heap.size w w11) := bel_chain hb11 (by repeat (first | exact HB_10.out | refine bel_drewN ?_ _ | refine bel_drew ?_ | refine bel_alloc ?_ _))
           have bn_11 : w11.cell? ⟨w4.heap.size, 0, none⟩ = some (.slice An (nearP gap (cano L)).length cn) := cell_keep hb11 (cell_keep (W := w10) (by (repeat (first | exact Below.refl _ _ | refine bel_drewN ?_ _ | refine bel_drew ?_ | refine bel_alloc ?_ _ | refine bel_set ?_ (by simp) _))) bn_10)
           have Sa_11 : Hid (Sp w11 A c (L)) := Sp.below (by repeat (first | exact Sa_10.out | refine Sp.alloc ?_ _ | refine Sp.drewN ?_ _ | refine Sp.drew ?_)) hb11
           have Sn_11 : Hid (Sp w11 An cn (nearP gap (cano L))) := Sp.below (by repeat (first | exact Sn_10.out | refine Sp.alloc ?_ _ | refine Sp.drewN ?_ _ | refine Sp.drew ?_)) hb11
           have Sm_11 : Hid (Sp w11 Am cm (nearP gap (cano L))) := Sp.below (by repeat (first | exact Sm_10.out | refine Sp.alloc ?_ _ | refine Sp.drewN ?_ _ | refine Sp.drew ?_)) hb11
           have zbn_11 : w4.heap.size < w11.heap.size := World.block_lt_of_cell? w11 ⟨w4.heap.size, 0, none⟩ bn_11
           clear bn_10 Sa_10 Sn_10 Sm_10 HB_10 zbn_10 hb11
           have tok12 : True := trivial))
    go_wp2_with fail
    go_ret
    exact ⟨rfl, by repeat (first | exact HB_11.out | refine bel_drewN ?_ _ | refine bel_drew ?_)⟩
end Go.Proofs.YtmbcnfgeobbldaaDoor
