/- The walk of RangesTwo. -/
import Derived.Test.YtmbcnfgeobbldaaDoorC2
import Derived.Test.YtmbcnfgeobbldaaDoorD1
import Derived.Test.YtmbcnfgeobbldaaDoorD2
import Derived.Test.YtmbcnfgeobbldaaDoorD3
namespace Go.Proofs.YtmbcnfgeobbldaaDoor
open Go.RowKit

set_option maxHeartbeats 8000000 in
set_option maxRecDepth 100000 in
theorem rangesTwo_any (A : Option Addr) (c : Nat) (L : List (Int × Int)) (B : Option Addr) (d : Nat) (M : List (Int × Int)) (w : World) (h : Sp w A c L) (hn : L.length ≤ 9223372036854775807) (h' : Sp w B d M) (hm : M.length ≤ 9223372036854775807) :
    Calls Tryd.prog 15 #[.slice A L.length c, .slice B M.length d] w fun e w' => e = .returned (.bool true) ∧ Below w.heap.size w w' := by
  have Sa_0 := Lib.hid (h)
  have Sb_0 := Lib.hid (h')
  clear h h'
  go_enter Tryd.func15, Tryd.ntmps15
  go_wp2_with fail
  refine (wakes_any _).mono ?_
  rintro e1 w1 ⟨rfl, hb1⟩
  have HB_1 : Hid (Below w.heap.size w w1) := bel_chain hb1 (by repeat (first | exact Below.refl _ _ | refine bel_drewN ?_ _ | refine bel_drew ?_ | refine bel_alloc ?_ _))
  have Sa_1 : Hid (Sp w1 A c (L)) := Sp.below (by repeat (first | exact Sa_0.out | refine Sp.alloc ?_ _ | refine Sp.drewN ?_ _ | refine Sp.drew ?_)) hb1
  have Sb_1 : Hid (Sp w1 B d (M)) := Sp.below (by repeat (first | exact Sb_0.out | refine Sp.alloc ?_ _ | refine Sp.drewN ?_ _ | refine Sp.drew ?_)) hb1
  clear Sa_0 Sb_0 hb1
  go_wp2_with fail
  refine (great2_b A L.length c B M.length d _ _ (by simp [go_sem]) (by simp [go_sem]) hn hm).mono ?_
  rintro e2 w2 ⟨rfl, hb2⟩
  have HB_2 : Hid (Below w.heap.size w w2) := bel_chain hb2 (by repeat (first | exact HB_1.out | refine bel_drewN ?_ _ | refine bel_drew ?_ | refine bel_alloc ?_ _))
  have Sa_2 : Hid (Sp w2 A c (L)) := Sp.below (by repeat (first | exact Sa_1.out | refine Sp.alloc ?_ _ | refine Sp.drewN ?_ _ | refine Sp.drew ?_)) hb2
  have Sb_2 : Hid (Sp w2 B d (M)) := Sp.below (by repeat (first | exact Sb_1.out | refine Sp.alloc ?_ _ | refine Sp.drewN ?_ _ | refine Sp.drew ?_)) hb2
  clear Sa_1 Sb_1 HB_1 hb2
  by_cases hg : 20 < L.length ∨ 20 < M.length
  · have hgd : (decide (20 < L.length) || decide (20 < M.length)) = true := by simpa using hg
    rw [hgd]
    go_wp2_with fail
    go_ret
    exact ⟨rfl, HB_2.out⟩
  · have hgd : (decide (20 < L.length) || decide (20 < M.length)) = false := by simpa using hg
    rw [hgd]
    have hl : L.length ≤ 20 := by omega
    have hl2 : M.length ≤ 20 := by omega
    have hcl := cano_length L
    have hcm := cano_length M
    have ho1 := ofOp_length (cano L) (cano M) 1
    have ho2 := ofOp_length (cano L) (cano M) 2
    have ho3 := ofOp_length (cano L) (cano M) 3
    have HCL := Lib.hid (cano_canon L)
    have HCM := Lib.hid (cano_canon M)
    have HSL := Lib.hid (cano_self (cano_canon L))
    have HSM := Lib.hid (cano_self (cano_canon M))
    obtain ⟨bb, hbb⟩ : ∃ bb, decide (cano L = cano M) = bb := ⟨_, rfl⟩
    have HBB := Lib.hid hbb
    clear hgd hg hbb
    go_wp2_with fail
    refine (of_any A c L _ (by repeat (first | exact Sa_2.out | refine Sp.alloc ?_ _ | refine Sp.drewN ?_ _ | refine Sp.drew ?_)) (by omega)).mono ?_
    rintro e3 w3 ⟨As, cs, rfl, hs3, hb3⟩
    have HB_3 : Hid (Below w.heap.size w w3) := bel_chain hb3 (by repeat (first | exact HB_2.out | refine bel_drewN ?_ _ | refine bel_drew ?_ | refine bel_alloc ?_ _))
    have Sa_3 : Hid (Sp w3 A c (L)) := Sp.below (by repeat (first | exact Sa_2.out | refine Sp.alloc ?_ _ | refine Sp.drewN ?_ _ | refine Sp.drew ?_)) hb3
    have Sb_3 : Hid (Sp w3 B d (M)) := Sp.below (by repeat (first | exact Sb_2.out | refine Sp.alloc ?_ _ | refine Sp.drewN ?_ _ | refine Sp.drew ?_)) hb3
    have Ss_3 : Hid (Sp w3 As cs (cano L)) := hs3
    clear Sa_2 Sb_2 hs3 HB_2 hb3
    go_wp2_with fail
    refine (of_any B d M _ (by repeat (first | exact Sb_3.out | refine Sp.alloc ?_ _ | refine Sp.drewN ?_ _ | refine Sp.drew ?_)) (by omega)).mono ?_
    rintro e4 w4 ⟨At, ct, rfl, hs4, hb4⟩
    have HB_4 : Hid (Below w.heap.size w w4) := bel_chain hb4 (by repeat (first | exact HB_3.out | refine bel_drewN ?_ _ | refine bel_drew ?_ | refine bel_alloc ?_ _))
    have Sa_4 : Hid (Sp w4 A c (L)) := Sp.below (by repeat (first | exact Sa_3.out | refine Sp.alloc ?_ _ | refine Sp.drewN ?_ _ | refine Sp.drew ?_)) hb4
    have Sb_4 : Hid (Sp w4 B d (M)) := Sp.below (by repeat (first | exact Sb_3.out | refine Sp.alloc ?_ _ | refine Sp.drewN ?_ _ | refine Sp.drew ?_)) hb4
    have Ss_4 : Hid (Sp w4 As cs (cano L)) := Sp.below (by repeat (first | exact Ss_3.out | refine Sp.alloc ?_ _ | refine Sp.drewN ?_ _ | refine Sp.drew ?_)) hb4
    have St_4 : Hid (Sp w4 At ct (cano M)) := hs4
    clear Sa_3 Sb_3 Ss_3 hs4 HB_3 hb4
    go_wp2_with fail
    refine (rOf_any A c L _ (by repeat (first | exact Sa_4.out | refine Sp.alloc ?_ _ | refine Sp.drewN ?_ _ | refine Sp.drew ?_)) (by omega)).mono ?_
    rintro e5 w5 ⟨Ax, cx, rfl, hs5, hb5⟩
    have HB_5 : Hid (Below w.heap.size w w5) := bel_chain hb5 (by repeat (first | exact HB_4.out | refine bel_drewN ?_ _ | refine bel_drew ?_ | refine bel_alloc ?_ _))
    have Sa_5 : Hid (Sp w5 A c (L)) := Sp.below (by repeat (first | exact Sa_4.out | refine Sp.alloc ?_ _ | refine Sp.drewN ?_ _ | refine Sp.drew ?_)) hb5
    have Sb_5 : Hid (Sp w5 B d (M)) := Sp.below (by repeat (first | exact Sb_4.out | refine Sp.alloc ?_ _ | refine Sp.drewN ?_ _ | refine Sp.drew ?_)) hb5
    have Ss_5 : Hid (Sp w5 As cs (cano L)) := Sp.below (by repeat (first | exact Ss_4.out | refine Sp.alloc ?_ _ | refine Sp.drewN ?_ _ | refine Sp.drew ?_)) hb5
    have St_5 : Hid (Sp w5 At ct (cano M)) := Sp.below (by repeat (first | exact St_4.out | refine Sp.alloc ?_ _ | refine Sp.drewN ?_ _ | refine Sp.drew ?_)) hb5
    have bs_5 : w5.cell? ⟨w4.heap.size, 0, none⟩ = some (.slice As (cano L).length cs) := cell_keep hb5 (by simp [go_sem])
    have bt_5 : w5.cell? ⟨w4.heap.size + 1, 0, none⟩ = some (.slice At (cano M).length ct) := cell_keep hb5 (by simp [go_sem])
    have zbs_5 : w4.heap.size < w5.heap.size := World.block_lt_of_cell? w5 ⟨w4.heap.size, 0, none⟩ bs_5
    have zbt_5 : w4.heap.size + 1 < w5.heap.size := World.block_lt_of_cell? w5 ⟨w4.heap.size + 1, 0, none⟩ bt_5
    have Sx_5 : Hid (Sp w5 Ax cx (cano L)) := Own.sp hs5
    clear Sa_4 Sb_4 Ss_4 St_4 hs5 HB_4 hb5
    go_wp2_with fail
    refine (rOf_any B d M _ (by repeat (first | exact Sb_5.out | refine Sp.alloc ?_ _ | refine Sp.drewN ?_ _ | refine Sp.drew ?_)) (by omega)).mono ?_
    rintro e6 w6 ⟨Ay, cy, rfl, hs6, hb6⟩
    have HB_6 : Hid (Below w.heap.size w w6) := bel_chain hb6 (by repeat (first | exact HB_5.out | refine bel_drewN ?_ _ | refine bel_drew ?_ | refine bel_alloc ?_ _))
    have bs_6 : w6.cell? ⟨w4.heap.size, 0, none⟩ = some (.slice As (cano L).length cs) := cell_keep hb6 (cell_keep (W := w5) (by (repeat (first | exact Below.refl _ _ | refine bel_drewN ?_ _ | refine bel_drew ?_ | refine bel_alloc ?_ _ | refine bel_set ?_ (by simp) _))) bs_5)
    have bt_6 : w6.cell? ⟨w4.heap.size + 1, 0, none⟩ = some (.slice At (cano M).length ct) := cell_keep hb6 (cell_keep (W := w5) (by (repeat (first | exact Below.refl _ _ | refine bel_drewN ?_ _ | refine bel_drew ?_ | refine bel_alloc ?_ _ | refine bel_set ?_ (by simp) _))) bt_5)
    have Sa_6 : Hid (Sp w6 A c (L)) := Sp.below (by repeat (first | exact Sa_5.out | refine Sp.alloc ?_ _ | refine Sp.drewN ?_ _ | refine Sp.drew ?_)) hb6
    have Sb_6 : Hid (Sp w6 B d (M)) := Sp.below (by repeat (first | exact Sb_5.out | refine Sp.alloc ?_ _ | refine Sp.drewN ?_ _ | refine Sp.drew ?_)) hb6
    have Ss_6 : Hid (Sp w6 As cs (cano L)) := Sp.below (by repeat (first | exact Ss_5.out | refine Sp.alloc ?_ _ | refine Sp.drewN ?_ _ | refine Sp.drew ?_)) hb6
    have St_6 : Hid (Sp w6 At ct (cano M)) := Sp.below (by repeat (first | exact St_5.out | refine Sp.alloc ?_ _ | refine Sp.drewN ?_ _ | refine Sp.drew ?_)) hb6
    have Sx_6 : Hid (Sp w6 Ax cx (cano L)) := Sp.below (by repeat (first | exact Sx_5.out | refine Sp.alloc ?_ _ | refine Sp.drewN ?_ _ | refine Sp.drew ?_)) hb6
    have zbs_6 : w4.heap.size < w6.heap.size := World.block_lt_of_cell? w6 ⟨w4.heap.size, 0, none⟩ bs_6
    have zbt_6 : w4.heap.size + 1 < w6.heap.size := World.block_lt_of_cell? w6 ⟨w4.heap.size + 1, 0, none⟩ bt_6
    have Sy_6 : Hid (Sp w6 Ay cy (cano M)) := Own.sp hs6
    clear bs_5 bt_5 Sa_5 Sb_5 Ss_5 St_5 Sx_5 hs6 HB_5 zbs_5 zbt_5 hb6
    clear Sa_6
    clear Sb_6
    go_wp2_with fail
    refine (or_any As cs (cano L) At ct (cano M) _ (by repeat (first | exact Ss_6.out | refine Sp.alloc ?_ _ | refine Sp.drewN ?_ _ | refine Sp.drew ?_)) (by repeat (first | exact St_6.out | refine Sp.alloc ?_ _ | refine Sp.drewN ?_ _ | refine Sp.drew ?_)) HCL.out HCM.out (by omega) (by omega)).mono ?_
    rintro e7 w7 ⟨Ao, co, rfl, hs7, hb7⟩
    have HB_7 : Hid (Below w.heap.size w w7) := bel_chain hb7 (by repeat (first | exact HB_6.out | refine bel_drewN ?_ _ | refine bel_drew ?_ | refine bel_alloc ?_ _))
    have bs_7 : w7.cell? ⟨w4.heap.size, 0, none⟩ = some (.slice As (cano L).length cs) := cell_keep hb7 (cell_keep (W := w6) (by (repeat (first | exact Below.refl _ _ | refine bel_drewN ?_ _ | refine bel_drew ?_ | refine bel_alloc ?_ _ | refine bel_set ?_ (by simp) _))) bs_6)
    have bt_7 : w7.cell? ⟨w4.heap.size + 1, 0, none⟩ = some (.slice At (cano M).length ct) := cell_keep hb7 (cell_keep (W := w6) (by (repeat (first | exact Below.refl _ _ | refine bel_drewN ?_ _ | refine bel_drew ?_ | refine bel_alloc ?_ _ | refine bel_set ?_ (by simp) _))) bt_6)
    have Ss_7 : Hid (Sp w7 As cs (cano L)) := Sp.below (by repeat (first | exact Ss_6.out | refine Sp.alloc ?_ _ | refine Sp.drewN ?_ _ | refine Sp.drew ?_)) hb7
    have St_7 : Hid (Sp w7 At ct (cano M)) := Sp.below (by repeat (first | exact St_6.out | refine Sp.alloc ?_ _ | refine Sp.drewN ?_ _ | refine Sp.drew ?_)) hb7
    have Sx_7 : Hid (Sp w7 Ax cx (cano L)) := Sp.below (by repeat (first | exact Sx_6.out | refine Sp.alloc ?_ _ | refine Sp.drewN ?_ _ | refine Sp.drew ?_)) hb7
    have Sy_7 : Hid (Sp w7 Ay cy (cano M)) := Sp.below (by repeat (first | exact Sy_6.out | refine Sp.alloc ?_ _ | refine Sp.drewN ?_ _ | refine Sp.drew ?_)) hb7
    have zbs_7 : w4.heap.size < w7.heap.size := World.block_lt_of_cell? w7 ⟨w4.heap.size, 0, none⟩ bs_7
    have zbt_7 : w4.heap.size + 1 < w7.heap.size := World.block_lt_of_cell? w7 ⟨w4.heap.size + 1, 0, none⟩ bt_7
    have So_7 : Hid (Sp w7 Ao co (ofOp (cano L) (cano M) 1)) := hs7
    clear bs_6 bt_6 Ss_6 St_6 Sx_6 Sy_6 hs7 HB_6 zbs_6 zbt_6 hb7
    go_wp2_with fail
    refine (spans_any Ao co (ofOp (cano L) (cano M) 1) _ (by repeat (first | exact So_7.out | refine Sp.alloc ?_ _ | refine Sp.drewN ?_ _ | refine Sp.drew ?_)) (by omega)).mono ?_
    rintro e8 w8 ⟨Ap, cp, rfl, hs8, hb8⟩
    have HB_8 : Hid (Below w.heap.size w w8) := bel_chain hb8 (by repeat (first | exact HB_7.out | refine bel_drewN ?_ _ | refine bel_drew ?_ | refine bel_alloc ?_ _))
    have bs_8 : w8.cell? ⟨w4.heap.size, 0, none⟩ = some (.slice As (cano L).length cs) := cell_keep hb8 (cell_keep (W := w7) (by (repeat (first | exact Below.refl _ _ | refine bel_drewN ?_ _ | refine bel_drew ?_ | refine bel_alloc ?_ _ | refine bel_set ?_ (by simp) _))) bs_7)
    have bt_8 : w8.cell? ⟨w4.heap.size + 1, 0, none⟩ = some (.slice At (cano M).length ct) := cell_keep hb8 (cell_keep (W := w7) (by (repeat (first | exact Below.refl _ _ | refine bel_drewN ?_ _ | refine bel_drew ?_ | refine bel_alloc ?_ _ | refine bel_set ?_ (by simp) _))) bt_7)
    have Ss_8 : Hid (Sp w8 As cs (cano L)) := Sp.below (by repeat (first | exact Ss_7.out | refine Sp.alloc ?_ _ | refine Sp.drewN ?_ _ | refine Sp.drew ?_)) hb8
    have St_8 : Hid (Sp w8 At ct (cano M)) := Sp.below (by repeat (first | exact St_7.out | refine Sp.alloc ?_ _ | refine Sp.drewN ?_ _ | refine Sp.drew ?_)) hb8
    have Sx_8 : Hid (Sp w8 Ax cx (cano L)) := Sp.below (by repeat (first | exact Sx_7.out | refine Sp.alloc ?_ _ | refine Sp.drewN ?_ _ | refine Sp.drew ?_)) hb8
    have Sy_8 : Hid (Sp w8 Ay cy (cano M)) := Sp.below (by repeat (first | exact Sy_7.out | refine Sp.alloc ?_ _ | refine Sp.drewN ?_ _ | refine Sp.drew ?_)) hb8
    have So_8 : Hid (Sp w8 Ao co (ofOp (cano L) (cano M) 1)) := Sp.below (by repeat (first | exact So_7.out | refine Sp.alloc ?_ _ | refine Sp.drewN ?_ _ | refine Sp.drew ?_)) hb8
    have zbs_8 : w4.heap.size < w8.heap.size := World.block_lt_of_cell? w8 ⟨w4.heap.size, 0, none⟩ bs_8
    have zbt_8 : w4.heap.size + 1 < w8.heap.size := World.block_lt_of_cell? w8 ⟨w4.heap.size + 1, 0, none⟩ bt_8
    have Sp_8 : Hid (Sp w8 Ap cp (ofOp (cano L) (cano M) 1)) := Own.sp hs8
    clear bs_7 bt_7 Ss_7 St_7 Sx_7 Sy_7 So_7 hs8 HB_7 zbs_7 zbt_7 hb8
    clear So_8
    go_wp2_with fail
    refine (rOr_any Ax cx (cano L) Ay cy (cano M) _ (by repeat (first | exact Sx_8.out | refine Sp.alloc ?_ _ | refine Sp.drewN ?_ _ | refine Sp.drew ?_)) (by repeat (first | exact Sy_8.out | refine Sp.alloc ?_ _ | refine Sp.drewN ?_ _ | refine Sp.drew ?_)) (by omega) (by omega)).mono ?_
    rintro e9 w9 ⟨Ar, cr, rfl, hs9, hb9⟩
    have HB_9 : Hid (Below w.heap.size w w9) := bel_chain hb9 (by repeat (first | exact HB_8.out | refine bel_drewN ?_ _ | refine bel_drew ?_ | refine bel_alloc ?_ _))
    have bs_9 : w9.cell? ⟨w4.heap.size, 0, none⟩ = some (.slice As (cano L).length cs) := cell_keep hb9 (cell_keep (W := w8) (by (repeat (first | exact Below.refl _ _ | refine bel_drewN ?_ _ | refine bel_drew ?_ | refine bel_alloc ?_ _ | refine bel_set ?_ (by simp) _))) bs_8)
    have bt_9 : w9.cell? ⟨w4.heap.size + 1, 0, none⟩ = some (.slice At (cano M).length ct) := cell_keep hb9 (cell_keep (W := w8) (by (repeat (first | exact Below.refl _ _ | refine bel_drewN ?_ _ | refine bel_drew ?_ | refine bel_alloc ?_ _ | refine bel_set ?_ (by simp) _))) bt_8)
    have Ss_9 : Hid (Sp w9 As cs (cano L)) := Sp.below (by repeat (first | exact Ss_8.out | refine Sp.alloc ?_ _ | refine Sp.drewN ?_ _ | refine Sp.drew ?_)) hb9
    have St_9 : Hid (Sp w9 At ct (cano M)) := Sp.below (by repeat (first | exact St_8.out | refine Sp.alloc ?_ _ | refine Sp.drewN ?_ _ | refine Sp.drew ?_)) hb9
    have Sx_9 : Hid (Sp w9 Ax cx (cano L)) := Sp.below (by repeat (first | exact Sx_8.out | refine Sp.alloc ?_ _ | refine Sp.drewN ?_ _ | refine Sp.drew ?_)) hb9
    have Sy_9 : Hid (Sp w9 Ay cy (cano M)) := Sp.below (by repeat (first | exact Sy_8.out | refine Sp.alloc ?_ _ | refine Sp.drewN ?_ _ | refine Sp.drew ?_)) hb9
    have Sp_9 : Hid (Sp w9 Ap cp (ofOp (cano L) (cano M) 1)) := Sp.below (by repeat (first | exact Sp_8.out | refine Sp.alloc ?_ _ | refine Sp.drewN ?_ _ | refine Sp.drew ?_)) hb9
    have zbs_9 : w4.heap.size < w9.heap.size := World.block_lt_of_cell? w9 ⟨w4.heap.size, 0, none⟩ bs_9
    have zbt_9 : w4.heap.size + 1 < w9.heap.size := World.block_lt_of_cell? w9 ⟨w4.heap.size + 1, 0, none⟩ bt_9
    have Sr_9 : Hid (Sp w9 Ar cr (ofOp (cano L) (cano M) 1)) := Own.sp hs9
    clear bs_8 bt_8 Ss_8 St_8 Sx_8 Sy_8 Sp_8 hs9 HB_8 zbs_8 zbt_8 hb9
    go_wp2_with fail
    refine (rlist_same Ap cp (ofOp (cano L) (cano M) 1) Ar cr _ (by repeat (first | exact Sp_9.out | refine Sp.alloc ?_ _ | refine Sp.drewN ?_ _ | refine Sp.drew ?_)) (by repeat (first | exact Sr_9.out | refine Sp.alloc ?_ _ | refine Sp.drewN ?_ _ | refine Sp.drew ?_)) (by omega)).mono ?_
    rintro e10 w10 ⟨rfl, hb10⟩
    have HB_10 : Hid (Below w.heap.size w w10) := bel_chain hb10 (by repeat (first | exact HB_9.out | refine bel_drewN ?_ _ | refine bel_drew ?_ | refine bel_alloc ?_ _))
    have bs_10 : w10.cell? ⟨w4.heap.size, 0, none⟩ = some (.slice As (cano L).length cs) := cell_keep hb10 (cell_keep (W := w9) (by (repeat (first | exact Below.refl _ _ | refine bel_drewN ?_ _ | refine bel_drew ?_ | refine bel_alloc ?_ _ | refine bel_set ?_ (by simp) _))) bs_9)
    have bt_10 : w10.cell? ⟨w4.heap.size + 1, 0, none⟩ = some (.slice At (cano M).length ct) := cell_keep hb10 (cell_keep (W := w9) (by (repeat (first | exact Below.refl _ _ | refine bel_drewN ?_ _ | refine bel_drew ?_ | refine bel_alloc ?_ _ | refine bel_set ?_ (by simp) _))) bt_9)
    have Ss_10 : Hid (Sp w10 As cs (cano L)) := Sp.below (by repeat (first | exact Ss_9.out | refine Sp.alloc ?_ _ | refine Sp.drewN ?_ _ | refine Sp.drew ?_)) hb10
    have St_10 : Hid (Sp w10 At ct (cano M)) := Sp.below (by repeat (first | exact St_9.out | refine Sp.alloc ?_ _ | refine Sp.drewN ?_ _ | refine Sp.drew ?_)) hb10
    have Sx_10 : Hid (Sp w10 Ax cx (cano L)) := Sp.below (by repeat (first | exact Sx_9.out | refine Sp.alloc ?_ _ | refine Sp.drewN ?_ _ | refine Sp.drew ?_)) hb10
    have Sy_10 : Hid (Sp w10 Ay cy (cano M)) := Sp.below (by repeat (first | exact Sy_9.out | refine Sp.alloc ?_ _ | refine Sp.drewN ?_ _ | refine Sp.drew ?_)) hb10
    have Sp_10 : Hid (Sp w10 Ap cp (ofOp (cano L) (cano M) 1)) := Sp.below (by repeat (first | exact Sp_9.out | refine Sp.alloc ?_ _ | refine Sp.drewN ?_ _ | refine Sp.drew ?_)) hb10
    have Sr_10 : Hid (Sp w10 Ar cr (ofOp (cano L) (cano M) 1)) := Sp.below (by repeat (first | exact Sr_9.out | refine Sp.alloc ?_ _ | refine Sp.drewN ?_ _ | refine Sp.drew ?_)) hb10
    have zbs_10 : w4.heap.size < w10.heap.size := World.block_lt_of_cell? w10 ⟨w4.heap.size, 0, none⟩ bs_10
    have zbt_10 : w4.heap.size + 1 < w10.heap.size := World.block_lt_of_cell? w10 ⟨w4.heap.size + 1, 0, none⟩ bt_10
    clear bs_9 bt_9 Ss_9 St_9 Sx_9 Sy_9 Sp_9 Sr_9 HB_9 zbs_9 zbt_9 hb10
    clear Sp_10
    clear Sr_10
    go_wp2_with fail
    refine (and_any As cs (cano L) At ct (cano M) _ (by repeat (first | exact Ss_10.out | refine Sp.alloc ?_ _ | refine Sp.drewN ?_ _ | refine Sp.drew ?_)) (by repeat (first | exact St_10.out | refine Sp.alloc ?_ _ | refine Sp.drewN ?_ _ | refine Sp.drew ?_)) HCL.out HCM.out (by omega) (by omega)).mono ?_
    rintro e11 w11 ⟨Ao, co, rfl, hs11, hb11⟩
    have HB_11 : Hid (Below w.heap.size w w11) := bel_chain hb11 (by repeat (first | exact HB_10.out | refine bel_drewN ?_ _ | refine bel_drew ?_ | refine bel_alloc ?_ _))
    have bs_11 : w11.cell? ⟨w4.heap.size, 0, none⟩ = some (.slice As (cano L).length cs) := cell_keep hb11 (cell_keep (W := w10) (by (repeat (first | exact Below.refl _ _ | refine bel_drewN ?_ _ | refine bel_drew ?_ | refine bel_alloc ?_ _ | refine bel_set ?_ (by simp) _))) bs_10)
    have bt_11 : w11.cell? ⟨w4.heap.size + 1, 0, none⟩ = some (.slice At (cano M).length ct) := cell_keep hb11 (cell_keep (W := w10) (by (repeat (first | exact Below.refl _ _ | refine bel_drewN ?_ _ | refine bel_drew ?_ | refine bel_alloc ?_ _ | refine bel_set ?_ (by simp) _))) bt_10)
    have Ss_11 : Hid (Sp w11 As cs (cano L)) := Sp.below (by repeat (first | exact Ss_10.out | refine Sp.alloc ?_ _ | refine Sp.drewN ?_ _ | refine Sp.drew ?_)) hb11
    have St_11 : Hid (Sp w11 At ct (cano M)) := Sp.below (by repeat (first | exact St_10.out | refine Sp.alloc ?_ _ | refine Sp.drewN ?_ _ | refine Sp.drew ?_)) hb11
    have Sx_11 : Hid (Sp w11 Ax cx (cano L)) := Sp.below (by repeat (first | exact Sx_10.out | refine Sp.alloc ?_ _ | refine Sp.drewN ?_ _ | refine Sp.drew ?_)) hb11
    have Sy_11 : Hid (Sp w11 Ay cy (cano M)) := Sp.below (by repeat (first | exact Sy_10.out | refine Sp.alloc ?_ _ | refine Sp.drewN ?_ _ | refine Sp.drew ?_)) hb11
    have zbs_11 : w4.heap.size < w11.heap.size := World.block_lt_of_cell? w11 ⟨w4.heap.size, 0, none⟩ bs_11
    have zbt_11 : w4.heap.size + 1 < w11.heap.size := World.block_lt_of_cell? w11 ⟨w4.heap.size + 1, 0, none⟩ bt_11
    have So_11 : Hid (Sp w11 Ao co (ofOp (cano L) (cano M) 2)) := hs11
    clear bs_10 bt_10 Ss_10 St_10 Sx_10 Sy_10 hs11 HB_10 zbs_10 zbt_10 hb11
    go_wp2_with fail
    refine (spans_any Ao co (ofOp (cano L) (cano M) 2) _ (by repeat (first | exact So_11.out | refine Sp.alloc ?_ _ | refine Sp.drewN ?_ _ | refine Sp.drew ?_)) (by omega)).mono ?_
    rintro e12 w12 ⟨Ap, cp, rfl, hs12, hb12⟩
    have HB_12 : Hid (Below w.heap.size w w12) := bel_chain hb12 (by repeat (first | exact HB_11.out | refine bel_drewN ?_ _ | refine bel_drew ?_ | refine bel_alloc ?_ _))
    have bs_12 : w12.cell? ⟨w4.heap.size, 0, none⟩ = some (.slice As (cano L).length cs) := cell_keep hb12 (cell_keep (W := w11) (by (repeat (first | exact Below.refl _ _ | refine bel_drewN ?_ _ | refine bel_drew ?_ | refine bel_alloc ?_ _ | refine bel_set ?_ (by simp) _))) bs_11)
    have bt_12 : w12.cell? ⟨w4.heap.size + 1, 0, none⟩ = some (.slice At (cano M).length ct) := cell_keep hb12 (cell_keep (W := w11) (by (repeat (first | exact Below.refl _ _ | refine bel_drewN ?_ _ | refine bel_drew ?_ | refine bel_alloc ?_ _ | refine bel_set ?_ (by simp) _))) bt_11)
    have Ss_12 : Hid (Sp w12 As cs (cano L)) := Sp.below (by repeat (first | exact Ss_11.out | refine Sp.alloc ?_ _ | refine Sp.drewN ?_ _ | refine Sp.drew ?_)) hb12
    have St_12 : Hid (Sp w12 At ct (cano M)) := Sp.below (by repeat (first | exact St_11.out | refine Sp.alloc ?_ _ | refine Sp.drewN ?_ _ | refine Sp.drew ?_)) hb12
    have Sx_12 : Hid (Sp w12 Ax cx (cano L)) := Sp.below (by repeat (first | exact Sx_11.out | refine Sp.alloc ?_ _ | refine Sp.drewN ?_ _ | refine Sp.drew ?_)) hb12
    have Sy_12 : Hid (Sp w12 Ay cy (cano M)) := Sp.below (by repeat (first | exact Sy_11.out | refine Sp.alloc ?_ _ | refine Sp.drewN ?_ _ | refine Sp.drew ?_)) hb12
    have So_12 : Hid (Sp w12 Ao co (ofOp (cano L) (cano M) 2)) := Sp.below (by repeat (first | exact So_11.out | refine Sp.alloc ?_ _ | refine Sp.drewN ?_ _ | refine Sp.drew ?_)) hb12
    have zbs_12 : w4.heap.size < w12.heap.size := World.block_lt_of_cell? w12 ⟨w4.heap.size, 0, none⟩ bs_12
    have zbt_12 : w4.heap.size + 1 < w12.heap.size := World.block_lt_of_cell? w12 ⟨w4.heap.size + 1, 0, none⟩ bt_12
    have Sp_12 : Hid (Sp w12 Ap cp (ofOp (cano L) (cano M) 2)) := Own.sp hs12
    clear bs_11 bt_11 Ss_11 St_11 Sx_11 Sy_11 So_11 hs12 HB_11 zbs_11 zbt_11 hb12
    clear So_12
    go_wp2_with fail
    refine (rAnd_any Ax cx (cano L) Ay cy (cano M) _ (by repeat (first | exact Sx_12.out | refine Sp.alloc ?_ _ | refine Sp.drewN ?_ _ | refine Sp.drew ?_)) (by repeat (first | exact Sy_12.out | refine Sp.alloc ?_ _ | refine Sp.drewN ?_ _ | refine Sp.drew ?_)) (by omega) (by omega)).mono ?_
    rintro e13 w13 ⟨Ar, cr, rfl, hs13, hb13⟩
    have HB_13 : Hid (Below w.heap.size w w13) := bel_chain hb13 (by repeat (first | exact HB_12.out | refine bel_drewN ?_ _ | refine bel_drew ?_ | refine bel_alloc ?_ _))
    have bs_13 : w13.cell? ⟨w4.heap.size, 0, none⟩ = some (.slice As (cano L).length cs) := cell_keep hb13 (cell_keep (W := w12) (by (repeat (first | exact Below.refl _ _ | refine bel_drewN ?_ _ | refine bel_drew ?_ | refine bel_alloc ?_ _ | refine bel_set ?_ (by simp) _))) bs_12)
    have bt_13 : w13.cell? ⟨w4.heap.size + 1, 0, none⟩ = some (.slice At (cano M).length ct) := cell_keep hb13 (cell_keep (W := w12) (by (repeat (first | exact Below.refl _ _ | refine bel_drewN ?_ _ | refine bel_drew ?_ | refine bel_alloc ?_ _ | refine bel_set ?_ (by simp) _))) bt_12)
    have Ss_13 : Hid (Sp w13 As cs (cano L)) := Sp.below (by repeat (first | exact Ss_12.out | refine Sp.alloc ?_ _ | refine Sp.drewN ?_ _ | refine Sp.drew ?_)) hb13
    have St_13 : Hid (Sp w13 At ct (cano M)) := Sp.below (by repeat (first | exact St_12.out | refine Sp.alloc ?_ _ | refine Sp.drewN ?_ _ | refine Sp.drew ?_)) hb13
    have Sx_13 : Hid (Sp w13 Ax cx (cano L)) := Sp.below (by repeat (first | exact Sx_12.out | refine Sp.alloc ?_ _ | refine Sp.drewN ?_ _ | refine Sp.drew ?_)) hb13
    have Sy_13 : Hid (Sp w13 Ay cy (cano M)) := Sp.below (by repeat (first | exact Sy_12.out | refine Sp.alloc ?_ _ | refine Sp.drewN ?_ _ | refine Sp.drew ?_)) hb13
    have Sp_13 : Hid (Sp w13 Ap cp (ofOp (cano L) (cano M) 2)) := Sp.below (by repeat (first | exact Sp_12.out | refine Sp.alloc ?_ _ | refine Sp.drewN ?_ _ | refine Sp.drew ?_)) hb13
    have zbs_13 : w4.heap.size < w13.heap.size := World.block_lt_of_cell? w13 ⟨w4.heap.size, 0, none⟩ bs_13
    have zbt_13 : w4.heap.size + 1 < w13.heap.size := World.block_lt_of_cell? w13 ⟨w4.heap.size + 1, 0, none⟩ bt_13
    have Sr_13 : Hid (Sp w13 Ar cr (ofOp (cano L) (cano M) 2)) := Own.sp hs13
    clear bs_12 bt_12 Ss_12 St_12 Sx_12 Sy_12 Sp_12 hs13 HB_12 zbs_12 zbt_12 hb13
    go_wp2_with fail
    refine (rlist_same Ap cp (ofOp (cano L) (cano M) 2) Ar cr _ (by repeat (first | exact Sp_13.out | refine Sp.alloc ?_ _ | refine Sp.drewN ?_ _ | refine Sp.drew ?_)) (by repeat (first | exact Sr_13.out | refine Sp.alloc ?_ _ | refine Sp.drewN ?_ _ | refine Sp.drew ?_)) (by omega)).mono ?_
    rintro e14 w14 ⟨rfl, hb14⟩
    have HB_14 : Hid (Below w.heap.size w w14) := bel_chain hb14 (by repeat (first | exact HB_13.out | refine bel_drewN ?_ _ | refine bel_drew ?_ | refine bel_alloc ?_ _))
    have bs_14 : w14.cell? ⟨w4.heap.size, 0, none⟩ = some (.slice As (cano L).length cs) := cell_keep hb14 (cell_keep (W := w13) (by (repeat (first | exact Below.refl _ _ | refine bel_drewN ?_ _ | refine bel_drew ?_ | refine bel_alloc ?_ _ | refine bel_set ?_ (by simp) _))) bs_13)
    have bt_14 : w14.cell? ⟨w4.heap.size + 1, 0, none⟩ = some (.slice At (cano M).length ct) := cell_keep hb14 (cell_keep (W := w13) (by (repeat (first | exact Below.refl _ _ | refine bel_drewN ?_ _ | refine bel_drew ?_ | refine bel_alloc ?_ _ | refine bel_set ?_ (by simp) _))) bt_13)
    have Ss_14 : Hid (Sp w14 As cs (cano L)) := Sp.below (by repeat (first | exact Ss_13.out | refine Sp.alloc ?_ _ | refine Sp.drewN ?_ _ | refine Sp.drew ?_)) hb14
    have St_14 : Hid (Sp w14 At ct (cano M)) := Sp.below (by repeat (first | exact St_13.out | refine Sp.alloc ?_ _ | refine Sp.drewN ?_ _ | refine Sp.drew ?_)) hb14
    have Sx_14 : Hid (Sp w14 Ax cx (cano L)) := Sp.below (by repeat (first | exact Sx_13.out | refine Sp.alloc ?_ _ | refine Sp.drewN ?_ _ | refine Sp.drew ?_)) hb14
    have Sy_14 : Hid (Sp w14 Ay cy (cano M)) := Sp.below (by repeat (first | exact Sy_13.out | refine Sp.alloc ?_ _ | refine Sp.drewN ?_ _ | refine Sp.drew ?_)) hb14
    have Sp_14 : Hid (Sp w14 Ap cp (ofOp (cano L) (cano M) 2)) := Sp.below (by repeat (first | exact Sp_13.out | refine Sp.alloc ?_ _ | refine Sp.drewN ?_ _ | refine Sp.drew ?_)) hb14
    have Sr_14 : Hid (Sp w14 Ar cr (ofOp (cano L) (cano M) 2)) := Sp.below (by repeat (first | exact Sr_13.out | refine Sp.alloc ?_ _ | refine Sp.drewN ?_ _ | refine Sp.drew ?_)) hb14
    have zbs_14 : w4.heap.size < w14.heap.size := World.block_lt_of_cell? w14 ⟨w4.heap.size, 0, none⟩ bs_14
    have zbt_14 : w4.heap.size + 1 < w14.heap.size := World.block_lt_of_cell? w14 ⟨w4.heap.size + 1, 0, none⟩ bt_14
    clear bs_13 bt_13 Ss_13 St_13 Sx_13 Sy_13 Sp_13 Sr_13 HB_13 zbs_13 zbt_13 hb14
    clear Sp_14
    clear Sr_14
    go_wp2_with fail
    refine (less_any As cs (cano L) At ct (cano M) _ (by repeat (first | exact Ss_14.out | refine Sp.alloc ?_ _ | refine Sp.drewN ?_ _ | refine Sp.drew ?_)) (by repeat (first | exact St_14.out | refine Sp.alloc ?_ _ | refine Sp.drewN ?_ _ | refine Sp.drew ?_)) HCL.out HCM.out (by omega) (by omega)).mono ?_
    rintro e15 w15 ⟨Ao, co, rfl, hs15, hb15⟩
    have HB_15 : Hid (Below w.heap.size w w15) := bel_chain hb15 (by repeat (first | exact HB_14.out | refine bel_drewN ?_ _ | refine bel_drew ?_ | refine bel_alloc ?_ _))
    have bs_15 : w15.cell? ⟨w4.heap.size, 0, none⟩ = some (.slice As (cano L).length cs) := cell_keep hb15 (cell_keep (W := w14) (by (repeat (first | exact Below.refl _ _ | refine bel_drewN ?_ _ | refine bel_drew ?_ | refine bel_alloc ?_ _ | refine bel_set ?_ (by simp) _))) bs_14)
    have bt_15 : w15.cell? ⟨w4.heap.size + 1, 0, none⟩ = some (.slice At (cano M).length ct) := cell_keep hb15 (cell_keep (W := w14) (by (repeat (first | exact Below.refl _ _ | refine bel_drewN ?_ _ | refine bel_drew ?_ | refine bel_alloc ?_ _ | refine bel_set ?_ (by simp) _))) bt_14)
    have Ss_15 : Hid (Sp w15 As cs (cano L)) := Sp.below (by repeat (first | exact Ss_14.out | refine Sp.alloc ?_ _ | refine Sp.drewN ?_ _ | refine Sp.drew ?_)) hb15
    have St_15 : Hid (Sp w15 At ct (cano M)) := Sp.below (by repeat (first | exact St_14.out | refine Sp.alloc ?_ _ | refine Sp.drewN ?_ _ | refine Sp.drew ?_)) hb15
    have Sx_15 : Hid (Sp w15 Ax cx (cano L)) := Sp.below (by repeat (first | exact Sx_14.out | refine Sp.alloc ?_ _ | refine Sp.drewN ?_ _ | refine Sp.drew ?_)) hb15
    have Sy_15 : Hid (Sp w15 Ay cy (cano M)) := Sp.below (by repeat (first | exact Sy_14.out | refine Sp.alloc ?_ _ | refine Sp.drewN ?_ _ | refine Sp.drew ?_)) hb15
    have zbs_15 : w4.heap.size < w15.heap.size := World.block_lt_of_cell? w15 ⟨w4.heap.size, 0, none⟩ bs_15
    have zbt_15 : w4.heap.size + 1 < w15.heap.size := World.block_lt_of_cell? w15 ⟨w4.heap.size + 1, 0, none⟩ bt_15
    have So_15 : Hid (Sp w15 Ao co (ofOp (cano L) (cano M) 3)) := hs15
    clear bs_14 bt_14 Ss_14 St_14 Sx_14 Sy_14 hs15 HB_14 zbs_14 zbt_14 hb15
    go_wp2_with fail
    refine (spans_any Ao co (ofOp (cano L) (cano M) 3) _ (by repeat (first | exact So_15.out | refine Sp.alloc ?_ _ | refine Sp.drewN ?_ _ | refine Sp.drew ?_)) (by omega)).mono ?_
    rintro e16 w16 ⟨Ap, cp, rfl, hs16, hb16⟩
    have HB_16 : Hid (Below w.heap.size w w16) := bel_chain hb16 (by repeat (first | exact HB_15.out | refine bel_drewN ?_ _ | refine bel_drew ?_ | refine bel_alloc ?_ _))
    have bs_16 : w16.cell? ⟨w4.heap.size, 0, none⟩ = some (.slice As (cano L).length cs) := cell_keep hb16 (cell_keep (W := w15) (by (repeat (first | exact Below.refl _ _ | refine bel_drewN ?_ _ | refine bel_drew ?_ | refine bel_alloc ?_ _ | refine bel_set ?_ (by simp) _))) bs_15)
    have bt_16 : w16.cell? ⟨w4.heap.size + 1, 0, none⟩ = some (.slice At (cano M).length ct) := cell_keep hb16 (cell_keep (W := w15) (by (repeat (first | exact Below.refl _ _ | refine bel_drewN ?_ _ | refine bel_drew ?_ | refine bel_alloc ?_ _ | refine bel_set ?_ (by simp) _))) bt_15)
    have Ss_16 : Hid (Sp w16 As cs (cano L)) := Sp.below (by repeat (first | exact Ss_15.out | refine Sp.alloc ?_ _ | refine Sp.drewN ?_ _ | refine Sp.drew ?_)) hb16
    have St_16 : Hid (Sp w16 At ct (cano M)) := Sp.below (by repeat (first | exact St_15.out | refine Sp.alloc ?_ _ | refine Sp.drewN ?_ _ | refine Sp.drew ?_)) hb16
    have Sx_16 : Hid (Sp w16 Ax cx (cano L)) := Sp.below (by repeat (first | exact Sx_15.out | refine Sp.alloc ?_ _ | refine Sp.drewN ?_ _ | refine Sp.drew ?_)) hb16
    have Sy_16 : Hid (Sp w16 Ay cy (cano M)) := Sp.below (by repeat (first | exact Sy_15.out | refine Sp.alloc ?_ _ | refine Sp.drewN ?_ _ | refine Sp.drew ?_)) hb16
    have So_16 : Hid (Sp w16 Ao co (ofOp (cano L) (cano M) 3)) := Sp.below (by repeat (first | exact So_15.out | refine Sp.alloc ?_ _ | refine Sp.drewN ?_ _ | refine Sp.drew ?_)) hb16
    have zbs_16 : w4.heap.size < w16.heap.size := World.block_lt_of_cell? w16 ⟨w4.heap.size, 0, none⟩ bs_16
    have zbt_16 : w4.heap.size + 1 < w16.heap.size := World.block_lt_of_cell? w16 ⟨w4.heap.size + 1, 0, none⟩ bt_16
    have Sp_16 : Hid (Sp w16 Ap cp (ofOp (cano L) (cano M) 3)) := Own.sp hs16
    clear bs_15 bt_15 Ss_15 St_15 Sx_15 Sy_15 So_15 hs16 HB_15 zbs_15 zbt_15 hb16
    clear So_16
    go_wp2_with fail
    refine (rLess_any Ax cx (cano L) Ay cy (cano M) _ (by repeat (first | exact Sx_16.out | refine Sp.alloc ?_ _ | refine Sp.drewN ?_ _ | refine Sp.drew ?_)) (by repeat (first | exact Sy_16.out | refine Sp.alloc ?_ _ | refine Sp.drewN ?_ _ | refine Sp.drew ?_)) (by omega) (by omega)).mono ?_
    rintro e17 w17 ⟨Ar, cr, rfl, hs17, hb17⟩
    have HB_17 : Hid (Below w.heap.size w w17) := bel_chain hb17 (by repeat (first | exact HB_16.out | refine bel_drewN ?_ _ | refine bel_drew ?_ | refine bel_alloc ?_ _))
    have bs_17 : w17.cell? ⟨w4.heap.size, 0, none⟩ = some (.slice As (cano L).length cs) := cell_keep hb17 (cell_keep (W := w16) (by (repeat (first | exact Below.refl _ _ | refine bel_drewN ?_ _ | refine bel_drew ?_ | refine bel_alloc ?_ _ | refine bel_set ?_ (by simp) _))) bs_16)
    have bt_17 : w17.cell? ⟨w4.heap.size + 1, 0, none⟩ = some (.slice At (cano M).length ct) := cell_keep hb17 (cell_keep (W := w16) (by (repeat (first | exact Below.refl _ _ | refine bel_drewN ?_ _ | refine bel_drew ?_ | refine bel_alloc ?_ _ | refine bel_set ?_ (by simp) _))) bt_16)
    have Ss_17 : Hid (Sp w17 As cs (cano L)) := Sp.below (by repeat (first | exact Ss_16.out | refine Sp.alloc ?_ _ | refine Sp.drewN ?_ _ | refine Sp.drew ?_)) hb17
    have St_17 : Hid (Sp w17 At ct (cano M)) := Sp.below (by repeat (first | exact St_16.out | refine Sp.alloc ?_ _ | refine Sp.drewN ?_ _ | refine Sp.drew ?_)) hb17
    have Sx_17 : Hid (Sp w17 Ax cx (cano L)) := Sp.below (by repeat (first | exact Sx_16.out | refine Sp.alloc ?_ _ | refine Sp.drewN ?_ _ | refine Sp.drew ?_)) hb17
    have Sy_17 : Hid (Sp w17 Ay cy (cano M)) := Sp.below (by repeat (first | exact Sy_16.out | refine Sp.alloc ?_ _ | refine Sp.drewN ?_ _ | refine Sp.drew ?_)) hb17
    have Sp_17 : Hid (Sp w17 Ap cp (ofOp (cano L) (cano M) 3)) := Sp.below (by repeat (first | exact Sp_16.out | refine Sp.alloc ?_ _ | refine Sp.drewN ?_ _ | refine Sp.drew ?_)) hb17
    have zbs_17 : w4.heap.size < w17.heap.size := World.block_lt_of_cell? w17 ⟨w4.heap.size, 0, none⟩ bs_17
    have zbt_17 : w4.heap.size + 1 < w17.heap.size := World.block_lt_of_cell? w17 ⟨w4.heap.size + 1, 0, none⟩ bt_17
    have Sr_17 : Hid (Sp w17 Ar cr (ofOp (cano L) (cano M) 3)) := Own.sp hs17
    clear bs_16 bt_16 Ss_16 St_16 Sx_16 Sy_16 Sp_16 hs17 HB_16 zbs_16 zbt_16 hb17
    go_wp2_with fail
    refine (rlist_same Ap cp (ofOp (cano L) (cano M) 3) Ar cr _ (by repeat (first | exact Sp_17.out | refine Sp.alloc ?_ _ | refine Sp.drewN ?_ _ | refine Sp.drew ?_)) (by repeat (first | exact Sr_17.out | refine Sp.alloc ?_ _ | refine Sp.drewN ?_ _ | refine Sp.drew ?_)) (by omega)).mono ?_
    rintro e18 w18 ⟨rfl, hb18⟩
    have HB_18 : Hid (Below w.heap.size w w18) := bel_chain hb18 (by repeat (first | exact HB_17.out | refine bel_drewN ?_ _ | refine bel_drew ?_ | refine bel_alloc ?_ _))
    have bs_18 : w18.cell? ⟨w4.heap.size, 0, none⟩ = some (.slice As (cano L).length cs) := cell_keep hb18 (cell_keep (W := w17) (by (repeat (first | exact Below.refl _ _ | refine bel_drewN ?_ _ | refine bel_drew ?_ | refine bel_alloc ?_ _ | refine bel_set ?_ (by simp) _))) bs_17)
    have bt_18 : w18.cell? ⟨w4.heap.size + 1, 0, none⟩ = some (.slice At (cano M).length ct) := cell_keep hb18 (cell_keep (W := w17) (by (repeat (first | exact Below.refl _ _ | refine bel_drewN ?_ _ | refine bel_drew ?_ | refine bel_alloc ?_ _ | refine bel_set ?_ (by simp) _))) bt_17)
    have Ss_18 : Hid (Sp w18 As cs (cano L)) := Sp.below (by repeat (first | exact Ss_17.out | refine Sp.alloc ?_ _ | refine Sp.drewN ?_ _ | refine Sp.drew ?_)) hb18
    have St_18 : Hid (Sp w18 At ct (cano M)) := Sp.below (by repeat (first | exact St_17.out | refine Sp.alloc ?_ _ | refine Sp.drewN ?_ _ | refine Sp.drew ?_)) hb18
    have Sx_18 : Hid (Sp w18 Ax cx (cano L)) := Sp.below (by repeat (first | exact Sx_17.out | refine Sp.alloc ?_ _ | refine Sp.drewN ?_ _ | refine Sp.drew ?_)) hb18
    have Sy_18 : Hid (Sp w18 Ay cy (cano M)) := Sp.below (by repeat (first | exact Sy_17.out | refine Sp.alloc ?_ _ | refine Sp.drewN ?_ _ | refine Sp.drew ?_)) hb18
    have Sp_18 : Hid (Sp w18 Ap cp (ofOp (cano L) (cano M) 3)) := Sp.below (by repeat (first | exact Sp_17.out | refine Sp.alloc ?_ _ | refine Sp.drewN ?_ _ | refine Sp.drew ?_)) hb18
    have Sr_18 : Hid (Sp w18 Ar cr (ofOp (cano L) (cano M) 3)) := Sp.below (by repeat (first | exact Sr_17.out | refine Sp.alloc ?_ _ | refine Sp.drewN ?_ _ | refine Sp.drew ?_)) hb18
    have zbs_18 : w4.heap.size < w18.heap.size := World.block_lt_of_cell? w18 ⟨w4.heap.size, 0, none⟩ bs_18
    have zbt_18 : w4.heap.size + 1 < w18.heap.size := World.block_lt_of_cell? w18 ⟨w4.heap.size + 1, 0, none⟩ bt_18
    clear bs_17 bt_17 Ss_17 St_17 Sx_17 Sy_17 Sp_17 Sr_17 HB_17 zbs_17 zbt_17 hb18
    clear Sp_18
    clear Sr_18
    go_wp2_with fail
    refine (same_any As cs (cano L) At ct (cano M) _ (by repeat (first | exact Ss_18.out | refine Sp.alloc ?_ _ | refine Sp.drewN ?_ _ | refine Sp.drew ?_)) (by repeat (first | exact St_18.out | refine Sp.alloc ?_ _ | refine Sp.drewN ?_ _ | refine Sp.drew ?_)) (by omega)).mono ?_
    rintro e19 w19 ⟨rfl, hb19⟩
    have HB_19 : Hid (Below w.heap.size w w19) := bel_chain hb19 (by repeat (first | exact HB_18.out | refine bel_drewN ?_ _ | refine bel_drew ?_ | refine bel_alloc ?_ _))
    have bs_19 : w19.cell? ⟨w4.heap.size, 0, none⟩ = some (.slice As (cano L).length cs) := cell_keep hb19 (cell_keep (W := w18) (by (repeat (first | exact Below.refl _ _ | refine bel_drewN ?_ _ | refine bel_drew ?_ | refine bel_alloc ?_ _ | refine bel_set ?_ (by simp) _))) bs_18)
    have bt_19 : w19.cell? ⟨w4.heap.size + 1, 0, none⟩ = some (.slice At (cano M).length ct) := cell_keep hb19 (cell_keep (W := w18) (by (repeat (first | exact Below.refl _ _ | refine bel_drewN ?_ _ | refine bel_drew ?_ | refine bel_alloc ?_ _ | refine bel_set ?_ (by simp) _))) bt_18)
    have Ss_19 : Hid (Sp w19 As cs (cano L)) := Sp.below (by repeat (first | exact Ss_18.out | refine Sp.alloc ?_ _ | refine Sp.drewN ?_ _ | refine Sp.drew ?_)) hb19
    have St_19 : Hid (Sp w19 At ct (cano M)) := Sp.below (by repeat (first | exact St_18.out | refine Sp.alloc ?_ _ | refine Sp.drewN ?_ _ | refine Sp.drew ?_)) hb19
    have Sx_19 : Hid (Sp w19 Ax cx (cano L)) := Sp.below (by repeat (first | exact Sx_18.out | refine Sp.alloc ?_ _ | refine Sp.drewN ?_ _ | refine Sp.drew ?_)) hb19
    have Sy_19 : Hid (Sp w19 Ay cy (cano M)) := Sp.below (by repeat (first | exact Sy_18.out | refine Sp.alloc ?_ _ | refine Sp.drewN ?_ _ | refine Sp.drew ?_)) hb19
    have zbs_19 : w4.heap.size < w19.heap.size := World.block_lt_of_cell? w19 ⟨w4.heap.size, 0, none⟩ bs_19
    have zbt_19 : w4.heap.size + 1 < w19.heap.size := World.block_lt_of_cell? w19 ⟨w4.heap.size + 1, 0, none⟩ bt_19
    rw [HBB.out]
    clear bs_18 bt_18 Ss_18 St_18 Sx_18 Sy_18 HB_18 zbs_18 zbt_18 hb19
    go_wp2_with fail
    refine (rsame_any Ax cx (cano L) Ay cy (cano M) _ (by repeat (first | exact Sx_19.out | refine Sp.alloc ?_ _ | refine Sp.drewN ?_ _ | refine Sp.drew ?_)) (by repeat (first | exact Sy_19.out | refine Sp.alloc ?_ _ | refine Sp.drewN ?_ _ | refine Sp.drew ?_)) (by omega) (by omega)).mono ?_
    rintro e20 w20 ⟨rfl, hb20⟩
    have HB_20 : Hid (Below w.heap.size w w20) := bel_chain hb20 (by repeat (first | exact HB_19.out | refine bel_drewN ?_ _ | refine bel_drew ?_ | refine bel_alloc ?_ _))
    have bs_20 : w20.cell? ⟨w4.heap.size, 0, none⟩ = some (.slice As (cano L).length cs) := cell_keep hb20 (cell_keep (W := w19) (by (repeat (first | exact Below.refl _ _ | refine bel_drewN ?_ _ | refine bel_drew ?_ | refine bel_alloc ?_ _ | refine bel_set ?_ (by simp) _))) bs_19)
    have bt_20 : w20.cell? ⟨w4.heap.size + 1, 0, none⟩ = some (.slice At (cano M).length ct) := cell_keep hb20 (cell_keep (W := w19) (by (repeat (first | exact Below.refl _ _ | refine bel_drewN ?_ _ | refine bel_drew ?_ | refine bel_alloc ?_ _ | refine bel_set ?_ (by simp) _))) bt_19)
    have Ss_20 : Hid (Sp w20 As cs (cano L)) := Sp.below (by repeat (first | exact Ss_19.out | refine Sp.alloc ?_ _ | refine Sp.drewN ?_ _ | refine Sp.drew ?_)) hb20
    have St_20 : Hid (Sp w20 At ct (cano M)) := Sp.below (by repeat (first | exact St_19.out | refine Sp.alloc ?_ _ | refine Sp.drewN ?_ _ | refine Sp.drew ?_)) hb20
    have Sx_20 : Hid (Sp w20 Ax cx (cano L)) := Sp.below (by repeat (first | exact Sx_19.out | refine Sp.alloc ?_ _ | refine Sp.drewN ?_ _ | refine Sp.drew ?_)) hb20
    have Sy_20 : Hid (Sp w20 Ay cy (cano M)) := Sp.below (by repeat (first | exact Sy_19.out | refine Sp.alloc ?_ _ | refine Sp.drewN ?_ _ | refine Sp.drew ?_)) hb20
    have zbs_20 : w4.heap.size < w20.heap.size := World.block_lt_of_cell? w20 ⟨w4.heap.size, 0, none⟩ bs_20
    have zbt_20 : w4.heap.size + 1 < w20.heap.size := World.block_lt_of_cell? w20 ⟨w4.heap.size + 1, 0, none⟩ bt_20
    rw [HSL.out, HSM.out, HBB.out]
    clear bs_19 bt_19 Ss_19 St_19 Sx_19 Sy_19 HB_19 zbs_19 zbt_19 hb20
    go_wp2_with fail
    go_ret
    exact ⟨ret_bool (by simp), HB_20.out⟩
end Go.Proofs.YtmbcnfgeobbldaaDoor
