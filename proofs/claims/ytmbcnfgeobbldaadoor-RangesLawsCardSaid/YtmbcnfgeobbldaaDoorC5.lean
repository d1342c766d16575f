/- The walk of RangesLaws. -/
import Derived.Test.YtmbcnfgeobbldaaDoorC2
import Derived.Test.YtmbcnfgeobbldaaDoorD1
import Derived.Test.YtmbcnfgeobbldaaDoorD2
import Derived.Test.YtmbcnfgeobbldaaDoorD3
namespace Go.Proofs.YtmbcnfgeobbldaaDoor
open Go.RowKit

theorem or_as (A : Option Addr) (c : Nat) (L : List (Int × Int)) (B : Option Addr) (d : Nat) (M T : List (Int × Int)) (e : ofOp L M 1 = T) (w : World) (h : Sp w A c L) (h' : Sp w B d M) (hc : Canon L) (hc' : Canon M) (hl : L.length ≤ 100000) (hl' : M.length ≤ 100000) :
    Calls Tryd.prog 32 #[.agg #[.slice A L.length c], .agg #[.slice B M.length d]] w (RetSet T w) := by
  rw [← e]; exact or_any A c L B d M w h h' hc hc' hl hl'
theorem and_as (A : Option Addr) (c : Nat) (L : List (Int × Int)) (B : Option Addr) (d : Nat) (M T : List (Int × Int)) (e : ofOp L M 2 = T) (w : World) (h : Sp w A c L) (h' : Sp w B d M) (hc : Canon L) (hc' : Canon M) (hl : L.length ≤ 100000) (hl' : M.length ≤ 100000) :
    Calls Tryd.prog 54 #[.agg #[.slice A L.length c], .agg #[.slice B M.length d]] w (RetSet T w) := by
  rw [← e]; exact and_any A c L B d M w h h' hc hc' hl hl'
theorem less_as (A : Option Addr) (c : Nat) (L : List (Int × Int)) (B : Option Addr) (d : Nat) (M T : List (Int × Int)) (e : ofOp L M 3 = T) (w : World) (h : Sp w A c L) (h' : Sp w B d M) (hc : Canon L) (hc' : Canon M) (hl : L.length ≤ 100000) (hl' : M.length ≤ 100000) :
    Calls Tryd.prog 56 #[.agg #[.slice A L.length c], .agg #[.slice B M.length d]] w (RetSet T w) := by
  rw [← e]; exact less_any A c L B d M w h h' hc hc' hl hl'
theorem len_nil (A : Option Addr) (c : Nat) (w : World) (h : Sp w A c []) :
    Calls Tryd.prog 35 #[.agg #[.slice A 0 c]] w fun e w' => e = .returned (.int .i64 0) ∧ Below w.heap.size w w' := len_any A c [] w h Canon.nil (by simp)
section
variable {X Y Z : List (Int × Int)}
theorem ofOp_canon (a b : List (Int × Int)) (op : Int) : Canon (ofOp a b op) := (ofOp_inv a b op).1
theorem law1 : ofOp (ofOp X Y 3) Z 3 = ofOp X (ofOp Y Z 1) 3 := canon_ext (ofOp_canon ..) (ofOp_canon ..) fun p => by
  simp only [inB_ofOp, opB]; cases inB X p <;> cases inB Y p <;> cases inB Z p <;> rfl
theorem law2 : ofOp (ofOp X Y 2) (ofOp X Z 2) 1 = ofOp X (ofOp Y Z 1) 2 := canon_ext (ofOp_canon ..) (ofOp_canon ..) fun p => by
  simp only [inB_ofOp, opB]; cases inB X p <;> cases inB Y p <;> cases inB Z p <;> rfl
theorem law3 (h : Canon X) : ofOp (ofOp X Y 3) (ofOp X Y 2) 1 = X := canon_ext (ofOp_canon ..) h fun p => by
  simp only [inB_ofOp, opB]; cases inB X p <;> cases inB Y p <;> rfl
theorem law4 : ofOp X X 3 = [] := canon_ext (ofOp_canon ..) Canon.nil fun p => by
  simp only [inB_ofOp, opB, inB_nil]; cases inB X p <;> rfl
theorem law5 : ofOp Y X 1 = ofOp X Y 1 := canon_ext (ofOp_canon ..) (ofOp_canon ..) fun p => by
  simp only [inB_ofOp, opB]; cases inB X p <;> cases inB Y p <;> rfl
theorem law6 : ofOp (ofOp X Y 3) Y 2 = [] := canon_ext (ofOp_canon ..) Canon.nil fun p => by
  simp only [inB_ofOp, opB, inB_nil]; cases inB X p <;> cases inB Y p <;> rfl
end

set_option maxHeartbeats 8000000 in
set_option maxRecDepth 100000 in
theorem rangesLaws_any (A : Option Addr) (c : Nat) (L : List (Int × Int)) (B : Option Addr) (d : Nat) (M : List (Int × Int)) (C : Option Addr) (e : Nat) (N : List (Int × Int)) (w : World) (h : Sp w A c L) (hn : L.length ≤ 9223372036854775807) (h' : Sp w B d M) (hm : M.length ≤ 9223372036854775807) (h2 : Sp w C e N) (hk : N.length ≤ 9223372036854775807) :
    Calls Tryd.prog 16 #[.slice A L.length c, .slice B M.length d, .slice C N.length e] w fun r w' => r = .returned (.bool true) ∧ Below w.heap.size w w' := by
  have Sa_0 := Lib.hid (h)
  have Sb_0 := Lib.hid (h')
  have Sc_0 := Lib.hid (h2)
  clear h h' h2
  go_enter Tryd.func16, Tryd.ntmps16
  go_wp2_with fail
  refine (wakes_any _).mono ?_
  rintro e1 w1 ⟨rfl, hb1⟩
  have HB_1 : Hid (Below w.heap.size w w1) := bel_chain hb1 (by repeat (first | exact Below.refl _ _ | refine bel_drewN ?_ _ | refine bel_drew ?_ | refine bel_alloc ?_ _))
  have Sa_1 : Hid (Sp w1 A c (L)) := Sp.below (by repeat (first | exact Sa_0.out | refine Sp.alloc ?_ _ | refine Sp.drewN ?_ _ | refine Sp.drew ?_)) hb1
  have Sb_1 : Hid (Sp w1 B d (M)) := Sp.below (by repeat (first | exact Sb_0.out | refine Sp.alloc ?_ _ | refine Sp.drewN ?_ _ | refine Sp.drew ?_)) hb1
  have Sc_1 : Hid (Sp w1 C e (N)) := Sp.below (by repeat (first | exact Sc_0.out | refine Sp.alloc ?_ _ | refine Sp.drewN ?_ _ | refine Sp.drew ?_)) hb1
  clear Sa_0 Sb_0 Sc_0 hb1
  go_wp2_with fail
  refine (great3_b A L.length c B M.length d C N.length e _ _ (by simp [go_sem]) (by simp [go_sem]) (by simp [go_sem]) hn hm hk).mono ?_
  rintro e2 w2 ⟨rfl, hb2⟩
  have HB_2 : Hid (Below w.heap.size w w2) := bel_chain hb2 (by repeat (first | exact HB_1.out | refine bel_drewN ?_ _ | refine bel_drew ?_ | refine bel_alloc ?_ _))
  have Sa_2 : Hid (Sp w2 A c (L)) := Sp.below (by repeat (first | exact Sa_1.out | refine Sp.alloc ?_ _ | refine Sp.drewN ?_ _ | refine Sp.drew ?_)) hb2
  have Sb_2 : Hid (Sp w2 B d (M)) := Sp.below (by repeat (first | exact Sb_1.out | refine Sp.alloc ?_ _ | refine Sp.drewN ?_ _ | refine Sp.drew ?_)) hb2
  have Sc_2 : Hid (Sp w2 C e (N)) := Sp.below (by repeat (first | exact Sc_1.out | refine Sp.alloc ?_ _ | refine Sp.drewN ?_ _ | refine Sp.drew ?_)) hb2
  clear Sa_1 Sb_1 Sc_1 HB_1 hb2
  by_cases hg : 20 < L.length ∨ 20 < M.length ∨ 20 < N.length
  · have hgd : (decide (20 < L.length) || (decide (20 < M.length) || decide (20 < N.length))) = true := by simpa using hg
    rw [hgd]
    go_wp2_with fail
    go_ret
    exact ⟨rfl, HB_2.out⟩
  · have hgd : (decide (20 < L.length) || (decide (20 < M.length) || decide (20 < N.length))) = false := by simpa using hg
    rw [hgd]
    have hl : L.length ≤ 20 := by omega
    have hl2 : M.length ≤ 20 := by omega
    have hl3 : N.length ≤ 20 := by omega
    clear hgd hg
    go_wp2_with fail
    refine (of_any A c L _ (by repeat (first | exact Sa_2.out | refine Sp.alloc ?_ _ | refine Sp.drewN ?_ _ | refine Sp.drew ?_)) (by omega)).mono ?_
    rintro e3 w3 ⟨Ax, cx, rfl, hs3, hb3⟩
    have HB_3 : Hid (Below w.heap.size w w3) := bel_chain hb3 (by repeat (first | exact HB_2.out | refine bel_drewN ?_ _ | refine bel_drew ?_ | refine bel_alloc ?_ _))
    have Sa_3 : Hid (Sp w3 A c (L)) := Sp.below (by repeat (first | exact Sa_2.out | refine Sp.alloc ?_ _ | refine Sp.drewN ?_ _ | refine Sp.drew ?_)) hb3
    have Sb_3 : Hid (Sp w3 B d (M)) := Sp.below (by repeat (first | exact Sb_2.out | refine Sp.alloc ?_ _ | refine Sp.drewN ?_ _ | refine Sp.drew ?_)) hb3
    have Sc_3 : Hid (Sp w3 C e (N)) := Sp.below (by repeat (first | exact Sc_2.out | refine Sp.alloc ?_ _ | refine Sp.drewN ?_ _ | refine Sp.drew ?_)) hb3
    have Sx_3 : Hid (Sp w3 Ax cx (cano L)) := hs3
    clear Sa_2 Sb_2 Sc_2 hs3 HB_2 hb3
    clear Sa_3
    go_wp2_with fail
    refine (of_any B d M _ (by repeat (first | exact Sb_3.out | refine Sp.alloc ?_ _ | refine Sp.drewN ?_ _ | refine Sp.drew ?_)) (by omega)).mono ?_
    rintro e4 w4 ⟨Ay, cy, rfl, hs4, hb4⟩
    have HB_4 : Hid (Below w.heap.size w w4) := bel_chain hb4 (by repeat (first | exact HB_3.out | refine bel_drewN ?_ _ | refine bel_drew ?_ | refine bel_alloc ?_ _))
    have Sb_4 : Hid (Sp w4 B d (M)) := Sp.below (by repeat (first | exact Sb_3.out | refine Sp.alloc ?_ _ | refine Sp.drewN ?_ _ | refine Sp.drew ?_)) hb4
    have Sc_4 : Hid (Sp w4 C e (N)) := Sp.below (by repeat (first | exact Sc_3.out | refine Sp.alloc ?_ _ | refine Sp.drewN ?_ _ | refine Sp.drew ?_)) hb4
    have Sx_4 : Hid (Sp w4 Ax cx (cano L)) := Sp.below (by repeat (first | exact Sx_3.out | refine Sp.alloc ?_ _ | refine Sp.drewN ?_ _ | refine Sp.drew ?_)) hb4
    have Sy_4 : Hid (Sp w4 Ay cy (cano M)) := hs4
    clear Sb_3 Sc_3 Sx_3 hs4 HB_3 hb4
    clear Sb_4
    go_wp2_with fail
    refine (of_any C e N _ (by repeat (first | exact Sc_4.out | refine Sp.alloc ?_ _ | refine Sp.drewN ?_ _ | refine Sp.drew ?_)) (by omega)).mono ?_
    rintro e5 w5 ⟨Az, cz, rfl, hs5, hb5⟩
    have HB_5 : Hid (Below w.heap.size w w5) := bel_chain hb5 (by repeat (first | exact HB_4.out | refine bel_drewN ?_ _ | refine bel_drew ?_ | refine bel_alloc ?_ _))
    have Sc_5 : Hid (Sp w5 C e (N)) := Sp.below (by repeat (first | exact Sc_4.out | refine Sp.alloc ?_ _ | refine Sp.drewN ?_ _ | refine Sp.drew ?_)) hb5
    have Sx_5 : Hid (Sp w5 Ax cx (cano L)) := Sp.below (by repeat (first | exact Sx_4.out | refine Sp.alloc ?_ _ | refine Sp.drewN ?_ _ | refine Sp.drew ?_)) hb5
    have Sy_5 : Hid (Sp w5 Ay cy (cano M)) := Sp.below (by repeat (first | exact Sy_4.out | refine Sp.alloc ?_ _ | refine Sp.drewN ?_ _ | refine Sp.drew ?_)) hb5
    have Sz_5 : Hid (Sp w5 Az cz (cano N)) := hs5
    clear Sc_4 Sx_4 Sy_4 hs5 HB_4 hb5
    clear Sc_5
    have hX := Nat.le_trans (cano_length L) (Nat.mul_le_mul_left 2 hl)
    have hY := Nat.le_trans (cano_length M) (Nat.mul_le_mul_left 2 hl2)
    have hZ := Nat.le_trans (cano_length N) (Nat.mul_le_mul_left 2 hl3)
    have HX := Lib.hid (cano_canon L)
    have HY := Lib.hid (cano_canon M)
    have HZ := Lib.hid (cano_canon N)
    go_wp2_with fail
    generalize cano L = X at *
    generalize cano M = Y at *
    generalize cano N = Z at *
    obtain ⟨w6, hw6⟩ : ∃ w6, World.alloc (World.alloc (World.alloc w5 (.cells #[.slice Ax X.length cx] 26)) (.cells #[.slice Ay Y.length cy] 26)) (.cells #[.slice Az Z.length cz] 26) = w6 := ⟨_, rfl⟩
    rw [hw6]
    have hb6 : Below w5.heap.size w5 w6 := by rw [← hw6]; exact bel_alloc (bel_alloc (bel_alloc (Below.refl _ _) _) _) _
    have bx_6 : w6.cell? ⟨w5.heap.size, 0, none⟩ = some (.slice Ax X.length cx) := by rw [← hw6]; simp [go_sem]
    have by_6 : w6.cell? ⟨w5.heap.size + 1, 0, none⟩ = some (.slice Ay Y.length cy) := by rw [← hw6]; simp [go_sem]
    have bz_6 : w6.cell? ⟨w5.heap.size + 1 + 1, 0, none⟩ = some (.slice Az Z.length cz) := by rw [← hw6]; simp [go_sem]
    have zbx_6 : w5.heap.size < w6.heap.size := World.block_lt_of_cell? w6 ⟨w5.heap.size, 0, none⟩ bx_6
    have zby_6 : w5.heap.size + 1 < w6.heap.size := World.block_lt_of_cell? w6 ⟨w5.heap.size + 1, 0, none⟩ by_6
    have zbz_6 : w5.heap.size + 1 + 1 < w6.heap.size := World.block_lt_of_cell? w6 ⟨w5.heap.size + 1 + 1, 0, none⟩ bz_6
    have HB_6 : Hid (Below w.heap.size w w6) := bel_chain hb6 HB_5.out
    have Sx_6 := Lib.hid (Sx_5.out.below hb6)
    have Sy_6 := Lib.hid (Sy_5.out.below hb6)
    have Sz_6 := Lib.hid (Sz_5.out.below hb6)
    clear hw6 hb6 HB_5 Sx_5 Sy_5 Sz_5
    have lYZ1 := ofOp_length Y Z 1
    have lXY3 := ofOp_length X Y 3
    have lXY2 := ofOp_length X Y 2
    have lXZ2 := ofOp_length X Z 2
    have lXY1 := ofOp_length X Y 1
    have la := ofOp_length X (ofOp Y Z 1) 3
    have lb := ofOp_length X (ofOp Y Z 1) 2
    have tok7 : True := trivial
    go_wp2_with fail
    go_region_held3 (fun w' => w'.cell? ⟨w5.heap.size, 0, none⟩ = some (.slice Ax X.length cx) ∧ w'.cell? ⟨w5.heap.size + 1, 0, none⟩ = some (.slice Ay Y.length cy) ∧ w'.cell? ⟨w5.heap.size + 1 + 1, 0, none⟩ = some (.slice Az Z.length cz))
      (first | exact ⟨bx_29, by_29, bz_29⟩ | exact ⟨bx_28, by_28, bz_28⟩ | exact ⟨bx_27, by_27, bz_27⟩ | exact ⟨bx_26, by_26, bz_26⟩ | exact ⟨bx_25, by_25, bz_25⟩ | exact ⟨bx_24, by_24, bz_24⟩ | exact ⟨bx_23, by_23, bz_23⟩ | exact ⟨bx_22, by_22, bz_22⟩ | exact ⟨bx_21, by_21, bz_21⟩ | exact ⟨bx_20, by_20, bz_20⟩ | exact ⟨bx_19, by_19, bz_19⟩ | exact ⟨bx_18, by_18, bz_18⟩ | exact ⟨bx_17, by_17, bz_17⟩ | exact ⟨bx_16, by_16, bz_16⟩ | exact ⟨bx_15, by_15, bz_15⟩ | exact ⟨bx_14, by_14, bz_14⟩ | exact ⟨bx_13, by_13, bz_13⟩ | exact ⟨bx_12, by_12, bz_12⟩ | exact ⟨bx_11, by_11, bz_11⟩ | exact ⟨bx_10, by_10, bz_10⟩ | exact ⟨bx_9, by_9, bz_9⟩ | exact ⟨bx_8, by_8, bz_8⟩ | exact ⟨bx_7, by_7, bz_7⟩ | exact ⟨bx_6, by_6, bz_6⟩ | exact ⟨cell_keep (W := w29) (by (repeat (first | exact Below.refl _ _ | refine bel_drewN ?_ _ | refine bel_drew ?_ | refine bel_alloc ?_ _ | refine bel_set ?_ (by simp) _))) bx_29, cell_keep (W := w29) (by (repeat (first | exact Below.refl _ _ | refine bel_drewN ?_ _ | refine bel_drew ?_ | refine bel_alloc ?_ _ | refine bel_set ?_ (by simp) _))) by_29, cell_keep (W := w29) (by (repeat (first | exact Below.refl _ _ | refine bel_drewN ?_ _ | refine bel_drew ?_ | refine bel_alloc ?_ _ | refine bel_set ?_ (by simp) _))) bz_29⟩ | exact ⟨cell_keep (W := w28) (by (repeat (first | exact Below.refl _ _ | refine bel_drewN ?_ _ | refine bel_drew ?_ | refine bel_alloc ?_ _ | refine bel_set ?_ (by simp) _))) bx_28, cell_keep (W := w28) (by (repeat (first | exact Below.refl _ _ | refine bel_drewN ?_ _ | refine bel_drew ?_ | refine bel_alloc ?_ _ | refine bel_set ?_ (by simp) _))) by_28, cell_keep (W := w28) (by (repeat (first | exact Below.refl _ _ | refine bel_drewN ?_ _ | refine bel_drew ?_ | refine bel_alloc ?_ _ | refine bel_set ?_ (by simp) _))) bz_28⟩ | exact ⟨cell_keep (W := w27) (by (repeat (first | exact Below.refl _ _ | refine bel_drewN ?_ _ | refine bel_drew ?_ | refine bel_alloc ?_ _ | refine bel_set ?_ (by simp) _))) bx_27, cell_keep (W := w27) (by (repeat (first | exact Below.refl _ _ | refine bel_drewN ?_ _ | refine bel_drew ?_ | refine bel_alloc ?_ _ | refine bel_set ?_ (by simp) _))) by_27, cell_keep (W := w27) (by (repeat (first | exact Below.refl _ _ | refine bel_drewN ?_ _ | refine bel_drew ?_ | refine bel_alloc ?_ _ | refine bel_set ?_ (by simp) _))) bz_27⟩ | exact ⟨cell_keep (W := w26) (by (repeat (first | exact Below.refl _ _ | refine bel_drewN ?_ _ | refine bel_drew ?_ | refine bel_alloc ?_ _ | refine bel_set ?_ (by simp) _))) bx_26, cell_keep (W := w26) (by (repeat (first | exact Below.refl _ _ | refine bel_drewN ?_ _ | refine bel_drew ?_ | refine bel_alloc ?_ _ | refine bel_set ?_ (by simp) _))) by_26, cell_keep (W := w26) (by (repeat (first | exact Below.refl _ _ | refine bel_drewN ?_ _ | refine bel_drew ?_ | refine bel_alloc ?_ _ | refine bel_set ?_ (by simp) _))) bz_26⟩ | exact ⟨cell_keep (W := w25) (by (repeat (first | exact Below.refl _ _ | refine bel_drewN ?_ _ | refine bel_drew ?_ | refine bel_alloc ?_ _ | refine bel_set ?_ (by simp) _))) bx_25, cell_keep (W := w25) (by (repeat (first | exact Below.refl _ _ | refine bel_drewN ?_ _ | refine bel_drew ?_ | refine bel_alloc ?_ _ | refine bel_set ?_ (by simp) _))) by_25, cell_keep (W := w25) (by (repeat (first | exact Below.refl _ _ | refine bel_drewN ?_ _ | refine bel_drew ?_ | refine bel_alloc ?_ _ | refine bel_set ?_ (by simp) _))) bz_25⟩ | exact ⟨cell_keep (W := w24) (by (repeat (first | exact Below.refl _ _ | refine bel_drewN ?_ _ | refine bel_drew ?_ | refine bel_alloc ?_ _ | refine bel_set ?_ (by simp) _))) bx_24, cell_keep (W := w24) (by (repeat (first | exact Below.refl _ _ | refine bel_drewN ?_ _ | refine bel_drew ?_ | refine bel_alloc ?_ _ | refine bel_set ?_ (by simp) _))) by_24, cell_keep (W := w24) (by (repeat (first | exact Below.refl _ _ | refine bel_drewN ?_ _ | refine bel_drew ?_ | refine bel_alloc ?_ _ | refine bel_set ?_ (by simp) _))) bz_24⟩ | exact ⟨cell_keep (W := w23) (by (repeat (first | exact Below.refl _ _ | refine bel_drewN ?_ _ | refine bel_drew ?_ | refine bel_alloc ?_ _ | refine bel_set ?_ (by simp) _))) bx_23, cell_keep (W := w23) (by (repeat (first | exact Below.refl _ _ | refine bel_drewN ?_ _ | refine bel_drew ?_ | refine bel_alloc ?_ _ | refine bel_set ?_ (by simp) _))) by_23, cell_keep (W := w23) (by (repeat (first | exact Below.refl _ _ | refine bel_drewN ?_ _ | refine bel_drew ?_ | refine bel_alloc ?_ _ | refine bel_set ?_ (by simp) _))) bz_23⟩ | exact ⟨cell_keep (W := w22) (by (repeat (first | exact Below.refl _ _ | refine bel_drewN ?_ _ | refine bel_drew ?_ | refine bel_alloc ?_ _ | refine bel_set ?_ (by simp) _))) bx_22, cell_keep (W := w22) (by (repeat (first | exact Below.refl _ _ | refine bel_drewN ?_ _ | refine bel_drew ?_ | refine bel_alloc ?_ _ | refine bel_set ?_ (by simp) _))) by_22, cell_keep (W := w22) (by (repeat (first | exact Below.refl _ _ | refine bel_drewN ?_ _ | refine bel_drew ?_ | refine bel_alloc ?_ _ | refine bel_set ?_ (by simp) _))) bz_22⟩ | exact ⟨cell_keep (W := w21) (by (repeat (first | exact Below.refl _ _ | refine bel_drewN ?_ _ | refine bel_drew ?_ | refine bel_alloc ?_ _ | refine bel_set ?_ (by simp) _))) bx_21, cell_keep (W := w21) (by (repeat (first | exact Below.refl _ _ | refine bel_drewN ?_ _ | refine bel_drew ?_ | refine bel_alloc ?_ _ | refine bel_set ?_ (by simp) _))) by_21, cell_keep (W := w21) (by (repeat (first | exact Below.refl _ _ | refine bel_drewN ?_ _ | refine bel_drew ?_ | refine bel_alloc ?_ _ | refine bel_set ?_ (by simp) _))) bz_21⟩ | exact ⟨cell_keep (W := w20) (by (repeat (first | exact Below.refl _ _ | refine bel_drewN ?_ _ | refine bel_drew ?_ | refine bel_alloc ?_ _ | refine bel_set ?_ (by simp) _))) bx_20, cell_keep (W := w20) (by (repeat (first | exact Below.refl _ _ | refine bel_drewN ?_ _ | refine bel_drew ?_ | refine bel_alloc ?_ _ | refine bel_set ?_ (by simp) _))) by_20, cell_keep (W := w20) (by (repeat (first | exact Below.refl _ _ | refine bel_drewN ?_ _ | refine bel_drew ?_ | refine bel_alloc ?_ _ | refine bel_set ?_ (by simp) _))) bz_20⟩ | exact ⟨cell_keep (W := w19) (by (repeat (first | exact Below.refl _ _ | refine bel_drewN ?_ _ | refine bel_drew ?_ | refine bel_alloc ?_ _ | refine bel_set ?_ (by simp) _))) bx_19, cell_keep (W := w19) (by (repeat (first | exact Below.refl _ _ | refine bel_drewN ?_ _ | refine bel_drew ?_ | refine bel_alloc ?_ _ | refine bel_set ?_ (by simp) _))) by_19, cell_keep (W := w19) (by (repeat (first | exact Below.refl _ _ | refine bel_drewN ?_ _ | refine bel_drew ?_ | refine bel_alloc ?_ _ | refine bel_set ?_ (by simp) _))) bz_19⟩ | exact ⟨cell_keep (W := w18) (by (repeat (first | exact Below.refl _ _ | refine bel_drewN ?_ _ | refine bel_drew ?_ | refine bel_alloc ?_ _ | refine bel_set ?_ (by simp) _))) bx_18, cell_keep (W := w18) (by (repeat (first | exact Below.refl _ _ | refine bel_drewN ?_ _ | refine bel_drew ?_ | refine bel_alloc ?_ _ | refine bel_set ?_ (by simp) _))) by_18, cell_keep (W := w18) (by (repeat (first | exact Below.refl _ _ | refine bel_drewN ?_ _ | refine bel_drew ?_ | refine bel_alloc ?_ _ | refine bel_set ?_ (by simp) _))) bz_18⟩ | exact ⟨cell_keep (W := w17) (by (repeat (first | exact Below.refl _ _ | refine bel_drewN ?_ _ | refine bel_drew ?_ | refine bel_alloc ?_ _ | refine bel_set ?_ (by simp) _))) bx_17, cell_keep (W := w17) (by (repeat (first | exact Below.refl _ _ | refine bel_drewN ?_ _ | refine bel_drew ?_ | refine bel_alloc ?_ _ | refine bel_set ?_ (by simp) _))) by_17, cell_keep (W := w17) (by (repeat (first | exact Below.refl _ _ | refine bel_drewN ?_ _ | refine bel_drew ?_ | refine bel_alloc ?_ _ | refine bel_set ?_ (by simp) _))) bz_17⟩ | exact ⟨cell_keep (W := w16) (by (repeat (first | exact Below.refl _ _ | refine bel_drewN ?_ _ | refine bel_drew ?_ | refine bel_alloc ?_ _ | refine bel_set ?_ (by simp) _))) bx_16, cell_keep (W := w16) (by (repeat (first | exact Below.refl _ _ | refine bel_drewN ?_ _ | refine bel_drew ?_ | refine bel_alloc ?_ _ | refine bel_set ?_ (by simp) _))) by_16, cell_keep (W := w16) (by (repeat (first | exact Below.refl _ _ | refine bel_drewN ?_ _ | refine bel_drew ?_ | refine bel_alloc ?_ _ | refine bel_set ?_ (by simp) _))) bz_16⟩ | exact ⟨cell_keep (W := w15) (by (repeat (first | exact Below.refl _ _ | refine bel_drewN ?_ _ | refine bel_drew ?_ | refine bel_alloc ?_ _ | refine bel_set ?_ (by simp) _))) bx_15, cell_keep (W := w15) (by (repeat (first | exact Below.refl _ _ | refine bel_drewN ?_ _ | refine bel_drew ?_ | refine bel_alloc ?_ _ | refine bel_set ?_ (by simp) _))) by_15, cell_keep (W := w15) (by (repeat (first | exact Below.refl _ _ | refine bel_drewN ?_ _ | refine bel_drew ?_ | refine bel_alloc ?_ _ | refine bel_set ?_ (by simp) _))) bz_15⟩ | exact ⟨cell_keep (W := w14) (by (repeat (first | exact Below.refl _ _ | refine bel_drewN ?_ _ | refine bel_drew ?_ | refine bel_alloc ?_ _ | refine bel_set ?_ (by simp) _))) bx_14, cell_keep (W := w14) (by (repeat (first | exact Below.refl _ _ | refine bel_drewN ?_ _ | refine bel_drew ?_ | refine bel_alloc ?_ _ | refine bel_set ?_ (by simp) _))) by_14, cell_keep (W := w14) (by (repeat (first | exact Below.refl _ _ | refine bel_drewN ?_ _ | refine bel_drew ?_ | refine bel_alloc ?_ _ | refine bel_set ?_ (by simp) _))) bz_14⟩ | exact ⟨cell_keep (W := w13) (by (repeat (first | exact Below.refl _ _ | refine bel_drewN ?_ _ | refine bel_drew ?_ | refine bel_alloc ?_ _ | refine bel_set ?_ (by simp) _))) bx_13, cell_keep (W := w13) (by (repeat (first | exact Below.refl _ _ | refine bel_drewN ?_ _ | refine bel_drew ?_ | refine bel_alloc ?_ _ | refine bel_set ?_ (by simp) _))) by_13, cell_keep (W := w13) (by (repeat (first | exact Below.refl _ _ | refine bel_drewN ?_ _ | refine bel_drew ?_ | refine bel_alloc ?_ _ | refine bel_set ?_ (by simp) _))) bz_13⟩ | exact ⟨cell_keep (W := w12) (by (repeat (first | exact Below.refl _ _ | refine bel_drewN ?_ _ | refine bel_drew ?_ | refine bel_alloc ?_ _ | refine bel_set ?_ (by simp) _))) bx_12, cell_keep (W := w12) (by (repeat (first | exact Below.refl _ _ | refine bel_drewN ?_ _ | refine bel_drew ?_ | refine bel_alloc ?_ _ | refine bel_set ?_ (by simp) _))) by_12, cell_keep (W := w12) (by (repeat (first | exact Below.refl _ _ | refine bel_drewN ?_ _ | refine bel_drew ?_ | refine bel_alloc ?_ _ | refine bel_set ?_ (by simp) _))) bz_12⟩ | exact ⟨cell_keep (W := w11) (by (repeat (first | exact Below.refl _ _ | refine bel_drewN ?_ _ | refine bel_drew ?_ | refine bel_alloc ?_ _ | refine bel_set ?_ (by simp) _))) bx_11, cell_keep (W := w11) (by (repeat (first | exact Below.refl _ _ | refine bel_drewN ?_ _ | refine bel_drew ?_ | refine bel_alloc ?_ _ | refine bel_set ?_ (by simp) _))) by_11, cell_keep (W := w11) (by (repeat (first | exact Below.refl _ _ | refine bel_drewN ?_ _ | refine bel_drew ?_ | refine bel_alloc ?_ _ | refine bel_set ?_ (by simp) _))) bz_11⟩ | exact ⟨cell_keep (W := w10) (by (repeat (first | exact Below.refl _ _ | refine bel_drewN ?_ _ | refine bel_drew ?_ | refine bel_alloc ?_ _ | refine bel_set ?_ (by simp) _))) bx_10, cell_keep (W := w10) (by (repeat (first | exact Below.refl _ _ | refine bel_drewN ?_ _ | refine bel_drew ?_ | refine bel_alloc ?_ _ | refine bel_set ?_ (by simp) _))) by_10, cell_keep (W := w10) (by (repeat (first | exact Below.refl _ _ | refine bel_drewN ?_ _ | refine bel_drew ?_ | refine bel_alloc ?_ _ | refine bel_set ?_ (by simp) _))) bz_10⟩ | exact ⟨cell_keep (W := w9) (by (repeat (first | exact Below.refl _ _ | refine bel_drewN ?_ _ | refine bel_drew ?_ | refine bel_alloc ?_ _ | refine bel_set ?_ (by simp) _))) bx_9, cell_keep (W := w9) (by (repeat (first | exact Below.refl _ _ | refine bel_drewN ?_ _ | refine bel_drew ?_ | refine bel_alloc ?_ _ | refine bel_set ?_ (by simp) _))) by_9, cell_keep (W := w9) (by (repeat (first | exact Below.refl _ _ | refine bel_drewN ?_ _ | refine bel_drew ?_ | refine bel_alloc ?_ _ | refine bel_set ?_ (by simp) _))) bz_9⟩ | exact ⟨cell_keep (W := w8) (by (repeat (first | exact Below.refl _ _ | refine bel_drewN ?_ _ | refine bel_drew ?_ | refine bel_alloc ?_ _ | refine bel_set ?_ (by simp) _))) bx_8, cell_keep (W := w8) (by (repeat (first | exact Below.refl _ _ | refine bel_drewN ?_ _ | refine bel_drew ?_ | refine bel_alloc ?_ _ | refine bel_set ?_ (by simp) _))) by_8, cell_keep (W := w8) (by (repeat (first | exact Below.refl _ _ | refine bel_drewN ?_ _ | refine bel_drew ?_ | refine bel_alloc ?_ _ | refine bel_set ?_ (by simp) _))) bz_8⟩ | exact ⟨cell_keep (W := w7) (by (repeat (first | exact Below.refl _ _ | refine bel_drewN ?_ _ | refine bel_drew ?_ | refine bel_alloc ?_ _ | refine bel_set ?_ (by simp) _))) bx_7, cell_keep (W := w7) (by (repeat (first | exact Below.refl _ _ | refine bel_drewN ?_ _ | refine bel_drew ?_ | refine bel_alloc ?_ _ | refine bel_set ?_ (by simp) _))) by_7, cell_keep (W := w7) (by (repeat (first | exact Below.refl _ _ | refine bel_drewN ?_ _ | refine bel_drew ?_ | refine bel_alloc ?_ _ | refine bel_set ?_ (by simp) _))) bz_7⟩ | exact ⟨cell_keep (W := w6) (by (repeat (first | exact Below.refl _ _ | refine bel_drewN ?_ _ | refine bel_drew ?_ | refine bel_alloc ?_ _ | refine bel_set ?_ (by simp) _))) bx_6, cell_keep (W := w6) (by (repeat (first | exact Below.refl _ _ | refine bel_drewN ?_ _ | refine bel_drew ?_ | refine bel_alloc ?_ _ | refine bel_set ?_ (by simp) _))) by_6, cell_keep (W := w6) (by (repeat (first | exact Below.refl _ _ | refine bel_drewN ?_ _ | refine bel_drew ?_ | refine bel_alloc ?_ _ | refine bel_set ?_ (by simp) _))) bz_6⟩)
      (first
        | (go_at_call 32
           have _tk := tok7
           clear _tk tok7
           refine (or_as Ay cy (Y) Az cz (Z) (ofOp Y Z 1) rfl _ (by repeat (first | exact Sy_6.out | refine Sp.alloc ?_ _ | refine Sp.drewN ?_ _ | refine Sp.drew ?_)) (by repeat (first | exact Sz_6.out | refine Sp.alloc ?_ _ | refine Sp.drewN ?_ _ | refine Sp.drew ?_)) HY.out HZ.out (by omega) (by omega)).mono ?_
           rintro e7 w7 ⟨Au, cu, rfl, hs7, hb7⟩
           have HB_7 : Hid (Below w.heap.size w w7) := bel_chain hb7 (by repeat (first | exact HB_6.out | refine bel_drewN ?_ _ | refine bel_drew ?_ | refine bel_alloc ?_ _))
           have bx_7 : w7.cell? ⟨w5.heap.size, 0, none⟩ = some (.slice Ax X.length cx) := cell_keep hb7 (cell_keep (W := w6) (by (repeat (first | exact Below.refl _ _ | refine bel_drewN ?_ _ | refine bel_drew ?_ | refine bel_alloc ?_ _ | refine bel_set ?_ (by simp) _))) bx_6)
           have by_7 : w7.cell? ⟨w5.heap.size + 1, 0, none⟩ = some (.slice Ay Y.length cy) := cell_keep hb7 (cell_keep (W := w6) (by (repeat (first | exact Below.refl _ _ | refine bel_drewN ?_ _ | refine bel_drew ?_ | refine bel_alloc ?_ _ | refine bel_set ?_ (by simp) _))) by_6)
           have bz_7 : w7.cell? ⟨w5.heap.size + 1 + 1, 0, none⟩ = some (.slice Az Z.length cz) := cell_keep hb7 (cell_keep (W := w6) (by (repeat (first | exact Below.refl _ _ | refine bel_drewN ?_ _ | refine bel_drew ?_ | refine bel_alloc ?_ _ | refine bel_set ?_ (by simp) _))) bz_6)
           have Sx_7 : Hid (Sp w7 Ax cx (X)) := Sp.below (by repeat (first | exact Sx_6.out | refine Sp.alloc ?_ _ | refine Sp.drewN ?_ _ | refine Sp.drew ?_)) hb7
           have Sy_7 : Hid (Sp w7 Ay cy (Y)) := Sp.below (by repeat (first | exact Sy_6.out | refine Sp.alloc ?_ _ | refine Sp.drewN ?_ _ | refine Sp.drew ?_)) hb7
           have Sz_7 : Hid (Sp w7 Az cz (Z)) := Sp.below (by repeat (first | exact Sz_6.out | refine Sp.alloc ?_ _ | refine Sp.drewN ?_ _ | refine Sp.drew ?_)) hb7
           have zbx_7 : w5.heap.size < w7.heap.size := World.block_lt_of_cell? w7 ⟨w5.heap.size, 0, none⟩ bx_7
           have zby_7 : w5.heap.size + 1 < w7.heap.size := World.block_lt_of_cell? w7 ⟨w5.heap.size + 1, 0, none⟩ by_7
           have zbz_7 : w5.heap.size + 1 + 1 < w7.heap.size := World.block_lt_of_cell? w7 ⟨w5.heap.size + 1 + 1, 0, none⟩ bz_7
           have Su_7 : Hid (Sp w7 Au cu (ofOp Y Z 1)) := hs7
           clear bx_6 by_6 bz_6 Sx_6 Sy_6 Sz_6 hs7 HB_6 zbx_6 zby_6 zbz_6 hb7
           have tok8 : True := trivial)
        | (go_at_call 56
           have _tk := tok8
           clear _tk tok8
           refine (less_as Ax cx (X) Au cu (ofOp Y Z 1) (ofOp X (ofOp Y Z 1) 3) rfl _ (by repeat (first | exact Sx_7.out | refine Sp.alloc ?_ _ | refine Sp.drewN ?_ _ | refine Sp.drew ?_)) (by repeat (first | exact Su_7.out | refine Sp.alloc ?_ _ | refine Sp.drewN ?_ _ | refine Sp.drew ?_)) HX.out (ofOp_canon _ _ _) (by omega) (by omega)).mono ?_
           rintro e8 w8 ⟨Av, cv, rfl, hs8, hb8⟩
           have HB_8 : Hid (Below w.heap.size w w8) := bel_chain hb8 (by repeat (first | exact HB_7.out | refine bel_drewN ?_ _ | refine bel_drew ?_ | refine bel_alloc ?_ _))
           have bx_8 : w8.cell? ⟨w5.heap.size, 0, none⟩ = some (.slice Ax X.length cx) := cell_keep hb8 (cell_keep (W := w7) (by (repeat (first | exact Below.refl _ _ | refine bel_drewN ?_ _ | refine bel_drew ?_ | refine bel_alloc ?_ _ | refine bel_set ?_ (by simp) _))) bx_7)
           have by_8 : w8.cell? ⟨w5.heap.size + 1, 0, none⟩ = some (.slice Ay Y.length cy) := cell_keep hb8 (cell_keep (W := w7) (by (repeat (first | exact Below.refl _ _ | refine bel_drewN ?_ _ | refine bel_drew ?_ | refine bel_alloc ?_ _ | refine bel_set ?_ (by simp) _))) by_7)
           have bz_8 : w8.cell? ⟨w5.heap.size + 1 + 1, 0, none⟩ = some (.slice Az Z.length cz) := cell_keep hb8 (cell_keep (W := w7) (by (repeat (first | exact Below.refl _ _ | refine bel_drewN ?_ _ | refine bel_drew ?_ | refine bel_alloc ?_ _ | refine bel_set ?_ (by simp) _))) bz_7)
           have Sx_8 : Hid (Sp w8 Ax cx (X)) := Sp.below (by repeat (first | exact Sx_7.out | refine Sp.alloc ?_ _ | refine Sp.drewN ?_ _ | refine Sp.drew ?_)) hb8
           have Sy_8 : Hid (Sp w8 Ay cy (Y)) := Sp.below (by repeat (first | exact Sy_7.out | refine Sp.alloc ?_ _ | refine Sp.drewN ?_ _ | refine Sp.drew ?_)) hb8
           have Sz_8 : Hid (Sp w8 Az cz (Z)) := Sp.below (by repeat (first | exact Sz_7.out | refine Sp.alloc ?_ _ | refine Sp.drewN ?_ _ | refine Sp.drew ?_)) hb8
           have Su_8 : Hid (Sp w8 Au cu (ofOp Y Z 1)) := Sp.below (by repeat (first | exact Su_7.out | refine Sp.alloc ?_ _ | refine Sp.drewN ?_ _ | refine Sp.drew ?_)) hb8
           have zbx_8 : w5.heap.size < w8.heap.size := World.block_lt_of_cell? w8 ⟨w5.heap.size, 0, none⟩ bx_8
           have zby_8 : w5.heap.size + 1 < w8.heap.size := World.block_lt_of_cell? w8 ⟨w5.heap.size + 1, 0, none⟩ by_8
           have zbz_8 : w5.heap.size + 1 + 1 < w8.heap.size := World.block_lt_of_cell? w8 ⟨w5.heap.size + 1 + 1, 0, none⟩ bz_8
           have Sv_8 : Hid (Sp w8 Av cv (ofOp X (ofOp Y Z 1) 3)) := hs8
           clear bx_7 by_7 bz_7 Sx_7 Sy_7 Sz_7 Su_7 hs8 HB_7 zbx_7 zby_7 zbz_7 hb8
           have tok9 : True := trivial)
        | (go_at_call 56
           have _tk := tok9
           clear _tk tok9
           refine (less_as Ax cx (X) Ay cy (Y) (ofOp X Y 3) rfl _ (by repeat (first | exact Sx_8.out | refine Sp.alloc ?_ _ | refine Sp.drewN ?_ _ | refine Sp.drew ?_)) (by repeat (first | exact Sy_8.out | refine Sp.alloc ?_ _ | refine Sp.drewN ?_ _ | refine Sp.drew ?_)) HX.out HY.out (by omega) (by omega)).mono ?_
           rintro e9 w9 ⟨Ap, cp, rfl, hs9, hb9⟩
           have HB_9 : Hid (Below w.heap.size w w9) := bel_chain hb9 (by repeat (first | exact HB_8.out | refine bel_drewN ?_ _ | refine bel_drew ?_ | refine bel_alloc ?_ _))
           have bx_9 : w9.cell? ⟨w5.heap.size, 0, none⟩ = some (.slice Ax X.length cx) := cell_keep hb9 (cell_keep (W := w8) (by (repeat (first | exact Below.refl _ _ | refine bel_drewN ?_ _ | refine bel_drew ?_ | refine bel_alloc ?_ _ | refine bel_set ?_ (by simp) _))) bx_8)
           have by_9 : w9.cell? ⟨w5.heap.size + 1, 0, none⟩ = some (.slice Ay Y.length cy) := cell_keep hb9 (cell_keep (W := w8) (by (repeat (first | exact Below.refl _ _ | refine bel_drewN ?_ _ | refine bel_drew ?_ | refine bel_alloc ?_ _ | refine bel_set ?_ (by simp) _))) by_8)
           have bz_9 : w9.cell? ⟨w5.heap.size + 1 + 1, 0, none⟩ = some (.slice Az Z.length cz) := cell_keep hb9 (cell_keep (W := w8) (by (repeat (first | exact Below.refl _ _ | refine bel_drewN ?_ _ | refine bel_drew ?_ | refine bel_alloc ?_ _ | refine bel_set ?_ (by simp) _))) bz_8)
           have Sx_9 : Hid (Sp w9 Ax cx (X)) := Sp.below (by repeat (first | exact Sx_8.out | refine Sp.alloc ?_ _ | refine Sp.drewN ?_ _ | refine Sp.drew ?_)) hb9
           have Sy_9 : Hid (Sp w9 Ay cy (Y)) := Sp.below (by repeat (first | exact Sy_8.out | refine Sp.alloc ?_ _ | refine Sp.drewN ?_ _ | refine Sp.drew ?_)) hb9
           have Sz_9 : Hid (Sp w9 Az cz (Z)) := Sp.below (by repeat (first | exact Sz_8.out | refine Sp.alloc ?_ _ | refine Sp.drewN ?_ _ | refine Sp.drew ?_)) hb9
           have Su_9 : Hid (Sp w9 Au cu (ofOp Y Z 1)) := Sp.below (by repeat (first | exact Su_8.out | refine Sp.alloc ?_ _ | refine Sp.drewN ?_ _ | refine Sp.drew ?_)) hb9
           have Sv_9 : Hid (Sp w9 Av cv (ofOp X (ofOp Y Z 1) 3)) := Sp.below (by repeat (first | exact Sv_8.out | refine Sp.alloc ?_ _ | refine Sp.drewN ?_ _ | refine Sp.drew ?_)) hb9
           have zbx_9 : w5.heap.size < w9.heap.size := World.block_lt_of_cell? w9 ⟨w5.heap.size, 0, none⟩ bx_9
           have zby_9 : w5.heap.size + 1 < w9.heap.size := World.block_lt_of_cell? w9 ⟨w5.heap.size + 1, 0, none⟩ by_9
           have zbz_9 : w5.heap.size + 1 + 1 < w9.heap.size := World.block_lt_of_cell? w9 ⟨w5.heap.size + 1 + 1, 0, none⟩ bz_9
           have Sp_9 : Hid (Sp w9 Ap cp (ofOp X Y 3)) := hs9
           clear bx_8 by_8 bz_8 Sx_8 Sy_8 Sz_8 Su_8 Sv_8 hs9 HB_8 zbx_8 zby_8 zbz_8 hb9
           have tok10 : True := trivial)
        | (go_at_call 56
           have _tk := tok10
           clear _tk tok10
           refine (less_as Ap cp (ofOp X Y 3) Az cz (Z) (ofOp X (ofOp Y Z 1) 3) law1 _ (by repeat (first | exact Sp_9.out | refine Sp.alloc ?_ _ | refine Sp.drewN ?_ _ | refine Sp.drew ?_)) (by repeat (first | exact Sz_9.out | refine Sp.alloc ?_ _ | refine Sp.drewN ?_ _ | refine Sp.drew ?_)) (ofOp_canon _ _ _) HZ.out (by omega) (by omega)).mono ?_
           rintro e10 w10 ⟨Aq, cq, rfl, hs10, hb10⟩
           have HB_10 : Hid (Below w.heap.size w w10) := bel_chain hb10 (by repeat (first | exact HB_9.out | refine bel_drewN ?_ _ | refine bel_drew ?_ | refine bel_alloc ?_ _))
           have bx_10 : w10.cell? ⟨w5.heap.size, 0, none⟩ = some (.slice Ax X.length cx) := cell_keep hb10 (cell_keep (W := w9) (by (repeat (first | exact Below.refl _ _ | refine bel_drewN ?_ _ | refine bel_drew ?_ | refine bel_alloc ?_ _ | refine bel_set ?_ (by simp) _))) bx_9)
           have by_10 : w10.cell? ⟨w5.heap.size + 1, 0, none⟩ = some (.slice Ay Y.length cy) := cell_keep hb10 (cell_keep (W := w9) (by (repeat (first | exact Below.refl _ _ | refine bel_drewN ?_ _ | refine bel_drew ?_ | refine bel_alloc ?_ _ | refine bel_set ?_ (by simp) _))) by_9)
           have bz_10 : w10.cell? ⟨w5.heap.size + 1 + 1, 0, none⟩ = some (.slice Az Z.length cz) := cell_keep hb10 (cell_keep (W := w9) (by (repeat (first | exact Below.refl _ _ | refine bel_drewN ?_ _ | refine bel_drew ?_ | refine bel_alloc ?_ _ | refine bel_set ?_ (by simp) _))) bz_9)
           have Sx_10 : Hid (Sp w10 Ax cx (X)) := Sp.below (by repeat (first | exact Sx_9.out | refine Sp.alloc ?_ _ | refine Sp.drewN ?_ _ | refine Sp.drew ?_)) hb10
           have Sy_10 : Hid (Sp w10 Ay cy (Y)) := Sp.below (by repeat (first | exact Sy_9.out | refine Sp.alloc ?_ _ | refine Sp.drewN ?_ _ | refine Sp.drew ?_)) hb10
           have Sz_10 : Hid (Sp w10 Az cz (Z)) := Sp.below (by repeat (first | exact Sz_9.out | refine Sp.alloc ?_ _ | refine Sp.drewN ?_ _ | refine Sp.drew ?_)) hb10
           have Su_10 : Hid (Sp w10 Au cu (ofOp Y Z 1)) := Sp.below (by repeat (first | exact Su_9.out | refine Sp.alloc ?_ _ | refine Sp.drewN ?_ _ | refine Sp.drew ?_)) hb10
           have Sv_10 : Hid (Sp w10 Av cv (ofOp X (ofOp Y Z 1) 3)) := Sp.below (by repeat (first | exact Sv_9.out | refine Sp.alloc ?_ _ | refine Sp.drewN ?_ _ | refine Sp.drew ?_)) hb10
           have Sp_10 : Hid (Sp w10 Ap cp (ofOp X Y 3)) := Sp.below (by repeat (first | exact Sp_9.out | refine Sp.alloc ?_ _ | refine Sp.drewN ?_ _ | refine Sp.drew ?_)) hb10
           have zbx_10 : w5.heap.size < w10.heap.size := World.block_lt_of_cell? w10 ⟨w5.heap.size, 0, none⟩ bx_10
           have zby_10 : w5.heap.size + 1 < w10.heap.size := World.block_lt_of_cell? w10 ⟨w5.heap.size + 1, 0, none⟩ by_10
           have zbz_10 : w5.heap.size + 1 + 1 < w10.heap.size := World.block_lt_of_cell? w10 ⟨w5.heap.size + 1 + 1, 0, none⟩ bz_10
           have Sq_10 : Hid (Sp w10 Aq cq (ofOp X (ofOp Y Z 1) 3)) := hs10
           clear bx_9 by_9 bz_9 Sx_9 Sy_9 Sz_9 Su_9 Sv_9 Sp_9 hs10 HB_9 zbx_9 zby_9 zbz_9 hb10
           have tok11 : True := trivial)
        | (go_at_call 39
           have _tk := tok11
           clear _tk tok11
           refine (same_same Av cv (ofOp X (ofOp Y Z 1) 3) Aq cq _ (by repeat (first | exact Sv_10.out | refine Sp.alloc ?_ _ | refine Sp.drewN ?_ _ | refine Sp.drew ?_)) (by repeat (first | exact Sq_10.out | refine Sp.alloc ?_ _ | refine Sp.drewN ?_ _ | refine Sp.drew ?_)) (by omega)).mono ?_
           rintro e11 w11 ⟨rfl, hb11⟩
           have HB_11 : Hid (Below w.heap.size w w11) := bel_chain hb11 (by repeat (first | exact HB_10.out | refine bel_drewN ?_ _ | refine bel_drew ?_ | refine bel_alloc ?_ _))
           have bx_11 : w11.cell? ⟨w5.heap.size, 0, none⟩ = some (.slice Ax X.length cx) := cell_keep hb11 (cell_keep (W := w10) (by (repeat (first | exact Below.refl _ _ | refine bel_drewN ?_ _ | refine bel_drew ?_ | refine bel_alloc ?_ _ | refine bel_set ?_ (by simp) _))) bx_10)
           have by_11 : w11.cell? ⟨w5.heap.size + 1, 0, none⟩ = some (.slice Ay Y.length cy) := cell_keep hb11 (cell_keep (W := w10) (by (repeat (first | exact Below.refl _ _ | refine bel_drewN ?_ _ | refine bel_drew ?_ | refine bel_alloc ?_ _ | refine bel_set ?_ (by simp) _))) by_10)
           have bz_11 : w11.cell? ⟨w5.heap.size + 1 + 1, 0, none⟩ = some (.slice Az Z.length cz) := cell_keep hb11 (cell_keep (W := w10) (by (repeat (first | exact Below.refl _ _ | refine bel_drewN ?_ _ | refine bel_drew ?_ | refine bel_alloc ?_ _ | refine bel_set ?_ (by simp) _))) bz_10)
           have Sx_11 : Hid (Sp w11 Ax cx (X)) := Sp.below (by repeat (first | exact Sx_10.out | refine Sp.alloc ?_ _ | refine Sp.drewN ?_ _ | refine Sp.drew ?_)) hb11
           have Sy_11 : Hid (Sp w11 Ay cy (Y)) := Sp.below (by repeat (first | exact Sy_10.out | refine Sp.alloc ?_ _ | refine Sp.drewN ?_ _ | refine Sp.drew ?_)) hb11
           have Sz_11 : Hid (Sp w11 Az cz (Z)) := Sp.below (by repeat (first | exact Sz_10.out | refine Sp.alloc ?_ _ | refine Sp.drewN ?_ _ | refine Sp.drew ?_)) hb11
           have Su_11 : Hid (Sp w11 Au cu (ofOp Y Z 1)) := Sp.below (by repeat (first | exact Su_10.out | refine Sp.alloc ?_ _ | refine Sp.drewN ?_ _ | refine Sp.drew ?_)) hb11
           have Sv_11 : Hid (Sp w11 Av cv (ofOp X (ofOp Y Z 1) 3)) := Sp.below (by repeat (first | exact Sv_10.out | refine Sp.alloc ?_ _ | refine Sp.drewN ?_ _ | refine Sp.drew ?_)) hb11
           have Sp_11 : Hid (Sp w11 Ap cp (ofOp X Y 3)) := Sp.below (by repeat (first | exact Sp_10.out | refine Sp.alloc ?_ _ | refine Sp.drewN ?_ _ | refine Sp.drew ?_)) hb11
           have Sq_11 : Hid (Sp w11 Aq cq (ofOp X (ofOp Y Z 1) 3)) := Sp.below (by repeat (first | exact Sq_10.out | refine Sp.alloc ?_ _ | refine Sp.drewN ?_ _ | refine Sp.drew ?_)) hb11
           have zbx_11 : w5.heap.size < w11.heap.size := World.block_lt_of_cell? w11 ⟨w5.heap.size, 0, none⟩ bx_11
           have zby_11 : w5.heap.size + 1 < w11.heap.size := World.block_lt_of_cell? w11 ⟨w5.heap.size + 1, 0, none⟩ by_11
           have zbz_11 : w5.heap.size + 1 + 1 < w11.heap.size := World.block_lt_of_cell? w11 ⟨w5.heap.size + 1 + 1, 0, none⟩ bz_11
           clear bx_10 by_10 bz_10 Sx_10 Sy_10 Sz_10 Su_10 Sv_10 Sp_10 Sq_10 HB_10 zbx_10 zby_10 zbz_10 hb11
           clear Su_11
           clear Sv_11
           clear Sp_11
           clear Sq_11
           have tok12 : True := trivial)
        | (go_at_call 32
           have _tk := tok12
           clear _tk tok12
           refine (or_as Ay cy (Y) Az cz (Z) (ofOp Y Z 1) rfl _ (by repeat (first | exact Sy_11.out | refine Sp.alloc ?_ _ | refine Sp.drewN ?_ _ | refine Sp.drew ?_)) (by repeat (first | exact Sz_11.out | refine Sp.alloc ?_ _ | refine Sp.drewN ?_ _ | refine Sp.drew ?_)) HY.out HZ.out (by omega) (by omega)).mono ?_
           rintro e12 w12 ⟨Au, cu, rfl, hs12, hb12⟩
           have HB_12 : Hid (Below w.heap.size w w12) := bel_chain hb12 (by repeat (first | exact HB_11.out | refine bel_drewN ?_ _ | refine bel_drew ?_ | refine bel_alloc ?_ _))
           have bx_12 : w12.cell? ⟨w5.heap.size, 0, none⟩ = some (.slice Ax X.length cx) := cell_keep hb12 (cell_keep (W := w11) (by (repeat (first | exact Below.refl _ _ | refine bel_drewN ?_ _ | refine bel_drew ?_ | refine bel_alloc ?_ _ | refine bel_set ?_ (by simp) _))) bx_11)
           have by_12 : w12.cell? ⟨w5.heap.size + 1, 0, none⟩ = some (.slice Ay Y.length cy) := cell_keep hb12 (cell_keep (W := w11) (by (repeat (first | exact Below.refl _ _ | refine bel_drewN ?_ _ | refine bel_drew ?_ | refine bel_alloc ?_ _ | refine bel_set ?_ (by simp) _))) by_11)
           have bz_12 : w12.cell? ⟨w5.heap.size + 1 + 1, 0, none⟩ = some (.slice Az Z.length cz) := cell_keep hb12 (cell_keep (W := w11) (by (repeat (first | exact Below.refl _ _ | refine bel_drewN ?_ _ | refine bel_drew ?_ | refine bel_alloc ?_ _ | refine bel_set ?_ (by simp) _))) bz_11)
           have Sx_12 : Hid (Sp w12 Ax cx (X)) := Sp.below (by repeat (first | exact Sx_11.out | refine Sp.alloc ?_ _ | refine Sp.drewN ?_ _ | refine Sp.drew ?_)) hb12
           have Sy_12 : Hid (Sp w12 Ay cy (Y)) := Sp.below (by repeat (first | exact Sy_11.out | refine Sp.alloc ?_ _ | refine Sp.drewN ?_ _ | refine Sp.drew ?_)) hb12
           have Sz_12 : Hid (Sp w12 Az cz (Z)) := Sp.below (by repeat (first | exact Sz_11.out | refine Sp.alloc ?_ _ | refine Sp.drewN ?_ _ | refine Sp.drew ?_)) hb12
           have zbx_12 : w5.heap.size < w12.heap.size := World.block_lt_of_cell? w12 ⟨w5.heap.size, 0, none⟩ bx_12
           have zby_12 : w5.heap.size + 1 < w12.heap.size := World.block_lt_of_cell? w12 ⟨w5.heap.size + 1, 0, none⟩ by_12
           have zbz_12 : w5.heap.size + 1 + 1 < w12.heap.size := World.block_lt_of_cell? w12 ⟨w5.heap.size + 1 + 1, 0, none⟩ bz_12
           have Su_12 : Hid (Sp w12 Au cu (ofOp Y Z 1)) := hs12
           clear bx_11 by_11 bz_11 Sx_11 Sy_11 Sz_11 hs12 HB_11 zbx_11 zby_11 zbz_11 hb12
           have tok13 : True := trivial)
        | (go_at_call 54
           have _tk := tok13
           clear _tk tok13
           refine (and_as Ax cx (X) Au cu (ofOp Y Z 1) (ofOp X (ofOp Y Z 1) 2) rfl _ (by repeat (first | exact Sx_12.out | refine Sp.alloc ?_ _ | refine Sp.drewN ?_ _ | refine Sp.drew ?_)) (by repeat (first | exact Su_12.out | refine Sp.alloc ?_ _ | refine Sp.drewN ?_ _ | refine Sp.drew ?_)) HX.out (ofOp_canon _ _ _) (by omega) (by omega)).mono ?_
           rintro e13 w13 ⟨Av, cv, rfl, hs13, hb13⟩
           have HB_13 : Hid (Below w.heap.size w w13) := bel_chain hb13 (by repeat (first | exact HB_12.out | refine bel_drewN ?_ _ | refine bel_drew ?_ | refine bel_alloc ?_ _))
           have bx_13 : w13.cell? ⟨w5.heap.size, 0, none⟩ = some (.slice Ax X.length cx) := cell_keep hb13 (cell_keep (W := w12) (by (repeat (first | exact Below.refl _ _ | refine bel_drewN ?_ _ | refine bel_drew ?_ | refine bel_alloc ?_ _ | refine bel_set ?_ (by simp) _))) bx_12)
           have by_13 : w13.cell? ⟨w5.heap.size + 1, 0, none⟩ = some (.slice Ay Y.length cy) := cell_keep hb13 (cell_keep (W := w12) (by (repeat (first | exact Below.refl _ _ | refine bel_drewN ?_ _ | refine bel_drew ?_ | refine bel_alloc ?_ _ | refine bel_set ?_ (by simp) _))) by_12)
           have bz_13 : w13.cell? ⟨w5.heap.size + 1 + 1, 0, none⟩ = some (.slice Az Z.length cz) := cell_keep hb13 (cell_keep (W := w12) (by (repeat (first | exact Below.refl _ _ | refine bel_drewN ?_ _ | refine bel_drew ?_ | refine bel_alloc ?_ _ | refine bel_set ?_ (by simp) _))) bz_12)
           have Sx_13 : Hid (Sp w13 Ax cx (X)) := Sp.below (by repeat (first | exact Sx_12.out | refine Sp.alloc ?_ _ | refine Sp.drewN ?_ _ | refine Sp.drew ?_)) hb13
           have Sy_13 : Hid (Sp w13 Ay cy (Y)) := Sp.below (by repeat (first | exact Sy_12.out | refine Sp.alloc ?_ _ | refine Sp.drewN ?_ _ | refine Sp.drew ?_)) hb13
           have Sz_13 : Hid (Sp w13 Az cz (Z)) := Sp.below (by repeat (first | exact Sz_12.out | refine Sp.alloc ?_ _ | refine Sp.drewN ?_ _ | refine Sp.drew ?_)) hb13
           have Su_13 : Hid (Sp w13 Au cu (ofOp Y Z 1)) := Sp.below (by repeat (first | exact Su_12.out | refine Sp.alloc ?_ _ | refine Sp.drewN ?_ _ | refine Sp.drew ?_)) hb13
           have zbx_13 : w5.heap.size < w13.heap.size := World.block_lt_of_cell? w13 ⟨w5.heap.size, 0, none⟩ bx_13
           have zby_13 : w5.heap.size + 1 < w13.heap.size := World.block_lt_of_cell? w13 ⟨w5.heap.size + 1, 0, none⟩ by_13
           have zbz_13 : w5.heap.size + 1 + 1 < w13.heap.size := World.block_lt_of_cell? w13 ⟨w5.heap.size + 1 + 1, 0, none⟩ bz_13
           have Sv_13 : Hid (Sp w13 Av cv (ofOp X (ofOp Y Z 1) 2)) := hs13
           clear bx_12 by_12 bz_12 Sx_12 Sy_12 Sz_12 Su_12 hs13 HB_12 zbx_12 zby_12 zbz_12 hb13
           have tok14 : True := trivial)
        | (go_at_call 54
           have _tk := tok14
           clear _tk tok14
           refine (and_as Ax cx (X) Ay cy (Y) (ofOp X Y 2) rfl _ (by repeat (first | exact Sx_13.out | refine Sp.alloc ?_ _ | refine Sp.drewN ?_ _ | refine Sp.drew ?_)) (by repeat (first | exact Sy_13.out | refine Sp.alloc ?_ _ | refine Sp.drewN ?_ _ | refine Sp.drew ?_)) HX.out HY.out (by omega) (by omega)).mono ?_
           rintro e14 w14 ⟨Ap, cp, rfl, hs14, hb14⟩
           have HB_14 : Hid (Below w.heap.size w w14) := bel_chain hb14 (by repeat (first | exact HB_13.out | refine bel_drewN ?_ _ | refine bel_drew ?_ | refine bel_alloc ?_ _))
           have bx_14 : w14.cell? ⟨w5.heap.size, 0, none⟩ = some (.slice Ax X.length cx) := cell_keep hb14 (cell_keep (W := w13) (by (repeat (first | exact Below.refl _ _ | refine bel_drewN ?_ _ | refine bel_drew ?_ | refine bel_alloc ?_ _ | refine bel_set ?_ (by simp) _))) bx_13)
           have by_14 : w14.cell? ⟨w5.heap.size + 1, 0, none⟩ = some (.slice Ay Y.length cy) := cell_keep hb14 (cell_keep (W := w13) (by (repeat (first | exact Below.refl _ _ | refine bel_drewN ?_ _ | refine bel_drew ?_ | refine bel_alloc ?_ _ | refine bel_set ?_ (by simp) _))) by_13)
           have bz_14 : w14.cell? ⟨w5.heap.size + 1 + 1, 0, none⟩ = some (.slice Az Z.length cz) := cell_keep hb14 (cell_keep (W := w13) (by (repeat (first | exact Below.refl _ _ | refine bel_drewN ?_ _ | refine bel_drew ?_ | refine bel_alloc ?_ _ | refine bel_set ?_ (by simp) _))) bz_13)
           have Sx_14 : Hid (Sp w14 Ax cx (X)) := Sp.below (by repeat (first | exact Sx_13.out | refine Sp.alloc ?_ _ | refine Sp.drewN ?_ _ | refine Sp.drew ?_)) hb14
           have Sy_14 : Hid (Sp w14 Ay cy (Y)) := Sp.below (by repeat (first | exact Sy_13.out | refine Sp.alloc ?_ _ | refine Sp.drewN ?_ _ | refine Sp.drew ?_)) hb14
           have Sz_14 : Hid (Sp w14 Az cz (Z)) := Sp.below (by repeat (first | exact Sz_13.out | refine Sp.alloc ?_ _ | refine Sp.drewN ?_ _ | refine Sp.drew ?_)) hb14
           have Su_14 : Hid (Sp w14 Au cu (ofOp Y Z 1)) := Sp.below (by repeat (first | exact Su_13.out | refine Sp.alloc ?_ _ | refine Sp.drewN ?_ _ | refine Sp.drew ?_)) hb14
           have Sv_14 : Hid (Sp w14 Av cv (ofOp X (ofOp Y Z 1) 2)) := Sp.below (by repeat (first | exact Sv_13.out | refine Sp.alloc ?_ _ | refine Sp.drewN ?_ _ | refine Sp.drew ?_)) hb14
           have zbx_14 : w5.heap.size < w14.heap.size := World.block_lt_of_cell? w14 ⟨w5.heap.size, 0, none⟩ bx_14
           have zby_14 : w5.heap.size + 1 < w14.heap.size := World.block_lt_of_cell? w14 ⟨w5.heap.size + 1, 0, none⟩ by_14
           have zbz_14 : w5.heap.size + 1 + 1 < w14.heap.size := World.block_lt_of_cell? w14 ⟨w5.heap.size + 1 + 1, 0, none⟩ bz_14
           have Sp_14 : Hid (Sp w14 Ap cp (ofOp X Y 2)) := hs14
           clear bx_13 by_13 bz_13 Sx_13 Sy_13 Sz_13 Su_13 Sv_13 hs14 HB_13 zbx_13 zby_13 zbz_13 hb14
           have tok15 : True := trivial)
        | (go_at_call 54
           have _tk := tok15
           clear _tk tok15
           refine (and_as Ax cx (X) Az cz (Z) (ofOp X Z 2) rfl _ (by repeat (first | exact Sx_14.out | refine Sp.alloc ?_ _ | refine Sp.drewN ?_ _ | refine Sp.drew ?_)) (by repeat (first | exact Sz_14.out | refine Sp.alloc ?_ _ | refine Sp.drewN ?_ _ | refine Sp.drew ?_)) HX.out HZ.out (by omega) (by omega)).mono ?_
           rintro e15 w15 ⟨Aq, cq, rfl, hs15, hb15⟩
           have HB_15 : Hid (Below w.heap.size w w15) := bel_chain hb15 (by repeat (first | exact HB_14.out | refine bel_drewN ?_ _ | refine bel_drew ?_ | refine bel_alloc ?_ _))
           have bx_15 : w15.cell? ⟨w5.heap.size, 0, none⟩ = some (.slice Ax X.length cx) := cell_keep hb15 (cell_keep (W := w14) (by (repeat (first | exact Below.refl _ _ | refine bel_drewN ?_ _ | refine bel_drew ?_ | refine bel_alloc ?_ _ | refine bel_set ?_ (by simp) _))) bx_14)
           have by_15 : w15.cell? ⟨w5.heap.size + 1, 0, none⟩ = some (.slice Ay Y.length cy) := cell_keep hb15 (cell_keep (W := w14) (by (repeat (first | exact Below.refl _ _ | refine bel_drewN ?_ _ | refine bel_drew ?_ | refine bel_alloc ?_ _ | refine bel_set ?_ (by simp) _))) by_14)
           have bz_15 : w15.cell? ⟨w5.heap.size + 1 + 1, 0, none⟩ = some (.slice Az Z.length cz) := cell_keep hb15 (cell_keep (W := w14) (by (repeat (first | exact Below.refl _ _ | refine bel_drewN ?_ _ | refine bel_drew ?_ | refine bel_alloc ?_ _ | refine bel_set ?_ (by simp) _))) bz_14)
           have Sx_15 : Hid (Sp w15 Ax cx (X)) := Sp.below (by repeat (first | exact Sx_14.out | refine Sp.alloc ?_ _ | refine Sp.drewN ?_ _ | refine Sp.drew ?_)) hb15
           have Sy_15 : Hid (Sp w15 Ay cy (Y)) := Sp.below (by repeat (first | exact Sy_14.out | refine Sp.alloc ?_ _ | refine Sp.drewN ?_ _ | refine Sp.drew ?_)) hb15
           have Sz_15 : Hid (Sp w15 Az cz (Z)) := Sp.below (by repeat (first | exact Sz_14.out | refine Sp.alloc ?_ _ | refine Sp.drewN ?_ _ | refine Sp.drew ?_)) hb15
           have Su_15 : Hid (Sp w15 Au cu (ofOp Y Z 1)) := Sp.below (by repeat (first | exact Su_14.out | refine Sp.alloc ?_ _ | refine Sp.drewN ?_ _ | refine Sp.drew ?_)) hb15
           have Sv_15 : Hid (Sp w15 Av cv (ofOp X (ofOp Y Z 1) 2)) := Sp.below (by repeat (first | exact Sv_14.out | refine Sp.alloc ?_ _ | refine Sp.drewN ?_ _ | refine Sp.drew ?_)) hb15
           have Sp_15 : Hid (Sp w15 Ap cp (ofOp X Y 2)) := Sp.below (by repeat (first | exact Sp_14.out | refine Sp.alloc ?_ _ | refine Sp.drewN ?_ _ | refine Sp.drew ?_)) hb15
           have zbx_15 : w5.heap.size < w15.heap.size := World.block_lt_of_cell? w15 ⟨w5.heap.size, 0, none⟩ bx_15
           have zby_15 : w5.heap.size + 1 < w15.heap.size := World.block_lt_of_cell? w15 ⟨w5.heap.size + 1, 0, none⟩ by_15
           have zbz_15 : w5.heap.size + 1 + 1 < w15.heap.size := World.block_lt_of_cell? w15 ⟨w5.heap.size + 1 + 1, 0, none⟩ bz_15
           have Sq_15 : Hid (Sp w15 Aq cq (ofOp X Z 2)) := hs15
           clear bx_14 by_14 bz_14 Sx_14 Sy_14 Sz_14 Su_14 Sv_14 Sp_14 hs15 HB_14 zbx_14 zby_14 zbz_14 hb15
           have tok16 : True := trivial)
        | (go_at_call 32
           have _tk := tok16
           clear _tk tok16
           refine (or_as Ap cp (ofOp X Y 2) Aq cq (ofOp X Z 2) (ofOp X (ofOp Y Z 1) 2) law2 _ (by repeat (first | exact Sp_15.out | refine Sp.alloc ?_ _ | refine Sp.drewN ?_ _ | refine Sp.drew ?_)) (by repeat (first | exact Sq_15.out | refine Sp.alloc ?_ _ | refine Sp.drewN ?_ _ | refine Sp.drew ?_)) (ofOp_canon _ _ _) (ofOp_canon _ _ _) (by omega) (by omega)).mono ?_
           rintro e16 w16 ⟨As, cs, rfl, hs16, hb16⟩
           have HB_16 : Hid (Below w.heap.size w w16) := bel_chain hb16 (by repeat (first | exact HB_15.out | refine bel_drewN ?_ _ | refine bel_drew ?_ | refine bel_alloc ?_ _))
           have bx_16 : w16.cell? ⟨w5.heap.size, 0, none⟩ = some (.slice Ax X.length cx) := cell_keep hb16 (cell_keep (W := w15) (by (repeat (first | exact Below.refl _ _ | refine bel_drewN ?_ _ | refine bel_drew ?_ | refine bel_alloc ?_ _ | refine bel_set ?_ (by simp) _))) bx_15)
           have by_16 : w16.cell? ⟨w5.heap.size + 1, 0, none⟩ = some (.slice Ay Y.length cy) := cell_keep hb16 (cell_keep (W := w15) (by (repeat (first | exact Below.refl _ _ | refine bel_drewN ?_ _ | refine bel_drew ?_ | refine bel_alloc ?_ _ | refine bel_set ?_ (by simp) _))) by_15)
           have bz_16 : w16.cell? ⟨w5.heap.size + 1 + 1, 0, none⟩ = some (.slice Az Z.length cz) := cell_keep hb16 (cell_keep (W := w15) (by (repeat (first | exact Below.refl _ _ | refine bel_drewN ?_ _ | refine bel_drew ?_ | refine bel_alloc ?_ _ | refine bel_set ?_ (by simp) _))) bz_15)
           have Sx_16 : Hid (Sp w16 Ax cx (X)) := Sp.below (by repeat (first | exact Sx_15.out | refine Sp.alloc ?_ _ | refine Sp.drewN ?_ _ | refine Sp.drew ?_)) hb16
           have Sy_16 : Hid (Sp w16 Ay cy (Y)) := Sp.below (by repeat (first | exact Sy_15.out | refine Sp.alloc ?_ _ | refine Sp.drewN ?_ _ | refine Sp.drew ?_)) hb16
           have Sz_16 : Hid (Sp w16 Az cz (Z)) := Sp.below (by repeat (first | exact Sz_15.out | refine Sp.alloc ?_ _ | refine Sp.drewN ?_ _ | refine Sp.drew ?_)) hb16
           have Su_16 : Hid (Sp w16 Au cu (ofOp Y Z 1)) := Sp.below (by repeat (first | exact Su_15.out | refine Sp.alloc ?_ _ | refine Sp.drewN ?_ _ | refine Sp.drew ?_)) hb16
           have Sv_16 : Hid (Sp w16 Av cv (ofOp X (ofOp Y Z 1) 2)) := Sp.below (by repeat (first | exact Sv_15.out | refine Sp.alloc ?_ _ | refine Sp.drewN ?_ _ | refine Sp.drew ?_)) hb16
           have Sp_16 : Hid (Sp w16 Ap cp (ofOp X Y 2)) := Sp.below (by repeat (first | exact Sp_15.out | refine Sp.alloc ?_ _ | refine Sp.drewN ?_ _ | refine Sp.drew ?_)) hb16
           have Sq_16 : Hid (Sp w16 Aq cq (ofOp X Z 2)) := Sp.below (by repeat (first | exact Sq_15.out | refine Sp.alloc ?_ _ | refine Sp.drewN ?_ _ | refine Sp.drew ?_)) hb16
           have zbx_16 : w5.heap.size < w16.heap.size := World.block_lt_of_cell? w16 ⟨w5.heap.size, 0, none⟩ bx_16
           have zby_16 : w5.heap.size + 1 < w16.heap.size := World.block_lt_of_cell? w16 ⟨w5.heap.size + 1, 0, none⟩ by_16
           have zbz_16 : w5.heap.size + 1 + 1 < w16.heap.size := World.block_lt_of_cell? w16 ⟨w5.heap.size + 1 + 1, 0, none⟩ bz_16
           have Ss_16 : Hid (Sp w16 As cs (ofOp X (ofOp Y Z 1) 2)) := hs16
           clear bx_15 by_15 bz_15 Sx_15 Sy_15 Sz_15 Su_15 Sv_15 Sp_15 Sq_15 hs16 HB_15 zbx_15 zby_15 zbz_15 hb16
           have tok17 : True := trivial)
        | (go_at_call 39
           have _tk := tok17
           clear _tk tok17
           refine (same_same Av cv (ofOp X (ofOp Y Z 1) 2) As cs _ (by repeat (first | exact Sv_16.out | refine Sp.alloc ?_ _ | refine Sp.drewN ?_ _ | refine Sp.drew ?_)) (by repeat (first | exact Ss_16.out | refine Sp.alloc ?_ _ | refine Sp.drewN ?_ _ | refine Sp.drew ?_)) (by omega)).mono ?_
           rintro e17 w17 ⟨rfl, hb17⟩
           have HB_17 : Hid (Below w.heap.size w w17) := bel_chain hb17 (by repeat (first | exact HB_16.out | refine bel_drewN ?_ _ | refine bel_drew ?_ | refine bel_alloc ?_ _))
           have bx_17 : w17.cell? ⟨w5.heap.size, 0, none⟩ = some (.slice Ax X.length cx) := cell_keep hb17 (cell_keep (W := w16) (by (repeat (first | exact Below.refl _ _ | refine bel_drewN ?_ _ | refine bel_drew ?_ | refine bel_alloc ?_ _ | refine bel_set ?_ (by simp) _))) bx_16)
           have by_17 : w17.cell? ⟨w5.heap.size + 1, 0, none⟩ = some (.slice Ay Y.length cy) := cell_keep hb17 (cell_keep (W := w16) (by (repeat (first | exact Below.refl _ _ | refine bel_drewN ?_ _ | refine bel_drew ?_ | refine bel_alloc ?_ _ | refine bel_set ?_ (by simp) _))) by_16)
           have bz_17 : w17.cell? ⟨w5.heap.size + 1 + 1, 0, none⟩ = some (.slice Az Z.length cz) := cell_keep hb17 (cell_keep (W := w16) (by (repeat (first | exact Below.refl _ _ | refine bel_drewN ?_ _ | refine bel_drew ?_ | refine bel_alloc ?_ _ | refine bel_set ?_ (by simp) _))) bz_16)
           have Sx_17 : Hid (Sp w17 Ax cx (X)) := Sp.below (by repeat (first | exact Sx_16.out | refine Sp.alloc ?_ _ | refine Sp.drewN ?_ _ | refine Sp.drew ?_)) hb17
           have Sy_17 : Hid (Sp w17 Ay cy (Y)) := Sp.below (by repeat (first | exact Sy_16.out | refine Sp.alloc ?_ _ | refine Sp.drewN ?_ _ | refine Sp.drew ?_)) hb17
           have Sz_17 : Hid (Sp w17 Az cz (Z)) := Sp.below (by repeat (first | exact Sz_16.out | refine Sp.alloc ?_ _ | refine Sp.drewN ?_ _ | refine Sp.drew ?_)) hb17
           have Su_17 : Hid (Sp w17 Au cu (ofOp Y Z 1)) := Sp.below (by repeat (first | exact Su_16.out | refine Sp.alloc ?_ _ | refine Sp.drewN ?_ _ | refine Sp.drew ?_)) hb17
           have Sv_17 : Hid (Sp w17 Av cv (ofOp X (ofOp Y Z 1) 2)) := Sp.below (by repeat (first | exact Sv_16.out | refine Sp.alloc ?_ _ | refine Sp.drewN ?_ _ | refine Sp.drew ?_)) hb17
           have Sp_17 : Hid (Sp w17 Ap cp (ofOp X Y 2)) := Sp.below (by repeat (first | exact Sp_16.out | refine Sp.alloc ?_ _ | refine Sp.drewN ?_ _ | refine Sp.drew ?_)) hb17
           have Sq_17 : Hid (Sp w17 Aq cq (ofOp X Z 2)) := Sp.below (by repeat (first | exact Sq_16.out | refine Sp.alloc ?_ _ | refine Sp.drewN ?_ _ | refine Sp.drew ?_)) hb17
           have Ss_17 : Hid (Sp w17 As cs (ofOp X (ofOp Y Z 1) 2)) := Sp.below (by repeat (first | exact Ss_16.out | refine Sp.alloc ?_ _ | refine Sp.drewN ?_ _ | refine Sp.drew ?_)) hb17
           have zbx_17 : w5.heap.size < w17.heap.size := World.block_lt_of_cell? w17 ⟨w5.heap.size, 0, none⟩ bx_17
           have zby_17 : w5.heap.size + 1 < w17.heap.size := World.block_lt_of_cell? w17 ⟨w5.heap.size + 1, 0, none⟩ by_17
           have zbz_17 : w5.heap.size + 1 + 1 < w17.heap.size := World.block_lt_of_cell? w17 ⟨w5.heap.size + 1 + 1, 0, none⟩ bz_17
           clear bx_16 by_16 bz_16 Sx_16 Sy_16 Sz_16 Su_16 Sv_16 Sp_16 Sq_16 Ss_16 HB_16 zbx_16 zby_16 zbz_16 hb17
           clear Su_17
           clear Sv_17
           clear Sp_17
           clear Sq_17
           clear Ss_17
           have tok18 : True := trivial)
        | (go_at_call 56
           have _tk := tok18
           clear _tk tok18
           refine (less_as Ax cx (X) Ay cy (Y) (ofOp X Y 3) rfl _ (by repeat (first | exact Sx_17.out | refine Sp.alloc ?_ _ | refine Sp.drewN ?_ _ | refine Sp.drew ?_)) (by repeat (first | exact Sy_17.out | refine Sp.alloc ?_ _ | refine Sp.drewN ?_ _ | refine Sp.drew ?_)) HX.out HY.out (by omega) (by omega)).mono ?_
           rintro e18 w18 ⟨Au, cu, rfl, hs18, hb18⟩
           have HB_18 : Hid (Below w.heap.size w w18) := bel_chain hb18 (by repeat (first | exact HB_17.out | refine bel_drewN ?_ _ | refine bel_drew ?_ | refine bel_alloc ?_ _))
           have bx_18 : w18.cell? ⟨w5.heap.size, 0, none⟩ = some (.slice Ax X.length cx) := cell_keep hb18 (cell_keep (W := w17) (by (repeat (first | exact Below.refl _ _ | refine bel_drewN ?_ _ | refine bel_drew ?_ | refine bel_alloc ?_ _ | refine bel_set ?_ (by simp) _))) bx_17)
           have by_18 : w18.cell? ⟨w5.heap.size + 1, 0, none⟩ = some (.slice Ay Y.length cy) := cell_keep hb18 (cell_keep (W := w17) (by (repeat (first | exact Below.refl _ _ | refine bel_drewN ?_ _ | refine bel_drew ?_ | refine bel_alloc ?_ _ | refine bel_set ?_ (by simp) _))) by_17)
           have bz_18 : w18.cell? ⟨w5.heap.size + 1 + 1, 0, none⟩ = some (.slice Az Z.length cz) := cell_keep hb18 (cell_keep (W := w17) (by (repeat (first | exact Below.refl _ _ | refine bel_drewN ?_ _ | refine bel_drew ?_ | refine bel_alloc ?_ _ | refine bel_set ?_ (by simp) _))) bz_17)
           have Sx_18 : Hid (Sp w18 Ax cx (X)) := Sp.below (by repeat (first | exact Sx_17.out | refine Sp.alloc ?_ _ | refine Sp.drewN ?_ _ | refine Sp.drew ?_)) hb18
           have Sy_18 : Hid (Sp w18 Ay cy (Y)) := Sp.below (by repeat (first | exact Sy_17.out | refine Sp.alloc ?_ _ | refine Sp.drewN ?_ _ | refine Sp.drew ?_)) hb18
           have Sz_18 : Hid (Sp w18 Az cz (Z)) := Sp.below (by repeat (first | exact Sz_17.out | refine Sp.alloc ?_ _ | refine Sp.drewN ?_ _ | refine Sp.drew ?_)) hb18
           have zbx_18 : w5.heap.size < w18.heap.size := World.block_lt_of_cell? w18 ⟨w5.heap.size, 0, none⟩ bx_18
           have zby_18 : w5.heap.size + 1 < w18.heap.size := World.block_lt_of_cell? w18 ⟨w5.heap.size + 1, 0, none⟩ by_18
           have zbz_18 : w5.heap.size + 1 + 1 < w18.heap.size := World.block_lt_of_cell? w18 ⟨w5.heap.size + 1 + 1, 0, none⟩ bz_18
           have Su_18 : Hid (Sp w18 Au cu (ofOp X Y 3)) := hs18
           clear bx_17 by_17 bz_17 Sx_17 Sy_17 Sz_17 hs18 HB_17 zbx_17 zby_17 zbz_17 hb18
           have tok19 : True := trivial)
        | (go_at_call 54
           have _tk := tok19
           clear _tk tok19
           refine (and_as Ax cx (X) Ay cy (Y) (ofOp X Y 2) rfl _ (by repeat (first | exact Sx_18.out | refine Sp.alloc ?_ _ | refine Sp.drewN ?_ _ | refine Sp.drew ?_)) (by repeat (first | exact Sy_18.out | refine Sp.alloc ?_ _ | refine Sp.drewN ?_ _ | refine Sp.drew ?_)) HX.out HY.out (by omega) (by omega)).mono ?_
           rintro e19 w19 ⟨Av, cv, rfl, hs19, hb19⟩
           have HB_19 : Hid (Below w.heap.size w w19) := bel_chain hb19 (by repeat (first | exact HB_18.out | refine bel_drewN ?_ _ | refine bel_drew ?_ | refine bel_alloc ?_ _))
           have bx_19 : w19.cell? ⟨w5.heap.size, 0, none⟩ = some (.slice Ax X.length cx) := cell_keep hb19 (cell_keep (W := w18) (by (repeat (first | exact Below.refl _ _ | refine bel_drewN ?_ _ | refine bel_drew ?_ | refine bel_alloc ?_ _ | refine bel_set ?_ (by simp) _))) bx_18)
           have by_19 : w19.cell? ⟨w5.heap.size + 1, 0, none⟩ = some (.slice Ay Y.length cy) := cell_keep hb19 (cell_keep (W := w18) (by (repeat (first | exact Below.refl _ _ | refine bel_drewN ?_ _ | refine bel_drew ?_ | refine bel_alloc ?_ _ | refine bel_set ?_ (by simp) _))) by_18)
           have bz_19 : w19.cell? ⟨w5.heap.size + 1 + 1, 0, none⟩ = some (.slice Az Z.length cz) := cell_keep hb19 (cell_keep (W := w18) (by (repeat (first | exact Below.refl _ _ | refine bel_drewN ?_ _ | refine bel_drew ?_ | refine bel_alloc ?_ _ | refine bel_set ?_ (by simp) _))) bz_18)
           have Sx_19 : Hid (Sp w19 Ax cx (X)) := Sp.below (by repeat (first | exact Sx_18.out | refine Sp.alloc ?_ _ | refine Sp.drewN ?_ _ | refine Sp.drew ?_)) hb19
           have Sy_19 : Hid (Sp w19 Ay cy (Y)) := Sp.below (by repeat (first | exact Sy_18.out | refine Sp.alloc ?_ _ | refine Sp.drewN ?_ _ | refine Sp.drew ?_)) hb19
           have Sz_19 : Hid (Sp w19 Az cz (Z)) := Sp.below (by repeat (first | exact Sz_18.out | refine Sp.alloc ?_ _ | refine Sp.drewN ?_ _ | refine Sp.drew ?_)) hb19
           have Su_19 : Hid (Sp w19 Au cu (ofOp X Y 3)) := Sp.below (by repeat (first | exact Su_18.out | refine Sp.alloc ?_ _ | refine Sp.drewN ?_ _ | refine Sp.drew ?_)) hb19
           have zbx_19 : w5.heap.size < w19.heap.size := World.block_lt_of_cell? w19 ⟨w5.heap.size, 0, none⟩ bx_19
           have zby_19 : w5.heap.size + 1 < w19.heap.size := World.block_lt_of_cell? w19 ⟨w5.heap.size + 1, 0, none⟩ by_19
           have zbz_19 : w5.heap.size + 1 + 1 < w19.heap.size := World.block_lt_of_cell? w19 ⟨w5.heap.size + 1 + 1, 0, none⟩ bz_19
           have Sv_19 : Hid (Sp w19 Av cv (ofOp X Y 2)) := hs19
           clear bx_18 by_18 bz_18 Sx_18 Sy_18 Sz_18 Su_18 hs19 HB_18 zbx_18 zby_18 zbz_18 hb19
           have tok20 : True := trivial)
        | (go_at_call 32
           have _tk := tok20
           clear _tk tok20
           refine (or_as Au cu (ofOp X Y 3) Av cv (ofOp X Y 2) (X) (law3 HX.out) _ (by repeat (first | exact Su_19.out | refine Sp.alloc ?_ _ | refine Sp.drewN ?_ _ | refine Sp.drew ?_)) (by repeat (first | exact Sv_19.out | refine Sp.alloc ?_ _ | refine Sp.drewN ?_ _ | refine Sp.drew ?_)) (ofOp_canon _ _ _) (ofOp_canon _ _ _) (by omega) (by omega)).mono ?_
           rintro e20 w20 ⟨Ap, cp, rfl, hs20, hb20⟩
           have HB_20 : Hid (Below w.heap.size w w20) := bel_chain hb20 (by repeat (first | exact HB_19.out | refine bel_drewN ?_ _ | refine bel_drew ?_ | refine bel_alloc ?_ _))
           have bx_20 : w20.cell? ⟨w5.heap.size, 0, none⟩ = some (.slice Ax X.length cx) := cell_keep hb20 (cell_keep (W := w19) (by (repeat (first | exact Below.refl _ _ | refine bel_drewN ?_ _ | refine bel_drew ?_ | refine bel_alloc ?_ _ | refine bel_set ?_ (by simp) _))) bx_19)
           have by_20 : w20.cell? ⟨w5.heap.size + 1, 0, none⟩ = some (.slice Ay Y.length cy) := cell_keep hb20 (cell_keep (W := w19) (by (repeat (first | exact Below.refl _ _ | refine bel_drewN ?_ _ | refine bel_drew ?_ | refine bel_alloc ?_ _ | refine bel_set ?_ (by simp) _))) by_19)
           have bz_20 : w20.cell? ⟨w5.heap.size + 1 + 1, 0, none⟩ = some (.slice Az Z.length cz) := cell_keep hb20 (cell_keep (W := w19) (by (repeat (first | exact Below.refl _ _ | refine bel_drewN ?_ _ | refine bel_drew ?_ | refine bel_alloc ?_ _ | refine bel_set ?_ (by simp) _))) bz_19)
           have Sx_20 : Hid (Sp w20 Ax cx (X)) := Sp.below (by repeat (first | exact Sx_19.out | refine Sp.alloc ?_ _ | refine Sp.drewN ?_ _ | refine Sp.drew ?_)) hb20
           have Sy_20 : Hid (Sp w20 Ay cy (Y)) := Sp.below (by repeat (first | exact Sy_19.out | refine Sp.alloc ?_ _ | refine Sp.drewN ?_ _ | refine Sp.drew ?_)) hb20
           have Sz_20 : Hid (Sp w20 Az cz (Z)) := Sp.below (by repeat (first | exact Sz_19.out | refine Sp.alloc ?_ _ | refine Sp.drewN ?_ _ | refine Sp.drew ?_)) hb20
           have Su_20 : Hid (Sp w20 Au cu (ofOp X Y 3)) := Sp.below (by repeat (first | exact Su_19.out | refine Sp.alloc ?_ _ | refine Sp.drewN ?_ _ | refine Sp.drew ?_)) hb20
           have Sv_20 : Hid (Sp w20 Av cv (ofOp X Y 2)) := Sp.below (by repeat (first | exact Sv_19.out | refine Sp.alloc ?_ _ | refine Sp.drewN ?_ _ | refine Sp.drew ?_)) hb20
           have zbx_20 : w5.heap.size < w20.heap.size := World.block_lt_of_cell? w20 ⟨w5.heap.size, 0, none⟩ bx_20
           have zby_20 : w5.heap.size + 1 < w20.heap.size := World.block_lt_of_cell? w20 ⟨w5.heap.size + 1, 0, none⟩ by_20
           have zbz_20 : w5.heap.size + 1 + 1 < w20.heap.size := World.block_lt_of_cell? w20 ⟨w5.heap.size + 1 + 1, 0, none⟩ bz_20
           have Sp_20 : Hid (Sp w20 Ap cp (X)) := hs20
           clear bx_19 by_19 bz_19 Sx_19 Sy_19 Sz_19 Su_19 Sv_19 hs20 HB_19 zbx_19 zby_19 zbz_19 hb20
           have tok21 : True := trivial)
        | (go_at_call 39
           have _tk := tok21
           clear _tk tok21
           refine (same_same Ap cp X Ax cx _ (by repeat (first | exact Sp_20.out | refine Sp.alloc ?_ _ | refine Sp.drewN ?_ _ | refine Sp.drew ?_)) (by repeat (first | exact Sx_20.out | refine Sp.alloc ?_ _ | refine Sp.drewN ?_ _ | refine Sp.drew ?_)) (by omega)).mono ?_
           rintro e21 w21 ⟨rfl, hb21⟩
           have HB_21 : Hid (Below w.heap.size w w21) := bel_chain hb21 (by repeat (first | exact HB_20.out | refine bel_drewN ?_ _ | refine bel_drew ?_ | refine bel_alloc ?_ _))
           have bx_21 : w21.cell? ⟨w5.heap.size, 0, none⟩ = some (.slice Ax X.length cx) := cell_keep hb21 (cell_keep (W := w20) (by (repeat (first | exact Below.refl _ _ | refine bel_drewN ?_ _ | refine bel_drew ?_ | refine bel_alloc ?_ _ | refine bel_set ?_ (by simp) _))) bx_20)
           have by_21 : w21.cell? ⟨w5.heap.size + 1, 0, none⟩ = some (.slice Ay Y.length cy) := cell_keep hb21 (cell_keep (W := w20) (by (repeat (first | exact Below.refl _ _ | refine bel_drewN ?_ _ | refine bel_drew ?_ | refine bel_alloc ?_ _ | refine bel_set ?_ (by simp) _))) by_20)
           have bz_21 : w21.cell? ⟨w5.heap.size + 1 + 1, 0, none⟩ = some (.slice Az Z.length cz) := cell_keep hb21 (cell_keep (W := w20) (by (repeat (first | exact Below.refl _ _ | refine bel_drewN ?_ _ | refine bel_drew ?_ | refine bel_alloc ?_ _ | refine bel_set ?_ (by simp) _))) bz_20)
           have Sx_21 : Hid (Sp w21 Ax cx (X)) := Sp.below (by repeat (first | exact Sx_20.out | refine Sp.alloc ?_ _ | refine Sp.drewN ?_ _ | refine Sp.drew ?_)) hb21
           have Sy_21 : Hid (Sp w21 Ay cy (Y)) := Sp.below (by repeat (first | exact Sy_20.out | refine Sp.alloc ?_ _ | refine Sp.drewN ?_ _ | refine Sp.drew ?_)) hb21
           have Sz_21 : Hid (Sp w21 Az cz (Z)) := Sp.below (by repeat (first | exact Sz_20.out | refine Sp.alloc ?_ _ | refine Sp.drewN ?_ _ | refine Sp.drew ?_)) hb21
           have Su_21 : Hid (Sp w21 Au cu (ofOp X Y 3)) := Sp.below (by repeat (first | exact Su_20.out | refine Sp.alloc ?_ _ | refine Sp.drewN ?_ _ | refine Sp.drew ?_)) hb21
           have Sv_21 : Hid (Sp w21 Av cv (ofOp X Y 2)) := Sp.below (by repeat (first | exact Sv_20.out | refine Sp.alloc ?_ _ | refine Sp.drewN ?_ _ | refine Sp.drew ?_)) hb21
           have Sp_21 : Hid (Sp w21 Ap cp (X)) := Sp.below (by repeat (first | exact Sp_20.out | refine Sp.alloc ?_ _ | refine Sp.drewN ?_ _ | refine Sp.drew ?_)) hb21
           have zbx_21 : w5.heap.size < w21.heap.size := World.block_lt_of_cell? w21 ⟨w5.heap.size, 0, none⟩ bx_21
           have zby_21 : w5.heap.size + 1 < w21.heap.size := World.block_lt_of_cell? w21 ⟨w5.heap.size + 1, 0, none⟩ by_21
           have zbz_21 : w5.heap.size + 1 + 1 < w21.heap.size := World.block_lt_of_cell? w21 ⟨w5.heap.size + 1 + 1, 0, none⟩ bz_21
           clear bx_20 by_20 bz_20 Sx_20 Sy_20 Sz_20 Su_20 Sv_20 Sp_20 HB_20 zbx_20 zby_20 zbz_20 hb21
           clear Su_21
           clear Sv_21
           clear Sp_21
           have tok22 : True := trivial)
        | (go_at_call 56
           have _tk := tok22
           clear _tk tok22
           refine (less_as Ax cx (X) Ax cx (X) ([]) law4 _ (by repeat (first | exact Sx_21.out | refine Sp.alloc ?_ _ | refine Sp.drewN ?_ _ | refine Sp.drew ?_)) (by repeat (first | exact Sx_21.out | refine Sp.alloc ?_ _ | refine Sp.drewN ?_ _ | refine Sp.drew ?_)) HX.out HX.out (by omega) (by omega)).mono ?_
           rintro e22 w22 ⟨Au, cu, rfl, hs22, hb22⟩
           have HB_22 : Hid (Below w.heap.size w w22) := bel_chain hb22 (by repeat (first | exact HB_21.out | refine bel_drewN ?_ _ | refine bel_drew ?_ | refine bel_alloc ?_ _))
           have bx_22 : w22.cell? ⟨w5.heap.size, 0, none⟩ = some (.slice Ax X.length cx) := cell_keep hb22 (cell_keep (W := w21) (by (repeat (first | exact Below.refl _ _ | refine bel_drewN ?_ _ | refine bel_drew ?_ | refine bel_alloc ?_ _ | refine bel_set ?_ (by simp) _))) bx_21)
           have by_22 : w22.cell? ⟨w5.heap.size + 1, 0, none⟩ = some (.slice Ay Y.length cy) := cell_keep hb22 (cell_keep (W := w21) (by (repeat (first | exact Below.refl _ _ | refine bel_drewN ?_ _ | refine bel_drew ?_ | refine bel_alloc ?_ _ | refine bel_set ?_ (by simp) _))) by_21)
           have bz_22 : w22.cell? ⟨w5.heap.size + 1 + 1, 0, none⟩ = some (.slice Az Z.length cz) := cell_keep hb22 (cell_keep (W := w21) (by (repeat (first | exact Below.refl _ _ | refine bel_drewN ?_ _ | refine bel_drew ?_ | refine bel_alloc ?_ _ | refine bel_set ?_ (by simp) _))) bz_21)
           have Sx_22 : Hid (Sp w22 Ax cx (X)) := Sp.below (by repeat (first | exact Sx_21.out | refine Sp.alloc ?_ _ | refine Sp.drewN ?_ _ | refine Sp.drew ?_)) hb22
           have Sy_22 : Hid (Sp w22 Ay cy (Y)) := Sp.below (by repeat (first | exact Sy_21.out | refine Sp.alloc ?_ _ | refine Sp.drewN ?_ _ | refine Sp.drew ?_)) hb22
           have Sz_22 : Hid (Sp w22 Az cz (Z)) := Sp.below (by repeat (first | exact Sz_21.out | refine Sp.alloc ?_ _ | refine Sp.drewN ?_ _ | refine Sp.drew ?_)) hb22
           have zbx_22 : w5.heap.size < w22.heap.size := World.block_lt_of_cell? w22 ⟨w5.heap.size, 0, none⟩ bx_22
           have zby_22 : w5.heap.size + 1 < w22.heap.size := World.block_lt_of_cell? w22 ⟨w5.heap.size + 1, 0, none⟩ by_22
           have zbz_22 : w5.heap.size + 1 + 1 < w22.heap.size := World.block_lt_of_cell? w22 ⟨w5.heap.size + 1 + 1, 0, none⟩ bz_22
           have Su_22 : Hid (Sp w22 Au cu ([])) := hs22
           clear bx_21 by_21 bz_21 Sx_21 Sy_21 Sz_21 hs22 HB_21 zbx_21 zby_21 zbz_21 hb22
           have tok23 : True := trivial)
        | (go_at_call 35
           have _tk := tok23
           clear _tk tok23
           refine (len_nil Au cu _ (by repeat (first | exact Su_22.out | refine Sp.alloc ?_ _ | refine Sp.drewN ?_ _ | refine Sp.drew ?_))).mono ?_
           rintro e23 w23 ⟨rfl, hb23⟩
           have HB_23 : Hid (Below w.heap.size w w23) := bel_chain hb23 (by repeat (first | exact HB_22.out | refine bel_drewN ?_ _ | refine bel_drew ?_ | refine bel_alloc ?_ _))
           have bx_23 : w23.cell? ⟨w5.heap.size, 0, none⟩ = some (.slice Ax X.length cx) := cell_keep hb23 (cell_keep (W := w22) (by (repeat (first | exact Below.refl _ _ | refine bel_drewN ?_ _ | refine bel_drew ?_ | refine bel_alloc ?_ _ | refine bel_set ?_ (by simp) _))) bx_22)
           have by_23 : w23.cell? ⟨w5.heap.size + 1, 0, none⟩ = some (.slice Ay Y.length cy) := cell_keep hb23 (cell_keep (W := w22) (by (repeat (first | exact Below.refl _ _ | refine bel_drewN ?_ _ | refine bel_drew ?_ | refine bel_alloc ?_ _ | refine bel_set ?_ (by simp) _))) by_22)
           have bz_23 : w23.cell? ⟨w5.heap.size + 1 + 1, 0, none⟩ = some (.slice Az Z.length cz) := cell_keep hb23 (cell_keep (W := w22) (by (repeat (first | exact Below.refl _ _ | refine bel_drewN ?_ _ | refine bel_drew ?_ | refine bel_alloc ?_ _ | refine bel_set ?_ (by simp) _))) bz_22)
           have Sx_23 : Hid (Sp w23 Ax cx (X)) := Sp.below (by repeat (first | exact Sx_22.out | refine Sp.alloc ?_ _ | refine Sp.drewN ?_ _ | refine Sp.drew ?_)) hb23
           have Sy_23 : Hid (Sp w23 Ay cy (Y)) := Sp.below (by repeat (first | exact Sy_22.out | refine Sp.alloc ?_ _ | refine Sp.drewN ?_ _ | refine Sp.drew ?_)) hb23
           have Sz_23 : Hid (Sp w23 Az cz (Z)) := Sp.below (by repeat (first | exact Sz_22.out | refine Sp.alloc ?_ _ | refine Sp.drewN ?_ _ | refine Sp.drew ?_)) hb23
           have Su_23 : Hid (Sp w23 Au cu ([])) := Sp.below (by repeat (first | exact Su_22.out | refine Sp.alloc ?_ _ | refine Sp.drewN ?_ _ | refine Sp.drew ?_)) hb23
           have zbx_23 : w5.heap.size < w23.heap.size := World.block_lt_of_cell? w23 ⟨w5.heap.size, 0, none⟩ bx_23
           have zby_23 : w5.heap.size + 1 < w23.heap.size := World.block_lt_of_cell? w23 ⟨w5.heap.size + 1, 0, none⟩ by_23
           have zbz_23 : w5.heap.size + 1 + 1 < w23.heap.size := World.block_lt_of_cell? w23 ⟨w5.heap.size + 1 + 1, 0, none⟩ bz_23
           clear bx_22 by_22 bz_22 Sx_22 Sy_22 Sz_22 Su_22 HB_22 zbx_22 zby_22 zbz_22 hb23
           clear Su_23
           have tok24 : True := trivial)
        | (go_at_call 32
           have _tk := tok24
           clear _tk tok24
           refine (or_as Ax cx (X) Ay cy (Y) (ofOp X Y 1) rfl _ (by repeat (first | exact Sx_23.out | refine Sp.alloc ?_ _ | refine Sp.drewN ?_ _ | refine Sp.drew ?_)) (by repeat (first | exact Sy_23.out | refine Sp.alloc ?_ _ | refine Sp.drewN ?_ _ | refine Sp.drew ?_)) HX.out HY.out (by omega) (by omega)).mono ?_
           rintro e24 w24 ⟨Au, cu, rfl, hs24, hb24⟩
           have HB_24 : Hid (Below w.heap.size w w24) := bel_chain hb24 (by repeat (first | exact HB_23.out | refine bel_drewN ?_ _ | refine bel_drew ?_ | refine bel_alloc ?_ _))
           have bx_24 : w24.cell? ⟨w5.heap.size, 0, none⟩ = some (.slice Ax X.length cx) := cell_keep hb24 (cell_keep (W := w23) (by (repeat (first | exact Below.refl _ _ | refine bel_drewN ?_ _ | refine bel_drew ?_ | refine bel_alloc ?_ _ | refine bel_set ?_ (by simp) _))) bx_23)
           have by_24 : w24.cell? ⟨w5.heap.size + 1, 0, none⟩ = some (.slice Ay Y.length cy) := cell_keep hb24 (cell_keep (W := w23) (by (repeat (first | exact Below.refl _ _ | refine bel_drewN ?_ _ | refine bel_drew ?_ | refine bel_alloc ?_ _ | refine bel_set ?_ (by simp) _))) by_23)
           have bz_24 : w24.cell? ⟨w5.heap.size + 1 + 1, 0, none⟩ = some (.slice Az Z.length cz) := cell_keep hb24 (cell_keep (W := w23) (by (repeat (first | exact Below.refl _ _ | refine bel_drewN ?_ _ | refine bel_drew ?_ | refine bel_alloc ?_ _ | refine bel_set ?_ (by simp) _))) bz_23)
           have Sx_24 : Hid (Sp w24 Ax cx (X)) := Sp.below (by repeat (first | exact Sx_23.out | refine Sp.alloc ?_ _ | refine Sp.drewN ?_ _ | refine Sp.drew ?_)) hb24
           have Sy_24 : Hid (Sp w24 Ay cy (Y)) := Sp.below (by repeat (first | exact Sy_23.out | refine Sp.alloc ?_ _ | refine Sp.drewN ?_ _ | refine Sp.drew ?_)) hb24
           have Sz_24 : Hid (Sp w24 Az cz (Z)) := Sp.below (by repeat (first | exact Sz_23.out | refine Sp.alloc ?_ _ | refine Sp.drewN ?_ _ | refine Sp.drew ?_)) hb24
           have zbx_24 : w5.heap.size < w24.heap.size := World.block_lt_of_cell? w24 ⟨w5.heap.size, 0, none⟩ bx_24
           have zby_24 : w5.heap.size + 1 < w24.heap.size := World.block_lt_of_cell? w24 ⟨w5.heap.size + 1, 0, none⟩ by_24
           have zbz_24 : w5.heap.size + 1 + 1 < w24.heap.size := World.block_lt_of_cell? w24 ⟨w5.heap.size + 1 + 1, 0, none⟩ bz_24
           have Su_24 : Hid (Sp w24 Au cu (ofOp X Y 1)) := hs24
           clear bx_23 by_23 bz_23 Sx_23 Sy_23 Sz_23 hs24 HB_23 zbx_23 zby_23 zbz_23 hb24
           have tok25 : True := trivial)
        | (go_at_call 32
           have _tk := tok25
           clear _tk tok25
           refine (or_as Ay cy (Y) Ax cx (X) (ofOp X Y 1) law5 _ (by repeat (first | exact Sy_24.out | refine Sp.alloc ?_ _ | refine Sp.drewN ?_ _ | refine Sp.drew ?_)) (by repeat (first | exact Sx_24.out | refine Sp.alloc ?_ _ | refine Sp.drewN ?_ _ | refine Sp.drew ?_)) HY.out HX.out (by omega) (by omega)).mono ?_
           rintro e25 w25 ⟨Av, cv, rfl, hs25, hb25⟩
           have HB_25 : Hid (Below w.heap.size w w25) := bel_chain hb25 (by repeat (first | exact HB_24.out | refine bel_drewN ?_ _ | refine bel_drew ?_ | refine bel_alloc ?_ _))
           have bx_25 : w25.cell? ⟨w5.heap.size, 0, none⟩ = some (.slice Ax X.length cx) := cell_keep hb25 (cell_keep (W := w24) (by (repeat (first | exact Below.refl _ _ | refine bel_drewN ?_ _ | refine bel_drew ?_ | refine bel_alloc ?_ _ | refine bel_set ?_ (by simp) _))) bx_24)
           have by_25 : w25.cell? ⟨w5.heap.size + 1, 0, none⟩ = some (.slice Ay Y.length cy) := cell_keep hb25 (cell_keep (W := w24) (by (repeat (first | exact Below.refl _ _ | refine bel_drewN ?_ _ | refine bel_drew ?_ | refine bel_alloc ?_ _ | refine bel_set ?_ (by simp) _))) by_24)
           have bz_25 : w25.cell? ⟨w5.heap.size + 1 + 1, 0, none⟩ = some (.slice Az Z.length cz) := cell_keep hb25 (cell_keep (W := w24) (by (repeat (first | exact Below.refl _ _ | refine bel_drewN ?_ _ | refine bel_drew ?_ | refine bel_alloc ?_ _ | refine bel_set ?_ (by simp) _))) bz_24)
           have Sx_25 : Hid (Sp w25 Ax cx (X)) := Sp.below (by repeat (first | exact Sx_24.out | refine Sp.alloc ?_ _ | refine Sp.drewN ?_ _ | refine Sp.drew ?_)) hb25
           have Sy_25 : Hid (Sp w25 Ay cy (Y)) := Sp.below (by repeat (first | exact Sy_24.out | refine Sp.alloc ?_ _ | refine Sp.drewN ?_ _ | refine Sp.drew ?_)) hb25
           have Sz_25 : Hid (Sp w25 Az cz (Z)) := Sp.below (by repeat (first | exact Sz_24.out | refine Sp.alloc ?_ _ | refine Sp.drewN ?_ _ | refine Sp.drew ?_)) hb25
           have Su_25 : Hid (Sp w25 Au cu (ofOp X Y 1)) := Sp.below (by repeat (first | exact Su_24.out | refine Sp.alloc ?_ _ | refine Sp.drewN ?_ _ | refine Sp.drew ?_)) hb25
           have zbx_25 : w5.heap.size < w25.heap.size := World.block_lt_of_cell? w25 ⟨w5.heap.size, 0, none⟩ bx_25
           have zby_25 : w5.heap.size + 1 < w25.heap.size := World.block_lt_of_cell? w25 ⟨w5.heap.size + 1, 0, none⟩ by_25
           have zbz_25 : w5.heap.size + 1 + 1 < w25.heap.size := World.block_lt_of_cell? w25 ⟨w5.heap.size + 1 + 1, 0, none⟩ bz_25
           have Sv_25 : Hid (Sp w25 Av cv (ofOp X Y 1)) := hs25
           clear bx_24 by_24 bz_24 Sx_24 Sy_24 Sz_24 Su_24 hs25 HB_24 zbx_24 zby_24 zbz_24 hb25
           have tok26 : True := trivial)
        | (go_at_call 39
           have _tk := tok26
           clear _tk tok26
           refine (same_same Au cu (ofOp X Y 1) Av cv _ (by repeat (first | exact Su_25.out | refine Sp.alloc ?_ _ | refine Sp.drewN ?_ _ | refine Sp.drew ?_)) (by repeat (first | exact Sv_25.out | refine Sp.alloc ?_ _ | refine Sp.drewN ?_ _ | refine Sp.drew ?_)) (by omega)).mono ?_
           rintro e26 w26 ⟨rfl, hb26⟩
           have HB_26 : Hid (Below w.heap.size w w26) := bel_chain hb26 (by repeat (first | exact HB_25.out | refine bel_drewN ?_ _ | refine bel_drew ?_ | refine bel_alloc ?_ _))
           have bx_26 : w26.cell? ⟨w5.heap.size, 0, none⟩ = some (.slice Ax X.length cx) := cell_keep hb26 (cell_keep (W := w25) (by (repeat (first | exact Below.refl _ _ | refine bel_drewN ?_ _ | refine bel_drew ?_ | refine bel_alloc ?_ _ | refine bel_set ?_ (by simp) _))) bx_25)
           have by_26 : w26.cell? ⟨w5.heap.size + 1, 0, none⟩ = some (.slice Ay Y.length cy) := cell_keep hb26 (cell_keep (W := w25) (by (repeat (first | exact Below.refl _ _ | refine bel_drewN ?_ _ | refine bel_drew ?_ | refine bel_alloc ?_ _ | refine bel_set ?_ (by simp) _))) by_25)
           have bz_26 : w26.cell? ⟨w5.heap.size + 1 + 1, 0, none⟩ = some (.slice Az Z.length cz) := cell_keep hb26 (cell_keep (W := w25) (by (repeat (first | exact Below.refl _ _ | refine bel_drewN ?_ _ | refine bel_drew ?_ | refine bel_alloc ?_ _ | refine bel_set ?_ (by simp) _))) bz_25)
           have Sx_26 : Hid (Sp w26 Ax cx (X)) := Sp.below (by repeat (first | exact Sx_25.out | refine Sp.alloc ?_ _ | refine Sp.drewN ?_ _ | refine Sp.drew ?_)) hb26
           have Sy_26 : Hid (Sp w26 Ay cy (Y)) := Sp.below (by repeat (first | exact Sy_25.out | refine Sp.alloc ?_ _ | refine Sp.drewN ?_ _ | refine Sp.drew ?_)) hb26
           have Sz_26 : Hid (Sp w26 Az cz (Z)) := Sp.below (by repeat (first | exact Sz_25.out | refine Sp.alloc ?_ _ | refine Sp.drewN ?_ _ | refine Sp.drew ?_)) hb26
           have Su_26 : Hid (Sp w26 Au cu (ofOp X Y 1)) := Sp.below (by repeat (first | exact Su_25.out | refine Sp.alloc ?_ _ | refine Sp.drewN ?_ _ | refine Sp.drew ?_)) hb26
           have Sv_26 : Hid (Sp w26 Av cv (ofOp X Y 1)) := Sp.below (by repeat (first | exact Sv_25.out | refine Sp.alloc ?_ _ | refine Sp.drewN ?_ _ | refine Sp.drew ?_)) hb26
           have zbx_26 : w5.heap.size < w26.heap.size := World.block_lt_of_cell? w26 ⟨w5.heap.size, 0, none⟩ bx_26
           have zby_26 : w5.heap.size + 1 < w26.heap.size := World.block_lt_of_cell? w26 ⟨w5.heap.size + 1, 0, none⟩ by_26
           have zbz_26 : w5.heap.size + 1 + 1 < w26.heap.size := World.block_lt_of_cell? w26 ⟨w5.heap.size + 1 + 1, 0, none⟩ bz_26
           clear bx_25 by_25 bz_25 Sx_25 Sy_25 Sz_25 Su_25 Sv_25 HB_25 zbx_25 zby_25 zbz_25 hb26
           clear Su_26
           clear Sv_26
           have tok27 : True := trivial)
        | (go_at_call 56
           have _tk := tok27
           clear _tk tok27
           refine (less_as Ax cx (X) Ay cy (Y) (ofOp X Y 3) rfl _ (by repeat (first | exact Sx_26.out | refine Sp.alloc ?_ _ | refine Sp.drewN ?_ _ | refine Sp.drew ?_)) (by repeat (first | exact Sy_26.out | refine Sp.alloc ?_ _ | refine Sp.drewN ?_ _ | refine Sp.drew ?_)) HX.out HY.out (by omega) (by omega)).mono ?_
           rintro e27 w27 ⟨Au, cu, rfl, hs27, hb27⟩
           have HB_27 : Hid (Below w.heap.size w w27) := bel_chain hb27 (by repeat (first | exact HB_26.out | refine bel_drewN ?_ _ | refine bel_drew ?_ | refine bel_alloc ?_ _))
           have bx_27 : w27.cell? ⟨w5.heap.size, 0, none⟩ = some (.slice Ax X.length cx) := cell_keep hb27 (cell_keep (W := w26) (by (repeat (first | exact Below.refl _ _ | refine bel_drewN ?_ _ | refine bel_drew ?_ | refine bel_alloc ?_ _ | refine bel_set ?_ (by simp) _))) bx_26)
           have by_27 : w27.cell? ⟨w5.heap.size + 1, 0, none⟩ = some (.slice Ay Y.length cy) := cell_keep hb27 (cell_keep (W := w26) (by (repeat (first | exact Below.refl _ _ | refine bel_drewN ?_ _ | refine bel_drew ?_ | refine bel_alloc ?_ _ | refine bel_set ?_ (by simp) _))) by_26)
           have bz_27 : w27.cell? ⟨w5.heap.size + 1 + 1, 0, none⟩ = some (.slice Az Z.length cz) := cell_keep hb27 (cell_keep (W := w26) (by (repeat (first | exact Below.refl _ _ | refine bel_drewN ?_ _ | refine bel_drew ?_ | refine bel_alloc ?_ _ | refine bel_set ?_ (by simp) _))) bz_26)
           have Sx_27 : Hid (Sp w27 Ax cx (X)) := Sp.below (by repeat (first | exact Sx_26.out | refine Sp.alloc ?_ _ | refine Sp.drewN ?_ _ | refine Sp.drew ?_)) hb27
           have Sy_27 : Hid (Sp w27 Ay cy (Y)) := Sp.below (by repeat (first | exact Sy_26.out | refine Sp.alloc ?_ _ | refine Sp.drewN ?_ _ | refine Sp.drew ?_)) hb27
           have Sz_27 : Hid (Sp w27 Az cz (Z)) := Sp.below (by repeat (first | exact Sz_26.out | refine Sp.alloc ?_ _ | refine Sp.drewN ?_ _ | refine Sp.drew ?_)) hb27
           have zbx_27 : w5.heap.size < w27.heap.size := World.block_lt_of_cell? w27 ⟨w5.heap.size, 0, none⟩ bx_27
           have zby_27 : w5.heap.size + 1 < w27.heap.size := World.block_lt_of_cell? w27 ⟨w5.heap.size + 1, 0, none⟩ by_27
           have zbz_27 : w5.heap.size + 1 + 1 < w27.heap.size := World.block_lt_of_cell? w27 ⟨w5.heap.size + 1 + 1, 0, none⟩ bz_27
           have Su_27 : Hid (Sp w27 Au cu (ofOp X Y 3)) := hs27
           clear bx_26 by_26 bz_26 Sx_26 Sy_26 Sz_26 hs27 HB_26 zbx_26 zby_26 zbz_26 hb27
           have tok28 : True := trivial)
        | (go_at_call 54
           have _tk := tok28
           clear _tk tok28
           refine (and_as Au cu (ofOp X Y 3) Ay cy (Y) ([]) law6 _ (by repeat (first | exact Su_27.out | refine Sp.alloc ?_ _ | refine Sp.drewN ?_ _ | refine Sp.drew ?_)) (by repeat (first | exact Sy_27.out | refine Sp.alloc ?_ _ | refine Sp.drewN ?_ _ | refine Sp.drew ?_)) (ofOp_canon _ _ _) HY.out (by omega) (by omega)).mono ?_
           rintro e28 w28 ⟨Av, cv, rfl, hs28, hb28⟩
           have HB_28 : Hid (Below w.heap.size w w28) := bel_chain hb28 (by repeat (first | exact HB_27.out | refine bel_drewN ?_ _ | refine bel_drew ?_ | refine bel_alloc ?_ _))
           have bx_28 : w28.cell? ⟨w5.heap.size, 0, none⟩ = some (.slice Ax X.length cx) := cell_keep hb28 (cell_keep (W := w27) (by (repeat (first | exact Below.refl _ _ | refine bel_drewN ?_ _ | refine bel_drew ?_ | refine bel_alloc ?_ _ | refine bel_set ?_ (by simp) _))) bx_27)
           have by_28 : w28.cell? ⟨w5.heap.size + 1, 0, none⟩ = some (.slice Ay Y.length cy) := cell_keep hb28 (cell_keep (W := w27) (by (repeat (first | exact Below.refl _ _ | refine bel_drewN ?_ _ | refine bel_drew ?_ | refine bel_alloc ?_ _ | refine bel_set ?_ (by simp) _))) by_27)
           have bz_28 : w28.cell? ⟨w5.heap.size + 1 + 1, 0, none⟩ = some (.slice Az Z.length cz) := cell_keep hb28 (cell_keep (W := w27) (by (repeat (first | exact Below.refl _ _ | refine bel_drewN ?_ _ | refine bel_drew ?_ | refine bel_alloc ?_ _ | refine bel_set ?_ (by simp) _))) bz_27)
           have Sx_28 : Hid (Sp w28 Ax cx (X)) := Sp.below (by repeat (first | exact Sx_27.out | refine Sp.alloc ?_ _ | refine Sp.drewN ?_ _ | refine Sp.drew ?_)) hb28
           have Sy_28 : Hid (Sp w28 Ay cy (Y)) := Sp.below (by repeat (first | exact Sy_27.out | refine Sp.alloc ?_ _ | refine Sp.drewN ?_ _ | refine Sp.drew ?_)) hb28
           have Sz_28 : Hid (Sp w28 Az cz (Z)) := Sp.below (by repeat (first | exact Sz_27.out | refine Sp.alloc ?_ _ | refine Sp.drewN ?_ _ | refine Sp.drew ?_)) hb28
           have Su_28 : Hid (Sp w28 Au cu (ofOp X Y 3)) := Sp.below (by repeat (first | exact Su_27.out | refine Sp.alloc ?_ _ | refine Sp.drewN ?_ _ | refine Sp.drew ?_)) hb28
           have zbx_28 : w5.heap.size < w28.heap.size := World.block_lt_of_cell? w28 ⟨w5.heap.size, 0, none⟩ bx_28
           have zby_28 : w5.heap.size + 1 < w28.heap.size := World.block_lt_of_cell? w28 ⟨w5.heap.size + 1, 0, none⟩ by_28
           have zbz_28 : w5.heap.size + 1 + 1 < w28.heap.size := World.block_lt_of_cell? w28 ⟨w5.heap.size + 1 + 1, 0, none⟩ bz_28
           have Sv_28 : Hid (Sp w28 Av cv ([])) := hs28
           clear bx_27 by_27 bz_27 Sx_27 Sy_27 Sz_27 Su_27 hs28 HB_27 zbx_27 zby_27 zbz_27 hb28
           have tok29 : True := trivial)
        | (go_at_call 39
           have _tk := tok29
           clear _tk tok29
           refine (same_same Av cv [] none 0 _ (by repeat (first | exact Sv_28.out | refine Sp.alloc ?_ _ | refine Sp.drewN ?_ _ | refine Sp.drew ?_)) (Sp.nil _) (by simp)).mono ?_
           rintro e29 w29 ⟨rfl, hb29⟩
           have HB_29 : Hid (Below w.heap.size w w29) := bel_chain hb29 (by repeat (first | exact HB_28.out | refine bel_drewN ?_ _ | refine bel_drew ?_ | refine bel_alloc ?_ _))
           have bx_29 : w29.cell? ⟨w5.heap.size, 0, none⟩ = some (.slice Ax X.length cx) := cell_keep hb29 (cell_keep (W := w28) (by (repeat (first | exact Below.refl _ _ | refine bel_drewN ?_ _ | refine bel_drew ?_ | refine bel_alloc ?_ _ | refine bel_set ?_ (by simp) _))) bx_28)
           have by_29 : w29.cell? ⟨w5.heap.size + 1, 0, none⟩ = some (.slice Ay Y.length cy) := cell_keep hb29 (cell_keep (W := w28) (by (repeat (first | exact Below.refl _ _ | refine bel_drewN ?_ _ | refine bel_drew ?_ | refine bel_alloc ?_ _ | refine bel_set ?_ (by simp) _))) by_28)
           have bz_29 : w29.cell? ⟨w5.heap.size + 1 + 1, 0, none⟩ = some (.slice Az Z.length cz) := cell_keep hb29 (cell_keep (W := w28) (by (repeat (first | exact Below.refl _ _ | refine bel_drewN ?_ _ | refine bel_drew ?_ | refine bel_alloc ?_ _ | refine bel_set ?_ (by simp) _))) bz_28)
           have Sx_29 : Hid (Sp w29 Ax cx (X)) := Sp.below (by repeat (first | exact Sx_28.out | refine Sp.alloc ?_ _ | refine Sp.drewN ?_ _ | refine Sp.drew ?_)) hb29
           have Sy_29 : Hid (Sp w29 Ay cy (Y)) := Sp.below (by repeat (first | exact Sy_28.out | refine Sp.alloc ?_ _ | refine Sp.drewN ?_ _ | refine Sp.drew ?_)) hb29
           have Sz_29 : Hid (Sp w29 Az cz (Z)) := Sp.below (by repeat (first | exact Sz_28.out | refine Sp.alloc ?_ _ | refine Sp.drewN ?_ _ | refine Sp.drew ?_)) hb29
           have Su_29 : Hid (Sp w29 Au cu (ofOp X Y 3)) := Sp.below (by repeat (first | exact Su_28.out | refine Sp.alloc ?_ _ | refine Sp.drewN ?_ _ | refine Sp.drew ?_)) hb29
           have Sv_29 : Hid (Sp w29 Av cv ([])) := Sp.below (by repeat (first | exact Sv_28.out | refine Sp.alloc ?_ _ | refine Sp.drewN ?_ _ | refine Sp.drew ?_)) hb29
           have zbx_29 : w5.heap.size < w29.heap.size := World.block_lt_of_cell? w29 ⟨w5.heap.size, 0, none⟩ bx_29
           have zby_29 : w5.heap.size + 1 < w29.heap.size := World.block_lt_of_cell? w29 ⟨w5.heap.size + 1, 0, none⟩ by_29
           have zbz_29 : w5.heap.size + 1 + 1 < w29.heap.size := World.block_lt_of_cell? w29 ⟨w5.heap.size + 1 + 1, 0, none⟩ bz_29
           clear bx_28 by_28 bz_28 Sx_28 Sy_28 Sz_28 Su_28 Sv_28 HB_28 zbx_28 zby_28 zbz_28 hb29
           clear Su_29
           clear Sv_29
           have tok30 : True := trivial))
    go_wp2_with fail
    go_ret
    exact ⟨rfl, by repeat (first | exact HB_29.out | refine bel_drewN ?_ _ | refine bel_drew ?_)⟩
end Go.Proofs.YtmbcnfgeobbldaaDoor
