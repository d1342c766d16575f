/- The walk of RangesHolds. -/
import Derived.Test.YtmbcnfgeobbldaaDoorC1
import Derived.Test.YtmbcnfgeobbldaaDoorD5
namespace Go.Proofs.YtmbcnfgeobbldaaDoor
open Go.RowKit

theorem great1_b (A : Option Addr) (n c g : Nat) (w : World) (h : w.cell? ⟨g, 0, none⟩ = some (.slice A n c)) (hn : n ≤ 9223372036854775807) :
    Calls Tryd.prog 20 #[.slice (some ⟨g, 0, none⟩) 1 1] w fun e w' => e = .returned (.bool (decide (20 < n))) ∧ Below w.heap.size w w' :=
  (great1_any A n c g w h hn).mono fun _ _ ⟨he, hw⟩ => ⟨he, by rw [hw]; exact Below.refl _ _⟩
theorem great2_b (A : Option Addr) (n c : Nat) (B : Option Addr) (m d g : Nat) (w : World) (h : w.cell? ⟨g, 0, none⟩ = some (.slice A n c)) (h' : w.cell? ⟨g, 1, none⟩ = some (.slice B m d)) (hn : n ≤ 9223372036854775807) (hm : m ≤ 9223372036854775807) :
    Calls Tryd.prog 20 #[.slice (some ⟨g, 0, none⟩) 2 2] w fun e w' => e = .returned (.bool (decide (20 < n) || decide (20 < m))) ∧ Below w.heap.size w w' := by
  have := great_any g [(A, n, c), (B, m, d)] w (fun i x hx => by
    match i, hx with
    | 0, hx => simp at hx; subst hx; exact h
    | 1, hx => simp at hx; subst hx; exact h'
    | i + 2, hx => simp at hx) (by simp) (fun x hx => by simp at hx; rcases hx with rfl | rfl <;> assumption)
  refine Calls.mono this ?_
  rintro e w' ⟨rfl, rfl⟩
  exact ⟨by simp [greatL], Below.refl _ _⟩
theorem great3_b (A : Option Addr) (n c : Nat) (B : Option Addr) (m d : Nat) (C : Option Addr) (k e g : Nat) (w : World) (h : w.cell? ⟨g, 0, none⟩ = some (.slice A n c)) (h' : w.cell? ⟨g, 1, none⟩ = some (.slice B m d)) (h2 : w.cell? ⟨g, 2, none⟩ = some (.slice C k e)) (hn : n ≤ 9223372036854775807) (hm : m ≤ 9223372036854775807) (hk : k ≤ 9223372036854775807) :
    Calls Tryd.prog 20 #[.slice (some ⟨g, 0, none⟩) 3 3] w fun r w' => r = .returned (.bool (decide (20 < n) || (decide (20 < m) || decide (20 < k)))) ∧ Below w.heap.size w w' := by
  have := great_any g [(A, n, c), (B, m, d), (C, k, e)] w (fun i x hx => by
    match i, hx with
    | 0, hx => simp at hx; subst hx; exact h
    | 1, hx => simp at hx; subst hx; exact h'
    | 2, hx => simp at hx; subst hx; exact h2
    | i + 3, hx => simp at hx) (by simp) (fun x hx => by simp at hx; rcases hx with rfl | rfl | rfl <;> assumption)
  refine Calls.mono this ?_
  rintro r w' ⟨rfl, rfl⟩
  exact ⟨by simp [greatL], Below.refl _ _⟩

set_option maxHeartbeats 8000000 in
set_option maxRecDepth 100000 in
theorem rangesHolds_any (A : Option Addr) (c : Nat) (L : List (Int × Int)) (f t : Int) (w : World) (h : Sp w A c L) (hn : L.length ≤ 9223372036854775807) :
    Calls Tryd.prog 5 #[.slice A L.length c, .agg #[.int .i64 f, .int .i64 t]] w fun e w' => e = .returned (.bool true) ∧ Below w.heap.size w w' := by
  have Sa_0 := Lib.hid (h)
  clear h
  go_enter Tryd.func5, Tryd.ntmps5
  go_wp2_with fail
  refine (wakes_any _).mono ?_
  rintro e1 w1 ⟨rfl, hb1⟩
  have HB_1 : Hid (Below w.heap.size w w1) := bel_chain hb1 (by repeat (first | exact Below.refl _ _ | refine bel_drewN ?_ _ | refine bel_drew ?_ | refine bel_alloc ?_ _))
  have Sa_1 : Hid (Sp w1 A c (L)) := Sp.below (by repeat (first | exact Sa_0.out | refine Sp.alloc ?_ _ | refine Sp.drewN ?_ _ | refine Sp.drew ?_)) hb1
  have f0_1 : w1.cell? ⟨w.heap.size, 0, none⟩ = some (.int .i64 f) := cell_keep hb1 (by simp [go_sem])
  have f1_1 : w1.cell? ⟨w.heap.size, 1, none⟩ = some (.int .i64 t) := cell_keep hb1 (by simp [go_sem])
  have zf0_1 : w.heap.size < w1.heap.size := World.block_lt_of_cell? w1 ⟨w.heap.size, 0, none⟩ f0_1
  clear Sa_0 hb1
  by_cases hg : 20 < L.length
  · have hgd : decide (20 < L.length) = true := by simpa using hg
    have HW := HB_1.out
    have HG := fun g W h => Lib.hid (great1_any A L.length c g W h hn)
    rw [hgd] at HG
    go_wp2_with fail
    first | (go_region_with ((go_at_call 20; refine (HG _ _ (by simp [go_sem])).out.mono ?_; rintro e w2 ⟨rfl, rfl⟩))) | fail
    all_goals go_wp2_with fail
    all_goals go_ret
    all_goals exact ⟨rfl, by repeat (first | exact HW | refine bel_drewN ?_ _ | refine bel_drew ?_ | refine bel_alloc ?_ _)⟩
  · have hgd : decide (20 < L.length) = false := by simpa using hg
    have HG := fun g W h => Lib.hid (great1_b A L.length c g W h hn)
    rw [hgd] at HG
    have hl : L.length ≤ 20 := by omega
    have hcl := cano_length L
    have HCC := Lib.hid (cano_canon L)
    have HHo := fun W A3 c3 h => Lib.hid (holds_any A3 c3 (cano L) f t W h (cano_canon L) (by omega))
    have HHr := fun W A3 c3 h => Lib.hid (rholds_any A3 c3 (cano L) f t W h (cano_canon L) (by omega))
    obtain ⟨hb, hhb⟩ : ∃ b, holdsL (cano L) (f, t) = b := ⟨_, rfl⟩
    rw [hhb] at HHo HHr
    clear hgd hg hhb
    have tok2 : True := trivial
    go_wp2_with fail
    go_region_held3 (fun w' => w'.cell? ⟨w.heap.size, 0, none⟩ = some (.int .i64 f) ∧ w'.cell? ⟨w.heap.size, 1, none⟩ = some (.int .i64 t))
      (first | exact ⟨f0_6, f1_6⟩ | exact ⟨f0_5, f1_5⟩ | exact ⟨f0_4, f1_4⟩ | exact ⟨f0_3, f1_3⟩ | exact ⟨f0_2, f1_2⟩ | exact ⟨f0_1, f1_1⟩ | exact ⟨cell_keep (W := w6) (by (repeat (first | exact Below.refl _ _ | refine bel_drewN ?_ _ | refine bel_drew ?_ | refine bel_alloc ?_ _ | refine bel_set ?_ (by simp) _))) f0_6, cell_keep (W := w6) (by (repeat (first | exact Below.refl _ _ | refine bel_drewN ?_ _ | refine bel_drew ?_ | refine bel_alloc ?_ _ | refine bel_set ?_ (by simp) _))) f1_6⟩ | exact ⟨cell_keep (W := w5) (by (repeat (first | exact Below.refl _ _ | refine bel_drewN ?_ _ | refine bel_drew ?_ | refine bel_alloc ?_ _ | refine bel_set ?_ (by simp) _))) f0_5, cell_keep (W := w5) (by (repeat (first | exact Below.refl _ _ | refine bel_drewN ?_ _ | refine bel_drew ?_ | refine bel_alloc ?_ _ | refine bel_set ?_ (by simp) _))) f1_5⟩ | exact ⟨cell_keep (W := w4) (by (repeat (first | exact Below.refl _ _ | refine bel_drewN ?_ _ | refine bel_drew ?_ | refine bel_alloc ?_ _ | refine bel_set ?_ (by simp) _))) f0_4, cell_keep (W := w4) (by (repeat (first | exact Below.refl _ _ | refine bel_drewN ?_ _ | refine bel_drew ?_ | refine bel_alloc ?_ _ | refine bel_set ?_ (by simp) _))) f1_4⟩ | exact ⟨cell_keep (W := w3) (by (repeat (first | exact Below.refl _ _ | refine bel_drewN ?_ _ | refine bel_drew ?_ | refine bel_alloc ?_ _ | refine bel_set ?_ (by simp) _))) f0_3, cell_keep (W := w3) (by (repeat (first | exact Below.refl _ _ | refine bel_drewN ?_ _ | refine bel_drew ?_ | refine bel_alloc ?_ _ | refine bel_set ?_ (by simp) _))) f1_3⟩ | exact ⟨cell_keep (W := w2) (by (repeat (first | exact Below.refl _ _ | refine bel_drewN ?_ _ | refine bel_drew ?_ | refine bel_alloc ?_ _ | refine bel_set ?_ (by simp) _))) f0_2, cell_keep (W := w2) (by (repeat (first | exact Below.refl _ _ | refine bel_drewN ?_ _ | refine bel_drew ?_ | refine bel_alloc ?_ _ | refine bel_set ?_ (by simp) _))) f1_2⟩ | exact ⟨cell_keep (W := w1) (by (repeat (first | exact Below.refl _ _ | refine bel_drewN ?_ _ | refine bel_drew ?_ | refine bel_alloc ?_ _ | refine bel_set ?_ (by simp) _))) f0_1, cell_keep (W := w1) (by (repeat (first | exact Below.refl _ _ | refine bel_drewN ?_ _ | refine bel_drew ?_ | refine bel_alloc ?_ _ | refine bel_set ?_ (by simp) _))) f1_1⟩)
      (first
        | (go_at_call 20
           have _tk := tok2
           clear _tk tok2
           refine ((HG _ _ (by simp [go_sem])).out).mono ?_
           rintro e2 w2 ⟨rfl, hb2⟩
           have HB_2 : Hid (Below w.heap.size w w2) := bel_chain hb2 (by repeat (first | exact HB_1.out | refine bel_drewN ?_ _ | refine bel_drew ?_ | refine bel_alloc ?_ _))
           have f0_2 : w2.cell? ⟨w.heap.size, 0, none⟩ = some (.int .i64 f) := cell_keep hb2 (cell_keep (W := w1) (by (repeat (first | exact Below.refl _ _ | refine bel_drewN ?_ _ | refine bel_drew ?_ | refine bel_alloc ?_ _ | refine bel_set ?_ (by simp) _))) f0_1)
           have f1_2 : w2.cell? ⟨w.heap.size, 1, none⟩ = some (.int .i64 t) := cell_keep hb2 (cell_keep (W := w1) (by (repeat (first | exact Below.refl _ _ | refine bel_drewN ?_ _ | refine bel_drew ?_ | refine bel_alloc ?_ _ | refine bel_set ?_ (by simp) _))) f1_1)
           have Sa_2 : Hid (Sp w2 A c (L)) := Sp.below (by repeat (first | exact Sa_1.out | refine Sp.alloc ?_ _ | refine Sp.drewN ?_ _ | refine Sp.drew ?_)) hb2
           have zf0_2 : w.heap.size < w2.heap.size := World.block_lt_of_cell? w2 ⟨w.heap.size, 0, none⟩ f0_2
           clear f0_1 f1_1 Sa_1 HB_1 zf0_1 hb2
           have tok3 : True := trivial)
        | (go_at_call 21
           have _tk := tok3
           clear _tk tok3
           refine (of_any A c L _ (by repeat (first | exact Sa_2.out | refine Sp.alloc ?_ _ | refine Sp.drewN ?_ _ | refine Sp.drew ?_)) (by omega)).mono ?_
           rintro e3 w3 ⟨As, cs, rfl, hs3, hb3⟩
           have HB_3 : Hid (Below w.heap.size w w3) := bel_chain hb3 (by repeat (first | exact HB_2.out | refine bel_drewN ?_ _ | refine bel_drew ?_ | refine bel_alloc ?_ _))
           have f0_3 : w3.cell? ⟨w.heap.size, 0, none⟩ = some (.int .i64 f) := cell_keep hb3 (cell_keep (W := w2) (by (repeat (first | exact Below.refl _ _ | refine bel_drewN ?_ _ | refine bel_drew ?_ | refine bel_alloc ?_ _ | refine bel_set ?_ (by simp) _))) f0_2)
           have f1_3 : w3.cell? ⟨w.heap.size, 1, none⟩ = some (.int .i64 t) := cell_keep hb3 (cell_keep (W := w2) (by (repeat (first | exact Below.refl _ _ | refine bel_drewN ?_ _ | refine bel_drew ?_ | refine bel_alloc ?_ _ | refine bel_set ?_ (by simp) _))) f1_2)
           have Sa_3 : Hid (Sp w3 A c (L)) := Sp.below (by repeat (first | exact Sa_2.out | refine Sp.alloc ?_ _ | refine Sp.drewN ?_ _ | refine Sp.drew ?_)) hb3
           have zf0_3 : w.heap.size < w3.heap.size := World.block_lt_of_cell? w3 ⟨w.heap.size, 0, none⟩ f0_3
           have Ss_3 : Hid (Sp w3 As cs (cano L)) := hs3
           clear f0_2 f1_2 Sa_2 hs3 HB_2 zf0_2 hb3
           have tok4 : True := trivial)
        | (go_at_call 29
           have _tk := tok4
           clear _tk tok4
           refine ((HHo _ As cs (by repeat (first | exact Ss_3.out | refine Sp.alloc ?_ _ | refine Sp.drewN ?_ _ | refine Sp.drew ?_))).out).mono ?_
           rintro e4 w4 ⟨rfl, hb4⟩
           have HB_4 : Hid (Below w.heap.size w w4) := bel_chain hb4 (by repeat (first | exact HB_3.out | refine bel_drewN ?_ _ | refine bel_drew ?_ | refine bel_alloc ?_ _))
           have f0_4 : w4.cell? ⟨w.heap.size, 0, none⟩ = some (.int .i64 f) := cell_keep hb4 (cell_keep (W := w3) (by (repeat (first | exact Below.refl _ _ | refine bel_drewN ?_ _ | refine bel_drew ?_ | refine bel_alloc ?_ _ | refine bel_set ?_ (by simp) _))) f0_3)
           have f1_4 : w4.cell? ⟨w.heap.size, 1, none⟩ = some (.int .i64 t) := cell_keep hb4 (cell_keep (W := w3) (by (repeat (first | exact Below.refl _ _ | refine bel_drewN ?_ _ | refine bel_drew ?_ | refine bel_alloc ?_ _ | refine bel_set ?_ (by simp) _))) f1_3)
           have Sa_4 : Hid (Sp w4 A c (L)) := Sp.below (by repeat (first | exact Sa_3.out | refine Sp.alloc ?_ _ | refine Sp.drewN ?_ _ | refine Sp.drew ?_)) hb4
           have Ss_4 : Hid (Sp w4 As cs (cano L)) := Sp.below (by repeat (first | exact Ss_3.out | refine Sp.alloc ?_ _ | refine Sp.drewN ?_ _ | refine Sp.drew ?_)) hb4
           have zf0_4 : w.heap.size < w4.heap.size := World.block_lt_of_cell? w4 ⟨w.heap.size, 0, none⟩ f0_4
           clear f0_3 f1_3 Sa_3 Ss_3 HB_3 zf0_3 hb4
           clear Ss_4
           have tok5 : True := trivial)
        | (go_at_call 24
           have _tk := tok5
           clear _tk tok5
           refine (rOf_any A c L _ (by repeat (first | exact Sa_4.out | refine Sp.alloc ?_ _ | refine Sp.drewN ?_ _ | refine Sp.drew ?_)) (by omega)).mono ?_
           rintro e5 w5 ⟨Ax, cx, rfl, hs5, hb5⟩
           have HB_5 : Hid (Below w.heap.size w w5) := bel_chain hb5 (by repeat (first | exact HB_4.out | refine bel_drewN ?_ _ | refine bel_drew ?_ | refine bel_alloc ?_ _))
           have f0_5 : w5.cell? ⟨w.heap.size, 0, none⟩ = some (.int .i64 f) := cell_keep hb5 (cell_keep (W := w4) (by (repeat (first | exact Below.refl _ _ | refine bel_drewN ?_ _ | refine bel_drew ?_ | refine bel_alloc ?_ _ | refine bel_set ?_ (by simp) _))) f0_4)
           have f1_5 : w5.cell? ⟨w.heap.size, 1, none⟩ = some (.int .i64 t) := cell_keep hb5 (cell_keep (W := w4) (by (repeat (first | exact Below.refl _ _ | refine bel_drewN ?_ _ | refine bel_drew ?_ | refine bel_alloc ?_ _ | refine bel_set ?_ (by simp) _))) f1_4)
           have Sa_5 : Hid (Sp w5 A c (L)) := Sp.below (by repeat (first | exact Sa_4.out | refine Sp.alloc ?_ _ | refine Sp.drewN ?_ _ | refine Sp.drew ?_)) hb5
           have zf0_5 : w.heap.size < w5.heap.size := World.block_lt_of_cell? w5 ⟨w.heap.size, 0, none⟩ f0_5
           have Sx_5 : Hid (Sp w5 Ax cx (cano L)) := Own.sp hs5
           clear f0_4 f1_4 Sa_4 hs5 HB_4 zf0_4 hb5
           have tok6 : True := trivial)
        | (go_at_call 30
           have _tk := tok6
           clear _tk tok6
           refine ((HHr _ Ax cx (by repeat (first | exact Sx_5.out | refine Sp.alloc ?_ _ | refine Sp.drewN ?_ _ | refine Sp.drew ?_))).out).mono ?_
           rintro e6 w6 ⟨rfl, hb6⟩
           have HB_6 : Hid (Below w.heap.size w w6) := bel_chain hb6 (by repeat (first | exact HB_5.out | refine bel_drewN ?_ _ | refine bel_drew ?_ | refine bel_alloc ?_ _))
           have f0_6 : w6.cell? ⟨w.heap.size, 0, none⟩ = some (.int .i64 f) := cell_keep hb6 (cell_keep (W := w5) (by (repeat (first | exact Below.refl _ _ | refine bel_drewN ?_ _ | refine bel_drew ?_ | refine bel_alloc ?_ _ | refine bel_set ?_ (by simp) _))) f0_5)
           have f1_6 : w6.cell? ⟨w.heap.size, 1, none⟩ = some (.int .i64 t) := cell_keep hb6 (cell_keep (W := w5) (by (repeat (first | exact Below.refl _ _ | refine bel_drewN ?_ _ | refine bel_drew ?_ | refine bel_alloc ?_ _ | refine bel_set ?_ (by simp) _))) f1_5)
           have Sa_6 : Hid (Sp w6 A c (L)) := Sp.below (by repeat (first | exact Sa_5.out | refine Sp.alloc ?_ _ | refine Sp.drewN ?_ _ | refine Sp.drew ?_)) hb6
           have Sx_6 : Hid (Sp w6 Ax cx (cano L)) := Sp.below (by repeat (first | exact Sx_5.out | refine Sp.alloc ?_ _ | refine Sp.drewN ?_ _ | refine Sp.drew ?_)) hb6
           have zf0_6 : w.heap.size < w6.heap.size := World.block_lt_of_cell? w6 ⟨w.heap.size, 0, none⟩ f0_6
           clear f0_5 f1_5 Sa_5 Sx_5 HB_5 zf0_5 hb6
           have tok7 : True := trivial))
    go_wp2_with fail
    go_ret
    exact ⟨ret_bool (by simp), by repeat (first | exact HB_6.out | refine bel_drewN ?_ _ | refine bel_drew ?_)⟩
end Go.Proofs.YtmbcnfgeobbldaaDoor
