/- All spans of a set, one by one: RangesStops. -/
import Derived.Test.YtmbcnfgeobbldaaDoorC2
import Derived.Test.YtmbcnfgeobbldaaDoorD1
namespace Go.Proofs.YtmbcnfgeobbldaaDoor
open Go.RowKit

theorem cell_grown {w w' : World} {po b o : Nat} (h : w.grownBy w' (some po)) (hb : b < w.heap.size) (hne : b ≠ po) : w'.cell? ⟨b, o, none⟩ = w.cell? ⟨b, o, none⟩ :=
  World.cell?_of_block (w := w) (w' := w') (a := ⟨b, o, none⟩) (h.block b hb (by intro e; injection e with e; exact hne e))
theorem Sp.grown {w w' : World} {A : Option Addr} {c : Nat} {L : List (Int × Int)} {po : Nat} (h : Sp w A c L) (hne : OffB A po) (hg : w.grownBy w' (some po)) : Sp w' A c L :=
  ⟨h.le, h.nil_, fun hn => by
    obtain ⟨b, off, e, hb, hc⟩ := h.at' hn
    have hs := hg.size
    have hb' : b ≠ po := hne _ e
    exact ⟨b, off, e, by omega, fun i x hx => by rw [cell_grown hg hb hb', cell_grown hg hb hb']; exact hc i x hx⟩⟩
theorem grown_alloc {w W : World} {po : Option Nat} (h : w.grownBy W po) (o : Obj) : w.grownBy (W.alloc o) po :=
  ⟨h.os, h.tape, h.output, by have := h.size; simp; omega, fun k hk hne => (Below.heap_alloc W o k (by have := h.size; omega)).trans (h.block k hk hne)⟩
theorem grown_set {w W : World} {p : Addr} (h : w.grownBy W (some p.block)) (u : Value) : w.grownBy (W.setCell p u) (some p.block) :=
  ⟨h.os, h.tape, h.output, by have := h.size; simp [World.setCell]; omega, fun k hk hne => (Below.heap_setCell W p u k (fun e => hne (by rw [e]))).trans (h.block k hk hne)⟩
/-- A block of one cell is no block of spans. -/
theorem Sp.off_one {w : World} {A : Option Addr} {c : Nat} {L : List (Int × Int)} {X : Nat} (h : Sp w A c L) (hl : 0 < L.length) (h1 : ∀ o, 0 < o → w.cell? ⟨X, o, none⟩ = none) : OffB A X := by
  obtain ⟨b, off, e, hb, hc⟩ := h.at' hl
  intro a ha
  rw [e] at ha
  injection ha with ha
  subst ha
  rintro rfl
  have := (hc 0 L[0] (List.getElem?_eq_getElem hl)).2
  rw [h1 _ (by omega)] at this
  cases this
theorem OffB.nil (X : Nat) : OffB none X := fun a h => by cases h

theorem all_any (A : Option Addr) (n c : Nat) (w : World) :
    Calls Tryd.prog 27 #[.agg #[.slice A n c]] w fun e w' => e = .returned (.func (.func 68) #[] #[.pointer (some ⟨w.heap.size, 0, none⟩)]) ∧ w.alloc (.cells #[.slice A n c] 26) = w' := by
  go_enter Tryd.func27, Tryd.ntmps27
  go_wp2
  go_ret
  exact ⟨rfl, rfl⟩

set_option maxHeartbeats 1000000 in
theorem stops1_any (x1 x2 : Int) (pa pm : Nat) (n m : Int) (w : World) (h : w.cell? ⟨pa, 0, none⟩ = some (.int .i64 n)) (hf : w.frozen? ⟨pa, 0, none⟩ = false) (hm : w.cell? ⟨pm, 0, none⟩ = some (.int .i64 m)) (hn : 0 ≤ n) (hn2 : n ≤ 1000000) (hne : pa ≠ pm) :
    Calls Tryd.prog 28 #[.agg #[.int .i64 x1, .int .i64 x2], .pointer (some ⟨pa, 0, none⟩), .pointer (some ⟨pm, 0, none⟩)] w fun e w' => e = .returned (.bool (decide (n + 1 < m))) ∧ w'.cell? ⟨pa, 0, none⟩ = some (.int .i64 (n + 1)) ∧ w'.frozen? ⟨pa, 0, none⟩ = false ∧ w.grownBy w' (some pa) := by
  have l1 : pa < w.heap.size := World.block_lt_of_cell? w ⟨pa, 0, none⟩ h
  have l2 : pm < w.heap.size := World.block_lt_of_cell? w ⟨pm, 0, none⟩ hm
  have hne' : pm ≠ pa := fun e => hne e.symm
  go_enter Tryd.func28, Tryd.ntmps28
  go_wp2_with fail
  go_ret
  refine ⟨rfl, ?_, ?_, ?_⟩
  · simp [go_sem, h, l1]
  · simp [go_sem, hf, l1]
  · repeat (first | exact World.grownBy.refl _ _ | refine grown_alloc ?_ _ | refine grown_set (p := ⟨pa, 0, none⟩) ?_ _)

theorem frozen_keep {W w' : World} {b o : Nat} (hb : Below W.heap.size W w') (h : b < W.heap.size) (hf : W.frozen? ⟨b, o, none⟩ = false) : w'.frozen? ⟨b, o, none⟩ = false := (hb.frozen (p := ⟨b, o, none⟩) h).trans hf
/-- What is left behind All, asked so many times at most. -/
def StopPost (L : List (Int × Int)) (pa : Nat) (m : Int) (w : World) (e : Ending) (w' : World) : Prop :=
  e = .returned (.tuple #[]) ∧ w'.cell? ⟨pa, 0, none⟩ = some (.int .i64 (min m L.length)) ∧ w.grownBy w' (some pa)

set_option maxHeartbeats 2000000 in
theorem allStops (A : Option Addr) (c : Nat) (L : List (Int × Int)) (bS pa pm : Nat) (m : Int) (w : World) (hS : w.cell? ⟨bS, 0, none⟩ = some (.slice A L.length c)) (h : Sp w A c L) (ha : w.cell? ⟨pa, 0, none⟩ = some (.int .i64 0)) (hf : w.frozen? ⟨pa, 0, none⟩ = false) (hm : w.cell? ⟨pm, 0, none⟩ = some (.int .i64 m)) (h1 : 1 ≤ m) (hm2 : m ≤ 1000) (hne : pa ≠ pm) (hoff : 0 < L.length → OffB A pa) (hl : L.length ≤ 100000) :
    Calls Tryd.prog 68 #[.func (.func 28) #[] #[.pointer (some ⟨pa, 0, none⟩), .pointer (some ⟨pm, 0, none⟩)], .pointer (some ⟨bS, 0, none⟩)] w (StopPost L pa m w) := by
  have hH := Lib.hid h
  have HF := Lib.hid hoff
  have l1 : pa < w.heap.size := World.block_lt_of_cell? w ⟨pa, 0, none⟩ ha
  have l2 : pm < w.heap.size := World.block_lt_of_cell? w ⟨pm, 0, none⟩ hm
  have HA := Lib.hid ha
  have HFZ := Lib.hid hf
  have HM := Lib.hid hm
  clear h hoff ha hf hm
  go_enter Tryd.func68, Tryd.ntmps68
  go_wp2
  go_loopw [4, 8] (fun _ i wr => ∃ k : Nat, k ≤ L.length ∧ (k : Int) < m ∧ i = .int .i64 k ∧ wr.cell? ⟨pa, 0, none⟩ = some (.int .i64 k) ∧ wr.frozen? ⟨pa, 0, none⟩ = false ∧ w.grownBy wr (some pa)) (fun _ i _ => L.length - (intOf i).toNat)
  case atStart => exact ⟨0, Nat.zero_le _, by omega, rfl, HA.out, HFZ.out, World.grownBy.refl w _⟩
  case round =>
    obtain ⟨k, hk, hkm, rfl, hak, hfk, hgr⟩ := hrel
    have HG := Lib.hid hgr
    have hmk := (cell_grown hgr l2 (fun e => hne e.symm)).trans HM.out
    have hsz := hgr.size
    clear hgr
    by_cases hlt : k < L.length
    · obtain ⟨b, off, e, hb, c1, c2⟩ := (hH.out.grown (HF.out (by omega)) HG.out).at_ hlt
      obtain ⟨⟨x1, x2⟩, hx⟩ : ∃ x, L[k] = x := ⟨_, rfl⟩
      rw [hx] at c1 c2
      simp only at c1 c2
      clear hx
      subst e
      by_cases hgo : (k : Int) + 1 < m
      · have HC := fun W h h2 h3 => Lib.hid (stops1_any x1 x2 pa pm k m W h h2 h3 (by omega) (by omega) hne)
        have hd : decide ((k : Int) + 1 < m) = true := by simpa using hgo
        rw [hd] at HC
        clear hd
        go_wp2_with fail
        refine (HC _ (by exact cell_keep (W := wr) (by (repeat (first | exact Below.refl _ _ | refine bel_drewN ?_ _ | refine bel_drew ?_ | refine bel_alloc ?_ _ | refine bel_set ?_ (by simp) _))) hak) (by exact frozen_keep (W := wr) (by (repeat (first | exact Below.refl _ _ | refine bel_drewN ?_ _ | refine bel_drew ?_ | refine bel_alloc ?_ _ | refine bel_set ?_ (by simp) _))) (by omega) hfk) (by exact cell_keep (W := wr) (by (repeat (first | exact Below.refl _ _ | refine bel_drewN ?_ _ | refine bel_drew ?_ | refine bel_alloc ?_ _ | refine bel_set ?_ (by simp) _))) hmk)).out.mono ?_
        rintro e w1 ⟨rfl, ha1, hf1, hg1⟩
        have HG1 := Lib.hid (World.grownBy.trans (grown_alloc HG.out _) hg1)
        clear hg1
        go_wp2_with fail
        go_roundw
        case rel => exact ⟨k + 1, by omega, by omega, by go_num, by rw [ha1]; simp, hf1, HG1.out⟩
        case measure => simp [intOf]; omega
      · have HC := fun W h h2 h3 => Lib.hid (stops1_any x1 x2 pa pm k m W h h2 h3 (by omega) (by omega) hne)
        have hd : decide ((k : Int) + 1 < m) = false := by simpa using hgo
        rw [hd] at HC
        clear hd
        go_wp2_with fail
        refine (HC _ (by exact cell_keep (W := wr) (by (repeat (first | exact Below.refl _ _ | refine bel_drewN ?_ _ | refine bel_drew ?_ | refine bel_alloc ?_ _ | refine bel_set ?_ (by simp) _))) hak) (by exact frozen_keep (W := wr) (by (repeat (first | exact Below.refl _ _ | refine bel_drewN ?_ _ | refine bel_drew ?_ | refine bel_alloc ?_ _ | refine bel_set ?_ (by simp) _))) (by omega) hfk) (by exact cell_keep (W := wr) (by (repeat (first | exact Below.refl _ _ | refine bel_drewN ?_ _ | refine bel_drew ?_ | refine bel_alloc ?_ _ | refine bel_set ?_ (by simp) _))) hmk)).out.mono ?_
        rintro e w1 ⟨rfl, ha1, hf1, hg1⟩
        have HG1 := Lib.hid (World.grownBy.trans (grown_alloc HG.out _) hg1)
        clear hg1
        go_wp2_with fail
        refine bodyPost_ret (v := .tuple #[]) (by simp [results, Tryd.results68, go_sem]) rfl ?_
        exact ⟨rfl, by rw [ha1]; congr 2; omega, HG1.out⟩
    · go_wp2_with fail
      refine bodyPost_end (v := .tuple #[]) (by simp [results, Tryd.results68, go_sem]) rfl ?_
      exact ⟨rfl, by rw [hak]; congr 2; omega, HG.out⟩
-- LAW
theorem u8_range {q : Int} (h : (Lit.int .u8 q).wf = true) : 0 ≤ q ∧ q ≤ 255 := by
  have h1 : IntKind.u8.min ≤ q ∧ q ≤ IntKind.u8.max := by simpa [Lit.wf] using h
  exact ⟨h1.1, h1.2⟩
set_option maxHeartbeats 2000000 in
set_option maxRecDepth 100000 in
theorem rangesStops_any (A : Option Addr) (c : Nat) (L : List (Int × Int)) (q : Int) (w : World) (h : Sp w A c L) (hn : L.length ≤ 9223372036854775807) (hw : (Lit.int .u8 q).wf = true) :
    Calls Tryd.prog 4 #[.slice A L.length c, .int .u8 q] w fun e w' => e = .returned (.bool true) ∧ Below w.heap.size w w' := by
  have Sa_0 := Lib.hid (h)
  clear h
  have hk := u8_range hw
  obtain ⟨hk0, hk1⟩ := hk
  clear hw
  go_enter Tryd.func4, Tryd.ntmps4
  go_wp2_with fail
  refine (wakes_any _).mono ?_
  rintro e1 w1 ⟨rfl, hb1⟩
  have HB_1 : Hid (Below w.heap.size w w1) := bel_chain hb1 (by repeat (first | exact Below.refl _ _ | refine bel_drewN ?_ _ | refine bel_drew ?_ | refine bel_alloc ?_ _))
  have Sa_1 : Hid (Sp w1 A c (L)) := Sp.below (by repeat (first | exact Sa_0.out | refine Sp.alloc ?_ _ | refine Sp.drewN ?_ _ | refine Sp.drew ?_)) hb1
  clear Sa_0 hb1
  go_wp2_with fail
  refine (great1_b A L.length c _ _ (by simp [go_sem]) hn).mono ?_
  rintro e2 w2 ⟨rfl, hb2⟩
  have HB_2 : Hid (Below w.heap.size w w2) := bel_chain hb2 (by repeat (first | exact HB_1.out | refine bel_drewN ?_ _ | refine bel_drew ?_ | refine bel_alloc ?_ _))
  have Sa_2 : Hid (Sp w2 A c (L)) := Sp.below (by repeat (first | exact Sa_1.out | refine Sp.alloc ?_ _ | refine Sp.drewN ?_ _ | refine Sp.drew ?_)) hb2
  clear Sa_1 HB_1 hb2
  by_cases hg : 20 < L.length
  · have hgd : decide (20 < L.length) = true := by simpa using hg
    rw [hgd]
    go_wp2_with fail
    go_ret
    exact ⟨rfl, HB_2.out⟩
  · have hgd : decide (20 < L.length) = false := by simpa using hg
    rw [hgd]
    have hl : L.length ≤ 20 := by omega
    have hcl := cano_length L
    clear hgd hg
    go_wp2_with fail
    refine (rOf_any A c L _ (by repeat (first | exact Sa_2.out | refine Sp.alloc ?_ _ | refine Sp.drewN ?_ _ | refine Sp.drew ?_)) (by omega)).mono ?_
    rintro e3 w3 ⟨Ax, cx, rfl, hs3, hb3⟩
    have HB_3 : Hid (Below w.heap.size w w3) := bel_chain hb3 (by repeat (first | exact HB_2.out | refine bel_drewN ?_ _ | refine bel_drew ?_ | refine bel_alloc ?_ _))
    have Sa_3 : Hid (Sp w3 A c (L)) := Sp.below (by repeat (first | exact Sa_2.out | refine Sp.alloc ?_ _ | refine Sp.drewN ?_ _ | refine Sp.drew ?_)) hb3
    have Sx_3 : Hid (Sp w3 Ax cx (cano L)) := Own.sp hs3
    clear Sa_2 hs3 HB_2 hb3
    clear Sx_3
    go_wp2_with fail
    refine (of_any A c L _ (by repeat (first | exact Sa_3.out | refine Sp.alloc ?_ _ | refine Sp.drewN ?_ _ | refine Sp.drew ?_)) (by omega)).mono ?_
    rintro e4 w4 ⟨As, cs, rfl, hs4, hb4⟩
    have HB_4 : Hid (Below w.heap.size w w4) := bel_chain hb4 (by repeat (first | exact HB_3.out | refine bel_drewN ?_ _ | refine bel_drew ?_ | refine bel_alloc ?_ _))
    have Sa_4 : Hid (Sp w4 A c (L)) := Sp.below (by repeat (first | exact Sa_3.out | refine Sp.alloc ?_ _ | refine Sp.drewN ?_ _ | refine Sp.drew ?_)) hb4
    have pm_4 : w4.cell? ⟨w3.heap.size, 0, none⟩ = some (.int .i64 (1 + q % 22)) := cell_keep hb4 (by simp [go_sem])
    have pa_4 : w4.cell? ⟨w3.heap.size + 1, 0, none⟩ = some (.int .i64 0) := cell_keep hb4 (by simp [go_sem])
    have zpm_4 : w3.heap.size < w4.heap.size := World.block_lt_of_cell? w4 ⟨w3.heap.size, 0, none⟩ pm_4
    have zpa_4 : w3.heap.size + 1 < w4.heap.size := World.block_lt_of_cell? w4 ⟨w3.heap.size + 1, 0, none⟩ pa_4
    have Ss_4 : Hid (Sp w4 As cs (cano L)) := hs4
    have pf_4 : w4.frozen? ⟨w3.heap.size + 1, 0, none⟩ = false := (hb4.frozen (p := ⟨w3.heap.size + 1, 0, none⟩) (by simp)).trans (by simp [go_sem])
    have PO_4 : Hid (∀ o, 0 < o → w4.cell? ⟨w3.heap.size + 1, o, none⟩ = none) := fun o ho => (hb4.cell (p := ⟨w3.heap.size + 1, o, none⟩) (by simp)).trans (by simp [go_sem]; omega)
    have hz3 : w.heap.size ≤ w3.heap.size := HB_3.out.size
    clear Sa_3 hs4 HB_3 hb4
    have HOF : Hid (0 < (cano L).length → OffB As (w3.heap.size + 1)) := fun h0 => Ss_4.out.off_one h0 PO_4.out
    go_wp2_with fail
    refine (all_any As (cano L).length cs _).mono ?_
    rintro e5 w5 ⟨rfl, rfl⟩
    go_wp2_with fail
    refine (allStops As cs (cano L) w4.heap.size (w3.heap.size + 1) w3.heap.size (1 + q % 22) _ (by simp [go_sem]) (Ss_4.out.alloc _) (cell_keep (W := w4) (by (repeat (first | exact Below.refl _ _ | refine bel_drewN ?_ _ | refine bel_drew ?_ | refine bel_alloc ?_ _ | refine bel_set ?_ (by simp) _))) pa_4) (frozen_keep (W := w4) (by (repeat (first | exact Below.refl _ _ | refine bel_drewN ?_ _ | refine bel_drew ?_ | refine bel_alloc ?_ _ | refine bel_set ?_ (by simp) _))) zpa_4 pf_4) (cell_keep (W := w4) (by (repeat (first | exact Below.refl _ _ | refine bel_drewN ?_ _ | refine bel_drew ?_ | refine bel_alloc ?_ _ | refine bel_set ?_ (by simp) _))) pm_4) (by omega) (by omega) (by omega) HOF.out (by omega)).mono ?_
    rintro e6 w6 ⟨rfl, ha6, hg6⟩
    have hm6 : w6.cell? ⟨w3.heap.size, 0, none⟩ = some (.int .i64 (1 + q % 22)) := (cell_grown hg6 (by simp; omega) (by omega)).trans (cell_keep (W := w4) (by (repeat (first | exact Below.refl _ _ | refine bel_drewN ?_ _ | refine bel_drew ?_ | refine bel_alloc ?_ _ | refine bel_set ?_ (by simp) _))) pm_4)
    have HB6 : Hid (Below w.heap.size w w6) := (bel_alloc HB_4.out _).grown hg6 (bel_alloc HB_4.out _).size (fun j hj => by injection hj with hj; omega)
    clear hg6 pa_4 pm_4 zpm_4 zpa_4 HOF PO_4 pf_4
    generalize (cano L).length = n at *
    by_cases hmn : 1 + q % 22 ≤ (n : Int)
    · have e1 : min (1 + q % 22) (n : Int) = 1 + q % 22 := by omega
      rw [e1] at ha6
      clear e1
      go_wp2_with fail
      go_ret
      exact ⟨ret_bool (by simp; omega), HB6.out⟩
    · have e1 : min (1 + q % 22) (n : Int) = n := by omega
      rw [e1] at ha6
      clear e1
      go_wp2_with fail
      go_ret
      exact ⟨ret_bool (by simp; omega), HB6.out⟩
end Go.Proofs.YtmbcnfgeobbldaaDoor
