/- Contracts of Decide and of the reference's. -/
import Derived.Test.YtfpfdgljhcpkpaaDoorF2
namespace Go.Proofs.YtfpfdgljhcpkpaaDoor
open Go.RowKit

theorem first_as0 (A : Option Addr) (c : Nat) (L : List (Int × Int)) (e : L = []) (w : World) (h : Sp w A c L) : Calls Tryd.prog 51 #[.agg #[.slice A L.length c], .int .i64 0] w fun e w' => e = .returned (.tuple #[.agg #[.int .i64 0, .int .i64 0], .bool false]) ∧ Below w.heap.size w w' := by
  subst e; exact first_nil A c w h
theorem first_as1 (A : Option Addr) (c : Nat) (L : List (Int × Int)) (x1 x2 : Int) (r : List (Int × Int)) (e : L = (x1, x2) :: r) (w : World) (h : Sp w A c L) (hc : Canon L) (hl : L.length ≤ 1000000) : Calls Tryd.prog 51 #[.agg #[.slice A L.length c], .int .i64 0] w fun e w' => e = .returned (.tuple #[.agg #[.int .i64 x1, .int .i64 x2], .bool true]) ∧ Below w.heap.size w w' := by
  subst e; exact first_cons A c (x1, x2) r w h hc hl
theorem nil_or (L : List (Int × Int)) : L = [] ∨ ∃ x1 x2 r, L = (x1, x2) :: r := by
  cases L with
  | nil => exact .inl rfl
  | cons x r => exact .inr ⟨x.1, x.2, r, rfl⟩
theorem decideL_nil {he tu fa jo : Bool} {ag : Int} {R H F : List (Int × Int)} (e : R = []) : decideL he tu fa jo ag R H F = 6 := by subst e; rfl
theorem decideL_cons {he tu fa jo : Bool} {ag : Int} {R H F : List (Int × Int)} {x1 x2 : Int} {r : List (Int × Int)} (e : R = (x1, x2) :: r) : decideL he tu fa jo ag R H F = if (!(lostL tu fa jo R H F).isEmpty && !he) = true then (if 0 < ag then 4 else 5) else if inB H x1 = true then 1 else if inB F x1 = true then 2 else if (lostL tu fa jo R H F).isEmpty = true then 3 else 5 := by subst e; rfl
theorem lost_first' {tu fa jo : Bool} {x1 x2 : Int} {r R H F : List (Int × Int)} (e : R = (x1, x2) :: r) (hc : Canon R) (h1 : inB H x1 = false) (h2 : inB F x1 = false) : inB (lostL tu fa jo R H F) x1 = !(lostL tu fa jo R H F).isEmpty := by
  subst e; exact lost_first hc h1 h2

set_option maxHeartbeats 4000000 in
set_option maxRecDepth 100000 in
theorem decide_any (he : Bool) (A1 : Option Addr) (c1 : Nat) (R : List (Int × Int)) (A2 : Option Addr) (c2 : Nat) (H : List (Int × Int)) (A3 : Option Addr) (c3 : Nat) (F : List (Int × Int)) (tu fa : Bool) (ag : Int) (jo : Bool) (w : World) (h1 : Sp w A1 c1 R) (h2 : Sp w A2 c2 H) (h3 : Sp w A3 c3 F) (k1 : Canon R) (k2 : Canon H) (k3 : Canon F) (l1 : R.length ≤ 10000) (l2 : H.length ≤ 10000) (l3 : F.length ≤ 10000) :
    Calls Tryd.prog 15 #[.agg #[.bool he, .slice A1 R.length c1, .slice A2 H.length c2, .slice A3 F.length c3, .bool tu, .bool fa, .int .i64 ag, .bool jo]] w fun e w' => e = .returned (.int .i64 (decideL he tu fa jo ag R H F)) ∧ Below w.heap.size w w' := by
  have S1_0 := Lib.hid h1
  have S2_0 := Lib.hid h2
  have S3_0 := Lib.hid h3
  clear h1 h2 h3
  have K1 := Lib.hid k1
  have K2 := Lib.hid k2
  have K3 := Lib.hid k3
  clear k1 k2 k3
  rcases nil_or R with hR | ⟨x1, x2, r, hR⟩
  · rw [decideL_nil hR]
    have HR := Lib.hid hR
    clear hR
    go_enter Tryd.func15, Tryd.ntmps15
    go_wp2_with fail
    refine (first_as0 A1 c1 R HR.out _ (by repeat (first | exact S1_0.out | refine Sp.alloc ?_ _ | refine Sp.drewN ?_ _ | refine Sp.drew ?_))).mono ?_
    rintro e1 w1 ⟨rfl, hb1⟩
    have HB_1 : Hid (Below w.heap.size w w1) := bel_chain hb1 (by repeat (first | exact Below.refl _ _ | refine bel_drewN ?_ _ | refine bel_drew ?_ | refine bel_alloc ?_ _))
    have S1_1 : Hid (Sp w1 A1 c1 (R)) := Sp.below (by repeat (first | exact S1_0.out | refine Sp.alloc ?_ _ | refine Sp.drewN ?_ _ | refine Sp.drew ?_)) hb1
    have S2_1 : Hid (Sp w1 A2 c2 (H)) := Sp.below (by repeat (first | exact S2_0.out | refine Sp.alloc ?_ _ | refine Sp.drewN ?_ _ | refine Sp.drew ?_)) hb1
    have S3_1 : Hid (Sp w1 A3 c3 (F)) := Sp.below (by repeat (first | exact S3_0.out | refine Sp.alloc ?_ _ | refine Sp.drewN ?_ _ | refine Sp.drew ?_)) hb1
    clear S1_0 S2_0 S3_0 hb1
    go_wp2_with fail
    go_ret
    exact ⟨rfl, (by repeat (first | (with_reducible exact HB_1.out) | (with_reducible refine bel_drewN ?_ _) | (with_reducible refine bel_drew ?_) | (with_reducible refine bel_alloc ?_ _) | (with_reducible refine bel_set ?_ (by first | omega | (dsimp only; omega)) _)))⟩
  · rw [decideL_cons hR]
    have HLF : Hid (inB H x1 = false → inB F x1 = false → inB (lostL tu fa jo R H F) x1 = !(lostL tu fa jo R H F).isEmpty) := fun a b => lost_first' hR K1.out a b
    have HR := Lib.hid hR
    have lw := lostL_length tu fa jo R H F
    have KY := Lib.hid (lostL_canon tu fa jo R H F)
    have HL := fun W h1 h2 h3 => Lib.hid (lost_any he A1 c1 R A2 c2 H A3 c3 F tu fa ag jo W h1 h2 h3 K1.out K2.out K3.out l1 l2 l3)
    generalize lostL tu fa jo R H F = Y at *
    have HH := fun W h => Lib.hid (has_any A2 c2 H x1 W h K2.out (by omega))
    have HF := fun W h => Lib.hid (has_any A3 c3 F x1 W h K3.out (by omega))
    have HY := fun W Al cl h => Lib.hid (has_any Al cl Y x1 W h KY.out (by omega))
    clear hR
    rcases nil_or Y with hY | ⟨y1, y2, q, hY⟩
    · have HYE := Lib.hid hY
      have HYB : Hid (Y.isEmpty = true) := by simp only [Hid]; rw [hY]; rfl
      have HYI : Hid (inB Y x1 = false) := by simp only [Hid]; rw [hY]; rfl
      rw [HYB.out]
      rw [HYI.out] at HY
      clear hY
      cases hb1 : inB H x1
      · rw [hb1] at HH
        cases hb2 : inB F x1
        · rw [hb2] at HF
          clear hb1 hb2
          go_enter Tryd.func15, Tryd.ntmps15
          go_wp2_with fail
          refine (first_as1 A1 c1 R x1 x2 r HR.out _ (by repeat (first | exact S1_0.out | refine Sp.alloc ?_ _ | refine Sp.drewN ?_ _ | refine Sp.drew ?_)) K1.out (by omega)).mono ?_
          rintro e1 w1 ⟨rfl, hb1⟩
          have HB_1 : Hid (Below w.heap.size w w1) := bel_chain hb1 (by repeat (first | exact Below.refl _ _ | refine bel_drewN ?_ _ | refine bel_drew ?_ | refine bel_alloc ?_ _))
          have S1_1 : Hid (Sp w1 A1 c1 (R)) := Sp.below (by repeat (first | exact S1_0.out | refine Sp.alloc ?_ _ | refine Sp.drewN ?_ _ | refine Sp.drew ?_)) hb1
          have S2_1 : Hid (Sp w1 A2 c2 (H)) := Sp.below (by repeat (first | exact S2_0.out | refine Sp.alloc ?_ _ | refine Sp.drewN ?_ _ | refine Sp.drew ?_)) hb1
          have S3_1 : Hid (Sp w1 A3 c3 (F)) := Sp.below (by repeat (first | exact S3_0.out | refine Sp.alloc ?_ _ | refine Sp.drewN ?_ _ | refine Sp.drew ?_)) hb1
          have Bs_1 : Hid (w1.heap[w.heap.size]? = some (.cells #[.bool he, .slice A1 R.length c1, .slice A2 H.length c2, .slice A3 F.length c3, .bool tu, .bool fa, .int .i64 ag, .bool jo] 31 (0, 0))) := blk_keep hb1 (by repeat (first | exact blk_new (by first | rfl | (simp; done) | (simp; omega)) | refine blk_skip ?_ | refine blk_drewN ?_ | refine blk_drew ?_))
          have s0_1 : w1.cell? ⟨w.heap.size, 0, none⟩ = some (.bool he) := blk_cell Bs_1.out rfl
          have s1_1 : w1.cell? ⟨w.heap.size, 1, none⟩ = some (.slice A1 R.length c1) := blk_cell Bs_1.out rfl
          have s2_1 : w1.cell? ⟨w.heap.size, 2, none⟩ = some (.slice A2 H.length c2) := blk_cell Bs_1.out rfl
          have s3_1 : w1.cell? ⟨w.heap.size, 3, none⟩ = some (.slice A3 F.length c3) := blk_cell Bs_1.out rfl
          have s4_1 : w1.cell? ⟨w.heap.size, 4, none⟩ = some (.bool tu) := blk_cell Bs_1.out rfl
          have s5_1 : w1.cell? ⟨w.heap.size, 5, none⟩ = some (.bool fa) := blk_cell Bs_1.out rfl
          have s6_1 : w1.cell? ⟨w.heap.size, 6, none⟩ = some (.int .i64 ag) := blk_cell Bs_1.out rfl
          have s7_1 : w1.cell? ⟨w.heap.size, 7, none⟩ = some (.bool jo) := blk_cell Bs_1.out rfl
          have sz_1 : w.heap.size < w1.heap.size := blk_lt Bs_1.out
          clear S1_0 S2_0 S3_0 hb1
          go_wp2_with fail
          refine ((HL _ (by repeat (first | exact S1_1.out | refine Sp.alloc ?_ _ | refine Sp.drewN ?_ _ | refine Sp.drew ?_)) (by repeat (first | exact S2_1.out | refine Sp.alloc ?_ _ | refine Sp.drewN ?_ _ | refine Sp.drew ?_)) (by repeat (first | exact S3_1.out | refine Sp.alloc ?_ _ | refine Sp.drewN ?_ _ | refine Sp.drew ?_))).out).mono ?_
          rintro e2 w2 ⟨Al, cl, rfl, hs2, hb2⟩
          have HB_2 : Hid (Below w.heap.size w w2) := bel_chain hb2 (by repeat (first | exact HB_1.out | refine bel_drewN ?_ _ | refine bel_drew ?_ | refine bel_alloc ?_ _))
          have S1_2 : Hid (Sp w2 A1 c1 (R)) := Sp.below (by repeat (first | exact S1_1.out | refine Sp.alloc ?_ _ | refine Sp.drewN ?_ _ | refine Sp.drew ?_)) hb2
          have S2_2 : Hid (Sp w2 A2 c2 (H)) := Sp.below (by repeat (first | exact S2_1.out | refine Sp.alloc ?_ _ | refine Sp.drewN ?_ _ | refine Sp.drew ?_)) hb2
          have S3_2 : Hid (Sp w2 A3 c3 (F)) := Sp.below (by repeat (first | exact S3_1.out | refine Sp.alloc ?_ _ | refine Sp.drewN ?_ _ | refine Sp.drew ?_)) hb2
          have Bs_2 : Hid (w2.heap[w.heap.size]? = some (.cells #[.bool he, .slice A1 R.length c1, .slice A2 H.length c2, .slice A3 F.length c3, .bool tu, .bool fa, .int .i64 ag, .bool jo] 31 (0, 0))) := blk_keep hb2 (blk_keep (W := w1) (by (repeat (first | exact Below.refl _ _ | refine bel_drewN ?_ _ | refine bel_drew ?_ | refine bel_alloc ?_ _ | refine bel_set ?_ (by simp) _))) Bs_1.out)
          have ord0 : w.heap.size < w1.heap.size := by omega
          have Bf_2 : Hid (w2.heap[w1.heap.size]? = some (.cells #[.int .i64 x1, .int .i64 x2] 48 (0, 0))) := blk_keep hb2 (by repeat (first | exact blk_new (by first | rfl | (simp; done) | (simp; omega)) | refine blk_skip ?_ | refine blk_drewN ?_ | refine blk_drew ?_))
          have s0_2 : w2.cell? ⟨w.heap.size, 0, none⟩ = some (.bool he) := blk_cell Bs_2.out rfl
          have s1_2 : w2.cell? ⟨w.heap.size, 1, none⟩ = some (.slice A1 R.length c1) := blk_cell Bs_2.out rfl
          have s2_2 : w2.cell? ⟨w.heap.size, 2, none⟩ = some (.slice A2 H.length c2) := blk_cell Bs_2.out rfl
          have s3_2 : w2.cell? ⟨w.heap.size, 3, none⟩ = some (.slice A3 F.length c3) := blk_cell Bs_2.out rfl
          have s4_2 : w2.cell? ⟨w.heap.size, 4, none⟩ = some (.bool tu) := blk_cell Bs_2.out rfl
          have s5_2 : w2.cell? ⟨w.heap.size, 5, none⟩ = some (.bool fa) := blk_cell Bs_2.out rfl
          have s6_2 : w2.cell? ⟨w.heap.size, 6, none⟩ = some (.int .i64 ag) := blk_cell Bs_2.out rfl
          have s7_2 : w2.cell? ⟨w.heap.size, 7, none⟩ = some (.bool jo) := blk_cell Bs_2.out rfl
          have sz_2 : w.heap.size < w2.heap.size := blk_lt Bs_2.out
          have f0_2 : w2.cell? ⟨w1.heap.size, 0, none⟩ = some (.int .i64 x1) := blk_cell Bf_2.out rfl
          have fz_2 : w1.heap.size < w2.heap.size := blk_lt Bf_2.out
          have Sl_2 : Hid (Sp w2 Al cl (Y)) := hs2
          clear S1_1 S2_1 S3_1 Bs_1 s0_1 s1_1 s2_1 s3_1 s4_1 s5_1 s6_1 s7_1 sz_1 hs2 HB_1 hb2
          go_wp2_with fail
          refine (first_as0 Al cl Y HYE.out _ (by repeat (first | exact Sl_2.out | refine Sp.alloc ?_ _ | refine Sp.drewN ?_ _ | refine Sp.drew ?_))).mono ?_
          rintro e3 w3 ⟨rfl, hb3⟩
          have HB_3 : Hid (Below w.heap.size w w3) := bel_chain hb3 (by repeat (first | exact HB_2.out | refine bel_drewN ?_ _ | refine bel_drew ?_ | refine bel_alloc ?_ _))
          have S1_3 : Hid (Sp w3 A1 c1 (R)) := Sp.below (by repeat (first | exact S1_2.out | refine Sp.alloc ?_ _ | refine Sp.drewN ?_ _ | refine Sp.drew ?_)) hb3
          have S2_3 : Hid (Sp w3 A2 c2 (H)) := Sp.below (by repeat (first | exact S2_2.out | refine Sp.alloc ?_ _ | refine Sp.drewN ?_ _ | refine Sp.drew ?_)) hb3
          have S3_3 : Hid (Sp w3 A3 c3 (F)) := Sp.below (by repeat (first | exact S3_2.out | refine Sp.alloc ?_ _ | refine Sp.drewN ?_ _ | refine Sp.drew ?_)) hb3
          have Sl_3 : Hid (Sp w3 Al cl (Y)) := Sp.below (by repeat (first | exact Sl_2.out | refine Sp.alloc ?_ _ | refine Sp.drewN ?_ _ | refine Sp.drew ?_)) hb3
          have Bs_3 : Hid (w3.heap[w.heap.size]? = some (.cells #[.bool he, .slice A1 R.length c1, .slice A2 H.length c2, .slice A3 F.length c3, .bool tu, .bool fa, .int .i64 ag, .bool jo] 31 (0, 0))) := blk_keep hb3 (blk_keep (W := w2) (by (repeat (first | exact Below.refl _ _ | refine bel_drewN ?_ _ | refine bel_drew ?_ | refine bel_alloc ?_ _ | refine bel_set ?_ (by simp) _))) Bs_2.out)
          have Bf_3 : Hid (w3.heap[w1.heap.size]? = some (.cells #[.int .i64 x1, .int .i64 x2] 48 (0, 0))) := blk_keep hb3 (blk_keep (W := w2) (by (repeat (first | exact Below.refl _ _ | refine bel_drewN ?_ _ | refine bel_drew ?_ | refine bel_alloc ?_ _ | refine bel_set ?_ (by simp) _))) Bf_2.out)
          have ord1 : w.heap.size < w2.heap.size := by omega
          have ord2 : w1.heap.size < w2.heap.size := by omega
          have Bb_3 : Hid (w3.heap[w2.heap.size]? = some (.cells #[.slice Al Y.length cl] 29 (0, 0))) := blk_keep hb3 (by repeat (first | exact blk_new (by first | rfl | (simp; done) | (simp; omega)) | refine blk_skip ?_ | refine blk_drewN ?_ | refine blk_drew ?_))
          have s0_3 : w3.cell? ⟨w.heap.size, 0, none⟩ = some (.bool he) := blk_cell Bs_3.out rfl
          have s1_3 : w3.cell? ⟨w.heap.size, 1, none⟩ = some (.slice A1 R.length c1) := blk_cell Bs_3.out rfl
          have s2_3 : w3.cell? ⟨w.heap.size, 2, none⟩ = some (.slice A2 H.length c2) := blk_cell Bs_3.out rfl
          have s3_3 : w3.cell? ⟨w.heap.size, 3, none⟩ = some (.slice A3 F.length c3) := blk_cell Bs_3.out rfl
          have s4_3 : w3.cell? ⟨w.heap.size, 4, none⟩ = some (.bool tu) := blk_cell Bs_3.out rfl
          have s5_3 : w3.cell? ⟨w.heap.size, 5, none⟩ = some (.bool fa) := blk_cell Bs_3.out rfl
          have s6_3 : w3.cell? ⟨w.heap.size, 6, none⟩ = some (.int .i64 ag) := blk_cell Bs_3.out rfl
          have s7_3 : w3.cell? ⟨w.heap.size, 7, none⟩ = some (.bool jo) := blk_cell Bs_3.out rfl
          have sz_3 : w.heap.size < w3.heap.size := blk_lt Bs_3.out
          have f0_3 : w3.cell? ⟨w1.heap.size, 0, none⟩ = some (.int .i64 x1) := blk_cell Bf_3.out rfl
          have fz_3 : w1.heap.size < w3.heap.size := blk_lt Bf_3.out
          have b0_3 : w3.cell? ⟨w2.heap.size, 0, none⟩ = some (.slice Al Y.length cl) := blk_cell Bb_3.out rfl
          have bz_3 : w2.heap.size < w3.heap.size := blk_lt Bb_3.out
          clear S1_2 S2_2 S3_2 Sl_2 Bs_2 s0_2 s1_2 s2_2 s3_2 s4_2 s5_2 s6_2 s7_2 sz_2 Bf_2 f0_2 fz_2 HB_2 hb3
          go_wp2_with fail
          refine ((HH _ (by repeat (first | exact S2_3.out | refine Sp.alloc ?_ _ | refine Sp.drewN ?_ _ | refine Sp.drew ?_))).out).mono ?_
          rintro e4 w4 ⟨rfl, hb4⟩
          have HB_4 : Hid (Below w.heap.size w w4) := bel_chain hb4 (by repeat (first | exact HB_3.out | refine bel_drewN ?_ _ | refine bel_drew ?_ | refine bel_alloc ?_ _))
          have S1_4 : Hid (Sp w4 A1 c1 (R)) := Sp.below (by repeat (first | exact S1_3.out | refine Sp.alloc ?_ _ | refine Sp.drewN ?_ _ | refine Sp.drew ?_)) hb4
          have S2_4 : Hid (Sp w4 A2 c2 (H)) := Sp.below (by repeat (first | exact S2_3.out | refine Sp.alloc ?_ _ | refine Sp.drewN ?_ _ | refine Sp.drew ?_)) hb4
          have S3_4 : Hid (Sp w4 A3 c3 (F)) := Sp.below (by repeat (first | exact S3_3.out | refine Sp.alloc ?_ _ | refine Sp.drewN ?_ _ | refine Sp.drew ?_)) hb4
          have Sl_4 : Hid (Sp w4 Al cl (Y)) := Sp.below (by repeat (first | exact Sl_3.out | refine Sp.alloc ?_ _ | refine Sp.drewN ?_ _ | refine Sp.drew ?_)) hb4
          have Bs_4 : Hid (w4.heap[w.heap.size]? = some (.cells #[.bool he, .slice A1 R.length c1, .slice A2 H.length c2, .slice A3 F.length c3, .bool tu, .bool fa, .int .i64 ag, .bool jo] 31 (0, 0))) := blk_keep hb4 (blk_keep (W := w3) (by (repeat (first | exact Below.refl _ _ | refine bel_drewN ?_ _ | refine bel_drew ?_ | refine bel_alloc ?_ _ | refine bel_set ?_ (by simp) _))) Bs_3.out)
          have Bf_4 : Hid (w4.heap[w1.heap.size]? = some (.cells #[.int .i64 x1, .int .i64 x2] 48 (0, 0))) := blk_keep hb4 (blk_keep (W := w3) (by (repeat (first | exact Below.refl _ _ | refine bel_drewN ?_ _ | refine bel_drew ?_ | refine bel_alloc ?_ _ | refine bel_set ?_ (by simp) _))) Bf_3.out)
          have Bb_4 : Hid (w4.heap[w2.heap.size]? = some (.cells #[.slice Al Y.length cl] 29 (0, 0))) := blk_keep hb4 (blk_keep (W := w3) (by (repeat (first | exact Below.refl _ _ | refine bel_drewN ?_ _ | refine bel_drew ?_ | refine bel_alloc ?_ _ | refine bel_set ?_ (by simp) _))) Bb_3.out)
          have s0_4 : w4.cell? ⟨w.heap.size, 0, none⟩ = some (.bool he) := blk_cell Bs_4.out rfl
          have s1_4 : w4.cell? ⟨w.heap.size, 1, none⟩ = some (.slice A1 R.length c1) := blk_cell Bs_4.out rfl
          have s2_4 : w4.cell? ⟨w.heap.size, 2, none⟩ = some (.slice A2 H.length c2) := blk_cell Bs_4.out rfl
          have s3_4 : w4.cell? ⟨w.heap.size, 3, none⟩ = some (.slice A3 F.length c3) := blk_cell Bs_4.out rfl
          have s4_4 : w4.cell? ⟨w.heap.size, 4, none⟩ = some (.bool tu) := blk_cell Bs_4.out rfl
          have s5_4 : w4.cell? ⟨w.heap.size, 5, none⟩ = some (.bool fa) := blk_cell Bs_4.out rfl
          have s6_4 : w4.cell? ⟨w.heap.size, 6, none⟩ = some (.int .i64 ag) := blk_cell Bs_4.out rfl
          have s7_4 : w4.cell? ⟨w.heap.size, 7, none⟩ = some (.bool jo) := blk_cell Bs_4.out rfl
          have sz_4 : w.heap.size < w4.heap.size := blk_lt Bs_4.out
          have f0_4 : w4.cell? ⟨w1.heap.size, 0, none⟩ = some (.int .i64 x1) := blk_cell Bf_4.out rfl
          have fz_4 : w1.heap.size < w4.heap.size := blk_lt Bf_4.out
          have b0_4 : w4.cell? ⟨w2.heap.size, 0, none⟩ = some (.slice Al Y.length cl) := blk_cell Bb_4.out rfl
          have bz_4 : w2.heap.size < w4.heap.size := blk_lt Bb_4.out
          clear S1_3 S2_3 S3_3 Sl_3 Bs_3 s0_3 s1_3 s2_3 s3_3 s4_3 s5_3 s6_3 s7_3 sz_3 Bf_3 f0_3 fz_3 Bb_3 b0_3 bz_3 HB_3 hb4
          go_wp2_with fail
          refine ((HF _ (by repeat (first | exact S3_4.out | refine Sp.alloc ?_ _ | refine Sp.drewN ?_ _ | refine Sp.drew ?_))).out).mono ?_
          rintro e5 w5 ⟨rfl, hb5⟩
          have HB_5 : Hid (Below w.heap.size w w5) := bel_chain hb5 (by repeat (first | exact HB_4.out | refine bel_drewN ?_ _ | refine bel_drew ?_ | refine bel_alloc ?_ _))
          have S1_5 : Hid (Sp w5 A1 c1 (R)) := Sp.below (by repeat (first | exact S1_4.out | refine Sp.alloc ?_ _ | refine Sp.drewN ?_ _ | refine Sp.drew ?_)) hb5
          have S2_5 : Hid (Sp w5 A2 c2 (H)) := Sp.below (by repeat (first | exact S2_4.out | refine Sp.alloc ?_ _ | refine Sp.drewN ?_ _ | refine Sp.drew ?_)) hb5
          have S3_5 : Hid (Sp w5 A3 c3 (F)) := Sp.below (by repeat (first | exact S3_4.out | refine Sp.alloc ?_ _ | refine Sp.drewN ?_ _ | refine Sp.drew ?_)) hb5
          have Sl_5 : Hid (Sp w5 Al cl (Y)) := Sp.below (by repeat (first | exact Sl_4.out | refine Sp.alloc ?_ _ | refine Sp.drewN ?_ _ | refine Sp.drew ?_)) hb5
          have Bs_5 : Hid (w5.heap[w.heap.size]? = some (.cells #[.bool he, .slice A1 R.length c1, .slice A2 H.length c2, .slice A3 F.length c3, .bool tu, .bool fa, .int .i64 ag, .bool jo] 31 (0, 0))) := blk_keep hb5 (blk_keep (W := w4) (by (repeat (first | exact Below.refl _ _ | refine bel_drewN ?_ _ | refine bel_drew ?_ | refine bel_alloc ?_ _ | refine bel_set ?_ (by simp) _))) Bs_4.out)
          have Bf_5 : Hid (w5.heap[w1.heap.size]? = some (.cells #[.int .i64 x1, .int .i64 x2] 48 (0, 0))) := blk_keep hb5 (blk_keep (W := w4) (by (repeat (first | exact Below.refl _ _ | refine bel_drewN ?_ _ | refine bel_drew ?_ | refine bel_alloc ?_ _ | refine bel_set ?_ (by simp) _))) Bf_4.out)
          have Bb_5 : Hid (w5.heap[w2.heap.size]? = some (.cells #[.slice Al Y.length cl] 29 (0, 0))) := blk_keep hb5 (blk_keep (W := w4) (by (repeat (first | exact Below.refl _ _ | refine bel_drewN ?_ _ | refine bel_drew ?_ | refine bel_alloc ?_ _ | refine bel_set ?_ (by simp) _))) Bb_4.out)
          have s0_5 : w5.cell? ⟨w.heap.size, 0, none⟩ = some (.bool he) := blk_cell Bs_5.out rfl
          have s1_5 : w5.cell? ⟨w.heap.size, 1, none⟩ = some (.slice A1 R.length c1) := blk_cell Bs_5.out rfl
          have s2_5 : w5.cell? ⟨w.heap.size, 2, none⟩ = some (.slice A2 H.length c2) := blk_cell Bs_5.out rfl
          have s3_5 : w5.cell? ⟨w.heap.size, 3, none⟩ = some (.slice A3 F.length c3) := blk_cell Bs_5.out rfl
          have s4_5 : w5.cell? ⟨w.heap.size, 4, none⟩ = some (.bool tu) := blk_cell Bs_5.out rfl
          have s5_5 : w5.cell? ⟨w.heap.size, 5, none⟩ = some (.bool fa) := blk_cell Bs_5.out rfl
          have s6_5 : w5.cell? ⟨w.heap.size, 6, none⟩ = some (.int .i64 ag) := blk_cell Bs_5.out rfl
          have s7_5 : w5.cell? ⟨w.heap.size, 7, none⟩ = some (.bool jo) := blk_cell Bs_5.out rfl
          have sz_5 : w.heap.size < w5.heap.size := blk_lt Bs_5.out
          have f0_5 : w5.cell? ⟨w1.heap.size, 0, none⟩ = some (.int .i64 x1) := blk_cell Bf_5.out rfl
          have fz_5 : w1.heap.size < w5.heap.size := blk_lt Bf_5.out
          have b0_5 : w5.cell? ⟨w2.heap.size, 0, none⟩ = some (.slice Al Y.length cl) := blk_cell Bb_5.out rfl
          have bz_5 : w2.heap.size < w5.heap.size := blk_lt Bb_5.out
          clear S1_4 S2_4 S3_4 Sl_4 Bs_4 s0_4 s1_4 s2_4 s3_4 s4_4 s5_4 s6_4 s7_4 sz_4 Bf_4 f0_4 fz_4 Bb_4 b0_4 bz_4 HB_4 hb5
          go_wp2_with fail
          refine ((HY _ Al cl (by repeat (first | exact Sl_5.out | refine Sp.alloc ?_ _ | refine Sp.drewN ?_ _ | refine Sp.drew ?_))).out).mono ?_
          rintro e6 w6 ⟨rfl, hb6⟩
          have HB_6 : Hid (Below w.heap.size w w6) := bel_chain hb6 (by repeat (first | exact HB_5.out | refine bel_drewN ?_ _ | refine bel_drew ?_ | refine bel_alloc ?_ _))
          have S1_6 : Hid (Sp w6 A1 c1 (R)) := Sp.below (by repeat (first | exact S1_5.out | refine Sp.alloc ?_ _ | refine Sp.drewN ?_ _ | refine Sp.drew ?_)) hb6
          have S2_6 : Hid (Sp w6 A2 c2 (H)) := Sp.below (by repeat (first | exact S2_5.out | refine Sp.alloc ?_ _ | refine Sp.drewN ?_ _ | refine Sp.drew ?_)) hb6
          have S3_6 : Hid (Sp w6 A3 c3 (F)) := Sp.below (by repeat (first | exact S3_5.out | refine Sp.alloc ?_ _ | refine Sp.drewN ?_ _ | refine Sp.drew ?_)) hb6
          have Sl_6 : Hid (Sp w6 Al cl (Y)) := Sp.below (by repeat (first | exact Sl_5.out | refine Sp.alloc ?_ _ | refine Sp.drewN ?_ _ | refine Sp.drew ?_)) hb6
          have Bs_6 : Hid (w6.heap[w.heap.size]? = some (.cells #[.bool he, .slice A1 R.length c1, .slice A2 H.length c2, .slice A3 F.length c3, .bool tu, .bool fa, .int .i64 ag, .bool jo] 31 (0, 0))) := blk_keep hb6 (blk_keep (W := w5) (by (repeat (first | exact Below.refl _ _ | refine bel_drewN ?_ _ | refine bel_drew ?_ | refine bel_alloc ?_ _ | refine bel_set ?_ (by simp) _))) Bs_5.out)
          have Bf_6 : Hid (w6.heap[w1.heap.size]? = some (.cells #[.int .i64 x1, .int .i64 x2] 48 (0, 0))) := blk_keep hb6 (blk_keep (W := w5) (by (repeat (first | exact Below.refl _ _ | refine bel_drewN ?_ _ | refine bel_drew ?_ | refine bel_alloc ?_ _ | refine bel_set ?_ (by simp) _))) Bf_5.out)
          have Bb_6 : Hid (w6.heap[w2.heap.size]? = some (.cells #[.slice Al Y.length cl] 29 (0, 0))) := blk_keep hb6 (blk_keep (W := w5) (by (repeat (first | exact Below.refl _ _ | refine bel_drewN ?_ _ | refine bel_drew ?_ | refine bel_alloc ?_ _ | refine bel_set ?_ (by simp) _))) Bb_5.out)
          have s0_6 : w6.cell? ⟨w.heap.size, 0, none⟩ = some (.bool he) := blk_cell Bs_6.out rfl
          have s1_6 : w6.cell? ⟨w.heap.size, 1, none⟩ = some (.slice A1 R.length c1) := blk_cell Bs_6.out rfl
          have s2_6 : w6.cell? ⟨w.heap.size, 2, none⟩ = some (.slice A2 H.length c2) := blk_cell Bs_6.out rfl
          have s3_6 : w6.cell? ⟨w.heap.size, 3, none⟩ = some (.slice A3 F.length c3) := blk_cell Bs_6.out rfl
          have s4_6 : w6.cell? ⟨w.heap.size, 4, none⟩ = some (.bool tu) := blk_cell Bs_6.out rfl
          have s5_6 : w6.cell? ⟨w.heap.size, 5, none⟩ = some (.bool fa) := blk_cell Bs_6.out rfl
          have s6_6 : w6.cell? ⟨w.heap.size, 6, none⟩ = some (.int .i64 ag) := blk_cell Bs_6.out rfl
          have s7_6 : w6.cell? ⟨w.heap.size, 7, none⟩ = some (.bool jo) := blk_cell Bs_6.out rfl
          have sz_6 : w.heap.size < w6.heap.size := blk_lt Bs_6.out
          have f0_6 : w6.cell? ⟨w1.heap.size, 0, none⟩ = some (.int .i64 x1) := blk_cell Bf_6.out rfl
          have fz_6 : w1.heap.size < w6.heap.size := blk_lt Bf_6.out
          have b0_6 : w6.cell? ⟨w2.heap.size, 0, none⟩ = some (.slice Al Y.length cl) := blk_cell Bb_6.out rfl
          have bz_6 : w2.heap.size < w6.heap.size := blk_lt Bb_6.out
          clear S1_5 S2_5 S3_5 Sl_5 Bs_5 s0_5 s1_5 s2_5 s3_5 s4_5 s5_5 s6_5 s7_5 sz_5 Bf_5 f0_5 fz_5 Bb_5 b0_5 bz_5 HB_5 hb6
          go_wp2_with fail
          go_ret
          exact ⟨ret_int (by simp), (by repeat (first | (with_reducible exact HB_6.out) | (with_reducible refine bel_drewN ?_ _) | (with_reducible refine bel_drew ?_) | (with_reducible refine bel_alloc ?_ _) | (with_reducible refine bel_set ?_ (by first | omega | (dsimp only; omega)) _)))⟩
        · rw [hb2] at HF
          clear hb1 hb2
          go_enter Tryd.func15, Tryd.ntmps15
          go_wp2_with fail
          refine (first_as1 A1 c1 R x1 x2 r HR.out _ (by repeat (first | exact S1_0.out | refine Sp.alloc ?_ _ | refine Sp.drewN ?_ _ | refine Sp.drew ?_)) K1.out (by omega)).mono ?_
          rintro e1 w1 ⟨rfl, hb1⟩
          have HB_1 : Hid (Below w.heap.size w w1) := bel_chain hb1 (by repeat (first | exact Below.refl _ _ | refine bel_drewN ?_ _ | refine bel_drew ?_ | refine bel_alloc ?_ _))
          have S1_1 : Hid (Sp w1 A1 c1 (R)) := Sp.below (by repeat (first | exact S1_0.out | refine Sp.alloc ?_ _ | refine Sp.drewN ?_ _ | refine Sp.drew ?_)) hb1
          have S2_1 : Hid (Sp w1 A2 c2 (H)) := Sp.below (by repeat (first | exact S2_0.out | refine Sp.alloc ?_ _ | refine Sp.drewN ?_ _ | refine Sp.drew ?_)) hb1
          have S3_1 : Hid (Sp w1 A3 c3 (F)) := Sp.below (by repeat (first | exact S3_0.out | refine Sp.alloc ?_ _ | refine Sp.drewN ?_ _ | refine Sp.drew ?_)) hb1
          have Bs_1 : Hid (w1.heap[w.heap.size]? = some (.cells #[.bool he, .slice A1 R.length c1, .slice A2 H.length c2, .slice A3 F.length c3, .bool tu, .bool fa, .int .i64 ag, .bool jo] 31 (0, 0))) := blk_keep hb1 (by repeat (first | exact blk_new (by first | rfl | (simp; done) | (simp; omega)) | refine blk_skip ?_ | refine blk_drewN ?_ | refine blk_drew ?_))
          have s0_1 : w1.cell? ⟨w.heap.size, 0, none⟩ = some (.bool he) := blk_cell Bs_1.out rfl
          have s1_1 : w1.cell? ⟨w.heap.size, 1, none⟩ = some (.slice A1 R.length c1) := blk_cell Bs_1.out rfl
          have s2_1 : w1.cell? ⟨w.heap.size, 2, none⟩ = some (.slice A2 H.length c2) := blk_cell Bs_1.out rfl
          have s3_1 : w1.cell? ⟨w.heap.size, 3, none⟩ = some (.slice A3 F.length c3) := blk_cell Bs_1.out rfl
          have s4_1 : w1.cell? ⟨w.heap.size, 4, none⟩ = some (.bool tu) := blk_cell Bs_1.out rfl
          have s5_1 : w1.cell? ⟨w.heap.size, 5, none⟩ = some (.bool fa) := blk_cell Bs_1.out rfl
          have s6_1 : w1.cell? ⟨w.heap.size, 6, none⟩ = some (.int .i64 ag) := blk_cell Bs_1.out rfl
          have s7_1 : w1.cell? ⟨w.heap.size, 7, none⟩ = some (.bool jo) := blk_cell Bs_1.out rfl
          have sz_1 : w.heap.size < w1.heap.size := blk_lt Bs_1.out
          clear S1_0 S2_0 S3_0 hb1
          go_wp2_with fail
          refine ((HL _ (by repeat (first | exact S1_1.out | refine Sp.alloc ?_ _ | refine Sp.drewN ?_ _ | refine Sp.drew ?_)) (by repeat (first | exact S2_1.out | refine Sp.alloc ?_ _ | refine Sp.drewN ?_ _ | refine Sp.drew ?_)) (by repeat (first | exact S3_1.out | refine Sp.alloc ?_ _ | refine Sp.drewN ?_ _ | refine Sp.drew ?_))).out).mono ?_
          rintro e2 w2 ⟨Al, cl, rfl, hs2, hb2⟩
          have HB_2 : Hid (Below w.heap.size w w2) := bel_chain hb2 (by repeat (first | exact HB_1.out | refine bel_drewN ?_ _ | refine bel_drew ?_ | refine bel_alloc ?_ _))
          have S1_2 : Hid (Sp w2 A1 c1 (R)) := Sp.below (by repeat (first | exact S1_1.out | refine Sp.alloc ?_ _ | refine Sp.drewN ?_ _ | refine Sp.drew ?_)) hb2
          have S2_2 : Hid (Sp w2 A2 c2 (H)) := Sp.below (by repeat (first | exact S2_1.out | refine Sp.alloc ?_ _ | refine Sp.drewN ?_ _ | refine Sp.drew ?_)) hb2
          have S3_2 : Hid (Sp w2 A3 c3 (F)) := Sp.below (by repeat (first | exact S3_1.out | refine Sp.alloc ?_ _ | refine Sp.drewN ?_ _ | refine Sp.drew ?_)) hb2
          have Bs_2 : Hid (w2.heap[w.heap.size]? = some (.cells #[.bool he, .slice A1 R.length c1, .slice A2 H.length c2, .slice A3 F.length c3, .bool tu, .bool fa, .int .i64 ag, .bool jo] 31 (0, 0))) := blk_keep hb2 (blk_keep (W := w1) (by (repeat (first | exact Below.refl _ _ | refine bel_drewN ?_ _ | refine bel_drew ?_ | refine bel_alloc ?_ _ | refine bel_set ?_ (by simp) _))) Bs_1.out)
          have ord0 : w.heap.size < w1.heap.size := by omega
          have Bf_2 : Hid (w2.heap[w1.heap.size]? = some (.cells #[.int .i64 x1, .int .i64 x2] 48 (0, 0))) := blk_keep hb2 (by repeat (first | exact blk_new (by first | rfl | (simp; done) | (simp; omega)) | refine blk_skip ?_ | refine blk_drewN ?_ | refine blk_drew ?_))
          have s0_2 : w2.cell? ⟨w.heap.size, 0, none⟩ = some (.bool he) := blk_cell Bs_2.out rfl
          have s1_2 : w2.cell? ⟨w.heap.size, 1, none⟩ = some (.slice A1 R.length c1) := blk_cell Bs_2.out rfl
          have s2_2 : w2.cell? ⟨w.heap.size, 2, none⟩ = some (.slice A2 H.length c2) := blk_cell Bs_2.out rfl
          have s3_2 : w2.cell? ⟨w.heap.size, 3, none⟩ = some (.slice A3 F.length c3) := blk_cell Bs_2.out rfl
          have s4_2 : w2.cell? ⟨w.heap.size, 4, none⟩ = some (.bool tu) := blk_cell Bs_2.out rfl
          have s5_2 : w2.cell? ⟨w.heap.size, 5, none⟩ = some (.bool fa) := blk_cell Bs_2.out rfl
          have s6_2 : w2.cell? ⟨w.heap.size, 6, none⟩ = some (.int .i64 ag) := blk_cell Bs_2.out rfl
          have s7_2 : w2.cell? ⟨w.heap.size, 7, none⟩ = some (.bool jo) := blk_cell Bs_2.out rfl
          have sz_2 : w.heap.size < w2.heap.size := blk_lt Bs_2.out
          have f0_2 : w2.cell? ⟨w1.heap.size, 0, none⟩ = some (.int .i64 x1) := blk_cell Bf_2.out rfl
          have fz_2 : w1.heap.size < w2.heap.size := blk_lt Bf_2.out
          have Sl_2 : Hid (Sp w2 Al cl (Y)) := hs2
          clear S1_1 S2_1 S3_1 Bs_1 s0_1 s1_1 s2_1 s3_1 s4_1 s5_1 s6_1 s7_1 sz_1 hs2 HB_1 hb2
          go_wp2_with fail
          refine (first_as0 Al cl Y HYE.out _ (by repeat (first | exact Sl_2.out | refine Sp.alloc ?_ _ | refine Sp.drewN ?_ _ | refine Sp.drew ?_))).mono ?_
          rintro e3 w3 ⟨rfl, hb3⟩
          have HB_3 : Hid (Below w.heap.size w w3) := bel_chain hb3 (by repeat (first | exact HB_2.out | refine bel_drewN ?_ _ | refine bel_drew ?_ | refine bel_alloc ?_ _))
          have S1_3 : Hid (Sp w3 A1 c1 (R)) := Sp.below (by repeat (first | exact S1_2.out | refine Sp.alloc ?_ _ | refine Sp.drewN ?_ _ | refine Sp.drew ?_)) hb3
          have S2_3 : Hid (Sp w3 A2 c2 (H)) := Sp.below (by repeat (first | exact S2_2.out | refine Sp.alloc ?_ _ | refine Sp.drewN ?_ _ | refine Sp.drew ?_)) hb3
          have S3_3 : Hid (Sp w3 A3 c3 (F)) := Sp.below (by repeat (first | exact S3_2.out | refine Sp.alloc ?_ _ | refine Sp.drewN ?_ _ | refine Sp.drew ?_)) hb3
          have Sl_3 : Hid (Sp w3 Al cl (Y)) := Sp.below (by repeat (first | exact Sl_2.out | refine Sp.alloc ?_ _ | refine Sp.drewN ?_ _ | refine Sp.drew ?_)) hb3
          have Bs_3 : Hid (w3.heap[w.heap.size]? = some (.cells #[.bool he, .slice A1 R.length c1, .slice A2 H.length c2, .slice A3 F.length c3, .bool tu, .bool fa, .int .i64 ag, .bool jo] 31 (0, 0))) := blk_keep hb3 (blk_keep (W := w2) (by (repeat (first | exact Below.refl _ _ | refine bel_drewN ?_ _ | refine bel_drew ?_ | refine bel_alloc ?_ _ | refine bel_set ?_ (by simp) _))) Bs_2.out)
          have Bf_3 : Hid (w3.heap[w1.heap.size]? = some (.cells #[.int .i64 x1, .int .i64 x2] 48 (0, 0))) := blk_keep hb3 (blk_keep (W := w2) (by (repeat (first | exact Below.refl _ _ | refine bel_drewN ?_ _ | refine bel_drew ?_ | refine bel_alloc ?_ _ | refine bel_set ?_ (by simp) _))) Bf_2.out)
          have ord1 : w.heap.size < w2.heap.size := by omega
          have ord2 : w1.heap.size < w2.heap.size := by omega
          have Bb_3 : Hid (w3.heap[w2.heap.size]? = some (.cells #[.slice Al Y.length cl] 29 (0, 0))) := blk_keep hb3 (by repeat (first | exact blk_new (by first | rfl | (simp; done) | (simp; omega)) | refine blk_skip ?_ | refine blk_drewN ?_ | refine blk_drew ?_))
          have s0_3 : w3.cell? ⟨w.heap.size, 0, none⟩ = some (.bool he) := blk_cell Bs_3.out rfl
          have s1_3 : w3.cell? ⟨w.heap.size, 1, none⟩ = some (.slice A1 R.length c1) := blk_cell Bs_3.out rfl
          have s2_3 : w3.cell? ⟨w.heap.size, 2, none⟩ = some (.slice A2 H.length c2) := blk_cell Bs_3.out rfl
          have s3_3 : w3.cell? ⟨w.heap.size, 3, none⟩ = some (.slice A3 F.length c3) := blk_cell Bs_3.out rfl
          have s4_3 : w3.cell? ⟨w.heap.size, 4, none⟩ = some (.bool tu) := blk_cell Bs_3.out rfl
          have s5_3 : w3.cell? ⟨w.heap.size, 5, none⟩ = some (.bool fa) := blk_cell Bs_3.out rfl
          have s6_3 : w3.cell? ⟨w.heap.size, 6, none⟩ = some (.int .i64 ag) := blk_cell Bs_3.out rfl
          have s7_3 : w3.cell? ⟨w.heap.size, 7, none⟩ = some (.bool jo) := blk_cell Bs_3.out rfl
          have sz_3 : w.heap.size < w3.heap.size := blk_lt Bs_3.out
          have f0_3 : w3.cell? ⟨w1.heap.size, 0, none⟩ = some (.int .i64 x1) := blk_cell Bf_3.out rfl
          have fz_3 : w1.heap.size < w3.heap.size := blk_lt Bf_3.out
          have b0_3 : w3.cell? ⟨w2.heap.size, 0, none⟩ = some (.slice Al Y.length cl) := blk_cell Bb_3.out rfl
          have bz_3 : w2.heap.size < w3.heap.size := blk_lt Bb_3.out
          clear S1_2 S2_2 S3_2 Sl_2 Bs_2 s0_2 s1_2 s2_2 s3_2 s4_2 s5_2 s6_2 s7_2 sz_2 Bf_2 f0_2 fz_2 HB_2 hb3
          go_wp2_with fail
          refine ((HH _ (by repeat (first | exact S2_3.out | refine Sp.alloc ?_ _ | refine Sp.drewN ?_ _ | refine Sp.drew ?_))).out).mono ?_
          rintro e4 w4 ⟨rfl, hb4⟩
          have HB_4 : Hid (Below w.heap.size w w4) := bel_chain hb4 (by repeat (first | exact HB_3.out | refine bel_drewN ?_ _ | refine bel_drew ?_ | refine bel_alloc ?_ _))
          have S1_4 : Hid (Sp w4 A1 c1 (R)) := Sp.below (by repeat (first | exact S1_3.out | refine Sp.alloc ?_ _ | refine Sp.drewN ?_ _ | refine Sp.drew ?_)) hb4
          have S2_4 : Hid (Sp w4 A2 c2 (H)) := Sp.below (by repeat (first | exact S2_3.out | refine Sp.alloc ?_ _ | refine Sp.drewN ?_ _ | refine Sp.drew ?_)) hb4
          have S3_4 : Hid (Sp w4 A3 c3 (F)) := Sp.below (by repeat (first | exact S3_3.out | refine Sp.alloc ?_ _ | refine Sp.drewN ?_ _ | refine Sp.drew ?_)) hb4
          have Sl_4 : Hid (Sp w4 Al cl (Y)) := Sp.below (by repeat (first | exact Sl_3.out | refine Sp.alloc ?_ _ | refine Sp.drewN ?_ _ | refine Sp.drew ?_)) hb4
          have Bs_4 : Hid (w4.heap[w.heap.size]? = some (.cells #[.bool he, .slice A1 R.length c1, .slice A2 H.length c2, .slice A3 F.length c3, .bool tu, .bool fa, .int .i64 ag, .bool jo] 31 (0, 0))) := blk_keep hb4 (blk_keep (W := w3) (by (repeat (first | exact Below.refl _ _ | refine bel_drewN ?_ _ | refine bel_drew ?_ | refine bel_alloc ?_ _ | refine bel_set ?_ (by simp) _))) Bs_3.out)
          have Bf_4 : Hid (w4.heap[w1.heap.size]? = some (.cells #[.int .i64 x1, .int .i64 x2] 48 (0, 0))) := blk_keep hb4 (blk_keep (W := w3) (by (repeat (first | exact Below.refl _ _ | refine bel_drewN ?_ _ | refine bel_drew ?_ | refine bel_alloc ?_ _ | refine bel_set ?_ (by simp) _))) Bf_3.out)
          have Bb_4 : Hid (w4.heap[w2.heap.size]? = some (.cells #[.slice Al Y.length cl] 29 (0, 0))) := blk_keep hb4 (blk_keep (W := w3) (by (repeat (first | exact Below.refl _ _ | refine bel_drewN ?_ _ | refine bel_drew ?_ | refine bel_alloc ?_ _ | refine bel_set ?_ (by simp) _))) Bb_3.out)
          have s0_4 : w4.cell? ⟨w.heap.size, 0, none⟩ = some (.bool he) := blk_cell Bs_4.out rfl
          have s1_4 : w4.cell? ⟨w.heap.size, 1, none⟩ = some (.slice A1 R.length c1) := blk_cell Bs_4.out rfl
          have s2_4 : w4.cell? ⟨w.heap.size, 2, none⟩ = some (.slice A2 H.length c2) := blk_cell Bs_4.out rfl
          have s3_4 : w4.cell? ⟨w.heap.size, 3, none⟩ = some (.slice A3 F.length c3) := blk_cell Bs_4.out rfl
          have s4_4 : w4.cell? ⟨w.heap.size, 4, none⟩ = some (.bool tu) := blk_cell Bs_4.out rfl
          have s5_4 : w4.cell? ⟨w.heap.size, 5, none⟩ = some (.bool fa) := blk_cell Bs_4.out rfl
          have s6_4 : w4.cell? ⟨w.heap.size, 6, none⟩ = some (.int .i64 ag) := blk_cell Bs_4.out rfl
          have s7_4 : w4.cell? ⟨w.heap.size, 7, none⟩ = some (.bool jo) := blk_cell Bs_4.out rfl
          have sz_4 : w.heap.size < w4.heap.size := blk_lt Bs_4.out
          have f0_4 : w4.cell? ⟨w1.heap.size, 0, none⟩ = some (.int .i64 x1) := blk_cell Bf_4.out rfl
          have fz_4 : w1.heap.size < w4.heap.size := blk_lt Bf_4.out
          have b0_4 : w4.cell? ⟨w2.heap.size, 0, none⟩ = some (.slice Al Y.length cl) := blk_cell Bb_4.out rfl
          have bz_4 : w2.heap.size < w4.heap.size := blk_lt Bb_4.out
          clear S1_3 S2_3 S3_3 Sl_3 Bs_3 s0_3 s1_3 s2_3 s3_3 s4_3 s5_3 s6_3 s7_3 sz_3 Bf_3 f0_3 fz_3 Bb_3 b0_3 bz_3 HB_3 hb4
          go_wp2_with fail
          refine ((HF _ (by repeat (first | exact S3_4.out | refine Sp.alloc ?_ _ | refine Sp.drewN ?_ _ | refine Sp.drew ?_))).out).mono ?_
          rintro e5 w5 ⟨rfl, hb5⟩
          have HB_5 : Hid (Below w.heap.size w w5) := bel_chain hb5 (by repeat (first | exact HB_4.out | refine bel_drewN ?_ _ | refine bel_drew ?_ | refine bel_alloc ?_ _))
          have S1_5 : Hid (Sp w5 A1 c1 (R)) := Sp.below (by repeat (first | exact S1_4.out | refine Sp.alloc ?_ _ | refine Sp.drewN ?_ _ | refine Sp.drew ?_)) hb5
          have S2_5 : Hid (Sp w5 A2 c2 (H)) := Sp.below (by repeat (first | exact S2_4.out | refine Sp.alloc ?_ _ | refine Sp.drewN ?_ _ | refine Sp.drew ?_)) hb5
          have S3_5 : Hid (Sp w5 A3 c3 (F)) := Sp.below (by repeat (first | exact S3_4.out | refine Sp.alloc ?_ _ | refine Sp.drewN ?_ _ | refine Sp.drew ?_)) hb5
          have Sl_5 : Hid (Sp w5 Al cl (Y)) := Sp.below (by repeat (first | exact Sl_4.out | refine Sp.alloc ?_ _ | refine Sp.drewN ?_ _ | refine Sp.drew ?_)) hb5
          have Bs_5 : Hid (w5.heap[w.heap.size]? = some (.cells #[.bool he, .slice A1 R.length c1, .slice A2 H.length c2, .slice A3 F.length c3, .bool tu, .bool fa, .int .i64 ag, .bool jo] 31 (0, 0))) := blk_keep hb5 (blk_keep (W := w4) (by (repeat (first | exact Below.refl _ _ | refine bel_drewN ?_ _ | refine bel_drew ?_ | refine bel_alloc ?_ _ | refine bel_set ?_ (by simp) _))) Bs_4.out)
          have Bf_5 : Hid (w5.heap[w1.heap.size]? = some (.cells #[.int .i64 x1, .int .i64 x2] 48 (0, 0))) := blk_keep hb5 (blk_keep (W := w4) (by (repeat (first | exact Below.refl _ _ | refine bel_drewN ?_ _ | refine bel_drew ?_ | refine bel_alloc ?_ _ | refine bel_set ?_ (by simp) _))) Bf_4.out)
          have Bb_5 : Hid (w5.heap[w2.heap.size]? = some (.cells #[.slice Al Y.length cl] 29 (0, 0))) := blk_keep hb5 (blk_keep (W := w4) (by (repeat (first | exact Below.refl _ _ | refine bel_drewN ?_ _ | refine bel_drew ?_ | refine bel_alloc ?_ _ | refine bel_set ?_ (by simp) _))) Bb_4.out)
          have s0_5 : w5.cell? ⟨w.heap.size, 0, none⟩ = some (.bool he) := blk_cell Bs_5.out rfl
          have s1_5 : w5.cell? ⟨w.heap.size, 1, none⟩ = some (.slice A1 R.length c1) := blk_cell Bs_5.out rfl
          have s2_5 : w5.cell? ⟨w.heap.size, 2, none⟩ = some (.slice A2 H.length c2) := blk_cell Bs_5.out rfl
          have s3_5 : w5.cell? ⟨w.heap.size, 3, none⟩ = some (.slice A3 F.length c3) := blk_cell Bs_5.out rfl
          have s4_5 : w5.cell? ⟨w.heap.size, 4, none⟩ = some (.bool tu) := blk_cell Bs_5.out rfl
          have s5_5 : w5.cell? ⟨w.heap.size, 5, none⟩ = some (.bool fa) := blk_cell Bs_5.out rfl
          have s6_5 : w5.cell? ⟨w.heap.size, 6, none⟩ = some (.int .i64 ag) := blk_cell Bs_5.out rfl
          have s7_5 : w5.cell? ⟨w.heap.size, 7, none⟩ = some (.bool jo) := blk_cell Bs_5.out rfl
          have sz_5 : w.heap.size < w5.heap.size := blk_lt Bs_5.out
          have f0_5 : w5.cell? ⟨w1.heap.size, 0, none⟩ = some (.int .i64 x1) := blk_cell Bf_5.out rfl
          have fz_5 : w1.heap.size < w5.heap.size := blk_lt Bf_5.out
          have b0_5 : w5.cell? ⟨w2.heap.size, 0, none⟩ = some (.slice Al Y.length cl) := blk_cell Bb_5.out rfl
          have bz_5 : w2.heap.size < w5.heap.size := blk_lt Bb_5.out
          clear S1_4 S2_4 S3_4 Sl_4 Bs_4 s0_4 s1_4 s2_4 s3_4 s4_4 s5_4 s6_4 s7_4 sz_4 Bf_4 f0_4 fz_4 Bb_4 b0_4 bz_4 HB_4 hb5
          go_wp2_with fail
          go_ret
          exact ⟨ret_int (by simp), (by repeat (first | (with_reducible exact HB_5.out) | (with_reducible refine bel_drewN ?_ _) | (with_reducible refine bel_drew ?_) | (with_reducible refine bel_alloc ?_ _) | (with_reducible refine bel_set ?_ (by first | omega | (dsimp only; omega)) _)))⟩
      · rw [hb1] at HH
        clear hb1
        go_enter Tryd.func15, Tryd.ntmps15
        go_wp2_with fail
        refine (first_as1 A1 c1 R x1 x2 r HR.out _ (by repeat (first | exact S1_0.out | refine Sp.alloc ?_ _ | refine Sp.drewN ?_ _ | refine Sp.drew ?_)) K1.out (by omega)).mono ?_
        rintro e1 w1 ⟨rfl, hb1⟩
        have HB_1 : Hid (Below w.heap.size w w1) := bel_chain hb1 (by repeat (first | exact Below.refl _ _ | refine bel_drewN ?_ _ | refine bel_drew ?_ | refine bel_alloc ?_ _))
        have S1_1 : Hid (Sp w1 A1 c1 (R)) := Sp.below (by repeat (first | exact S1_0.out | refine Sp.alloc ?_ _ | refine Sp.drewN ?_ _ | refine Sp.drew ?_)) hb1
        have S2_1 : Hid (Sp w1 A2 c2 (H)) := Sp.below (by repeat (first | exact S2_0.out | refine Sp.alloc ?_ _ | refine Sp.drewN ?_ _ | refine Sp.drew ?_)) hb1
        have S3_1 : Hid (Sp w1 A3 c3 (F)) := Sp.below (by repeat (first | exact S3_0.out | refine Sp.alloc ?_ _ | refine Sp.drewN ?_ _ | refine Sp.drew ?_)) hb1
        have Bs_1 : Hid (w1.heap[w.heap.size]? = some (.cells #[.bool he, .slice A1 R.length c1, .slice A2 H.length c2, .slice A3 F.length c3, .bool tu, .bool fa, .int .i64 ag, .bool jo] 31 (0, 0))) := blk_keep hb1 (by repeat (first | exact blk_new (by first | rfl | (simp; done) | (simp; omega)) | refine blk_skip ?_ | refine blk_drewN ?_ | refine blk_drew ?_))
        have s0_1 : w1.cell? ⟨w.heap.size, 0, none⟩ = some (.bool he) := blk_cell Bs_1.out rfl
        have s1_1 : w1.cell? ⟨w.heap.size, 1, none⟩ = some (.slice A1 R.length c1) := blk_cell Bs_1.out rfl
        have s2_1 : w1.cell? ⟨w.heap.size, 2, none⟩ = some (.slice A2 H.length c2) := blk_cell Bs_1.out rfl
        have s3_1 : w1.cell? ⟨w.heap.size, 3, none⟩ = some (.slice A3 F.length c3) := blk_cell Bs_1.out rfl
        have s4_1 : w1.cell? ⟨w.heap.size, 4, none⟩ = some (.bool tu) := blk_cell Bs_1.out rfl
        have s5_1 : w1.cell? ⟨w.heap.size, 5, none⟩ = some (.bool fa) := blk_cell Bs_1.out rfl
        have s6_1 : w1.cell? ⟨w.heap.size, 6, none⟩ = some (.int .i64 ag) := blk_cell Bs_1.out rfl
        have s7_1 : w1.cell? ⟨w.heap.size, 7, none⟩ = some (.bool jo) := blk_cell Bs_1.out rfl
        have sz_1 : w.heap.size < w1.heap.size := blk_lt Bs_1.out
        clear S1_0 S2_0 S3_0 hb1
        go_wp2_with fail
        refine ((HL _ (by repeat (first | exact S1_1.out | refine Sp.alloc ?_ _ | refine Sp.drewN ?_ _ | refine Sp.drew ?_)) (by repeat (first | exact S2_1.out | refine Sp.alloc ?_ _ | refine Sp.drewN ?_ _ | refine Sp.drew ?_)) (by repeat (first | exact S3_1.out | refine Sp.alloc ?_ _ | refine Sp.drewN ?_ _ | refine Sp.drew ?_))).out).mono ?_
        rintro e2 w2 ⟨Al, cl, rfl, hs2, hb2⟩
        have HB_2 : Hid (Below w.heap.size w w2) := bel_chain hb2 (by repeat (first | exact HB_1.out | refine bel_drewN ?_ _ | refine bel_drew ?_ | refine bel_alloc ?_ _))
        have S1_2 : Hid (Sp w2 A1 c1 (R)) := Sp.below (by repeat (first | exact S1_1.out | refine Sp.alloc ?_ _ | refine Sp.drewN ?_ _ | refine Sp.drew ?_)) hb2
        have S2_2 : Hid (Sp w2 A2 c2 (H)) := Sp.below (by repeat (first | exact S2_1.out | refine Sp.alloc ?_ _ | refine Sp.drewN ?_ _ | refine Sp.drew ?_)) hb2
        have S3_2 : Hid (Sp w2 A3 c3 (F)) := Sp.below (by repeat (first | exact S3_1.out | refine Sp.alloc ?_ _ | refine Sp.drewN ?_ _ | refine Sp.drew ?_)) hb2
        have Bs_2 : Hid (w2.heap[w.heap.size]? = some (.cells #[.bool he, .slice A1 R.length c1, .slice A2 H.length c2, .slice A3 F.length c3, .bool tu, .bool fa, .int .i64 ag, .bool jo] 31 (0, 0))) := blk_keep hb2 (blk_keep (W := w1) (by (repeat (first | exact Below.refl _ _ | refine bel_drewN ?_ _ | refine bel_drew ?_ | refine bel_alloc ?_ _ | refine bel_set ?_ (by simp) _))) Bs_1.out)
        have ord0 : w.heap.size < w1.heap.size := by omega
        have Bf_2 : Hid (w2.heap[w1.heap.size]? = some (.cells #[.int .i64 x1, .int .i64 x2] 48 (0, 0))) := blk_keep hb2 (by repeat (first | exact blk_new (by first | rfl | (simp; done) | (simp; omega)) | refine blk_skip ?_ | refine blk_drewN ?_ | refine blk_drew ?_))
        have s0_2 : w2.cell? ⟨w.heap.size, 0, none⟩ = some (.bool he) := blk_cell Bs_2.out rfl
        have s1_2 : w2.cell? ⟨w.heap.size, 1, none⟩ = some (.slice A1 R.length c1) := blk_cell Bs_2.out rfl
        have s2_2 : w2.cell? ⟨w.heap.size, 2, none⟩ = some (.slice A2 H.length c2) := blk_cell Bs_2.out rfl
        have s3_2 : w2.cell? ⟨w.heap.size, 3, none⟩ = some (.slice A3 F.length c3) := blk_cell Bs_2.out rfl
        have s4_2 : w2.cell? ⟨w.heap.size, 4, none⟩ = some (.bool tu) := blk_cell Bs_2.out rfl
        have s5_2 : w2.cell? ⟨w.heap.size, 5, none⟩ = some (.bool fa) := blk_cell Bs_2.out rfl
        have s6_2 : w2.cell? ⟨w.heap.size, 6, none⟩ = some (.int .i64 ag) := blk_cell Bs_2.out rfl
        have s7_2 : w2.cell? ⟨w.heap.size, 7, none⟩ = some (.bool jo) := blk_cell Bs_2.out rfl
        have sz_2 : w.heap.size < w2.heap.size := blk_lt Bs_2.out
        have f0_2 : w2.cell? ⟨w1.heap.size, 0, none⟩ = some (.int .i64 x1) := blk_cell Bf_2.out rfl
        have fz_2 : w1.heap.size < w2.heap.size := blk_lt Bf_2.out
        have Sl_2 : Hid (Sp w2 Al cl (Y)) := hs2
        clear S1_1 S2_1 S3_1 Bs_1 s0_1 s1_1 s2_1 s3_1 s4_1 s5_1 s6_1 s7_1 sz_1 hs2 HB_1 hb2
        go_wp2_with fail
        refine (first_as0 Al cl Y HYE.out _ (by repeat (first | exact Sl_2.out | refine Sp.alloc ?_ _ | refine Sp.drewN ?_ _ | refine Sp.drew ?_))).mono ?_
        rintro e3 w3 ⟨rfl, hb3⟩
        have HB_3 : Hid (Below w.heap.size w w3) := bel_chain hb3 (by repeat (first | exact HB_2.out | refine bel_drewN ?_ _ | refine bel_drew ?_ | refine bel_alloc ?_ _))
        have S1_3 : Hid (Sp w3 A1 c1 (R)) := Sp.below (by repeat (first | exact S1_2.out | refine Sp.alloc ?_ _ | refine Sp.drewN ?_ _ | refine Sp.drew ?_)) hb3
        have S2_3 : Hid (Sp w3 A2 c2 (H)) := Sp.below (by repeat (first | exact S2_2.out | refine Sp.alloc ?_ _ | refine Sp.drewN ?_ _ | refine Sp.drew ?_)) hb3
        have S3_3 : Hid (Sp w3 A3 c3 (F)) := Sp.below (by repeat (first | exact S3_2.out | refine Sp.alloc ?_ _ | refine Sp.drewN ?_ _ | refine Sp.drew ?_)) hb3
        have Sl_3 : Hid (Sp w3 Al cl (Y)) := Sp.below (by repeat (first | exact Sl_2.out | refine Sp.alloc ?_ _ | refine Sp.drewN ?_ _ | refine Sp.drew ?_)) hb3
        have Bs_3 : Hid (w3.heap[w.heap.size]? = some (.cells #[.bool he, .slice A1 R.length c1, .slice A2 H.length c2, .slice A3 F.length c3, .bool tu, .bool fa, .int .i64 ag, .bool jo] 31 (0, 0))) := blk_keep hb3 (blk_keep (W := w2) (by (repeat (first | exact Below.refl _ _ | refine bel_drewN ?_ _ | refine bel_drew ?_ | refine bel_alloc ?_ _ | refine bel_set ?_ (by simp) _))) Bs_2.out)
        have Bf_3 : Hid (w3.heap[w1.heap.size]? = some (.cells #[.int .i64 x1, .int .i64 x2] 48 (0, 0))) := blk_keep hb3 (blk_keep (W := w2) (by (repeat (first | exact Below.refl _ _ | refine bel_drewN ?_ _ | refine bel_drew ?_ | refine bel_alloc ?_ _ | refine bel_set ?_ (by simp) _))) Bf_2.out)
        have ord1 : w.heap.size < w2.heap.size := by omega
        have ord2 : w1.heap.size < w2.heap.size := by omega
        have Bb_3 : Hid (w3.heap[w2.heap.size]? = some (.cells #[.slice Al Y.length cl] 29 (0, 0))) := blk_keep hb3 (by repeat (first | exact blk_new (by first | rfl | (simp; done) | (simp; omega)) | refine blk_skip ?_ | refine blk_drewN ?_ | refine blk_drew ?_))
        have s0_3 : w3.cell? ⟨w.heap.size, 0, none⟩ = some (.bool he) := blk_cell Bs_3.out rfl
        have s1_3 : w3.cell? ⟨w.heap.size, 1, none⟩ = some (.slice A1 R.length c1) := blk_cell Bs_3.out rfl
        have s2_3 : w3.cell? ⟨w.heap.size, 2, none⟩ = some (.slice A2 H.length c2) := blk_cell Bs_3.out rfl
        have s3_3 : w3.cell? ⟨w.heap.size, 3, none⟩ = some (.slice A3 F.length c3) := blk_cell Bs_3.out rfl
        have s4_3 : w3.cell? ⟨w.heap.size, 4, none⟩ = some (.bool tu) := blk_cell Bs_3.out rfl
        have s5_3 : w3.cell? ⟨w.heap.size, 5, none⟩ = some (.bool fa) := blk_cell Bs_3.out rfl
        have s6_3 : w3.cell? ⟨w.heap.size, 6, none⟩ = some (.int .i64 ag) := blk_cell Bs_3.out rfl
        have s7_3 : w3.cell? ⟨w.heap.size, 7, none⟩ = some (.bool jo) := blk_cell Bs_3.out rfl
        have sz_3 : w.heap.size < w3.heap.size := blk_lt Bs_3.out
        have f0_3 : w3.cell? ⟨w1.heap.size, 0, none⟩ = some (.int .i64 x1) := blk_cell Bf_3.out rfl
        have fz_3 : w1.heap.size < w3.heap.size := blk_lt Bf_3.out
        have b0_3 : w3.cell? ⟨w2.heap.size, 0, none⟩ = some (.slice Al Y.length cl) := blk_cell Bb_3.out rfl
        have bz_3 : w2.heap.size < w3.heap.size := blk_lt Bb_3.out
        clear S1_2 S2_2 S3_2 Sl_2 Bs_2 s0_2 s1_2 s2_2 s3_2 s4_2 s5_2 s6_2 s7_2 sz_2 Bf_2 f0_2 fz_2 HB_2 hb3
        go_wp2_with fail
        refine ((HH _ (by repeat (first | exact S2_3.out | refine Sp.alloc ?_ _ | refine Sp.drewN ?_ _ | refine Sp.drew ?_))).out).mono ?_
        rintro e4 w4 ⟨rfl, hb4⟩
        have HB_4 : Hid (Below w.heap.size w w4) := bel_chain hb4 (by repeat (first | exact HB_3.out | refine bel_drewN ?_ _ | refine bel_drew ?_ | refine bel_alloc ?_ _))
        have S1_4 : Hid (Sp w4 A1 c1 (R)) := Sp.below (by repeat (first | exact S1_3.out | refine Sp.alloc ?_ _ | refine Sp.drewN ?_ _ | refine Sp.drew ?_)) hb4
        have S2_4 : Hid (Sp w4 A2 c2 (H)) := Sp.below (by repeat (first | exact S2_3.out | refine Sp.alloc ?_ _ | refine Sp.drewN ?_ _ | refine Sp.drew ?_)) hb4
        have S3_4 : Hid (Sp w4 A3 c3 (F)) := Sp.below (by repeat (first | exact S3_3.out | refine Sp.alloc ?_ _ | refine Sp.drewN ?_ _ | refine Sp.drew ?_)) hb4
        have Sl_4 : Hid (Sp w4 Al cl (Y)) := Sp.below (by repeat (first | exact Sl_3.out | refine Sp.alloc ?_ _ | refine Sp.drewN ?_ _ | refine Sp.drew ?_)) hb4
        have Bs_4 : Hid (w4.heap[w.heap.size]? = some (.cells #[.bool he, .slice A1 R.length c1, .slice A2 H.length c2, .slice A3 F.length c3, .bool tu, .bool fa, .int .i64 ag, .bool jo] 31 (0, 0))) := blk_keep hb4 (blk_keep (W := w3) (by (repeat (first | exact Below.refl _ _ | refine bel_drewN ?_ _ | refine bel_drew ?_ | refine bel_alloc ?_ _ | refine bel_set ?_ (by simp) _))) Bs_3.out)
        have Bf_4 : Hid (w4.heap[w1.heap.size]? = some (.cells #[.int .i64 x1, .int .i64 x2] 48 (0, 0))) := blk_keep hb4 (blk_keep (W := w3) (by (repeat (first | exact Below.refl _ _ | refine bel_drewN ?_ _ | refine bel_drew ?_ | refine bel_alloc ?_ _ | refine bel_set ?_ (by simp) _))) Bf_3.out)
        have Bb_4 : Hid (w4.heap[w2.heap.size]? = some (.cells #[.slice Al Y.length cl] 29 (0, 0))) := blk_keep hb4 (blk_keep (W := w3) (by (repeat (first | exact Below.refl _ _ | refine bel_drewN ?_ _ | refine bel_drew ?_ | refine bel_alloc ?_ _ | refine bel_set ?_ (by simp) _))) Bb_3.out)
        have s0_4 : w4.cell? ⟨w.heap.size, 0, none⟩ = some (.bool he) := blk_cell Bs_4.out rfl
        have s1_4 : w4.cell? ⟨w.heap.size, 1, none⟩ = some (.slice A1 R.length c1) := blk_cell Bs_4.out rfl
        have s2_4 : w4.cell? ⟨w.heap.size, 2, none⟩ = some (.slice A2 H.length c2) := blk_cell Bs_4.out rfl
        have s3_4 : w4.cell? ⟨w.heap.size, 3, none⟩ = some (.slice A3 F.length c3) := blk_cell Bs_4.out rfl
        have s4_4 : w4.cell? ⟨w.heap.size, 4, none⟩ = some (.bool tu) := blk_cell Bs_4.out rfl
        have s5_4 : w4.cell? ⟨w.heap.size, 5, none⟩ = some (.bool fa) := blk_cell Bs_4.out rfl
        have s6_4 : w4.cell? ⟨w.heap.size, 6, none⟩ = some (.int .i64 ag) := blk_cell Bs_4.out rfl
        have s7_4 : w4.cell? ⟨w.heap.size, 7, none⟩ = some (.bool jo) := blk_cell Bs_4.out rfl
        have sz_4 : w.heap.size < w4.heap.size := blk_lt Bs_4.out
        have f0_4 : w4.cell? ⟨w1.heap.size, 0, none⟩ = some (.int .i64 x1) := blk_cell Bf_4.out rfl
        have fz_4 : w1.heap.size < w4.heap.size := blk_lt Bf_4.out
        have b0_4 : w4.cell? ⟨w2.heap.size, 0, none⟩ = some (.slice Al Y.length cl) := blk_cell Bb_4.out rfl
        have bz_4 : w2.heap.size < w4.heap.size := blk_lt Bb_4.out
        clear S1_3 S2_3 S3_3 Sl_3 Bs_3 s0_3 s1_3 s2_3 s3_3 s4_3 s5_3 s6_3 s7_3 sz_3 Bf_3 f0_3 fz_3 Bb_3 b0_3 bz_3 HB_3 hb4
        go_wp2_with fail
        go_ret
        exact ⟨ret_int (by simp), (by repeat (first | (with_reducible exact HB_4.out) | (with_reducible refine bel_drewN ?_ _) | (with_reducible refine bel_drew ?_) | (with_reducible refine bel_alloc ?_ _) | (with_reducible refine bel_set ?_ (by first | omega | (dsimp only; omega)) _)))⟩
    · have HYE := Lib.hid hY
      have HYB : Hid (Y.isEmpty = false) := by simp only [Hid]; rw [hY]; rfl
      rw [HYB.out]
      rw [HYB.out] at HLF
      clear hY
      cases he
      · by_cases hag : 0 < ag
        · go_enter Tryd.func15, Tryd.ntmps15
          go_wp2_with fail
          refine (first_as1 A1 c1 R x1 x2 r HR.out _ (by repeat (first | exact S1_0.out | refine Sp.alloc ?_ _ | refine Sp.drewN ?_ _ | refine Sp.drew ?_)) K1.out (by omega)).mono ?_
          rintro e1 w1 ⟨rfl, hb1⟩
          have HB_1 : Hid (Below w.heap.size w w1) := bel_chain hb1 (by repeat (first | exact Below.refl _ _ | refine bel_drewN ?_ _ | refine bel_drew ?_ | refine bel_alloc ?_ _))
          have S1_1 : Hid (Sp w1 A1 c1 (R)) := Sp.below (by repeat (first | exact S1_0.out | refine Sp.alloc ?_ _ | refine Sp.drewN ?_ _ | refine Sp.drew ?_)) hb1
          have S2_1 : Hid (Sp w1 A2 c2 (H)) := Sp.below (by repeat (first | exact S2_0.out | refine Sp.alloc ?_ _ | refine Sp.drewN ?_ _ | refine Sp.drew ?_)) hb1
          have S3_1 : Hid (Sp w1 A3 c3 (F)) := Sp.below (by repeat (first | exact S3_0.out | refine Sp.alloc ?_ _ | refine Sp.drewN ?_ _ | refine Sp.drew ?_)) hb1
          have Bs_1 : Hid (w1.heap[w.heap.size]? = some (.cells #[.bool false, .slice A1 R.length c1, .slice A2 H.length c2, .slice A3 F.length c3, .bool tu, .bool fa, .int .i64 ag, .bool jo] 31 (0, 0))) := blk_keep hb1 (by repeat (first | exact blk_new (by first | rfl | (simp; done) | (simp; omega)) | refine blk_skip ?_ | refine blk_drewN ?_ | refine blk_drew ?_))
          have s0_1 : w1.cell? ⟨w.heap.size, 0, none⟩ = some (.bool false) := blk_cell Bs_1.out rfl
          have s1_1 : w1.cell? ⟨w.heap.size, 1, none⟩ = some (.slice A1 R.length c1) := blk_cell Bs_1.out rfl
          have s2_1 : w1.cell? ⟨w.heap.size, 2, none⟩ = some (.slice A2 H.length c2) := blk_cell Bs_1.out rfl
          have s3_1 : w1.cell? ⟨w.heap.size, 3, none⟩ = some (.slice A3 F.length c3) := blk_cell Bs_1.out rfl
          have s4_1 : w1.cell? ⟨w.heap.size, 4, none⟩ = some (.bool tu) := blk_cell Bs_1.out rfl
          have s5_1 : w1.cell? ⟨w.heap.size, 5, none⟩ = some (.bool fa) := blk_cell Bs_1.out rfl
          have s6_1 : w1.cell? ⟨w.heap.size, 6, none⟩ = some (.int .i64 ag) := blk_cell Bs_1.out rfl
          have s7_1 : w1.cell? ⟨w.heap.size, 7, none⟩ = some (.bool jo) := blk_cell Bs_1.out rfl
          have sz_1 : w.heap.size < w1.heap.size := blk_lt Bs_1.out
          clear S1_0 S2_0 S3_0 hb1
          go_wp2_with fail
          refine ((HL _ (by repeat (first | exact S1_1.out | refine Sp.alloc ?_ _ | refine Sp.drewN ?_ _ | refine Sp.drew ?_)) (by repeat (first | exact S2_1.out | refine Sp.alloc ?_ _ | refine Sp.drewN ?_ _ | refine Sp.drew ?_)) (by repeat (first | exact S3_1.out | refine Sp.alloc ?_ _ | refine Sp.drewN ?_ _ | refine Sp.drew ?_))).out).mono ?_
          rintro e2 w2 ⟨Al, cl, rfl, hs2, hb2⟩
          have HB_2 : Hid (Below w.heap.size w w2) := bel_chain hb2 (by repeat (first | exact HB_1.out | refine bel_drewN ?_ _ | refine bel_drew ?_ | refine bel_alloc ?_ _))
          have S1_2 : Hid (Sp w2 A1 c1 (R)) := Sp.below (by repeat (first | exact S1_1.out | refine Sp.alloc ?_ _ | refine Sp.drewN ?_ _ | refine Sp.drew ?_)) hb2
          have S2_2 : Hid (Sp w2 A2 c2 (H)) := Sp.below (by repeat (first | exact S2_1.out | refine Sp.alloc ?_ _ | refine Sp.drewN ?_ _ | refine Sp.drew ?_)) hb2
          have S3_2 : Hid (Sp w2 A3 c3 (F)) := Sp.below (by repeat (first | exact S3_1.out | refine Sp.alloc ?_ _ | refine Sp.drewN ?_ _ | refine Sp.drew ?_)) hb2
          have Bs_2 : Hid (w2.heap[w.heap.size]? = some (.cells #[.bool false, .slice A1 R.length c1, .slice A2 H.length c2, .slice A3 F.length c3, .bool tu, .bool fa, .int .i64 ag, .bool jo] 31 (0, 0))) := blk_keep hb2 (blk_keep (W := w1) (by (repeat (first | exact Below.refl _ _ | refine bel_drewN ?_ _ | refine bel_drew ?_ | refine bel_alloc ?_ _ | refine bel_set ?_ (by simp) _))) Bs_1.out)
          have ord0 : w.heap.size < w1.heap.size := by omega
          have Bf_2 : Hid (w2.heap[w1.heap.size]? = some (.cells #[.int .i64 x1, .int .i64 x2] 48 (0, 0))) := blk_keep hb2 (by repeat (first | exact blk_new (by first | rfl | (simp; done) | (simp; omega)) | refine blk_skip ?_ | refine blk_drewN ?_ | refine blk_drew ?_))
          have s0_2 : w2.cell? ⟨w.heap.size, 0, none⟩ = some (.bool false) := blk_cell Bs_2.out rfl
          have s1_2 : w2.cell? ⟨w.heap.size, 1, none⟩ = some (.slice A1 R.length c1) := blk_cell Bs_2.out rfl
          have s2_2 : w2.cell? ⟨w.heap.size, 2, none⟩ = some (.slice A2 H.length c2) := blk_cell Bs_2.out rfl
          have s3_2 : w2.cell? ⟨w.heap.size, 3, none⟩ = some (.slice A3 F.length c3) := blk_cell Bs_2.out rfl
          have s4_2 : w2.cell? ⟨w.heap.size, 4, none⟩ = some (.bool tu) := blk_cell Bs_2.out rfl
          have s5_2 : w2.cell? ⟨w.heap.size, 5, none⟩ = some (.bool fa) := blk_cell Bs_2.out rfl
          have s6_2 : w2.cell? ⟨w.heap.size, 6, none⟩ = some (.int .i64 ag) := blk_cell Bs_2.out rfl
          have s7_2 : w2.cell? ⟨w.heap.size, 7, none⟩ = some (.bool jo) := blk_cell Bs_2.out rfl
          have sz_2 : w.heap.size < w2.heap.size := blk_lt Bs_2.out
          have f0_2 : w2.cell? ⟨w1.heap.size, 0, none⟩ = some (.int .i64 x1) := blk_cell Bf_2.out rfl
          have fz_2 : w1.heap.size < w2.heap.size := blk_lt Bf_2.out
          have Sl_2 : Hid (Sp w2 Al cl (Y)) := hs2
          clear S1_1 S2_1 S3_1 Bs_1 s0_1 s1_1 s2_1 s3_1 s4_1 s5_1 s6_1 s7_1 sz_1 hs2 HB_1 hb2
          go_wp2_with fail
          refine (first_as1 Al cl Y y1 y2 q HYE.out _ (by repeat (first | exact Sl_2.out | refine Sp.alloc ?_ _ | refine Sp.drewN ?_ _ | refine Sp.drew ?_)) KY.out (by omega)).mono ?_
          rintro e3 w3 ⟨rfl, hb3⟩
          have HB_3 : Hid (Below w.heap.size w w3) := bel_chain hb3 (by repeat (first | exact HB_2.out | refine bel_drewN ?_ _ | refine bel_drew ?_ | refine bel_alloc ?_ _))
          have S1_3 : Hid (Sp w3 A1 c1 (R)) := Sp.below (by repeat (first | exact S1_2.out | refine Sp.alloc ?_ _ | refine Sp.drewN ?_ _ | refine Sp.drew ?_)) hb3
          have S2_3 : Hid (Sp w3 A2 c2 (H)) := Sp.below (by repeat (first | exact S2_2.out | refine Sp.alloc ?_ _ | refine Sp.drewN ?_ _ | refine Sp.drew ?_)) hb3
          have S3_3 : Hid (Sp w3 A3 c3 (F)) := Sp.below (by repeat (first | exact S3_2.out | refine Sp.alloc ?_ _ | refine Sp.drewN ?_ _ | refine Sp.drew ?_)) hb3
          have Sl_3 : Hid (Sp w3 Al cl (Y)) := Sp.below (by repeat (first | exact Sl_2.out | refine Sp.alloc ?_ _ | refine Sp.drewN ?_ _ | refine Sp.drew ?_)) hb3
          have Bs_3 : Hid (w3.heap[w.heap.size]? = some (.cells #[.bool false, .slice A1 R.length c1, .slice A2 H.length c2, .slice A3 F.length c3, .bool tu, .bool fa, .int .i64 ag, .bool jo] 31 (0, 0))) := blk_keep hb3 (blk_keep (W := w2) (by (repeat (first | exact Below.refl _ _ | refine bel_drewN ?_ _ | refine bel_drew ?_ | refine bel_alloc ?_ _ | refine bel_set ?_ (by simp) _))) Bs_2.out)
          have Bf_3 : Hid (w3.heap[w1.heap.size]? = some (.cells #[.int .i64 x1, .int .i64 x2] 48 (0, 0))) := blk_keep hb3 (blk_keep (W := w2) (by (repeat (first | exact Below.refl _ _ | refine bel_drewN ?_ _ | refine bel_drew ?_ | refine bel_alloc ?_ _ | refine bel_set ?_ (by simp) _))) Bf_2.out)
          have ord1 : w.heap.size < w2.heap.size := by omega
          have ord2 : w1.heap.size < w2.heap.size := by omega
          have Bb_3 : Hid (w3.heap[w2.heap.size]? = some (.cells #[.slice Al Y.length cl] 29 (0, 0))) := blk_keep hb3 (by repeat (first | exact blk_new (by first | rfl | (simp; done) | (simp; omega)) | refine blk_skip ?_ | refine blk_drewN ?_ | refine blk_drew ?_))
          have s0_3 : w3.cell? ⟨w.heap.size, 0, none⟩ = some (.bool false) := blk_cell Bs_3.out rfl
          have s1_3 : w3.cell? ⟨w.heap.size, 1, none⟩ = some (.slice A1 R.length c1) := blk_cell Bs_3.out rfl
          have s2_3 : w3.cell? ⟨w.heap.size, 2, none⟩ = some (.slice A2 H.length c2) := blk_cell Bs_3.out rfl
          have s3_3 : w3.cell? ⟨w.heap.size, 3, none⟩ = some (.slice A3 F.length c3) := blk_cell Bs_3.out rfl
          have s4_3 : w3.cell? ⟨w.heap.size, 4, none⟩ = some (.bool tu) := blk_cell Bs_3.out rfl
          have s5_3 : w3.cell? ⟨w.heap.size, 5, none⟩ = some (.bool fa) := blk_cell Bs_3.out rfl
          have s6_3 : w3.cell? ⟨w.heap.size, 6, none⟩ = some (.int .i64 ag) := blk_cell Bs_3.out rfl
          have s7_3 : w3.cell? ⟨w.heap.size, 7, none⟩ = some (.bool jo) := blk_cell Bs_3.out rfl
          have sz_3 : w.heap.size < w3.heap.size := blk_lt Bs_3.out
          have f0_3 : w3.cell? ⟨w1.heap.size, 0, none⟩ = some (.int .i64 x1) := blk_cell Bf_3.out rfl
          have fz_3 : w1.heap.size < w3.heap.size := blk_lt Bf_3.out
          have b0_3 : w3.cell? ⟨w2.heap.size, 0, none⟩ = some (.slice Al Y.length cl) := blk_cell Bb_3.out rfl
          have bz_3 : w2.heap.size < w3.heap.size := blk_lt Bb_3.out
          clear S1_2 S2_2 S3_2 Sl_2 Bs_2 s0_2 s1_2 s2_2 s3_2 s4_2 s5_2 s6_2 s7_2 sz_2 Bf_2 f0_2 fz_2 HB_2 hb3
          go_wp2_with fail
          go_ret
          exact ⟨ret_int (by simp [hag]), (by repeat (first | (with_reducible exact HB_3.out) | (with_reducible refine bel_drewN ?_ _) | (with_reducible refine bel_drew ?_) | (with_reducible refine bel_alloc ?_ _) | (with_reducible refine bel_set ?_ (by first | omega | (dsimp only; omega)) _)))⟩
        · go_enter Tryd.func15, Tryd.ntmps15
          go_wp2_with fail
          refine (first_as1 A1 c1 R x1 x2 r HR.out _ (by repeat (first | exact S1_0.out | refine Sp.alloc ?_ _ | refine Sp.drewN ?_ _ | refine Sp.drew ?_)) K1.out (by omega)).mono ?_
          rintro e1 w1 ⟨rfl, hb1⟩
          have HB_1 : Hid (Below w.heap.size w w1) := bel_chain hb1 (by repeat (first | exact Below.refl _ _ | refine bel_drewN ?_ _ | refine bel_drew ?_ | refine bel_alloc ?_ _))
          have S1_1 : Hid (Sp w1 A1 c1 (R)) := Sp.below (by repeat (first | exact S1_0.out | refine Sp.alloc ?_ _ | refine Sp.drewN ?_ _ | refine Sp.drew ?_)) hb1
          have S2_1 : Hid (Sp w1 A2 c2 (H)) := Sp.below (by repeat (first | exact S2_0.out | refine Sp.alloc ?_ _ | refine Sp.drewN ?_ _ | refine Sp.drew ?_)) hb1
          have S3_1 : Hid (Sp w1 A3 c3 (F)) := Sp.below (by repeat (first | exact S3_0.out | refine Sp.alloc ?_ _ | refine Sp.drewN ?_ _ | refine Sp.drew ?_)) hb1
          have Bs_1 : Hid (w1.heap[w.heap.size]? = some (.cells #[.bool false, .slice A1 R.length c1, .slice A2 H.length c2, .slice A3 F.length c3, .bool tu, .bool fa, .int .i64 ag, .bool jo] 31 (0, 0))) := blk_keep hb1 (by repeat (first | exact blk_new (by first | rfl | (simp; done) | (simp; omega)) | refine blk_skip ?_ | refine blk_drewN ?_ | refine blk_drew ?_))
          have s0_1 : w1.cell? ⟨w.heap.size, 0, none⟩ = some (.bool false) := blk_cell Bs_1.out rfl
          have s1_1 : w1.cell? ⟨w.heap.size, 1, none⟩ = some (.slice A1 R.length c1) := blk_cell Bs_1.out rfl
          have s2_1 : w1.cell? ⟨w.heap.size, 2, none⟩ = some (.slice A2 H.length c2) := blk_cell Bs_1.out rfl
          have s3_1 : w1.cell? ⟨w.heap.size, 3, none⟩ = some (.slice A3 F.length c3) := blk_cell Bs_1.out rfl
          have s4_1 : w1.cell? ⟨w.heap.size, 4, none⟩ = some (.bool tu) := blk_cell Bs_1.out rfl
          have s5_1 : w1.cell? ⟨w.heap.size, 5, none⟩ = some (.bool fa) := blk_cell Bs_1.out rfl
          have s6_1 : w1.cell? ⟨w.heap.size, 6, none⟩ = some (.int .i64 ag) := blk_cell Bs_1.out rfl
          have s7_1 : w1.cell? ⟨w.heap.size, 7, none⟩ = some (.bool jo) := blk_cell Bs_1.out rfl
          have sz_1 : w.heap.size < w1.heap.size := blk_lt Bs_1.out
          clear S1_0 S2_0 S3_0 hb1
          go_wp2_with fail
          refine ((HL _ (by repeat (first | exact S1_1.out | refine Sp.alloc ?_ _ | refine Sp.drewN ?_ _ | refine Sp.drew ?_)) (by repeat (first | exact S2_1.out | refine Sp.alloc ?_ _ | refine Sp.drewN ?_ _ | refine Sp.drew ?_)) (by repeat (first | exact S3_1.out | refine Sp.alloc ?_ _ | refine Sp.drewN ?_ _ | refine Sp.drew ?_))).out).mono ?_
          rintro e2 w2 ⟨Al, cl, rfl, hs2, hb2⟩
          have HB_2 : Hid (Below w.heap.size w w2) := bel_chain hb2 (by repeat (first | exact HB_1.out | refine bel_drewN ?_ _ | refine bel_drew ?_ | refine bel_alloc ?_ _))
          have S1_2 : Hid (Sp w2 A1 c1 (R)) := Sp.below (by repeat (first | exact S1_1.out | refine Sp.alloc ?_ _ | refine Sp.drewN ?_ _ | refine Sp.drew ?_)) hb2
          have S2_2 : Hid (Sp w2 A2 c2 (H)) := Sp.below (by repeat (first | exact S2_1.out | refine Sp.alloc ?_ _ | refine Sp.drewN ?_ _ | refine Sp.drew ?_)) hb2
          have S3_2 : Hid (Sp w2 A3 c3 (F)) := Sp.below (by repeat (first | exact S3_1.out | refine Sp.alloc ?_ _ | refine Sp.drewN ?_ _ | refine Sp.drew ?_)) hb2
          have Bs_2 : Hid (w2.heap[w.heap.size]? = some (.cells #[.bool false, .slice A1 R.length c1, .slice A2 H.length c2, .slice A3 F.length c3, .bool tu, .bool fa, .int .i64 ag, .bool jo] 31 (0, 0))) := blk_keep hb2 (blk_keep (W := w1) (by (repeat (first | exact Below.refl _ _ | refine bel_drewN ?_ _ | refine bel_drew ?_ | refine bel_alloc ?_ _ | refine bel_set ?_ (by simp) _))) Bs_1.out)
          have ord0 : w.heap.size < w1.heap.size := by omega
          have Bf_2 : Hid (w2.heap[w1.heap.size]? = some (.cells #[.int .i64 x1, .int .i64 x2] 48 (0, 0))) := blk_keep hb2 (by repeat (first | exact blk_new (by first | rfl | (simp; done) | (simp; omega)) | refine blk_skip ?_ | refine blk_drewN ?_ | refine blk_drew ?_))
          have s0_2 : w2.cell? ⟨w.heap.size, 0, none⟩ = some (.bool false) := blk_cell Bs_2.out rfl
          have s1_2 : w2.cell? ⟨w.heap.size, 1, none⟩ = some (.slice A1 R.length c1) := blk_cell Bs_2.out rfl
          have s2_2 : w2.cell? ⟨w.heap.size, 2, none⟩ = some (.slice A2 H.length c2) := blk_cell Bs_2.out rfl
          have s3_2 : w2.cell? ⟨w.heap.size, 3, none⟩ = some (.slice A3 F.length c3) := blk_cell Bs_2.out rfl
          have s4_2 : w2.cell? ⟨w.heap.size, 4, none⟩ = some (.bool tu) := blk_cell Bs_2.out rfl
          have s5_2 : w2.cell? ⟨w.heap.size, 5, none⟩ = some (.bool fa) := blk_cell Bs_2.out rfl
          have s6_2 : w2.cell? ⟨w.heap.size, 6, none⟩ = some (.int .i64 ag) := blk_cell Bs_2.out rfl
          have s7_2 : w2.cell? ⟨w.heap.size, 7, none⟩ = some (.bool jo) := blk_cell Bs_2.out rfl
          have sz_2 : w.heap.size < w2.heap.size := blk_lt Bs_2.out
          have f0_2 : w2.cell? ⟨w1.heap.size, 0, none⟩ = some (.int .i64 x1) := blk_cell Bf_2.out rfl
          have fz_2 : w1.heap.size < w2.heap.size := blk_lt Bf_2.out
          have Sl_2 : Hid (Sp w2 Al cl (Y)) := hs2
          clear S1_1 S2_1 S3_1 Bs_1 s0_1 s1_1 s2_1 s3_1 s4_1 s5_1 s6_1 s7_1 sz_1 hs2 HB_1 hb2
          go_wp2_with fail
          refine (first_as1 Al cl Y y1 y2 q HYE.out _ (by repeat (first | exact Sl_2.out | refine Sp.alloc ?_ _ | refine Sp.drewN ?_ _ | refine Sp.drew ?_)) KY.out (by omega)).mono ?_
          rintro e3 w3 ⟨rfl, hb3⟩
          have HB_3 : Hid (Below w.heap.size w w3) := bel_chain hb3 (by repeat (first | exact HB_2.out | refine bel_drewN ?_ _ | refine bel_drew ?_ | refine bel_alloc ?_ _))
          have S1_3 : Hid (Sp w3 A1 c1 (R)) := Sp.below (by repeat (first | exact S1_2.out | refine Sp.alloc ?_ _ | refine Sp.drewN ?_ _ | refine Sp.drew ?_)) hb3
          have S2_3 : Hid (Sp w3 A2 c2 (H)) := Sp.below (by repeat (first | exact S2_2.out | refine Sp.alloc ?_ _ | refine Sp.drewN ?_ _ | refine Sp.drew ?_)) hb3
          have S3_3 : Hid (Sp w3 A3 c3 (F)) := Sp.below (by repeat (first | exact S3_2.out | refine Sp.alloc ?_ _ | refine Sp.drewN ?_ _ | refine Sp.drew ?_)) hb3
          have Sl_3 : Hid (Sp w3 Al cl (Y)) := Sp.below (by repeat (first | exact Sl_2.out | refine Sp.alloc ?_ _ | refine Sp.drewN ?_ _ | refine Sp.drew ?_)) hb3
          have Bs_3 : Hid (w3.heap[w.heap.size]? = some (.cells #[.bool false, .slice A1 R.length c1, .slice A2 H.length c2, .slice A3 F.length c3, .bool tu, .bool fa, .int .i64 ag, .bool jo] 31 (0, 0))) := blk_keep hb3 (blk_keep (W := w2) (by (repeat (first | exact Below.refl _ _ | refine bel_drewN ?_ _ | refine bel_drew ?_ | refine bel_alloc ?_ _ | refine bel_set ?_ (by simp) _))) Bs_2.out)
          have Bf_3 : Hid (w3.heap[w1.heap.size]? = some (.cells #[.int .i64 x1, .int .i64 x2] 48 (0, 0))) := blk_keep hb3 (blk_keep (W := w2) (by (repeat (first | exact Below.refl _ _ | refine bel_drewN ?_ _ | refine bel_drew ?_ | refine bel_alloc ?_ _ | refine bel_set ?_ (by simp) _))) Bf_2.out)
          have ord1 : w.heap.size < w2.heap.size := by omega
          have ord2 : w1.heap.size < w2.heap.size := by omega
          have Bb_3 : Hid (w3.heap[w2.heap.size]? = some (.cells #[.slice Al Y.length cl] 29 (0, 0))) := blk_keep hb3 (by repeat (first | exact blk_new (by first | rfl | (simp; done) | (simp; omega)) | refine blk_skip ?_ | refine blk_drewN ?_ | refine blk_drew ?_))
          have s0_3 : w3.cell? ⟨w.heap.size, 0, none⟩ = some (.bool false) := blk_cell Bs_3.out rfl
          have s1_3 : w3.cell? ⟨w.heap.size, 1, none⟩ = some (.slice A1 R.length c1) := blk_cell Bs_3.out rfl
          have s2_3 : w3.cell? ⟨w.heap.size, 2, none⟩ = some (.slice A2 H.length c2) := blk_cell Bs_3.out rfl
          have s3_3 : w3.cell? ⟨w.heap.size, 3, none⟩ = some (.slice A3 F.length c3) := blk_cell Bs_3.out rfl
          have s4_3 : w3.cell? ⟨w.heap.size, 4, none⟩ = some (.bool tu) := blk_cell Bs_3.out rfl
          have s5_3 : w3.cell? ⟨w.heap.size, 5, none⟩ = some (.bool fa) := blk_cell Bs_3.out rfl
          have s6_3 : w3.cell? ⟨w.heap.size, 6, none⟩ = some (.int .i64 ag) := blk_cell Bs_3.out rfl
          have s7_3 : w3.cell? ⟨w.heap.size, 7, none⟩ = some (.bool jo) := blk_cell Bs_3.out rfl
          have sz_3 : w.heap.size < w3.heap.size := blk_lt Bs_3.out
          have f0_3 : w3.cell? ⟨w1.heap.size, 0, none⟩ = some (.int .i64 x1) := blk_cell Bf_3.out rfl
          have fz_3 : w1.heap.size < w3.heap.size := blk_lt Bf_3.out
          have b0_3 : w3.cell? ⟨w2.heap.size, 0, none⟩ = some (.slice Al Y.length cl) := blk_cell Bb_3.out rfl
          have bz_3 : w2.heap.size < w3.heap.size := blk_lt Bb_3.out
          clear S1_2 S2_2 S3_2 Sl_2 Bs_2 s0_2 s1_2 s2_2 s3_2 s4_2 s5_2 s6_2 s7_2 sz_2 Bf_2 f0_2 fz_2 HB_2 hb3
          go_wp2_with fail
          go_ret
          exact ⟨ret_int (by simp [hag]), (by repeat (first | (with_reducible exact HB_3.out) | (with_reducible refine bel_drewN ?_ _) | (with_reducible refine bel_drew ?_) | (with_reducible refine bel_alloc ?_ _) | (with_reducible refine bel_set ?_ (by first | omega | (dsimp only; omega)) _)))⟩
      · cases hb1 : inB H x1
        · rw [hb1] at HH
          cases hb2 : inB F x1
          · rw [hb2] at HF
            have HYI := Lib.hid (HLF.out hb1 hb2)
            rw [HYI.out] at HY
            clear hb1 hb2
            go_enter Tryd.func15, Tryd.ntmps15
            go_wp2_with fail
            refine (first_as1 A1 c1 R x1 x2 r HR.out _ (by repeat (first | exact S1_0.out | refine Sp.alloc ?_ _ | refine Sp.drewN ?_ _ | refine Sp.drew ?_)) K1.out (by omega)).mono ?_
            rintro e1 w1 ⟨rfl, hb1⟩
            have HB_1 : Hid (Below w.heap.size w w1) := bel_chain hb1 (by repeat (first | exact Below.refl _ _ | refine bel_drewN ?_ _ | refine bel_drew ?_ | refine bel_alloc ?_ _))
            have S1_1 : Hid (Sp w1 A1 c1 (R)) := Sp.below (by repeat (first | exact S1_0.out | refine Sp.alloc ?_ _ | refine Sp.drewN ?_ _ | refine Sp.drew ?_)) hb1
            have S2_1 : Hid (Sp w1 A2 c2 (H)) := Sp.below (by repeat (first | exact S2_0.out | refine Sp.alloc ?_ _ | refine Sp.drewN ?_ _ | refine Sp.drew ?_)) hb1
            have S3_1 : Hid (Sp w1 A3 c3 (F)) := Sp.below (by repeat (first | exact S3_0.out | refine Sp.alloc ?_ _ | refine Sp.drewN ?_ _ | refine Sp.drew ?_)) hb1
            have Bs_1 : Hid (w1.heap[w.heap.size]? = some (.cells #[.bool true, .slice A1 R.length c1, .slice A2 H.length c2, .slice A3 F.length c3, .bool tu, .bool fa, .int .i64 ag, .bool jo] 31 (0, 0))) := blk_keep hb1 (by repeat (first | exact blk_new (by first | rfl | (simp; done) | (simp; omega)) | refine blk_skip ?_ | refine blk_drewN ?_ | refine blk_drew ?_))
            have s0_1 : w1.cell? ⟨w.heap.size, 0, none⟩ = some (.bool true) := blk_cell Bs_1.out rfl
            have s1_1 : w1.cell? ⟨w.heap.size, 1, none⟩ = some (.slice A1 R.length c1) := blk_cell Bs_1.out rfl
            have s2_1 : w1.cell? ⟨w.heap.size, 2, none⟩ = some (.slice A2 H.length c2) := blk_cell Bs_1.out rfl
            have s3_1 : w1.cell? ⟨w.heap.size, 3, none⟩ = some (.slice A3 F.length c3) := blk_cell Bs_1.out rfl
            have s4_1 : w1.cell? ⟨w.heap.size, 4, none⟩ = some (.bool tu) := blk_cell Bs_1.out rfl
            have s5_1 : w1.cell? ⟨w.heap.size, 5, none⟩ = some (.bool fa) := blk_cell Bs_1.out rfl
            have s6_1 : w1.cell? ⟨w.heap.size, 6, none⟩ = some (.int .i64 ag) := blk_cell Bs_1.out rfl
            have s7_1 : w1.cell? ⟨w.heap.size, 7, none⟩ = some (.bool jo) := blk_cell Bs_1.out rfl
            have sz_1 : w.heap.size < w1.heap.size := blk_lt Bs_1.out
            clear S1_0 S2_0 S3_0 hb1
            go_wp2_with fail
            refine ((HL _ (by repeat (first | exact S1_1.out | refine Sp.alloc ?_ _ | refine Sp.drewN ?_ _ | refine Sp.drew ?_)) (by repeat (first | exact S2_1.out | refine Sp.alloc ?_ _ | refine Sp.drewN ?_ _ | refine Sp.drew ?_)) (by repeat (first | exact S3_1.out | refine Sp.alloc ?_ _ | refine Sp.drewN ?_ _ | refine Sp.drew ?_))).out).mono ?_
            rintro e2 w2 ⟨Al, cl, rfl, hs2, hb2⟩
            have HB_2 : Hid (Below w.heap.size w w2) := bel_chain hb2 (by repeat (first | exact HB_1.out | refine bel_drewN ?_ _ | refine bel_drew ?_ | refine bel_alloc ?_ _))
            have S1_2 : Hid (Sp w2 A1 c1 (R)) := Sp.below (by repeat (first | exact S1_1.out | refine Sp.alloc ?_ _ | refine Sp.drewN ?_ _ | refine Sp.drew ?_)) hb2
            have S2_2 : Hid (Sp w2 A2 c2 (H)) := Sp.below (by repeat (first | exact S2_1.out | refine Sp.alloc ?_ _ | refine Sp.drewN ?_ _ | refine Sp.drew ?_)) hb2
            have S3_2 : Hid (Sp w2 A3 c3 (F)) := Sp.below (by repeat (first | exact S3_1.out | refine Sp.alloc ?_ _ | refine Sp.drewN ?_ _ | refine Sp.drew ?_)) hb2
            have Bs_2 : Hid (w2.heap[w.heap.size]? = some (.cells #[.bool true, .slice A1 R.length c1, .slice A2 H.length c2, .slice A3 F.length c3, .bool tu, .bool fa, .int .i64 ag, .bool jo] 31 (0, 0))) := blk_keep hb2 (blk_keep (W := w1) (by (repeat (first | exact Below.refl _ _ | refine bel_drewN ?_ _ | refine bel_drew ?_ | refine bel_alloc ?_ _ | refine bel_set ?_ (by simp) _))) Bs_1.out)
            have ord0 : w.heap.size < w1.heap.size := by omega
            have Bf_2 : Hid (w2.heap[w1.heap.size]? = some (.cells #[.int .i64 x1, .int .i64 x2] 48 (0, 0))) := blk_keep hb2 (by repeat (first | exact blk_new (by first | rfl | (simp; done) | (simp; omega)) | refine blk_skip ?_ | refine blk_drewN ?_ | refine blk_drew ?_))
            have s0_2 : w2.cell? ⟨w.heap.size, 0, none⟩ = some (.bool true) := blk_cell Bs_2.out rfl
            have s1_2 : w2.cell? ⟨w.heap.size, 1, none⟩ = some (.slice A1 R.length c1) := blk_cell Bs_2.out rfl
            have s2_2 : w2.cell? ⟨w.heap.size, 2, none⟩ = some (.slice A2 H.length c2) := blk_cell Bs_2.out rfl
            have s3_2 : w2.cell? ⟨w.heap.size, 3, none⟩ = some (.slice A3 F.length c3) := blk_cell Bs_2.out rfl
            have s4_2 : w2.cell? ⟨w.heap.size, 4, none⟩ = some (.bool tu) := blk_cell Bs_2.out rfl
            have s5_2 : w2.cell? ⟨w.heap.size, 5, none⟩ = some (.bool fa) := blk_cell Bs_2.out rfl
            have s6_2 : w2.cell? ⟨w.heap.size, 6, none⟩ = some (.int .i64 ag) := blk_cell Bs_2.out rfl
            have s7_2 : w2.cell? ⟨w.heap.size, 7, none⟩ = some (.bool jo) := blk_cell Bs_2.out rfl
            have sz_2 : w.heap.size < w2.heap.size := blk_lt Bs_2.out
            have f0_2 : w2.cell? ⟨w1.heap.size, 0, none⟩ = some (.int .i64 x1) := blk_cell Bf_2.out rfl
            have fz_2 : w1.heap.size < w2.heap.size := blk_lt Bf_2.out
            have Sl_2 : Hid (Sp w2 Al cl (Y)) := hs2
            clear S1_1 S2_1 S3_1 Bs_1 s0_1 s1_1 s2_1 s3_1 s4_1 s5_1 s6_1 s7_1 sz_1 hs2 HB_1 hb2
            go_wp2_with fail
            refine (first_as1 Al cl Y y1 y2 q HYE.out _ (by repeat (first | exact Sl_2.out | refine Sp.alloc ?_ _ | refine Sp.drewN ?_ _ | refine Sp.drew ?_)) KY.out (by omega)).mono ?_
            rintro e3 w3 ⟨rfl, hb3⟩
            have HB_3 : Hid (Below w.heap.size w w3) := bel_chain hb3 (by repeat (first | exact HB_2.out | refine bel_drewN ?_ _ | refine bel_drew ?_ | refine bel_alloc ?_ _))
            have S1_3 : Hid (Sp w3 A1 c1 (R)) := Sp.below (by repeat (first | exact S1_2.out | refine Sp.alloc ?_ _ | refine Sp.drewN ?_ _ | refine Sp.drew ?_)) hb3
            have S2_3 : Hid (Sp w3 A2 c2 (H)) := Sp.below (by repeat (first | exact S2_2.out | refine Sp.alloc ?_ _ | refine Sp.drewN ?_ _ | refine Sp.drew ?_)) hb3
            have S3_3 : Hid (Sp w3 A3 c3 (F)) := Sp.below (by repeat (first | exact S3_2.out | refine Sp.alloc ?_ _ | refine Sp.drewN ?_ _ | refine Sp.drew ?_)) hb3
            have Sl_3 : Hid (Sp w3 Al cl (Y)) := Sp.below (by repeat (first | exact Sl_2.out | refine Sp.alloc ?_ _ | refine Sp.drewN ?_ _ | refine Sp.drew ?_)) hb3
            have Bs_3 : Hid (w3.heap[w.heap.size]? = some (.cells #[.bool true, .slice A1 R.length c1, .slice A2 H.length c2, .slice A3 F.length c3, .bool tu, .bool fa, .int .i64 ag, .bool jo] 31 (0, 0))) := blk_keep hb3 (blk_keep (W := w2) (by (repeat (first | exact Below.refl _ _ | refine bel_drewN ?_ _ | refine bel_drew ?_ | refine bel_alloc ?_ _ | refine bel_set ?_ (by simp) _))) Bs_2.out)
            have Bf_3 : Hid (w3.heap[w1.heap.size]? = some (.cells #[.int .i64 x1, .int .i64 x2] 48 (0, 0))) := blk_keep hb3 (blk_keep (W := w2) (by (repeat (first | exact Below.refl _ _ | refine bel_drewN ?_ _ | refine bel_drew ?_ | refine bel_alloc ?_ _ | refine bel_set ?_ (by simp) _))) Bf_2.out)
            have ord1 : w.heap.size < w2.heap.size := by omega
            have ord2 : w1.heap.size < w2.heap.size := by omega
            have Bb_3 : Hid (w3.heap[w2.heap.size]? = some (.cells #[.slice Al Y.length cl] 29 (0, 0))) := blk_keep hb3 (by repeat (first | exact blk_new (by first | rfl | (simp; done) | (simp; omega)) | refine blk_skip ?_ | refine blk_drewN ?_ | refine blk_drew ?_))
            have s0_3 : w3.cell? ⟨w.heap.size, 0, none⟩ = some (.bool true) := blk_cell Bs_3.out rfl
            have s1_3 : w3.cell? ⟨w.heap.size, 1, none⟩ = some (.slice A1 R.length c1) := blk_cell Bs_3.out rfl
            have s2_3 : w3.cell? ⟨w.heap.size, 2, none⟩ = some (.slice A2 H.length c2) := blk_cell Bs_3.out rfl
            have s3_3 : w3.cell? ⟨w.heap.size, 3, none⟩ = some (.slice A3 F.length c3) := blk_cell Bs_3.out rfl
            have s4_3 : w3.cell? ⟨w.heap.size, 4, none⟩ = some (.bool tu) := blk_cell Bs_3.out rfl
            have s5_3 : w3.cell? ⟨w.heap.size, 5, none⟩ = some (.bool fa) := blk_cell Bs_3.out rfl
            have s6_3 : w3.cell? ⟨w.heap.size, 6, none⟩ = some (.int .i64 ag) := blk_cell Bs_3.out rfl
            have s7_3 : w3.cell? ⟨w.heap.size, 7, none⟩ = some (.bool jo) := blk_cell Bs_3.out rfl
            have sz_3 : w.heap.size < w3.heap.size := blk_lt Bs_3.out
            have f0_3 : w3.cell? ⟨w1.heap.size, 0, none⟩ = some (.int .i64 x1) := blk_cell Bf_3.out rfl
            have fz_3 : w1.heap.size < w3.heap.size := blk_lt Bf_3.out
            have b0_3 : w3.cell? ⟨w2.heap.size, 0, none⟩ = some (.slice Al Y.length cl) := blk_cell Bb_3.out rfl
            have bz_3 : w2.heap.size < w3.heap.size := blk_lt Bb_3.out
            clear S1_2 S2_2 S3_2 Sl_2 Bs_2 s0_2 s1_2 s2_2 s3_2 s4_2 s5_2 s6_2 s7_2 sz_2 Bf_2 f0_2 fz_2 HB_2 hb3
            go_wp2_with fail
            refine ((HH _ (by repeat (first | exact S2_3.out | refine Sp.alloc ?_ _ | refine Sp.drewN ?_ _ | refine Sp.drew ?_))).out).mono ?_
            rintro e4 w4 ⟨rfl, hb4⟩
            have HB_4 : Hid (Below w.heap.size w w4) := bel_chain hb4 (by repeat (first | exact HB_3.out | refine bel_drewN ?_ _ | refine bel_drew ?_ | refine bel_alloc ?_ _))
            have S1_4 : Hid (Sp w4 A1 c1 (R)) := Sp.below (by repeat (first | exact S1_3.out | refine Sp.alloc ?_ _ | refine Sp.drewN ?_ _ | refine Sp.drew ?_)) hb4
            have S2_4 : Hid (Sp w4 A2 c2 (H)) := Sp.below (by repeat (first | exact S2_3.out | refine Sp.alloc ?_ _ | refine Sp.drewN ?_ _ | refine Sp.drew ?_)) hb4
            have S3_4 : Hid (Sp w4 A3 c3 (F)) := Sp.below (by repeat (first | exact S3_3.out | refine Sp.alloc ?_ _ | refine Sp.drewN ?_ _ | refine Sp.drew ?_)) hb4
            have Sl_4 : Hid (Sp w4 Al cl (Y)) := Sp.below (by repeat (first | exact Sl_3.out | refine Sp.alloc ?_ _ | refine Sp.drewN ?_ _ | refine Sp.drew ?_)) hb4
            have Bs_4 : Hid (w4.heap[w.heap.size]? = some (.cells #[.bool true, .slice A1 R.length c1, .slice A2 H.length c2, .slice A3 F.length c3, .bool tu, .bool fa, .int .i64 ag, .bool jo] 31 (0, 0))) := blk_keep hb4 (blk_keep (W := w3) (by (repeat (first | exact Below.refl _ _ | refine bel_drewN ?_ _ | refine bel_drew ?_ | refine bel_alloc ?_ _ | refine bel_set ?_ (by simp) _))) Bs_3.out)
            have Bf_4 : Hid (w4.heap[w1.heap.size]? = some (.cells #[.int .i64 x1, .int .i64 x2] 48 (0, 0))) := blk_keep hb4 (blk_keep (W := w3) (by (repeat (first | exact Below.refl _ _ | refine bel_drewN ?_ _ | refine bel_drew ?_ | refine bel_alloc ?_ _ | refine bel_set ?_ (by simp) _))) Bf_3.out)
            have Bb_4 : Hid (w4.heap[w2.heap.size]? = some (.cells #[.slice Al Y.length cl] 29 (0, 0))) := blk_keep hb4 (blk_keep (W := w3) (by (repeat (first | exact Below.refl _ _ | refine bel_drewN ?_ _ | refine bel_drew ?_ | refine bel_alloc ?_ _ | refine bel_set ?_ (by simp) _))) Bb_3.out)
            have s0_4 : w4.cell? ⟨w.heap.size, 0, none⟩ = some (.bool true) := blk_cell Bs_4.out rfl
            have s1_4 : w4.cell? ⟨w.heap.size, 1, none⟩ = some (.slice A1 R.length c1) := blk_cell Bs_4.out rfl
            have s2_4 : w4.cell? ⟨w.heap.size, 2, none⟩ = some (.slice A2 H.length c2) := blk_cell Bs_4.out rfl
            have s3_4 : w4.cell? ⟨w.heap.size, 3, none⟩ = some (.slice A3 F.length c3) := blk_cell Bs_4.out rfl
            have s4_4 : w4.cell? ⟨w.heap.size, 4, none⟩ = some (.bool tu) := blk_cell Bs_4.out rfl
            have s5_4 : w4.cell? ⟨w.heap.size, 5, none⟩ = some (.bool fa) := blk_cell Bs_4.out rfl
            have s6_4 : w4.cell? ⟨w.heap.size, 6, none⟩ = some (.int .i64 ag) := blk_cell Bs_4.out rfl
            have s7_4 : w4.cell? ⟨w.heap.size, 7, none⟩ = some (.bool jo) := blk_cell Bs_4.out rfl
            have sz_4 : w.heap.size < w4.heap.size := blk_lt Bs_4.out
            have f0_4 : w4.cell? ⟨w1.heap.size, 0, none⟩ = some (.int .i64 x1) := blk_cell Bf_4.out rfl
            have fz_4 : w1.heap.size < w4.heap.size := blk_lt Bf_4.out
            have b0_4 : w4.cell? ⟨w2.heap.size, 0, none⟩ = some (.slice Al Y.length cl) := blk_cell Bb_4.out rfl
            have bz_4 : w2.heap.size < w4.heap.size := blk_lt Bb_4.out
            clear S1_3 S2_3 S3_3 Sl_3 Bs_3 s0_3 s1_3 s2_3 s3_3 s4_3 s5_3 s6_3 s7_3 sz_3 Bf_3 f0_3 fz_3 Bb_3 b0_3 bz_3 HB_3 hb4
            go_wp2_with fail
            refine ((HF _ (by repeat (first | exact S3_4.out | refine Sp.alloc ?_ _ | refine Sp.drewN ?_ _ | refine Sp.drew ?_))).out).mono ?_
            rintro e5 w5 ⟨rfl, hb5⟩
            have HB_5 : Hid (Below w.heap.size w w5) := bel_chain hb5 (by repeat (first | exact HB_4.out | refine bel_drewN ?_ _ | refine bel_drew ?_ | refine bel_alloc ?_ _))
            have S1_5 : Hid (Sp w5 A1 c1 (R)) := Sp.below (by repeat (first | exact S1_4.out | refine Sp.alloc ?_ _ | refine Sp.drewN ?_ _ | refine Sp.drew ?_)) hb5
            have S2_5 : Hid (Sp w5 A2 c2 (H)) := Sp.below (by repeat (first | exact S2_4.out | refine Sp.alloc ?_ _ | refine Sp.drewN ?_ _ | refine Sp.drew ?_)) hb5
            have S3_5 : Hid (Sp w5 A3 c3 (F)) := Sp.below (by repeat (first | exact S3_4.out | refine Sp.alloc ?_ _ | refine Sp.drewN ?_ _ | refine Sp.drew ?_)) hb5
            have Sl_5 : Hid (Sp w5 Al cl (Y)) := Sp.below (by repeat (first | exact Sl_4.out | refine Sp.alloc ?_ _ | refine Sp.drewN ?_ _ | refine Sp.drew ?_)) hb5
            have Bs_5 : Hid (w5.heap[w.heap.size]? = some (.cells #[.bool true, .slice A1 R.length c1, .slice A2 H.length c2, .slice A3 F.length c3, .bool tu, .bool fa, .int .i64 ag, .bool jo] 31 (0, 0))) := blk_keep hb5 (blk_keep (W := w4) (by (repeat (first | exact Below.refl _ _ | refine bel_drewN ?_ _ | refine bel_drew ?_ | refine bel_alloc ?_ _ | refine bel_set ?_ (by simp) _))) Bs_4.out)
            have Bf_5 : Hid (w5.heap[w1.heap.size]? = some (.cells #[.int .i64 x1, .int .i64 x2] 48 (0, 0))) := blk_keep hb5 (blk_keep (W := w4) (by (repeat (first | exact Below.refl _ _ | refine bel_drewN ?_ _ | refine bel_drew ?_ | refine bel_alloc ?_ _ | refine bel_set ?_ (by simp) _))) Bf_4.out)
            have Bb_5 : Hid (w5.heap[w2.heap.size]? = some (.cells #[.slice Al Y.length cl] 29 (0, 0))) := blk_keep hb5 (blk_keep (W := w4) (by (repeat (first | exact Below.refl _ _ | refine bel_drewN ?_ _ | refine bel_drew ?_ | refine bel_alloc ?_ _ | refine bel_set ?_ (by simp) _))) Bb_4.out)
            have s0_5 : w5.cell? ⟨w.heap.size, 0, none⟩ = some (.bool true) := blk_cell Bs_5.out rfl
            have s1_5 : w5.cell? ⟨w.heap.size, 1, none⟩ = some (.slice A1 R.length c1) := blk_cell Bs_5.out rfl
            have s2_5 : w5.cell? ⟨w.heap.size, 2, none⟩ = some (.slice A2 H.length c2) := blk_cell Bs_5.out rfl
            have s3_5 : w5.cell? ⟨w.heap.size, 3, none⟩ = some (.slice A3 F.length c3) := blk_cell Bs_5.out rfl
            have s4_5 : w5.cell? ⟨w.heap.size, 4, none⟩ = some (.bool tu) := blk_cell Bs_5.out rfl
            have s5_5 : w5.cell? ⟨w.heap.size, 5, none⟩ = some (.bool fa) := blk_cell Bs_5.out rfl
            have s6_5 : w5.cell? ⟨w.heap.size, 6, none⟩ = some (.int .i64 ag) := blk_cell Bs_5.out rfl
            have s7_5 : w5.cell? ⟨w.heap.size, 7, none⟩ = some (.bool jo) := blk_cell Bs_5.out rfl
            have sz_5 : w.heap.size < w5.heap.size := blk_lt Bs_5.out
            have f0_5 : w5.cell? ⟨w1.heap.size, 0, none⟩ = some (.int .i64 x1) := blk_cell Bf_5.out rfl
            have fz_5 : w1.heap.size < w5.heap.size := blk_lt Bf_5.out
            have b0_5 : w5.cell? ⟨w2.heap.size, 0, none⟩ = some (.slice Al Y.length cl) := blk_cell Bb_5.out rfl
            have bz_5 : w2.heap.size < w5.heap.size := blk_lt Bb_5.out
            clear S1_4 S2_4 S3_4 Sl_4 Bs_4 s0_4 s1_4 s2_4 s3_4 s4_4 s5_4 s6_4 s7_4 sz_4 Bf_4 f0_4 fz_4 Bb_4 b0_4 bz_4 HB_4 hb5
            go_wp2_with fail
            refine ((HY _ Al cl (by repeat (first | exact Sl_5.out | refine Sp.alloc ?_ _ | refine Sp.drewN ?_ _ | refine Sp.drew ?_))).out).mono ?_
            rintro e6 w6 ⟨rfl, hb6⟩
            have HB_6 : Hid (Below w.heap.size w w6) := bel_chain hb6 (by repeat (first | exact HB_5.out | refine bel_drewN ?_ _ | refine bel_drew ?_ | refine bel_alloc ?_ _))
            have S1_6 : Hid (Sp w6 A1 c1 (R)) := Sp.below (by repeat (first | exact S1_5.out | refine Sp.alloc ?_ _ | refine Sp.drewN ?_ _ | refine Sp.drew ?_)) hb6
            have S2_6 : Hid (Sp w6 A2 c2 (H)) := Sp.below (by repeat (first | exact S2_5.out | refine Sp.alloc ?_ _ | refine Sp.drewN ?_ _ | refine Sp.drew ?_)) hb6
            have S3_6 : Hid (Sp w6 A3 c3 (F)) := Sp.below (by repeat (first | exact S3_5.out | refine Sp.alloc ?_ _ | refine Sp.drewN ?_ _ | refine Sp.drew ?_)) hb6
            have Sl_6 : Hid (Sp w6 Al cl (Y)) := Sp.below (by repeat (first | exact Sl_5.out | refine Sp.alloc ?_ _ | refine Sp.drewN ?_ _ | refine Sp.drew ?_)) hb6
            have Bs_6 : Hid (w6.heap[w.heap.size]? = some (.cells #[.bool true, .slice A1 R.length c1, .slice A2 H.length c2, .slice A3 F.length c3, .bool tu, .bool fa, .int .i64 ag, .bool jo] 31 (0, 0))) := blk_keep hb6 (blk_keep (W := w5) (by (repeat (first | exact Below.refl _ _ | refine bel_drewN ?_ _ | refine bel_drew ?_ | refine bel_alloc ?_ _ | refine bel_set ?_ (by simp) _))) Bs_5.out)
            have Bf_6 : Hid (w6.heap[w1.heap.size]? = some (.cells #[.int .i64 x1, .int .i64 x2] 48 (0, 0))) := blk_keep hb6 (blk_keep (W := w5) (by (repeat (first | exact Below.refl _ _ | refine bel_drewN ?_ _ | refine bel_drew ?_ | refine bel_alloc ?_ _ | refine bel_set ?_ (by simp) _))) Bf_5.out)
            have Bb_6 : Hid (w6.heap[w2.heap.size]? = some (.cells #[.slice Al Y.length cl] 29 (0, 0))) := blk_keep hb6 (blk_keep (W := w5) (by (repeat (first | exact Below.refl _ _ | refine bel_drewN ?_ _ | refine bel_drew ?_ | refine bel_alloc ?_ _ | refine bel_set ?_ (by simp) _))) Bb_5.out)
            have s0_6 : w6.cell? ⟨w.heap.size, 0, none⟩ = some (.bool true) := blk_cell Bs_6.out rfl
            have s1_6 : w6.cell? ⟨w.heap.size, 1, none⟩ = some (.slice A1 R.length c1) := blk_cell Bs_6.out rfl
            have s2_6 : w6.cell? ⟨w.heap.size, 2, none⟩ = some (.slice A2 H.length c2) := blk_cell Bs_6.out rfl
            have s3_6 : w6.cell? ⟨w.heap.size, 3, none⟩ = some (.slice A3 F.length c3) := blk_cell Bs_6.out rfl
            have s4_6 : w6.cell? ⟨w.heap.size, 4, none⟩ = some (.bool tu) := blk_cell Bs_6.out rfl
            have s5_6 : w6.cell? ⟨w.heap.size, 5, none⟩ = some (.bool fa) := blk_cell Bs_6.out rfl
            have s6_6 : w6.cell? ⟨w.heap.size, 6, none⟩ = some (.int .i64 ag) := blk_cell Bs_6.out rfl
            have s7_6 : w6.cell? ⟨w.heap.size, 7, none⟩ = some (.bool jo) := blk_cell Bs_6.out rfl
            have sz_6 : w.heap.size < w6.heap.size := blk_lt Bs_6.out
            have f0_6 : w6.cell? ⟨w1.heap.size, 0, none⟩ = some (.int .i64 x1) := blk_cell Bf_6.out rfl
            have fz_6 : w1.heap.size < w6.heap.size := blk_lt Bf_6.out
            have b0_6 : w6.cell? ⟨w2.heap.size, 0, none⟩ = some (.slice Al Y.length cl) := blk_cell Bb_6.out rfl
            have bz_6 : w2.heap.size < w6.heap.size := blk_lt Bb_6.out
            clear S1_5 S2_5 S3_5 Sl_5 Bs_5 s0_5 s1_5 s2_5 s3_5 s4_5 s5_5 s6_5 s7_5 sz_5 Bf_5 f0_5 fz_5 Bb_5 b0_5 bz_5 HB_5 hb6
            go_wp2_with fail
            go_ret
            exact ⟨ret_int (by simp), (by repeat (first | (with_reducible exact HB_6.out) | (with_reducible refine bel_drewN ?_ _) | (with_reducible refine bel_drew ?_) | (with_reducible refine bel_alloc ?_ _) | (with_reducible refine bel_set ?_ (by first | omega | (dsimp only; omega)) _)))⟩
          · rw [hb2] at HF
            clear hb1 hb2
            go_enter Tryd.func15, Tryd.ntmps15
            go_wp2_with fail
            refine (first_as1 A1 c1 R x1 x2 r HR.out _ (by repeat (first | exact S1_0.out | refine Sp.alloc ?_ _ | refine Sp.drewN ?_ _ | refine Sp.drew ?_)) K1.out (by omega)).mono ?_
            rintro e1 w1 ⟨rfl, hb1⟩
            have HB_1 : Hid (Below w.heap.size w w1) := bel_chain hb1 (by repeat (first | exact Below.refl _ _ | refine bel_drewN ?_ _ | refine bel_drew ?_ | refine bel_alloc ?_ _))
            have S1_1 : Hid (Sp w1 A1 c1 (R)) := Sp.below (by repeat (first | exact S1_0.out | refine Sp.alloc ?_ _ | refine Sp.drewN ?_ _ | refine Sp.drew ?_)) hb1
            have S2_1 : Hid (Sp w1 A2 c2 (H)) := Sp.below (by repeat (first | exact S2_0.out | refine Sp.alloc ?_ _ | refine Sp.drewN ?_ _ | refine Sp.drew ?_)) hb1
            have S3_1 : Hid (Sp w1 A3 c3 (F)) := Sp.below (by repeat (first | exact S3_0.out | refine Sp.alloc ?_ _ | refine Sp.drewN ?_ _ | refine Sp.drew ?_)) hb1
            have Bs_1 : Hid (w1.heap[w.heap.size]? = some (.cells #[.bool true, .slice A1 R.length c1, .slice A2 H.length c2, .slice A3 F.length c3, .bool tu, .bool fa, .int .i64 ag, .bool jo] 31 (0, 0))) := blk_keep hb1 (by repeat (first | exact blk_new (by first | rfl | (simp; done) | (simp; omega)) | refine blk_skip ?_ | refine blk_drewN ?_ | refine blk_drew ?_))
            have s0_1 : w1.cell? ⟨w.heap.size, 0, none⟩ = some (.bool true) := blk_cell Bs_1.out rfl
            have s1_1 : w1.cell? ⟨w.heap.size, 1, none⟩ = some (.slice A1 R.length c1) := blk_cell Bs_1.out rfl
            have s2_1 : w1.cell? ⟨w.heap.size, 2, none⟩ = some (.slice A2 H.length c2) := blk_cell Bs_1.out rfl
            have s3_1 : w1.cell? ⟨w.heap.size, 3, none⟩ = some (.slice A3 F.length c3) := blk_cell Bs_1.out rfl
            have s4_1 : w1.cell? ⟨w.heap.size, 4, none⟩ = some (.bool tu) := blk_cell Bs_1.out rfl
            have s5_1 : w1.cell? ⟨w.heap.size, 5, none⟩ = some (.bool fa) := blk_cell Bs_1.out rfl
            have s6_1 : w1.cell? ⟨w.heap.size, 6, none⟩ = some (.int .i64 ag) := blk_cell Bs_1.out rfl
            have s7_1 : w1.cell? ⟨w.heap.size, 7, none⟩ = some (.bool jo) := blk_cell Bs_1.out rfl
            have sz_1 : w.heap.size < w1.heap.size := blk_lt Bs_1.out
            clear S1_0 S2_0 S3_0 hb1
            go_wp2_with fail
            refine ((HL _ (by repeat (first | exact S1_1.out | refine Sp.alloc ?_ _ | refine Sp.drewN ?_ _ | refine Sp.drew ?_)) (by repeat (first | exact S2_1.out | refine Sp.alloc ?_ _ | refine Sp.drewN ?_ _ | refine Sp.drew ?_)) (by repeat (first | exact S3_1.out | refine Sp.alloc ?_ _ | refine Sp.drewN ?_ _ | refine Sp.drew ?_))).out).mono ?_
            rintro e2 w2 ⟨Al, cl, rfl, hs2, hb2⟩
            have HB_2 : Hid (Below w.heap.size w w2) := bel_chain hb2 (by repeat (first | exact HB_1.out | refine bel_drewN ?_ _ | refine bel_drew ?_ | refine bel_alloc ?_ _))
            have S1_2 : Hid (Sp w2 A1 c1 (R)) := Sp.below (by repeat (first | exact S1_1.out | refine Sp.alloc ?_ _ | refine Sp.drewN ?_ _ | refine Sp.drew ?_)) hb2
            have S2_2 : Hid (Sp w2 A2 c2 (H)) := Sp.below (by repeat (first | exact S2_1.out | refine Sp.alloc ?_ _ | refine Sp.drewN ?_ _ | refine Sp.drew ?_)) hb2
            have S3_2 : Hid (Sp w2 A3 c3 (F)) := Sp.below (by repeat (first | exact S3_1.out | refine Sp.alloc ?_ _ | refine Sp.drewN ?_ _ | refine Sp.drew ?_)) hb2
            have Bs_2 : Hid (w2.heap[w.heap.size]? = some (.cells #[.bool true, .slice A1 R.length c1, .slice A2 H.length c2, .slice A3 F.length c3, .bool tu, .bool fa, .int .i64 ag, .bool jo] 31 (0, 0))) := blk_keep hb2 (blk_keep (W := w1) (by (repeat (first | exact Below.refl _ _ | refine bel_drewN ?_ _ | refine bel_drew ?_ | refine bel_alloc ?_ _ | refine bel_set ?_ (by simp) _))) Bs_1.out)
            have ord0 : w.heap.size < w1.heap.size := by omega
            have Bf_2 : Hid (w2.heap[w1.heap.size]? = some (.cells #[.int .i64 x1, .int .i64 x2] 48 (0, 0))) := blk_keep hb2 (by repeat (first | exact blk_new (by first | rfl | (simp; done) | (simp; omega)) | refine blk_skip ?_ | refine blk_drewN ?_ | refine blk_drew ?_))
            have s0_2 : w2.cell? ⟨w.heap.size, 0, none⟩ = some (.bool true) := blk_cell Bs_2.out rfl
            have s1_2 : w2.cell? ⟨w.heap.size, 1, none⟩ = some (.slice A1 R.length c1) := blk_cell Bs_2.out rfl
            have s2_2 : w2.cell? ⟨w.heap.size, 2, none⟩ = some (.slice A2 H.length c2) := blk_cell Bs_2.out rfl
            have s3_2 : w2.cell? ⟨w.heap.size, 3, none⟩ = some (.slice A3 F.length c3) := blk_cell Bs_2.out rfl
            have s4_2 : w2.cell? ⟨w.heap.size, 4, none⟩ = some (.bool tu) := blk_cell Bs_2.out rfl
            have s5_2 : w2.cell? ⟨w.heap.size, 5, none⟩ = some (.bool fa) := blk_cell Bs_2.out rfl
            have s6_2 : w2.cell? ⟨w.heap.size, 6, none⟩ = some (.int .i64 ag) := blk_cell Bs_2.out rfl
            have s7_2 : w2.cell? ⟨w.heap.size, 7, none⟩ = some (.bool jo) := blk_cell Bs_2.out rfl
            have sz_2 : w.heap.size < w2.heap.size := blk_lt Bs_2.out
            have f0_2 : w2.cell? ⟨w1.heap.size, 0, none⟩ = some (.int .i64 x1) := blk_cell Bf_2.out rfl
            have fz_2 : w1.heap.size < w2.heap.size := blk_lt Bf_2.out
            have Sl_2 : Hid (Sp w2 Al cl (Y)) := hs2
            clear S1_1 S2_1 S3_1 Bs_1 s0_1 s1_1 s2_1 s3_1 s4_1 s5_1 s6_1 s7_1 sz_1 hs2 HB_1 hb2
            go_wp2_with fail
            refine (first_as1 Al cl Y y1 y2 q HYE.out _ (by repeat (first | exact Sl_2.out | refine Sp.alloc ?_ _ | refine Sp.drewN ?_ _ | refine Sp.drew ?_)) KY.out (by omega)).mono ?_
            rintro e3 w3 ⟨rfl, hb3⟩
            have HB_3 : Hid (Below w.heap.size w w3) := bel_chain hb3 (by repeat (first | exact HB_2.out | refine bel_drewN ?_ _ | refine bel_drew ?_ | refine bel_alloc ?_ _))
            have S1_3 : Hid (Sp w3 A1 c1 (R)) := Sp.below (by repeat (first | exact S1_2.out | refine Sp.alloc ?_ _ | refine Sp.drewN ?_ _ | refine Sp.drew ?_)) hb3
            have S2_3 : Hid (Sp w3 A2 c2 (H)) := Sp.below (by repeat (first | exact S2_2.out | refine Sp.alloc ?_ _ | refine Sp.drewN ?_ _ | refine Sp.drew ?_)) hb3
            have S3_3 : Hid (Sp w3 A3 c3 (F)) := Sp.below (by repeat (first | exact S3_2.out | refine Sp.alloc ?_ _ | refine Sp.drewN ?_ _ | refine Sp.drew ?_)) hb3
            have Sl_3 : Hid (Sp w3 Al cl (Y)) := Sp.below (by repeat (first | exact Sl_2.out | refine Sp.alloc ?_ _ | refine Sp.drewN ?_ _ | refine Sp.drew ?_)) hb3
            have Bs_3 : Hid (w3.heap[w.heap.size]? = some (.cells #[.bool true, .slice A1 R.length c1, .slice A2 H.length c2, .slice A3 F.length c3, .bool tu, .bool fa, .int .i64 ag, .bool jo] 31 (0, 0))) := blk_keep hb3 (blk_keep (W := w2) (by (repeat (first | exact Below.refl _ _ | refine bel_drewN ?_ _ | refine bel_drew ?_ | refine bel_alloc ?_ _ | refine bel_set ?_ (by simp) _))) Bs_2.out)
            have Bf_3 : Hid (w3.heap[w1.heap.size]? = some (.cells #[.int .i64 x1, .int .i64 x2] 48 (0, 0))) := blk_keep hb3 (blk_keep (W := w2) (by (repeat (first | exact Below.refl _ _ | refine bel_drewN ?_ _ | refine bel_drew ?_ | refine bel_alloc ?_ _ | refine bel_set ?_ (by simp) _))) Bf_2.out)
            have ord1 : w.heap.size < w2.heap.size := by omega
            have ord2 : w1.heap.size < w2.heap.size := by omega
            have Bb_3 : Hid (w3.heap[w2.heap.size]? = some (.cells #[.slice Al Y.length cl] 29 (0, 0))) := blk_keep hb3 (by repeat (first | exact blk_new (by first | rfl | (simp; done) | (simp; omega)) | refine blk_skip ?_ | refine blk_drewN ?_ | refine blk_drew ?_))
            have s0_3 : w3.cell? ⟨w.heap.size, 0, none⟩ = some (.bool true) := blk_cell Bs_3.out rfl
            have s1_3 : w3.cell? ⟨w.heap.size, 1, none⟩ = some (.slice A1 R.length c1) := blk_cell Bs_3.out rfl
            have s2_3 : w3.cell? ⟨w.heap.size, 2, none⟩ = some (.slice A2 H.length c2) := blk_cell Bs_3.out rfl
            have s3_3 : w3.cell? ⟨w.heap.size, 3, none⟩ = some (.slice A3 F.length c3) := blk_cell Bs_3.out rfl
            have s4_3 : w3.cell? ⟨w.heap.size, 4, none⟩ = some (.bool tu) := blk_cell Bs_3.out rfl
            have s5_3 : w3.cell? ⟨w.heap.size, 5, none⟩ = some (.bool fa) := blk_cell Bs_3.out rfl
            have s6_3 : w3.cell? ⟨w.heap.size, 6, none⟩ = some (.int .i64 ag) := blk_cell Bs_3.out rfl
            have s7_3 : w3.cell? ⟨w.heap.size, 7, none⟩ = some (.bool jo) := blk_cell Bs_3.out rfl
            have sz_3 : w.heap.size < w3.heap.size := blk_lt Bs_3.out
            have f0_3 : w3.cell? ⟨w1.heap.size, 0, none⟩ = some (.int .i64 x1) := blk_cell Bf_3.out rfl
            have fz_3 : w1.heap.size < w3.heap.size := blk_lt Bf_3.out
            have b0_3 : w3.cell? ⟨w2.heap.size, 0, none⟩ = some (.slice Al Y.length cl) := blk_cell Bb_3.out rfl
            have bz_3 : w2.heap.size < w3.heap.size := blk_lt Bb_3.out
            clear S1_2 S2_2 S3_2 Sl_2 Bs_2 s0_2 s1_2 s2_2 s3_2 s4_2 s5_2 s6_2 s7_2 sz_2 Bf_2 f0_2 fz_2 HB_2 hb3
            go_wp2_with fail
            refine ((HH _ (by repeat (first | exact S2_3.out | refine Sp.alloc ?_ _ | refine Sp.drewN ?_ _ | refine Sp.drew ?_))).out).mono ?_
            rintro e4 w4 ⟨rfl, hb4⟩
            have HB_4 : Hid (Below w.heap.size w w4) := bel_chain hb4 (by repeat (first | exact HB_3.out | refine bel_drewN ?_ _ | refine bel_drew ?_ | refine bel_alloc ?_ _))
            have S1_4 : Hid (Sp w4 A1 c1 (R)) := Sp.below (by repeat (first | exact S1_3.out | refine Sp.alloc ?_ _ | refine Sp.drewN ?_ _ | refine Sp.drew ?_)) hb4
            have S2_4 : Hid (Sp w4 A2 c2 (H)) := Sp.below (by repeat (first | exact S2_3.out | refine Sp.alloc ?_ _ | refine Sp.drewN ?_ _ | refine Sp.drew ?_)) hb4
            have S3_4 : Hid (Sp w4 A3 c3 (F)) := Sp.below (by repeat (first | exact S3_3.out | refine Sp.alloc ?_ _ | refine Sp.drewN ?_ _ | refine Sp.drew ?_)) hb4
            have Sl_4 : Hid (Sp w4 Al cl (Y)) := Sp.below (by repeat (first | exact Sl_3.out | refine Sp.alloc ?_ _ | refine Sp.drewN ?_ _ | refine Sp.drew ?_)) hb4
            have Bs_4 : Hid (w4.heap[w.heap.size]? = some (.cells #[.bool true, .slice A1 R.length c1, .slice A2 H.length c2, .slice A3 F.length c3, .bool tu, .bool fa, .int .i64 ag, .bool jo] 31 (0, 0))) := blk_keep hb4 (blk_keep (W := w3) (by (repeat (first | exact Below.refl _ _ | refine bel_drewN ?_ _ | refine bel_drew ?_ | refine bel_alloc ?_ _ | refine bel_set ?_ (by simp) _))) Bs_3.out)
            have Bf_4 : Hid (w4.heap[w1.heap.size]? = some (.cells #[.int .i64 x1, .int .i64 x2] 48 (0, 0))) := blk_keep hb4 (blk_keep (W := w3) (by (repeat (first | exact Below.refl _ _ | refine bel_drewN ?_ _ | refine bel_drew ?_ | refine bel_alloc ?_ _ | refine bel_set ?_ (by simp) _))) Bf_3.out)
            have Bb_4 : Hid (w4.heap[w2.heap.size]? = some (.cells #[.slice Al Y.length cl] 29 (0, 0))) := blk_keep hb4 (blk_keep (W := w3) (by (repeat (first | exact Below.refl _ _ | refine bel_drewN ?_ _ | refine bel_drew ?_ | refine bel_alloc ?_ _ | refine bel_set ?_ (by simp) _))) Bb_3.out)
            have s0_4 : w4.cell? ⟨w.heap.size, 0, none⟩ = some (.bool true) := blk_cell Bs_4.out rfl
            have s1_4 : w4.cell? ⟨w.heap.size, 1, none⟩ = some (.slice A1 R.length c1) := blk_cell Bs_4.out rfl
            have s2_4 : w4.cell? ⟨w.heap.size, 2, none⟩ = some (.slice A2 H.length c2) := blk_cell Bs_4.out rfl
            have s3_4 : w4.cell? ⟨w.heap.size, 3, none⟩ = some (.slice A3 F.length c3) := blk_cell Bs_4.out rfl
            have s4_4 : w4.cell? ⟨w.heap.size, 4, none⟩ = some (.bool tu) := blk_cell Bs_4.out rfl
            have s5_4 : w4.cell? ⟨w.heap.size, 5, none⟩ = some (.bool fa) := blk_cell Bs_4.out rfl
            have s6_4 : w4.cell? ⟨w.heap.size, 6, none⟩ = some (.int .i64 ag) := blk_cell Bs_4.out rfl
            have s7_4 : w4.cell? ⟨w.heap.size, 7, none⟩ = some (.bool jo) := blk_cell Bs_4.out rfl
            have sz_4 : w.heap.size < w4.heap.size := blk_lt Bs_4.out
            have f0_4 : w4.cell? ⟨w1.heap.size, 0, none⟩ = some (.int .i64 x1) := blk_cell Bf_4.out rfl
            have fz_4 : w1.heap.size < w4.heap.size := blk_lt Bf_4.out
            have b0_4 : w4.cell? ⟨w2.heap.size, 0, none⟩ = some (.slice Al Y.length cl) := blk_cell Bb_4.out rfl
            have bz_4 : w2.heap.size < w4.heap.size := blk_lt Bb_4.out
            clear S1_3 S2_3 S3_3 Sl_3 Bs_3 s0_3 s1_3 s2_3 s3_3 s4_3 s5_3 s6_3 s7_3 sz_3 Bf_3 f0_3 fz_3 Bb_3 b0_3 bz_3 HB_3 hb4
            go_wp2_with fail
            refine ((HF _ (by repeat (first | exact S3_4.out | refine Sp.alloc ?_ _ | refine Sp.drewN ?_ _ | refine Sp.drew ?_))).out).mono ?_
            rintro e5 w5 ⟨rfl, hb5⟩
            have HB_5 : Hid (Below w.heap.size w w5) := bel_chain hb5 (by repeat (first | exact HB_4.out | refine bel_drewN ?_ _ | refine bel_drew ?_ | refine bel_alloc ?_ _))
            have S1_5 : Hid (Sp w5 A1 c1 (R)) := Sp.below (by repeat (first | exact S1_4.out | refine Sp.alloc ?_ _ | refine Sp.drewN ?_ _ | refine Sp.drew ?_)) hb5
            have S2_5 : Hid (Sp w5 A2 c2 (H)) := Sp.below (by repeat (first | exact S2_4.out | refine Sp.alloc ?_ _ | refine Sp.drewN ?_ _ | refine Sp.drew ?_)) hb5
            have S3_5 : Hid (Sp w5 A3 c3 (F)) := Sp.below (by repeat (first | exact S3_4.out | refine Sp.alloc ?_ _ | refine Sp.drewN ?_ _ | refine Sp.drew ?_)) hb5
            have Sl_5 : Hid (Sp w5 Al cl (Y)) := Sp.below (by repeat (first | exact Sl_4.out | refine Sp.alloc ?_ _ | refine Sp.drewN ?_ _ | refine Sp.drew ?_)) hb5
            have Bs_5 : Hid (w5.heap[w.heap.size]? = some (.cells #[.bool true, .slice A1 R.length c1, .slice A2 H.length c2, .slice A3 F.length c3, .bool tu, .bool fa, .int .i64 ag, .bool jo] 31 (0, 0))) := blk_keep hb5 (blk_keep (W := w4) (by (repeat (first | exact Below.refl _ _ | refine bel_drewN ?_ _ | refine bel_drew ?_ | refine bel_alloc ?_ _ | refine bel_set ?_ (by simp) _))) Bs_4.out)
            have Bf_5 : Hid (w5.heap[w1.heap.size]? = some (.cells #[.int .i64 x1, .int .i64 x2] 48 (0, 0))) := blk_keep hb5 (blk_keep (W := w4) (by (repeat (first | exact Below.refl _ _ | refine bel_drewN ?_ _ | refine bel_drew ?_ | refine bel_alloc ?_ _ | refine bel_set ?_ (by simp) _))) Bf_4.out)
            have Bb_5 : Hid (w5.heap[w2.heap.size]? = some (.cells #[.slice Al Y.length cl] 29 (0, 0))) := blk_keep hb5 (blk_keep (W := w4) (by (repeat (first | exact Below.refl _ _ | refine bel_drewN ?_ _ | refine bel_drew ?_ | refine bel_alloc ?_ _ | refine bel_set ?_ (by simp) _))) Bb_4.out)
            have s0_5 : w5.cell? ⟨w.heap.size, 0, none⟩ = some (.bool true) := blk_cell Bs_5.out rfl
            have s1_5 : w5.cell? ⟨w.heap.size, 1, none⟩ = some (.slice A1 R.length c1) := blk_cell Bs_5.out rfl
            have s2_5 : w5.cell? ⟨w.heap.size, 2, none⟩ = some (.slice A2 H.length c2) := blk_cell Bs_5.out rfl
            have s3_5 : w5.cell? ⟨w.heap.size, 3, none⟩ = some (.slice A3 F.length c3) := blk_cell Bs_5.out rfl
            have s4_5 : w5.cell? ⟨w.heap.size, 4, none⟩ = some (.bool tu) := blk_cell Bs_5.out rfl
            have s5_5 : w5.cell? ⟨w.heap.size, 5, none⟩ = some (.bool fa) := blk_cell Bs_5.out rfl
            have s6_5 : w5.cell? ⟨w.heap.size, 6, none⟩ = some (.int .i64 ag) := blk_cell Bs_5.out rfl
            have s7_5 : w5.cell? ⟨w.heap.size, 7, none⟩ = some (.bool jo) := blk_cell Bs_5.out rfl
            have sz_5 : w.heap.size < w5.heap.size := blk_lt Bs_5.out
            have f0_5 : w5.cell? ⟨w1.heap.size, 0, none⟩ = some (.int .i64 x1) := blk_cell Bf_5.out rfl
            have fz_5 : w1.heap.size < w5.heap.size := blk_lt Bf_5.out
            have b0_5 : w5.cell? ⟨w2.heap.size, 0, none⟩ = some (.slice Al Y.length cl) := blk_cell Bb_5.out rfl
            have bz_5 : w2.heap.size < w5.heap.size := blk_lt Bb_5.out
            clear S1_4 S2_4 S3_4 Sl_4 Bs_4 s0_4 s1_4 s2_4 s3_4 s4_4 s5_4 s6_4 s7_4 sz_4 Bf_4 f0_4 fz_4 Bb_4 b0_4 bz_4 HB_4 hb5
            go_wp2_with fail
            go_ret
            exact ⟨ret_int (by simp), (by repeat (first | (with_reducible exact HB_5.out) | (with_reducible refine bel_drewN ?_ _) | (with_reducible refine bel_drew ?_) | (with_reducible refine bel_alloc ?_ _) | (with_reducible refine bel_set ?_ (by first | omega | (dsimp only; omega)) _)))⟩
        · rw [hb1] at HH
          clear hb1
          go_enter Tryd.func15, Tryd.ntmps15
          go_wp2_with fail
          refine (first_as1 A1 c1 R x1 x2 r HR.out _ (by repeat (first | exact S1_0.out | refine Sp.alloc ?_ _ | refine Sp.drewN ?_ _ | refine Sp.drew ?_)) K1.out (by omega)).mono ?_
          rintro e1 w1 ⟨rfl, hb1⟩
          have HB_1 : Hid (Below w.heap.size w w1) := bel_chain hb1 (by repeat (first | exact Below.refl _ _ | refine bel_drewN ?_ _ | refine bel_drew ?_ | refine bel_alloc ?_ _))
          have S1_1 : Hid (Sp w1 A1 c1 (R)) := Sp.below (by repeat (first | exact S1_0.out | refine Sp.alloc ?_ _ | refine Sp.drewN ?_ _ | refine Sp.drew ?_)) hb1
          have S2_1 : Hid (Sp w1 A2 c2 (H)) := Sp.below (by repeat (first | exact S2_0.out | refine Sp.alloc ?_ _ | refine Sp.drewN ?_ _ | refine Sp.drew ?_)) hb1
          have S3_1 : Hid (Sp w1 A3 c3 (F)) := Sp.below (by repeat (first | exact S3_0.out | refine Sp.alloc ?_ _ | refine Sp.drewN ?_ _ | refine Sp.drew ?_)) hb1
          have Bs_1 : Hid (w1.heap[w.heap.size]? = some (.cells #[.bool true, .slice A1 R.length c1, .slice A2 H.length c2, .slice A3 F.length c3, .bool tu, .bool fa, .int .i64 ag, .bool jo] 31 (0, 0))) := blk_keep hb1 (by repeat (first | exact blk_new (by first | rfl | (simp; done) | (simp; omega)) | refine blk_skip ?_ | refine blk_drewN ?_ | refine blk_drew ?_))
          have s0_1 : w1.cell? ⟨w.heap.size, 0, none⟩ = some (.bool true) := blk_cell Bs_1.out rfl
          have s1_1 : w1.cell? ⟨w.heap.size, 1, none⟩ = some (.slice A1 R.length c1) := blk_cell Bs_1.out rfl
          have s2_1 : w1.cell? ⟨w.heap.size, 2, none⟩ = some (.slice A2 H.length c2) := blk_cell Bs_1.out rfl
          have s3_1 : w1.cell? ⟨w.heap.size, 3, none⟩ = some (.slice A3 F.length c3) := blk_cell Bs_1.out rfl
          have s4_1 : w1.cell? ⟨w.heap.size, 4, none⟩ = some (.bool tu) := blk_cell Bs_1.out rfl
          have s5_1 : w1.cell? ⟨w.heap.size, 5, none⟩ = some (.bool fa) := blk_cell Bs_1.out rfl
          have s6_1 : w1.cell? ⟨w.heap.size, 6, none⟩ = some (.int .i64 ag) := blk_cell Bs_1.out rfl
          have s7_1 : w1.cell? ⟨w.heap.size, 7, none⟩ = some (.bool jo) := blk_cell Bs_1.out rfl
          have sz_1 : w.heap.size < w1.heap.size := blk_lt Bs_1.out
          clear S1_0 S2_0 S3_0 hb1
          go_wp2_with fail
          refine ((HL _ (by repeat (first | exact S1_1.out | refine Sp.alloc ?_ _ | refine Sp.drewN ?_ _ | refine Sp.drew ?_)) (by repeat (first | exact S2_1.out | refine Sp.alloc ?_ _ | refine Sp.drewN ?_ _ | refine Sp.drew ?_)) (by repeat (first | exact S3_1.out | refine Sp.alloc ?_ _ | refine Sp.drewN ?_ _ | refine Sp.drew ?_))).out).mono ?_
          rintro e2 w2 ⟨Al, cl, rfl, hs2, hb2⟩
          have HB_2 : Hid (Below w.heap.size w w2) := bel_chain hb2 (by repeat (first | exact HB_1.out | refine bel_drewN ?_ _ | refine bel_drew ?_ | refine bel_alloc ?_ _))
          have S1_2 : Hid (Sp w2 A1 c1 (R)) := Sp.below (by repeat (first | exact S1_1.out | refine Sp.alloc ?_ _ | refine Sp.drewN ?_ _ | refine Sp.drew ?_)) hb2
          have S2_2 : Hid (Sp w2 A2 c2 (H)) := Sp.below (by repeat (first | exact S2_1.out | refine Sp.alloc ?_ _ | refine Sp.drewN ?_ _ | refine Sp.drew ?_)) hb2
          have S3_2 : Hid (Sp w2 A3 c3 (F)) := Sp.below (by repeat (first | exact S3_1.out | refine Sp.alloc ?_ _ | refine Sp.drewN ?_ _ | refine Sp.drew ?_)) hb2
          have Bs_2 : Hid (w2.heap[w.heap.size]? = some (.cells #[.bool true, .slice A1 R.length c1, .slice A2 H.length c2, .slice A3 F.length c3, .bool tu, .bool fa, .int .i64 ag, .bool jo] 31 (0, 0))) := blk_keep hb2 (blk_keep (W := w1) (by (repeat (first | exact Below.refl _ _ | refine bel_drewN ?_ _ | refine bel_drew ?_ | refine bel_alloc ?_ _ | refine bel_set ?_ (by simp) _))) Bs_1.out)
          have ord0 : w.heap.size < w1.heap.size := by omega
          have Bf_2 : Hid (w2.heap[w1.heap.size]? = some (.cells #[.int .i64 x1, .int .i64 x2] 48 (0, 0))) := blk_keep hb2 (by repeat (first | exact blk_new (by first | rfl | (simp; done) | (simp; omega)) | refine blk_skip ?_ | refine blk_drewN ?_ | refine blk_drew ?_))
          have s0_2 : w2.cell? ⟨w.heap.size, 0, none⟩ = some (.bool true) := blk_cell Bs_2.out rfl
          have s1_2 : w2.cell? ⟨w.heap.size, 1, none⟩ = some (.slice A1 R.length c1) := blk_cell Bs_2.out rfl
          have s2_2 : w2.cell? ⟨w.heap.size, 2, none⟩ = some (.slice A2 H.length c2) := blk_cell Bs_2.out rfl
          have s3_2 : w2.cell? ⟨w.heap.size, 3, none⟩ = some (.slice A3 F.length c3) := blk_cell Bs_2.out rfl
          have s4_2 : w2.cell? ⟨w.heap.size, 4, none⟩ = some (.bool tu) := blk_cell Bs_2.out rfl
          have s5_2 : w2.cell? ⟨w.heap.size, 5, none⟩ = some (.bool fa) := blk_cell Bs_2.out rfl
          have s6_2 : w2.cell? ⟨w.heap.size, 6, none⟩ = some (.int .i64 ag) := blk_cell Bs_2.out rfl
          have s7_2 : w2.cell? ⟨w.heap.size, 7, none⟩ = some (.bool jo) := blk_cell Bs_2.out rfl
          have sz_2 : w.heap.size < w2.heap.size := blk_lt Bs_2.out
          have f0_2 : w2.cell? ⟨w1.heap.size, 0, none⟩ = some (.int .i64 x1) := blk_cell Bf_2.out rfl
          have fz_2 : w1.heap.size < w2.heap.size := blk_lt Bf_2.out
          have Sl_2 : Hid (Sp w2 Al cl (Y)) := hs2
          clear S1_1 S2_1 S3_1 Bs_1 s0_1 s1_1 s2_1 s3_1 s4_1 s5_1 s6_1 s7_1 sz_1 hs2 HB_1 hb2
          go_wp2_with fail
          refine (first_as1 Al cl Y y1 y2 q HYE.out _ (by repeat (first | exact Sl_2.out | refine Sp.alloc ?_ _ | refine Sp.drewN ?_ _ | refine Sp.drew ?_)) KY.out (by omega)).mono ?_
          rintro e3 w3 ⟨rfl, hb3⟩
          have HB_3 : Hid (Below w.heap.size w w3) := bel_chain hb3 (by repeat (first | exact HB_2.out | refine bel_drewN ?_ _ | refine bel_drew ?_ | refine bel_alloc ?_ _))
          have S1_3 : Hid (Sp w3 A1 c1 (R)) := Sp.below (by repeat (first | exact S1_2.out | refine Sp.alloc ?_ _ | refine Sp.drewN ?_ _ | refine Sp.drew ?_)) hb3
          have S2_3 : Hid (Sp w3 A2 c2 (H)) := Sp.below (by repeat (first | exact S2_2.out | refine Sp.alloc ?_ _ | refine Sp.drewN ?_ _ | refine Sp.drew ?_)) hb3
          have S3_3 : Hid (Sp w3 A3 c3 (F)) := Sp.below (by repeat (first | exact S3_2.out | refine Sp.alloc ?_ _ | refine Sp.drewN ?_ _ | refine Sp.drew ?_)) hb3
          have Sl_3 : Hid (Sp w3 Al cl (Y)) := Sp.below (by repeat (first | exact Sl_2.out | refine Sp.alloc ?_ _ | refine Sp.drewN ?_ _ | refine Sp.drew ?_)) hb3
          have Bs_3 : Hid (w3.heap[w.heap.size]? = some (.cells #[.bool true, .slice A1 R.length c1, .slice A2 H.length c2, .slice A3 F.length c3, .bool tu, .bool fa, .int .i64 ag, .bool jo] 31 (0, 0))) := blk_keep hb3 (blk_keep (W := w2) (by (repeat (first | exact Below.refl _ _ | refine bel_drewN ?_ _ | refine bel_drew ?_ | refine bel_alloc ?_ _ | refine bel_set ?_ (by simp) _))) Bs_2.out)
          have Bf_3 : Hid (w3.heap[w1.heap.size]? = some (.cells #[.int .i64 x1, .int .i64 x2] 48 (0, 0))) := blk_keep hb3 (blk_keep (W := w2) (by (repeat (first | exact Below.refl _ _ | refine bel_drewN ?_ _ | refine bel_drew ?_ | refine bel_alloc ?_ _ | refine bel_set ?_ (by simp) _))) Bf_2.out)
          have ord1 : w.heap.size < w2.heap.size := by omega
          have ord2 : w1.heap.size < w2.heap.size := by omega
          have Bb_3 : Hid (w3.heap[w2.heap.size]? = some (.cells #[.slice Al Y.length cl] 29 (0, 0))) := blk_keep hb3 (by repeat (first | exact blk_new (by first | rfl | (simp; done) | (simp; omega)) | refine blk_skip ?_ | refine blk_drewN ?_ | refine blk_drew ?_))
          have s0_3 : w3.cell? ⟨w.heap.size, 0, none⟩ = some (.bool true) := blk_cell Bs_3.out rfl
          have s1_3 : w3.cell? ⟨w.heap.size, 1, none⟩ = some (.slice A1 R.length c1) := blk_cell Bs_3.out rfl
          have s2_3 : w3.cell? ⟨w.heap.size, 2, none⟩ = some (.slice A2 H.length c2) := blk_cell Bs_3.out rfl
          have s3_3 : w3.cell? ⟨w.heap.size, 3, none⟩ = some (.slice A3 F.length c3) := blk_cell Bs_3.out rfl
          have s4_3 : w3.cell? ⟨w.heap.size, 4, none⟩ = some (.bool tu) := blk_cell Bs_3.out rfl
          have s5_3 : w3.cell? ⟨w.heap.size, 5, none⟩ = some (.bool fa) := blk_cell Bs_3.out rfl
          have s6_3 : w3.cell? ⟨w.heap.size, 6, none⟩ = some (.int .i64 ag) := blk_cell Bs_3.out rfl
          have s7_3 : w3.cell? ⟨w.heap.size, 7, none⟩ = some (.bool jo) := blk_cell Bs_3.out rfl
          have sz_3 : w.heap.size < w3.heap.size := blk_lt Bs_3.out
          have f0_3 : w3.cell? ⟨w1.heap.size, 0, none⟩ = some (.int .i64 x1) := blk_cell Bf_3.out rfl
          have fz_3 : w1.heap.size < w3.heap.size := blk_lt Bf_3.out
          have b0_3 : w3.cell? ⟨w2.heap.size, 0, none⟩ = some (.slice Al Y.length cl) := blk_cell Bb_3.out rfl
          have bz_3 : w2.heap.size < w3.heap.size := blk_lt Bb_3.out
          clear S1_2 S2_2 S3_2 Sl_2 Bs_2 s0_2 s1_2 s2_2 s3_2 s4_2 s5_2 s6_2 s7_2 sz_2 Bf_2 f0_2 fz_2 HB_2 hb3
          go_wp2_with fail
          refine ((HH _ (by repeat (first | exact S2_3.out | refine Sp.alloc ?_ _ | refine Sp.drewN ?_ _ | refine Sp.drew ?_))).out).mono ?_
          rintro e4 w4 ⟨rfl, hb4⟩
          have HB_4 : Hid (Below w.heap.size w w4) := bel_chain hb4 (by repeat (first | exact HB_3.out | refine bel_drewN ?_ _ | refine bel_drew ?_ | refine bel_alloc ?_ _))
          have S1_4 : Hid (Sp w4 A1 c1 (R)) := Sp.below (by repeat (first | exact S1_3.out | refine Sp.alloc ?_ _ | refine Sp.drewN ?_ _ | refine Sp.drew ?_)) hb4
          have S2_4 : Hid (Sp w4 A2 c2 (H)) := Sp.below (by repeat (first | exact S2_3.out | refine Sp.alloc ?_ _ | refine Sp.drewN ?_ _ | refine Sp.drew ?_)) hb4
          have S3_4 : Hid (Sp w4 A3 c3 (F)) := Sp.below (by repeat (first | exact S3_3.out | refine Sp.alloc ?_ _ | refine Sp.drewN ?_ _ | refine Sp.drew ?_)) hb4
          have Sl_4 : Hid (Sp w4 Al cl (Y)) := Sp.below (by repeat (first | exact Sl_3.out | refine Sp.alloc ?_ _ | refine Sp.drewN ?_ _ | refine Sp.drew ?_)) hb4
          have Bs_4 : Hid (w4.heap[w.heap.size]? = some (.cells #[.bool true, .slice A1 R.length c1, .slice A2 H.length c2, .slice A3 F.length c3, .bool tu, .bool fa, .int .i64 ag, .bool jo] 31 (0, 0))) := blk_keep hb4 (blk_keep (W := w3) (by (repeat (first | exact Below.refl _ _ | refine bel_drewN ?_ _ | refine bel_drew ?_ | refine bel_alloc ?_ _ | refine bel_set ?_ (by simp) _))) Bs_3.out)
          have Bf_4 : Hid (w4.heap[w1.heap.size]? = some (.cells #[.int .i64 x1, .int .i64 x2] 48 (0, 0))) := blk_keep hb4 (blk_keep (W := w3) (by (repeat (first | exact Below.refl _ _ | refine bel_drewN ?_ _ | refine bel_drew ?_ | refine bel_alloc ?_ _ | refine bel_set ?_ (by simp) _))) Bf_3.out)
          have Bb_4 : Hid (w4.heap[w2.heap.size]? = some (.cells #[.slice Al Y.length cl] 29 (0, 0))) := blk_keep hb4 (blk_keep (W := w3) (by (repeat (first | exact Below.refl _ _ | refine bel_drewN ?_ _ | refine bel_drew ?_ | refine bel_alloc ?_ _ | refine bel_set ?_ (by simp) _))) Bb_3.out)
          have s0_4 : w4.cell? ⟨w.heap.size, 0, none⟩ = some (.bool true) := blk_cell Bs_4.out rfl
          have s1_4 : w4.cell? ⟨w.heap.size, 1, none⟩ = some (.slice A1 R.length c1) := blk_cell Bs_4.out rfl
          have s2_4 : w4.cell? ⟨w.heap.size, 2, none⟩ = some (.slice A2 H.length c2) := blk_cell Bs_4.out rfl
          have s3_4 : w4.cell? ⟨w.heap.size, 3, none⟩ = some (.slice A3 F.length c3) := blk_cell Bs_4.out rfl
          have s4_4 : w4.cell? ⟨w.heap.size, 4, none⟩ = some (.bool tu) := blk_cell Bs_4.out rfl
          have s5_4 : w4.cell? ⟨w.heap.size, 5, none⟩ = some (.bool fa) := blk_cell Bs_4.out rfl
          have s6_4 : w4.cell? ⟨w.heap.size, 6, none⟩ = some (.int .i64 ag) := blk_cell Bs_4.out rfl
          have s7_4 : w4.cell? ⟨w.heap.size, 7, none⟩ = some (.bool jo) := blk_cell Bs_4.out rfl
          have sz_4 : w.heap.size < w4.heap.size := blk_lt Bs_4.out
          have f0_4 : w4.cell? ⟨w1.heap.size, 0, none⟩ = some (.int .i64 x1) := blk_cell Bf_4.out rfl
          have fz_4 : w1.heap.size < w4.heap.size := blk_lt Bf_4.out
          have b0_4 : w4.cell? ⟨w2.heap.size, 0, none⟩ = some (.slice Al Y.length cl) := blk_cell Bb_4.out rfl
          have bz_4 : w2.heap.size < w4.heap.size := blk_lt Bb_4.out
          clear S1_3 S2_3 S3_3 Sl_3 Bs_3 s0_3 s1_3 s2_3 s3_3 s4_3 s5_3 s6_3 s7_3 sz_3 Bf_3 f0_3 fz_3 Bb_3 b0_3 bz_3 HB_3 hb4
          go_wp2_with fail
          go_ret
          exact ⟨ret_int (by simp), (by repeat (first | (with_reducible exact HB_4.out) | (with_reducible refine bel_drewN ?_ _) | (with_reducible refine bel_drew ?_) | (with_reducible refine bel_alloc ?_ _) | (with_reducible refine bel_set ?_ (by first | omega | (dsimp only; omega)) _)))⟩

end Go.Proofs.YtfpfdgljhcpkpaaDoor
