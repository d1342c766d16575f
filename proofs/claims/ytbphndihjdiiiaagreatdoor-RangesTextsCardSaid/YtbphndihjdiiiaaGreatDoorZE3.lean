/- Contracts of the program's texts of spans: ParseInt, Text, Parse. The document's text of a set, and what it parses. -/
import Derived.Test.YtbphndihjdiiiaaGreatDoorZE2
import Derived.Test.YtbphndihjdiiiaaGreatDoorZLaid5
import Derived.Test.YtbphndihjdiiiaaGreatDoorZB11
import Derived.Test.YtbphndihjdiiiaaGreatDoorZV2
namespace Go.Proofs.YtbphndihjdiiiaaGreatDoor
open Go.RowKit

/-- The variables of strconv's errors hold errors. -/
structure ErrsOk (w : World) : Prop where
  s : ∃ ev, w.cell? ⟨3, 0, none⟩ = some ev ∧ (ev = .nilIface ∨ ∃ te pe, ev = .iface te pe)
  r : ∃ ev, w.cell? ⟨4, 0, none⟩ = some ev ∧ (ev = .nilIface ∨ ∃ te pe, ev = .iface te pe)
theorem ErrsOk.below {w w' : World} (h : ErrsOk w) (hb : Below w.heap.size w w') : ErrsOk w' :=
  ⟨h.s.imp fun _ x => ⟨cell_keep hb x.1, x.2⟩, h.r.imp fun _ x => ⟨cell_keep hb x.1, x.2⟩⟩
theorem parseInt_some {l : List UInt8} {x : Int} (h : numP l = some x) (w : World) (hl : l.length ≤ 1000000) : Calls Tryz.prog 98 #[.string ⟨l.toArray⟩, .int .i64 10, .int .i64 64] w fun e w' => e = .returned (.tuple #[.int .i64 x, .nilIface]) ∧ Below w.heap.size w w' := by
  have hv : Lib.parseIntB 64 l = .ok x := by
    unfold numP at h
    split at h
    · rename_i v hv; injection h with h; rw [hv, h]
    · cases h
  refine (Tryz.strconv_ParseInt_10_at64_ok ⟨l.toArray⟩ (by have := ba_size l; omega) x hv w).mono ?_
  rintro e w' ⟨rfl, hw⟩
  refine ⟨rfl, ?_⟩
  rcases hw with rfl | ⟨t, rfl⟩
  · exact Below.refl _ _
  · exact Lib.bytesWorld_below _ _ _
theorem parseInt_none {l : List UInt8} (h : numP l = none) (w : World) (hl : l.length ≤ 1000000) (hE : ErrsOk w) : Calls Tryz.prog 98 #[.string ⟨l.toArray⟩, .int .i64 10, .int .i64 64] w fun e w' => ∃ v N, e = .returned (.tuple #[.int .i64 v, .iface 260 (.pointer (some ⟨N, 0, none⟩))]) ∧ Below w.heap.size w w' := by
  have hz : (⟨l.toArray⟩ : ByteArray).size ≤ 281474976710656 := by have := ba_size l; omega
  unfold numP at h
  cases hv : Lib.parseIntB 64 l with
  | ok v => rw [hv] at h; cases h
  | range =>
    obtain ⟨ev, h1, h2⟩ := hE.r
    refine (Tryz.strconv_ParseInt_10_at64_range ⟨l.toArray⟩ hz hv ev w h1 h2).mono ?_
    rintro e w' ⟨N, rfl, _, _, hb⟩
    exact ⟨_, N, rfl, hb⟩
  | _ =>
    obtain ⟨ev, h1, h2⟩ := hE.s
    refine (Tryz.strconv_ParseInt_10_at64_syntax ⟨l.toArray⟩ hz hv ev w h1 h2).mono ?_
    rintro e w' ⟨N, rfl, _, _, hb⟩
    exact ⟨_, N, rfl, hb⟩
/-- Numbers' texts, none too long. -/
def ntD (n : Int) : List UInt8 := if 0 ≤ n ∧ n ≤ 4611686018427387904 then digN n else []
theorem ntD_len (n : Int) : (ntD n).length ≤ 40 := by
  unfold ntD
  by_cases h : 0 ≤ n ∧ n ≤ 4611686018427387904
  · rw [if_pos h]; have := digN_len' (n := n) (by omega); omega
  · rw [if_neg h]; simp
theorem fmt_digN (n : Int) (h0 : 0 ≤ n) (h1 : n ≤ 4611686018427387904) (w : World) (htab : Lib.TabIs Tryz.prog w "internal/strconv.uint64pow10" .u64 Lib.pow10Tab) :
    Calls Tryz.prog 100 #[.int .i64 n, .int .i64 10] w fun e w' => e = .returned (.string ⟨(ntD n).toArray⟩) ∧ Below w.heap.size w w' := by
  have := fmt_any n (by omega) (by omega) w htab
  rw [itoa_dig h0] at this
  unfold ntD
  rw [if_pos ⟨h0, h1⟩]
  exact this
theorem spanT_any (f t : Int) (w : World) (htab : Lib.TabIs Tryz.prog w "internal/strconv.uint64pow10" .u64 Lib.pow10Tab) :
    Calls Tryz.prog 53 #[.agg #[.int .i64 f, .int .i64 t]] w fun e w' => e = .returned (.string ⟨(tX (f, t)).toArray⟩) ∧ Below w.heap.size w w' := by
  cases hok : okS (f, t)
  · have hR := fun W => Lib.hid (right_any f t W)
    rw [hok] at hR
    have HX : Hid (tX (f, t) = []) := by simp only [Hid, tX, hok]; rfl
    clear hok htab
    go_enter Tryz.func53, Tryz.ntmps53
    go_wp2_with fail
    refine (hR _).out.mono ?_
    rintro e w1 ⟨rfl, rfl⟩
    go_wp2_with fail
    go_ret
    rw [HX.out]
    exact ⟨rfl, by (repeat (first | exact Below.refl _ _ | refine bel_drewN ?_ _ | refine bel_drew ?_ | refine bel_alloc ?_ _ | refine bel_set ?_ (by simp) _))⟩
  · obtain ⟨r1, r2, r3⟩ := (okS_iff (f, t)).1 hok
    simp only at r1 r2 r3
    have := spanText_any ntD ntD_len f t hok w (fun W hW => fmt_digN f r1 (by omega) W (tab_below htab hW)) (fun _ W hW => fmt_digN t (by omega) r3 W (tab_below htab hW))
    have e : spT ntD (f, t) = tX (f, t) := by
      unfold tX
      rw [if_pos hok]
      unfold tS spT ntD
      simp only
      rw [if_pos (⟨r1, by omega⟩ : 0 ≤ f ∧ f ≤ 4611686018427387904), if_pos (⟨by omega, r3⟩ : 0 ≤ t ∧ t ≤ 4611686018427387904)]
    rw [e] at this
    exact this
theorem cutD_ne {l : List UInt8} {p : List UInt8 × List UInt8} (h : cutD l = some p) : l ≠ [] := by
  rintro rfl; cases h
set_option maxHeartbeats 8000000 in
set_option maxRecDepth 100000 in
theorem spanParse_any (l : List UInt8) (w : World) (hl : l.length ≤ 100000) (htab : Lib.TabIs Tryz.prog w "internal/strconv.uint64pow10" .u64 Lib.pow10Tab) (herr : ErrsOk w) :
    Calls Tryz.prog 50 #[.string ⟨l.toArray⟩] w (SpanPost (spanP l) w) := by
  have hsz : (⟨l.toArray⟩ : ByteArray).size = l.length := List.size_toArray ..
  have HTAB := Lib.hid htab
  have HERR := Lib.hid herr
  clear htab herr
  cases hc : cutD l with
  | none =>
    have HV3 : Hid (spanP l = none) := by simp only [Hid]; unfold spanP; rw [hc]
    have HC := fun W => Lib.hid (cut_no hc W (by omega))
    clear hc
    go_enter Tryz.func50, Tryz.ntmps50
    go_wp2_with fail
    refine (HC _).out.mono ?_
    rintro e1 w1 ⟨a, b, rfl, hb1⟩
    have B1R := Lib.hid (blk_keep hb1 (blk_new rfl))
    have HB1 := Lib.hid (bel_chain hb1 (bel_alloc (Below.refl _ _) _))
    clear HC hb1
    have q1 : w1.cell? ⟨w.heap.size, 0, none⟩ = some (.int .i64 0) := blk_cell B1R.out rfl
    have q2 : w1.cell? ⟨w.heap.size, 1, none⟩ = some (.int .i64 0) := blk_cell B1R.out rfl
    have f1 : w1.frozen? ⟨w.heap.size, 0, none⟩ = false := blk_frozen B1R.out
    have f2 : w1.frozen? ⟨w.heap.size, 1, none⟩ = false := blk_frozen B1R.out
    have q3 : w.heap.size < w1.heap.size := blk_lt B1R.out
    go_wp2_with fail
    refine bodyPost_ret (by simp [results, Tryz.results50, go_sem, q1, q2]; try rfl) rfl ?_
    exact span_no HV3.out (by repeat (first | (with_reducible exact HB1.out) | (with_reducible refine bel_alloc ?_ _) | (with_reducible refine bel_drew ?_) | (with_reducible refine bel_drewN ?_ _) | (with_reducible refine bel_set ?_ (by first | omega | (dsimp only; omega)) _)))
  | some p =>
    obtain ⟨a, b⟩ := p
    have hcl := cutD_len hc
    have HNE := Lib.hid (cutD_ne hc)
    have HC := fun W => Lib.hid (cut_yes hc W (by omega))
    have HV : Hid (spanP l = spanQ l (numP a) (if b = [] then some 4611686018427387904 else numP b)) := by simp only [Hid]; unfold spanP; rw [hc]
    obtain ⟨hla, hlb⟩ := hcl
    clear hc
    go_enter Tryz.func50, Tryz.ntmps50
    go_wp2_with fail
    refine (HC _).out.mono ?_
    rintro e1 w1 ⟨rfl, hb1⟩
    have B1R := Lib.hid (blk_keep hb1 (blk_new rfl))
    have HB1 := Lib.hid (bel_chain hb1 (bel_alloc (Below.refl _ _) _))
    clear HC hb1
    have hrx := blk_lt B1R.out
    have q1 : w1.cell? ⟨w.heap.size, 0, none⟩ = some (.int .i64 0) := blk_cell B1R.out rfl
    have q2 : w1.cell? ⟨w.heap.size, 1, none⟩ = some (.int .i64 0) := blk_cell B1R.out rfl
    have f1 : w1.frozen? ⟨w.heap.size, 0, none⟩ = false := blk_frozen B1R.out
    have f2 : w1.frozen? ⟨w.heap.size, 1, none⟩ = false := blk_frozen B1R.out
    have q3 : w.heap.size < w1.heap.size := blk_lt B1R.out
    go_wp2_with fail
    clear q1 q2 f1 f2 q3
    have BA : Hid ((w1.alloc (.cells #[.int .i64 0, .int .i64 4611686018427387904] 80)).heap[w1.heap.size]? = some (.cells #[.int .i64 0, .int .i64 4611686018427387904] 80 (0, 0))) := blk_new rfl
    have BAR := Lib.hid (blk_skip (o' := .cells #[.int .i64 0, .int .i64 4611686018427387904] 80) B1R.out)
    have HBA : Hid (Below w.heap.size w (w1.alloc (.cells #[.int .i64 0, .int .i64 4611686018427387904] 80))) := bel_alloc HB1.out _
    clear B1R
    cases hna : numP a with
    | none =>
      have HV3 : Hid (spanP l = none) := by simp only [Hid]; rw [HV.out, hna]; rfl
      refine (parseInt_none hna _ (by omega) (HERR.out.below HBA.out)).mono ?_
      rintro e2 w2 ⟨v, N, rfl, hb2⟩
      have B2R := Lib.hid (blk_keep hb2 BAR.out)
      have B2X := Lib.hid (blk_keep hb2 BA.out)
      have HB2 := Lib.hid (bel_chain hb2 HBA.out)
      clear hna HV HNE hb2 BAR BA
      have q1 : w2.cell? ⟨w.heap.size, 0, none⟩ = some (.int .i64 0) := blk_cell B2R.out rfl
      have q2 : w2.cell? ⟨w.heap.size, 1, none⟩ = some (.int .i64 0) := blk_cell B2R.out rfl
      have f1 : w2.frozen? ⟨w.heap.size, 0, none⟩ = false := blk_frozen B2R.out
      have f2 : w2.frozen? ⟨w.heap.size, 1, none⟩ = false := blk_frozen B2R.out
      have q3 : w.heap.size < w2.heap.size := blk_lt B2R.out
      have x1 : w2.cell? ⟨w1.heap.size, 0, none⟩ = some (.int .i64 0) := blk_cell B2X.out rfl
      have x2 : w2.cell? ⟨w1.heap.size, 1, none⟩ = some (.int .i64 4611686018427387904) := blk_cell B2X.out rfl
      have g1 : w2.frozen? ⟨w1.heap.size, 0, none⟩ = false := blk_frozen B2X.out
      have g2 : w2.frozen? ⟨w1.heap.size, 1, none⟩ = false := blk_frozen B2X.out
      have x3 : w1.heap.size < w2.heap.size := blk_lt B2X.out
      go_wp2_with fail
      refine bodyPost_ret (by simp [results, Tryz.results50, go_sem, q1, q2]; try rfl) rfl ?_
      exact span_no HV3.out (by repeat (first | (with_reducible exact HB2.out) | (with_reducible refine bel_alloc ?_ _) | (with_reducible refine bel_drew ?_) | (with_reducible refine bel_drewN ?_ _) | (with_reducible refine bel_set ?_ (by first | omega | (dsimp only; omega)) _)))
    | some f =>
      refine (parseInt_some hna _ (by omega)).mono ?_
      rintro e2 w2 ⟨rfl, hb2⟩
      have B2R := Lib.hid (blk_keep hb2 BAR.out)
      have B2X := Lib.hid (blk_keep hb2 BA.out)
      have HB2 := Lib.hid (bel_chain hb2 HBA.out)
      rw [hna] at HV
      clear hna hb2 BAR BA
      have q1 : w2.cell? ⟨w.heap.size, 0, none⟩ = some (.int .i64 0) := blk_cell B2R.out rfl
      have q2 : w2.cell? ⟨w.heap.size, 1, none⟩ = some (.int .i64 0) := blk_cell B2R.out rfl
      have f1 : w2.frozen? ⟨w.heap.size, 0, none⟩ = false := blk_frozen B2R.out
      have f2 : w2.frozen? ⟨w.heap.size, 1, none⟩ = false := blk_frozen B2R.out
      have q3 : w.heap.size < w2.heap.size := blk_lt B2R.out
      have x1 : w2.cell? ⟨w1.heap.size, 0, none⟩ = some (.int .i64 0) := blk_cell B2X.out rfl
      have x2 : w2.cell? ⟨w1.heap.size, 1, none⟩ = some (.int .i64 4611686018427387904) := blk_cell B2X.out rfl
      have g1 : w2.frozen? ⟨w1.heap.size, 0, none⟩ = false := blk_frozen B2X.out
      have g2 : w2.frozen? ⟨w1.heap.size, 1, none⟩ = false := blk_frozen B2X.out
      have x3 : w1.heap.size < w2.heap.size := blk_lt B2X.out
      by_cases hbe : b = []
      · subst hbe
        have HV2 : Hid (spanP l = if okS (f, 4611686018427387904) = true ∧ l = tX (f, 4611686018427387904) then some (f, 4611686018427387904) else none) := by
          simp only [Hid]; rw [HV.out, if_pos rfl, spanQ_at]
        clear HV
        go_wp2_with fail
        clear q1 q2 f1 f2 q3 x1 x2 g1 g2 x3
        obtain ⟨V, hV⟩ : ∃ V, w2.setCell ⟨w1.heap.size, 0, none⟩ (.int .i64 f) = V := ⟨_, rfl⟩
        have BVR : Hid (V.heap[w.heap.size]? = some (.cells #[.int .i64 0, .int .i64 0] 80 (0, 0))) := by simp only [Hid]; rw [← hV]; exact blk_set_ne (by dsimp only; omega) B2R.out
        have BVX : Hid (V.heap[w1.heap.size]? = some (.cells #[.int .i64 f, .int .i64 4611686018427387904] 80 (0, 0))) := by simp only [Hid]; rw [← hV]; exact blk_set B2X.out
        have HVb : Hid (Below w.heap.size w V) := by simp only [Hid]; rw [← hV]; exact bel_set HB2.out (by dsimp only; omega) _
        rw [hV]
        clear hV
        have htl := tX_len (f, 4611686018427387904)
        refine (spanT_any f 4611686018427387904 V (tab_below HTAB.out HVb.out)).mono ?_
        rintro e5 w5 ⟨rfl, hb5⟩
        have B5R := Lib.hid (blk_keep hb5 BVR.out)
        have B5X := Lib.hid (blk_keep hb5 BVX.out)
        have HB5 := Lib.hid (bel_chain hb5 HVb.out)
        clear hb5 BVR BVX HVb B2R B2X
        have q1 : w5.cell? ⟨w.heap.size, 0, none⟩ = some (.int .i64 0) := blk_cell B5R.out rfl
        have q2 : w5.cell? ⟨w.heap.size, 1, none⟩ = some (.int .i64 0) := blk_cell B5R.out rfl
        have f1 : w5.frozen? ⟨w.heap.size, 0, none⟩ = false := blk_frozen B5R.out
        have f2 : w5.frozen? ⟨w.heap.size, 1, none⟩ = false := blk_frozen B5R.out
        have q3 : w.heap.size < w5.heap.size := blk_lt B5R.out
        have x1 : w5.cell? ⟨w1.heap.size, 0, none⟩ = some (.int .i64 f) := blk_cell B5X.out rfl
        have x2 : w5.cell? ⟨w1.heap.size, 1, none⟩ = some (.int .i64 4611686018427387904) := blk_cell B5X.out rfl
        have g1 : w5.frozen? ⟨w1.heap.size, 0, none⟩ = false := blk_frozen B5X.out
        have g2 : w5.frozen? ⟨w1.heap.size, 1, none⟩ = false := blk_frozen B5X.out
        have x3 : w1.heap.size < w5.heap.size := blk_lt B5X.out
        by_cases htx : l = tX (f, 4611686018427387904)
        · have hok : okS (f, 4611686018427387904) = true := by
            cases hk : okS (f, 4611686018427387904)
            · exfalso; unfold tX at htx; rw [hk] at htx; exact HNE.out htx
            · rfl
          have HV3 : Hid (spanP l = some (f, 4611686018427387904)) := by simp only [Hid]; rw [HV2.out, if_pos ⟨hok, htx⟩]
          have hbn : (tX (f, 4611686018427387904) == l) = true := by rw [beq_iff_eq]; exact htx.symm
          clear HV2 hok htx HNE
          go_wp2_with fail
          refine bodyPost_ret (by simp [results, Tryz.results50, go_sem, q1, q2]; try rfl) rfl ?_
          exact span_yes HV3.out (by repeat (first | (with_reducible exact HB5.out) | (with_reducible refine bel_alloc ?_ _) | (with_reducible refine bel_drew ?_) | (with_reducible refine bel_drewN ?_ _) | (with_reducible refine bel_set ?_ (by first | omega | (dsimp only; omega)) _)))
        · have HV3 : Hid (spanP l = none) := by simp only [Hid]; rw [HV2.out, if_neg (fun h => htx h.2)]
          have hbn : (tX (f, 4611686018427387904) == l) = false := by rw [beq_eq_false_iff_ne]; exact fun e => htx e.symm
          clear HV2 htx HNE
          go_wp2_with fail
          refine bodyPost_ret (by simp [results, Tryz.results50, go_sem, q1, q2]; try rfl) rfl ?_
          exact span_no HV3.out (by repeat (first | (with_reducible exact HB5.out) | (with_reducible refine bel_alloc ?_ _) | (with_reducible refine bel_drew ?_) | (with_reducible refine bel_drewN ?_ _) | (with_reducible refine bel_set ?_ (by first | omega | (dsimp only; omega)) _)))
      · have hbe2 : (b == []) = false := by rw [beq_eq_false_iff_ne]; exact hbe
        have HV1 : Hid (spanP l = spanQ l (some f) (numP b)) := by simp only [Hid]; rw [HV.out, if_neg hbe]
        clear HV hbe
        go_wp2_with fail
        clear q1 q2 f1 f2 q3 x1 x2 g1 g2 x3
        have B3R := Lib.hid (blk_set_ne (p := ⟨w1.heap.size, 0, none⟩) (v := .int .i64 f) (by dsimp only; omega) B2R.out)
        have B3X : Hid ((w2.setCell ⟨w1.heap.size, 0, none⟩ (.int .i64 f)).heap[w1.heap.size]? = some (.cells #[.int .i64 f, .int .i64 4611686018427387904] 80 (0, 0))) := blk_set B2X.out
        have HB3 : Hid (Below w.heap.size w (w2.setCell ⟨w1.heap.size, 0, none⟩ (.int .i64 f))) := bel_set HB2.out (by dsimp only; omega) _
        clear B2R B2X
        cases hnb : numP b with
        | none =>
          have HV3 : Hid (spanP l = none) := by simp only [Hid]; rw [HV1.out, hnb]; rfl
          refine (parseInt_none hnb _ (by omega) (HERR.out.below HB3.out)).mono ?_
          rintro e3 w3 ⟨v, N, rfl, hb3⟩
          have B4R := Lib.hid (blk_keep hb3 B3R.out)
          have B4X := Lib.hid (blk_keep hb3 B3X.out)
          have HB4 := Lib.hid (bel_chain hb3 HB3.out)
          clear hnb HV1 HNE hb3 B3R B3X
          have q1 : w3.cell? ⟨w.heap.size, 0, none⟩ = some (.int .i64 0) := blk_cell B4R.out rfl
          have q2 : w3.cell? ⟨w.heap.size, 1, none⟩ = some (.int .i64 0) := blk_cell B4R.out rfl
          have f1 : w3.frozen? ⟨w.heap.size, 0, none⟩ = false := blk_frozen B4R.out
          have f2 : w3.frozen? ⟨w.heap.size, 1, none⟩ = false := blk_frozen B4R.out
          have q3 : w.heap.size < w3.heap.size := blk_lt B4R.out
          have x1 : w3.cell? ⟨w1.heap.size, 0, none⟩ = some (.int .i64 f) := blk_cell B4X.out rfl
          have x2 : w3.cell? ⟨w1.heap.size, 1, none⟩ = some (.int .i64 4611686018427387904) := blk_cell B4X.out rfl
          have g1 : w3.frozen? ⟨w1.heap.size, 0, none⟩ = false := blk_frozen B4X.out
          have g2 : w3.frozen? ⟨w1.heap.size, 1, none⟩ = false := blk_frozen B4X.out
          have x3 : w1.heap.size < w3.heap.size := blk_lt B4X.out
          go_wp2_with fail
          refine bodyPost_ret (by simp [results, Tryz.results50, go_sem, q1, q2]; try rfl) rfl ?_
          exact span_no HV3.out (by repeat (first | (with_reducible exact HB4.out) | (with_reducible refine bel_alloc ?_ _) | (with_reducible refine bel_drew ?_) | (with_reducible refine bel_drewN ?_ _) | (with_reducible refine bel_set ?_ (by first | omega | (dsimp only; omega)) _)))
        | some t =>
          have HV2 : Hid (spanP l = if okS (f, t) = true ∧ l = tX (f, t) then some (f, t) else none) := by
            simp only [Hid]; rw [HV1.out, hnb, spanQ_at]
          refine (parseInt_some hnb _ (by omega)).mono ?_
          rintro e3 w3 ⟨rfl, hb3⟩
          have B4R := Lib.hid (blk_keep hb3 B3R.out)
          have B4X := Lib.hid (blk_keep hb3 B3X.out)
          have HB4 := Lib.hid (bel_chain hb3 HB3.out)
          clear hnb HV1 hb3 B3R B3X
          have q1 : w3.cell? ⟨w.heap.size, 0, none⟩ = some (.int .i64 0) := blk_cell B4R.out rfl
          have q2 : w3.cell? ⟨w.heap.size, 1, none⟩ = some (.int .i64 0) := blk_cell B4R.out rfl
          have f1 : w3.frozen? ⟨w.heap.size, 0, none⟩ = false := blk_frozen B4R.out
          have f2 : w3.frozen? ⟨w.heap.size, 1, none⟩ = false := blk_frozen B4R.out
          have q3 : w.heap.size < w3.heap.size := blk_lt B4R.out
          have x1 : w3.cell? ⟨w1.heap.size, 0, none⟩ = some (.int .i64 f) := blk_cell B4X.out rfl
          have x2 : w3.cell? ⟨w1.heap.size, 1, none⟩ = some (.int .i64 4611686018427387904) := blk_cell B4X.out rfl
          have g1 : w3.frozen? ⟨w1.heap.size, 0, none⟩ = false := blk_frozen B4X.out
          have g2 : w3.frozen? ⟨w1.heap.size, 1, none⟩ = false := blk_frozen B4X.out
          have x3 : w1.heap.size < w3.heap.size := blk_lt B4X.out
          go_wp2_with fail
          clear q1 q2 f1 f2 q3 x1 x2 g1 g2 x3
          obtain ⟨V, hV⟩ : ∃ V, w3.setCell ⟨w1.heap.size, 1, none⟩ (.int .i64 t) = V := ⟨_, rfl⟩
          have BVR : Hid (V.heap[w.heap.size]? = some (.cells #[.int .i64 0, .int .i64 0] 80 (0, 0))) := by simp only [Hid]; rw [← hV]; exact blk_set_ne (by dsimp only; omega) B4R.out
          have BVX : Hid (V.heap[w1.heap.size]? = some (.cells #[.int .i64 f, .int .i64 t] 80 (0, 0))) := by simp only [Hid]; rw [← hV]; exact blk_set B4X.out
          have HVb : Hid (Below w.heap.size w V) := by simp only [Hid]; rw [← hV]; exact bel_set HB4.out (by dsimp only; omega) _
          rw [hV]
          clear hV
          have htl := tX_len (f, t)
          refine (spanT_any f t V (tab_below HTAB.out HVb.out)).mono ?_
          rintro e5 w5 ⟨rfl, hb5⟩
          have B5R := Lib.hid (blk_keep hb5 BVR.out)
          have B5X := Lib.hid (blk_keep hb5 BVX.out)
          have HB5 := Lib.hid (bel_chain hb5 HVb.out)
          clear hb5 BVR BVX HVb B4R B4X
          have q1 : w5.cell? ⟨w.heap.size, 0, none⟩ = some (.int .i64 0) := blk_cell B5R.out rfl
          have q2 : w5.cell? ⟨w.heap.size, 1, none⟩ = some (.int .i64 0) := blk_cell B5R.out rfl
          have f1 : w5.frozen? ⟨w.heap.size, 0, none⟩ = false := blk_frozen B5R.out
          have f2 : w5.frozen? ⟨w.heap.size, 1, none⟩ = false := blk_frozen B5R.out
          have q3 : w.heap.size < w5.heap.size := blk_lt B5R.out
          have x1 : w5.cell? ⟨w1.heap.size, 0, none⟩ = some (.int .i64 f) := blk_cell B5X.out rfl
          have x2 : w5.cell? ⟨w1.heap.size, 1, none⟩ = some (.int .i64 t) := blk_cell B5X.out rfl
          have g1 : w5.frozen? ⟨w1.heap.size, 0, none⟩ = false := blk_frozen B5X.out
          have g2 : w5.frozen? ⟨w1.heap.size, 1, none⟩ = false := blk_frozen B5X.out
          have x3 : w1.heap.size < w5.heap.size := blk_lt B5X.out
          by_cases htx : l = tX (f, t)
          · have hok : okS (f, t) = true := by
              cases hk : okS (f, t)
              · exfalso; unfold tX at htx; rw [hk] at htx; exact HNE.out htx
              · rfl
            have HV3 : Hid (spanP l = some (f, t)) := by simp only [Hid]; rw [HV2.out, if_pos ⟨hok, htx⟩]
            have hbn : (tX (f, t) == l) = true := by rw [beq_iff_eq]; exact htx.symm
            clear HV2 hok htx HNE
            go_wp2_with fail
            refine bodyPost_ret (by simp [results, Tryz.results50, go_sem, q1, q2]; try rfl) rfl ?_
            exact span_yes HV3.out (by repeat (first | (with_reducible exact HB5.out) | (with_reducible refine bel_alloc ?_ _) | (with_reducible refine bel_drew ?_) | (with_reducible refine bel_drewN ?_ _) | (with_reducible refine bel_set ?_ (by first | omega | (dsimp only; omega)) _)))
          · have HV3 : Hid (spanP l = none) := by simp only [Hid]; rw [HV2.out, if_neg (fun h => htx h.2)]
            have hbn : (tX (f, t) == l) = false := by rw [beq_eq_false_iff_ne]; exact fun e => htx e.symm
            clear HV2 htx HNE
            go_wp2_with fail
            refine bodyPost_ret (by simp [results, Tryz.results50, go_sem, q1, q2]; try rfl) rfl ?_
            exact span_no HV3.out (by repeat (first | (with_reducible exact HB5.out) | (with_reducible refine bel_alloc ?_ _) | (with_reducible refine bel_drew ?_) | (with_reducible refine bel_drewN ?_ _) | (with_reducible refine bel_set ?_ (by first | omega | (dsimp only; omega)) _)))
end Go.Proofs.YtbphndihjdiiiaaGreatDoor
namespace Go.Proofs.YtbphndihjdiiiaaGreatDoor
open Go.RowKit

theorem tS_of {L : List (Int × Int)} {k : Nat} (h : ∀ x ∈ L, okS x = true) (hk : k < L.length) : tX L[k] = tS L[k] := by unfold tX; rw [if_pos (h _ (List.getElem_mem hk))]
theorem join_len {L : List (Int × Int)} (h : ∀ x ∈ L, okS x = true) (k : Nat) : (joinT tS (L.take k)).length ≤ 101 * L.length := by
  have := joinT_length tS (L.take k) (fun x hx => by have := (tS_len (h x (List.mem_of_mem_take hx))).2; omega)
  rw [List.length_take] at this
  have h2 : 101 * min k L.length ≤ 101 * L.length := Nat.mul_le_mul_left _ (by omega)
  omega
theorem join_at {L : List (Int × Int)} {k : Nat} (hk : k < L.length) : joinT tS (L.take (k + 1)) = if k = 0 then tS L[k] else joinT tS (L.take k) ++ 44 :: tS L[k] := by
  rw [List.take_succ_eq_append_getElem hk, joinT_snoc]
  by_cases h0 : k = 0
  · subst h0; simp
  · rw [if_neg (by rw [List.length_take]; omega), if_neg h0]
set_option maxHeartbeats 4000000 in
set_option maxRecDepth 100000 in
theorem rText02_any (A : Option Addr) (c : Nat) (L : List (Int × Int)) (w : World) (h : Sp w A c L) (hok : ∀ x ∈ L, okS x = true) (hl : L.length ≤ 1000) :
    Calls Tryz.prog 15 #[.slice A L.length c] w fun e w' => e = .returned (.string ⟨(textSet L).toArray⟩) ∧ Below w.heap.size w w' := by
  have HS := Lib.hid h
  have HOK := Lib.hid hok
  clear h
  by_cases h0 : L.length = 0
  · have hT : Hid (textSet L = noneT) := by simp only [Hid]; unfold textSet; rw [if_pos (List.eq_nil_of_length_eq_zero h0)]
    have hz : ((L.length : Int) == 0) = true := by rw [beq_iff_eq]; omega
    clear hok h0
    go_enter Tryz.func15, Tryz.ntmps15
    go_wp2_with fail
    go_ret
    rw [hT.out]
    exact ⟨rfl, Below.refl _ _⟩
  have hT : Hid (textSet L = joinT tS L) := by simp only [Hid]; unfold textSet; rw [if_neg (fun e => h0 (by rw [e]; rfl))]
  have hz : ((L.length : Int) == 0) = false := by rw [beq_eq_false_iff_ne]; omega
  have HX := Lib.hid (fun f t W => text01_any f t W)
  clear hok h0
  go_enter Tryz.func15, Tryz.ntmps15
  go_wp2_with fail
  go_loopw [3, 4] (fun so si wr => ∃ (k : Nat), k ≤ L.length ∧ si = .int .i64 (k : Int) ∧ so = .string ⟨(joinT tS (L.take k)).toArray⟩ ∧ Below w.heap.size w wr) (fun _ si _ => L.length - (intOf si).toNat)
  case atStart => exact ⟨0, Nat.zero_le _, rfl, rfl, Below.refl _ _⟩
  case round =>
    obtain ⟨k, hk, rfl, rfl, hb⟩ := hrel
    have HB := Lib.hid hb
    have hjl := join_len HOK.out k
    clear hb
    by_cases hlt : k < L.length
    · have HJ := Lib.hid (join_at hlt)
      have hte := tS_of HOK.out hlt
      have htl := (tS_len (HOK.out _ (List.getElem_mem hlt))).2
      obtain ⟨b, off, e, hbl, c1, c2⟩ := (HS.out.below HB.out).at_ hlt
      obtain ⟨⟨x1, x2⟩, hx⟩ : ∃ x, L[k] = x := ⟨_, rfl⟩
      rw [hx] at c1 c2 HJ hte htl
      have HX2 := fun W => Lib.hid (HX.out x1 x2 W)
      rw [hte] at HX2
      obtain ⟨tx, htx⟩ : ∃ t, tS (x1, x2) = t := ⟨_, rfl⟩
      obtain ⟨J, hJ⟩ : ∃ t, joinT tS (L.take k) = t := ⟨_, rfl⟩
      rw [htx] at HX2 HJ htl
      rw [hJ] at hjl HJ ⊢
      have HJ0 : Hid (k = 0 → J = []) := fun h => by rw [← hJ, h]; rfl
      clear hx hte htx hJ
      subst e
      by_cases hk0 : k = 0
      · have hJe := HJ0.out hk0
        subst hJe
        subst hk0
        have hc1 := catE (a := []) (b := tx) (by simp; omega)
        rw [List.nil_append] at hc1
        have HJ2 : Hid (joinT tS (L.take (0 + 1)) = tx) := by simp only [Hid]; rw [HJ.out]; simp
        clear HJ HJ0
        simp only [Nat.zero_mul, Nat.add_zero] at c1 c2
        go_wp2_with (go_at_call 55; refine (HX2 _).out.mono ?_; rintro e w3 ⟨rfl, hb3⟩; have HB3 := Lib.hid (bel_chain hb3 HB.out); clear hb3)
        go_roundw
        case rel => exact ⟨0 + 1, by omega, by go_num, by rw [HJ2.out], HB3.out⟩
        case measure => simp [intOf]; omega
      · have hk1 : (0 : Int) < (k : Int) := by omega
        have hc1 := catE (a := J) (b := [44]) (by simp; omega)
        have hc2 := catE (a := J ++ [44]) (b := tx) (by simp; omega)
        have HJ2 : Hid (joinT tS (L.take (k + 1)) = J ++ [44] ++ tx) := by simp only [Hid]; rw [HJ.out, if_neg hk0]; simp
        clear HJ HJ0
        generalize J ++ [44] ++ tx = J2 at hc2 HJ2
        generalize J ++ [44] = J1 at hc1 hc2
        go_wp2_with (go_at_call 55; refine (HX2 _).out.mono ?_; rintro e w3 ⟨rfl, hb3⟩; have HB3 := Lib.hid (bel_chain hb3 HB.out); clear hb3)
        go_roundw
        case rel => exact ⟨k + 1, by omega, by go_num, by rw [HJ2.out], HB3.out⟩
        case measure => simp [intOf]; omega
    · have hF : Hid (joinT tS (L.take k) = joinT tS L) := by simp only [Hid]; rw [List.take_of_length_le (by omega)]
      go_wp2_with fail
      go_ret
      rw [hT.out, hF.out]
      exact ⟨rfl, HB.out⟩
/-- What a set's text comes to. -/
def SetPost (v : Option (List (Int × Int))) (w : World) (e : Ending) (w' : World) : Prop :=
  (match v with
    | some L => ∃ A c, e = .returned (.tuple #[.slice A L.length c, .int .i64 0]) ∧ Sp w' A c L
    | none => e = .returned (.tuple #[.slice none 0 0, .int .i64 2])) ∧ Below w.heap.size w w'
theorem set_no {v : Option (List (Int × Int))} {w w' : World} (h : v = none) (hb : Below w.heap.size w w') : SetPost v w (.returned (.tuple #[.slice none 0 0, .int .i64 2])) w' := by
  subst h; exact ⟨rfl, hb⟩
theorem set_yes {v : Option (List (Int × Int))} {w w' : World} {L : List (Int × Int)} {A : Option Addr} {c : Nat} (h : v = some L) (hs : Sp w' A c L) (hb : Below w.heap.size w w') : SetPost v w (.returned (.tuple #[.slice A L.length c, .int .i64 0])) w' := by
  subst h; exact ⟨⟨A, c, rfl, hs⟩, hb⟩
/-- What is left to be parsed. -/
def restM (ys : List (Int × Int)) (t : List UInt8) : Option (List (Int × Int)) := (mapsP (splitC t)).map (ys ++ ·)
theorem restM_comma {ys : List (Int × Int)} {a b : List UInt8} (h : ∀ c ∈ a, c ≠ 44) : restM ys (a ++ 44 :: b) = match spanR a with
    | none => none
    | some x => restM (ys ++ [x]) b := by
  unfold restM
  rw [splitC_some h, mapsP, spanR_eq]
  cases spanP a with
  | none => rfl
  | some x =>
    simp only
    cases mapsP (splitC b) with
    | none => rfl
    | some M => simp
theorem restM_end {ys : List (Int × Int)} {a : List UInt8} (h : ∀ c ∈ a, c ≠ 44) : restM ys a = match spanR a with
    | none => none
    | some x => some (ys ++ [x]) := by
  unfold restM
  rw [splitC_none h, mapsP, spanR_eq]
  cases spanP a with
  | none => rfl
  | some x => rfl
/-- The walk's place in the text. -/
def SetAt (l : List UInt8) (M : Option (List (Int × Int))) (k f : Nat) (ys : List (Int × Int)) : Prop :=
  (k ≤ l.length ∧ f ≤ k ∧ (∀ c ∈ (l.drop f).take (k - f), c ≠ 44) ∧ M = restM ys (l.drop f)) ∨ (k = l.length + 1 ∧ f = k ∧ M = some ys)
theorem setAt_start (l : List UInt8) : SetAt l (mapsP (splitC l)) 0 0 [] := .inl ⟨Nat.zero_le _, Nat.le_refl _, by simp, by rw [List.drop_zero]; unfold restM; cases mapsP (splitC l) <;> simp⟩
theorem setAt_skip {l : List UInt8} {M : Option (List (Int × Int))} {k f : Nat} {ys : List (Int × Int)} (h : SetAt l M k f ys) (hk : k < l.length) (hd : l[k] ≠ 44) : SetAt l M (k + 1) f ys := by
  rcases h with ⟨h1, h2, h3, h4⟩ | ⟨h1, _⟩
  · exact .inl ⟨by omega, by omega, mid_step h2 hk hd h3, h4⟩
  · omega
/-- A word's end. -/
theorem setAt_word {l : List UInt8} {M : Option (List (Int × Int))} {k f : Nat} {ys : List (Int × Int)} (h : SetAt l M k f ys) (hk : k ≤ l.length) (hd : k = l.length ∨ ∃ h : k < l.length, l[k] = 44) :
    (spanR ((l.drop f).take (k - f)) = none → M = none) ∧ ∀ x, spanR ((l.drop f).take (k - f)) = some x → SetAt l M (k + 1) (k + 1) (ys ++ [x]) := by
  rcases h with ⟨h1, h2, h3, h4⟩ | ⟨h1, _⟩
  · rcases hd with hd | ⟨hk2, hd⟩
    · have e := mid_end (l := l) (f := f)
      rw [← hd] at e
      rw [e] at h3 ⊢
      rw [h4, restM_end h3]
      refine ⟨fun hn => by rw [hn], fun x hx => .inr ⟨by omega, rfl, by rw [hx]⟩⟩
    · have e := mid_comma h2 hk2 hd
      have hM : M = match spanR ((l.drop f).take (k - f)) with
          | none => none
          | some x => restM (ys ++ [x]) (l.drop (k + 1)) := by
        rw [h4]
        conv => lhs; rw [e]
        rw [restM_comma h3]
      rw [hM]
      refine ⟨fun hn => by rw [hn], fun x hx => .inl ⟨by omega, Nat.le_refl _, by simp, by rw [hx]⟩⟩
  · omega
theorem word_ne {l : List UInt8} {f k : Nat} : ((l.drop f).take (k - f)).length ≤ l.length := by
  rw [List.length_take, List.length_drop]; omega
set_option maxHeartbeats 8000000 in
set_option maxRecDepth 100000 in
theorem parse02_any (l : List UInt8) (w : World) (hl : l.length ≤ 65536) :
    Calls Tryz.prog 18 #[.string ⟨l.toArray⟩] w (SetPost (parseSet l) w) := by
  have hsz : (⟨l.toArray⟩ : ByteArray).size = l.length := List.size_toArray ..
  by_cases hn : l = noneT
  · have HV : Hid (parseSet l = some []) := by simp only [Hid]; unfold parseSet; rw [if_pos hn]
    have hb : (l == [110, 111, 110, 101]) = true := by rw [beq_iff_eq]; exact hn
    clear hn
    go_enter Tryz.func18, Tryz.ntmps18
    go_wp2_with fail
    go_ret2
    exact set_yes (L := []) HV.out (Sp.nil _) (Below.refl _ _)
  have HV := Lib.hid (parseSet_maps hn)
  have hb : (l == [110, 111, 110, 101]) = false := by rw [beq_eq_false_iff_ne]; exact hn
  have hbig : ¬ (65536 : Int) < (l.length : Int) := by omega
  have HST := Lib.hid (setAt_start l)
  obtain ⟨M, hM⟩ : ∃ M, mapsP (splitC l) = M := ⟨_, rfl⟩
  rw [hM] at HV HST
  have HPW := Lib.hid (fun (x : List UInt8) W (hx : x.length ≤ 100000) => parse01_any x W hx)
  clear hn hM
  go_enter Tryz.func18, Tryz.ntmps18
  go_wp2_with fail
  go_loopw [4, 5, 6, 7, 8] (fun so sf si _ _ wr => ∃ (k f : Nat) (ys : List (Int × Int)) (A : Option Addr) (c : Nat), k ≤ l.length + 1 ∧ f ≤ k ∧ ys.length ≤ k ∧ si = .int .i64 (k : Int) ∧ sf = .int .i64 (f : Int) ∧ so = .slice A ys.length c ∧ Own wr w.heap.size A c ys ∧ Below w.heap.size w wr ∧ SetAt l M k f ys) (fun _ _ si _ _ _ => l.length + 1 - (intOf si).toNat)
  case atStart => exact ⟨0, 0, [], none, 0, by omega, Nat.le_refl _, Nat.le_refl _, rfl, rfl, rfl, Own.nil _ _, Below.refl _ _, HST.out⟩
  case round =>
    clear HST
    obtain ⟨k, f, ys, A, c, hk, hfk, hyk, rfl, rfl, rfl, hown, hbw, hat⟩ := hrel
    have HO := Lib.hid hown
    have HB := Lib.hid hbw
    have HAT := Lib.hid hat
    clear hown hbw hat
    by_cases hle : k ≤ l.length
    · have hle' : (k : Int) ≤ (l.length : Int) := by omega
      have hfk' : (f : Int) ≤ (k : Int) := by omega
      have hmid := ex_mid l f k
      have hwl := word_ne (l := l) (f := f) (k := k)
      by_cases hend : k = l.length ∨ ∃ h : k < l.length, l[k] = 44
      · obtain ⟨HW1, HW2⟩ := setAt_word HAT.out hle hend
        have HW1 := Lib.hid HW1
        have HW2 := Lib.hid HW2
        obtain ⟨wd, hwd⟩ : ∃ x, (l.drop f).take (k - f) = x := ⟨_, rfl⟩
        rw [hwd] at HW1 HW2 hmid hwl
        have HP := fun W => Lib.hid (HPW.out wd W (by omega))
        clear hwd HAT
        have hcase : ((k : Int) == (l.length : Int)) = true ∨ (((k : Int) == (l.length : Int)) = false ∧ ∃ (h : k < l.length), l[k] = 44) := by
          rcases hend with h | ⟨h, h2⟩
          · left; rw [beq_iff_eq]; omega
          · right; exact ⟨by rw [beq_eq_false_iff_ne]; omega, h, h2⟩
        clear hend
        cases hsp : spanR wd with
        | none =>
          have HF : Hid (parseSet l = none) := by simp only [Hid]; rw [HV.out, HW1.out hsp]
          rw [hsp] at HP
          clear HW1 HW2 hsp HPW
          rcases hcase with hcase | ⟨hcase, hlt, h44⟩
          · go_wp2_with fail
            refine (HP _).out.mono ?_
            rintro e w3 ⟨rfl, hb3⟩
            have HB3 := Lib.hid (bel_chain hb3 HB.out)
            clear hb3
            go_wp2_with fail
            go_ret2
            exact set_no HF.out (bel_alloc HB3.out _)
          · obtain ⟨cc, hcc⟩ : ∃ c, (⟨l.toArray⟩ : ByteArray)[k]'(by rw [hsz]; exact hlt) = c := ⟨_, rfl⟩
            have hcl : l[k] = cc := hcc
            have h45 : (cc.toNat : Int) = 44 := by rw [← hcl, h44]; rfl
            clear hcl h44
            go_wp2_with fail
            refine (HP _).out.mono ?_
            rintro e w3 ⟨rfl, hb3⟩
            have HB3 := Lib.hid (bel_chain hb3 HB.out)
            clear hb3
            go_wp2_with fail
            go_ret2
            exact set_no HF.out (bel_alloc HB3.out _)
        | some x =>
          obtain ⟨x1, x2⟩ := x
          have HN := Lib.hid (HW2.out _ hsp)
          rw [hsp] at HP
          clear HW1 HW2 hsp HPW
          have hyl : ys.length ≤ 70000 := by omega
          rcases hcase with hcase | ⟨hcase, hlt, h44⟩
          · go_wp2_with fail
            refine (HP _).out.mono ?_
            rintro e w3 ⟨rfl, hb3⟩
            have HB3 := Lib.hid (bel_chain hb3 HB.out)
            have HO3 := Lib.hid (HO.out.below hb3)
            clear hb3 HP
            go_wp2_with (at_builtin; go_must (refine wpl_append (w0 := w) rfl (.tmp 40) (.tmp 42) rfl A c ys rfl (by exact (HO3.out.alloc _).alloc _) _ x1 x2 rfl (by simp [go_sem]) (by simp [go_sem]) (by omega) (by exact bel_alloc (bel_alloc HB3.out _) _) ?_; intro A5 c5 w5 hown5 hbw5 _))
            go_roundw
            case rel => exact ⟨k + 1, k + 1, ys ++ [(x1, x2)], A5, c5, by omega, Nat.le_refl _, by simp; omega, by go_num, by go_num, by rw [List.length_append]; rfl, hown5, hbw5, HN.out⟩
            case measure => simp [intOf]; omega
          · obtain ⟨cc, hcc⟩ : ∃ c, (⟨l.toArray⟩ : ByteArray)[k]'(by rw [hsz]; exact hlt) = c := ⟨_, rfl⟩
            have hcl : l[k] = cc := hcc
            have h45 : (cc.toNat : Int) = 44 := by rw [← hcl, h44]; rfl
            clear hcl h44
            go_wp2_with fail
            refine (HP _).out.mono ?_
            rintro e w3 ⟨rfl, hb3⟩
            have HB3 := Lib.hid (bel_chain hb3 HB.out)
            have HO3 := Lib.hid (HO.out.below hb3)
            clear hb3 HP
            go_wp2_with (at_builtin; go_must (refine wpl_append (w0 := w) rfl (.tmp 40) (.tmp 42) rfl A c ys rfl (by exact (HO3.out.alloc _).alloc _) _ x1 x2 rfl (by simp [go_sem]) (by simp [go_sem]) (by omega) (by exact bel_alloc (bel_alloc HB3.out _) _) ?_; intro A5 c5 w5 hown5 hbw5 _))
            go_roundw
            case rel => exact ⟨k + 1, k + 1, ys ++ [(x1, x2)], A5, c5, by omega, Nat.le_refl _, by simp; omega, by go_num, by go_num, by rw [List.length_append]; rfl, hown5, hbw5, HN.out⟩
            case measure => simp [intOf]; omega
      · have hlt : k < l.length := by
          rcases Nat.lt_or_ge k l.length with h | h
          · exact h
          · exact absurd (.inl (by omega)) hend
        have hne : l[k] ≠ 44 := fun h => hend (.inr ⟨hlt, h⟩)
        have HN := Lib.hid (setAt_skip HAT.out hlt hne)
        obtain ⟨cc, hcc⟩ : ∃ c, (⟨l.toArray⟩ : ByteArray)[k]'(by rw [hsz]; exact hlt) = c := ⟨_, rfl⟩
        have hcl : l[k] = cc := hcc
        have h45 : ((cc.toNat : Int) == 44) = false := by
          rw [beq_eq_false_iff_ne]; intro h
          exact hne (by rw [hcl]; exact UInt8.toNat_inj.1 (by show cc.toNat = 44; omega))
        have hke : ((k : Int) == (l.length : Int)) = false := by rw [beq_eq_false_iff_ne]; omega
        clear HAT hend hne hcl hmid hwl
        go_wp2_with fail
        go_roundw
        case rel => exact ⟨k + 1, f, ys, A, c, by omega, by omega, by omega, by go_num, rfl, rfl, HO.out, HB.out, HN.out⟩
        case measure => simp [intOf]; omega
    · have hM : M = some ys := by
        rcases HAT.out with ⟨h, _⟩ | ⟨_, _, h⟩
        · exact absurd h hle
        · exact h
      have HF : Hid (parseSet l = if ys = cano ys then some ys else none) := by simp only [Hid]; rw [HV.out, hM]
      have hle' : ¬ (k : Int) ≤ (l.length : Int) := by omega
      have hyl : ys.length ≤ 70000 := by omega
      have HOf := fun W h => Lib.hid (rOf_any A c ys W h (by omega))
      have HLi := fun A' c' W h h' => Lib.hid (rlist_any A c ys A' c' (cano ys) W h h' (by omega))
      clear hM HAT HPW HV
      obtain ⟨C, hC⟩ : ∃ C, cano ys = C := ⟨_, rfl⟩
      rw [hC] at HOf HLi HF
      clear hC
      go_wp2_with fail
      refine (HOf _ (Own.sp HO.out)).out.mono ?_
      rintro e w3 ⟨A3, c3, rfl, hown3, hb3⟩
      have HS3 := Lib.hid (Own.sp hown3)
      have HY3 := Lib.hid ((Own.sp HO.out).below hb3)
      have HB3 := Lib.hid (bel_chain hb3 HB.out)
      clear hown3 hb3 HOf
      go_wp2_with fail
      refine (HLi _ _ _ HY3.out HS3.out).out.mono ?_
      rintro e w4 ⟨rfl, n4, rfl⟩
      by_cases hyc : ys = C
      · have hd : decide (ys = C) = true := decide_eq_true hyc
        have HF2 : Hid (parseSet l = some ys) := by simp only [Hid]; rw [HF.out, if_pos hyc]
        clear hyc HF
        go_wp2_with fail
        go_ret2
        exact set_yes HF2.out (HY3.out.drewN _) (bel_drewN HB3.out _)
      · have hd : decide (ys = C) = false := decide_eq_false hyc
        have HF2 : Hid (parseSet l = none) := by simp only [Hid]; rw [HF.out, if_neg hyc]
        clear hyc HF
        go_wp2_with fail
        go_ret2
        exact set_no HF2.out (bel_drewN HB3.out _)
end Go.Proofs.YtbphndihjdiiiaaGreatDoor
