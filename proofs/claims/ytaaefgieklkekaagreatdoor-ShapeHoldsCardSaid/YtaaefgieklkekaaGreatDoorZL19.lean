/- Contract of shape.rightOne. Contracts of the document's Spans of an answer, and of one. -/
import Derived.Test.YtaaefgieklkekaaGreatDoorZI27
import Derived.Test.YtaaefgieklkekaaGreatDoorZL13
import Derived.BigQuiet
import Derived.Lib.QuietBelow
namespace Go.Proofs.YtaaefgieklkekaaGreatDoor
open Go.RowKit Go.Sort

/-- May an answer be that tells one range? -/
def oneB (sz : Int) (F : List FieldL) (P : List PartL) : Bool :=
  match P with
  | [p] => p.1.isEmpty && (match rdL ((getF F nCR).getD []) with | some (x, _) => decide (x = p.2) && decide (sz = x.2 - x.1) | none => false)
  | _ => false
set_option maxHeartbeats 8000000 in
set_option maxRecDepth 100000 in
theorem rightOne_any (st sz : Int) (FA : Option Addr) (fk fc : Nat) (F : List FieldL) (PA : Option Addr) (pc pk : Nat) (P : List PartL) (w : World) (hpk : pk = P.length) (hfk : fk = F.length) (h : SpG encPt 3 w PA pc P) (hf : SpG encFd 2 w FA fc F) (hl : P.length ≤ 1000000) (hlf : F.length ≤ 100000) (hx : ∀ f ∈ F, f.1.length ≤ 1000000 ∧ f.2.length ≤ 100000) (hE : EnvR w) :
    Calls Tryz.prog 44 #[.agg #[.int .i64 st, .slice FA fk fc, .slice PA pk pc, .int .i64 sz]] w fun e w' => e = .returned (.bool (oneB sz F P)) ∧ Below w.heap.size w w' := by
  subst hpk
  have HH := Lib.hid h
  have HFF := Lib.hid hf
  have HEE := Lib.hid hE
  have HGT := fun W (hW : SpG encFd 2 W FA fc F) => Lib.hid (fget_any FA fc fk F nCR W hfk hW hlf (by decide) (fun f hf => (hx f hf).1))
  have hvl : ((getF F nCR).getD []).length ≤ 100000 := by
    cases hg : getF F nCR with
    | none => simp
    | some v =>
      have : ∃ f ∈ F, f.2 = v := by
        clear hx HGT HH HFF h hf hfk
        induction F with
        | nil => cases hg
        | cons f r ih =>
          rw [getF] at hg
          split at hg
          · injection hg with hg; exact ⟨f, by simp, hg⟩
          · obtain ⟨g, h1, h2⟩ := ih (by simp only [List.length_cons] at hlf; omega) hg
            exact ⟨g, by simp [h1], h2⟩
      obtain ⟨f, h1, h2⟩ := this
      have := (hx f h1).2
      simp only [Option.getD_some]
      rw [← h2]; exact this
  have HRG := fun W (hW : EnvR W) => Lib.hid (mrange_any ((getF F nCR).getD []) W hvl hW)
  clear h hf hx hE hlf hfk
  by_cases h1 : P.length = 1
  rotate_left
  · have HV : Hid (oneB sz F P = false) := by
      simp only [Hid]
      match P, h1 with
      | [], _ => rfl
      | [p], h1 => exact absurd rfl h1
      | p :: q :: r, _ => rfl
    have hb : ((P.length : Int) != 1) = true := by rw [bne_iff_ne]; omega
    clear h1
    go_enter Tryz.func44, Tryz.ntmps44
    go_wp2_with fail
    go_ret
    exact ⟨by rw [HV.out]; rfl, by (repeat (first | exact Below.refl _ _ | refine bel_drewN ?_ _ | refine bel_drew ?_ | refine bel_alloc ?_ _ | refine bel_set ?_ (by simp) _))⟩
  obtain ⟨⟨t, y1, y2⟩, rfl⟩ := single h1
  obtain ⟨b, off, e, hb, hc⟩ := HH.out.at' 0 (by simp)
  have c0 := hc 0 _ rfl
  have c1 := hc 1 _ rfl
  have c2 := hc 2 _ rfl
  simp only [Nat.add_zero, Nat.zero_mul, List.getElem_cons_zero] at c0 c1 c2
  subst e
  clear hc h1
  cases hte : t.isEmpty with
  | false =>
    have HV : Hid (oneB sz F [(t, y1, y2)] = false) := by simp only [Hid]; unfold oneB; simp only; rw [hte]; rfl
    go_enter Tryz.func44, Tryz.ntmps44
    go_wp2_with fail
    go_ret
    exact ⟨by rw [HV.out]; rfl, by (repeat (first | exact Below.refl _ _ | refine bel_drewN ?_ _ | refine bel_drew ?_ | refine bel_alloc ?_ _ | refine bel_set ?_ (by simp) _))⟩
  | true =>
  have HV : Hid (oneB sz F [(t, y1, y2)] = (match rdL ((getF F nCR).getD []) with | some (x, _) => decide (x = (y1, y2)) && decide (sz = x.2 - x.1) | none => false)) := by simp only [Hid]; unfold oneB; simp only; rw [hte]; rfl
  have HRD := Lib.hid (rd_read ((getF F nCR).getD []))
  obtain ⟨vv, hvv⟩ : ∃ v, (getF F nCR).getD [] = v := ⟨_, rfl⟩
  obtain ⟨bb, hbb⟩ : ∃ v, (getF F nCR).isSome = v := ⟨_, rfl⟩
  unfold GetPost optT at HGT
  simp only [hvv, hbb] at HGT HRG HV HRD
  clear hvv hbb hvl
  have HRG2 : ∀ W, EnvR W → Hid (Calls Tryz.prog 75 #[.string ⟨vv.toArray⟩] W fun e w' => e = .returned (rangeV (rdL vv)) ∧ Below W.heap.size W w') := fun W hW => by
    refine Lib.hid ((HRG W hW).out.mono ?_)
    rintro e w' ⟨o, ho, rfl, hb⟩
    rw [ho.uniq HRD.out]
    exact ⟨rfl, hb⟩
  clear HRG HRD
  go_enter Tryz.func44, Tryz.ntmps44
  go_upto_region 4 with (go_at_call 74; refine (HGT _ (HFF.out.below (bel_alloc (Below.refl _ _) _))).out.mono ?_; rintro e w1 ⟨rfl, hb1⟩)
  --M1
  have HX1 : Hid (w1.heap[w.heap.size]? = some (.cells #[.int .i64 st, .slice FA fk fc, .slice (some ⟨b, off, none⟩) 1 pc, .int .i64 sz] 43 (0, 0))) := blk_keep hb1 (blk_new rfl)
  have HB1 := Lib.hid (bel_chain hb1 (bel_alloc (Below.refl _ _) _))
  have d0 := cell_keep hb1 (cell_keep (bel_alloc (Below.refl _ _) _) c0)
  have d1 := cell_keep hb1 (cell_keep (bel_alloc (Below.refl _ _) _) c1)
  have d2 := cell_keep hb1 (cell_keep (bel_alloc (Below.refl _ _) _) c2)
  clear hb1 c0 c1 c2
  cases hrd : rdL vv with
  | none =>
    rw [hrd] at HV HRG2
    unfold rangeV at HRG2
    simp only at HRG2 HV
    go_upto_region 5 with (first
      | (go_at_call 75; refine (HRG2 _ (HEE.out.below HB1.out)).out.mono ?_; rintro e w2 ⟨rfl, hb2⟩))
    have HB2 := Lib.hid (bel_chain hb2 HB1.out)
    go_quiet (fail)
    go_wp2_with fail
    go_ret
    have hB2 := HB2.out
    exact ⟨by rw [HV.out]; rfl, by (repeat (first | exact Below.refl _ _ | assumption | refine bel_drewN ?_ _ | refine bel_drew ?_ | refine bel_alloc ?_ _ | refine bel_set ?_ (by simp) _ | refine bel_set ?_ (by omega) _))⟩
  | some p =>
    obtain ⟨⟨x1, x2⟩, tt⟩ := p
    rw [hrd] at HV HRG2
    unfold rangeV at HRG2
    simp only at HRG2 HV
    have d0' := d0
    by_cases hx : (x1, x2) = (y1, y2)
    · rw [decide_eq_true hx, Bool.true_and] at HV
      have hri := range_in (rd_some hrd)
      have hok : okS (x1, x2) = true := (okS_iff (x1, x2)).2 (by simp only at hri ⊢; omega)
      have hno : x2 ≠ 4611686018427387904 := by simp only at hri; omega
      have HLN := fun W => Lib.hid (spanLen_yes x1 x2 W hok hno)
      injection hx with hx1 hx2
      subst hx1 hx2
      clear hri hok hno hrd
      obtain ⟨qq, hqq⟩ : ∃ q, (sz == x2 - x1) = q := ⟨_, rfl⟩
      have HV2 : Hid (oneB sz F [(t, x1, x2)] = qq) := by
        simp only [Hid]; rw [HV.out, ← hqq]; rfl
      clear HV
      go_upto_region 5 with (first
        | (go_at_call 75; refine (HRG2 _ (HEE.out.below HB1.out)).out.mono ?_; rintro e w2 ⟨rfl, hb2⟩))
      have hB2 := bel_chain hb2 HB1.out
      have f0 := cell_keep hb2 d0
      have f1 := cell_keep hb2 d1
      have f2 := cell_keep hb2 d2
      have HX2 := Lib.hid (blk_keep hb2 HX1.out)
      have g2 := blk_cell (i := 2) HX2.out rfl
      obtain ⟨W3, hW3⟩ : ∃ W, w2.alloc (.cells #[.int .i64 x1, .int .i64 x2] 55) = W := ⟨_, rfl⟩
      have j0 : W3.cell? ⟨w2.heap.size, 0, none⟩ = some (.int .i64 x1) := by rw [← hW3]; exact cell_new0 _ _ _ _
      have j1 : W3.cell? ⟨w2.heap.size, 1, none⟩ = some (.int .i64 x2) := by rw [← hW3]; exact cell_new1 _ _ _ _
      have hb3 : Below w2.heap.size w2 W3 := by rw [← hW3]; exact bel_alloc (Below.refl _ _) _
      have f0 := cell_keep hb3 f0
      have f1 := cell_keep hb3 f1
      have f2 := cell_keep hb3 f2
      have HX2 := Lib.hid (blk_keep hb3 HX2.out)
      have g2 := blk_cell (i := 2) HX2.out rfl
      have g3 := blk_cell (i := 3) HX2.out rfl
      have hB2 := bel_chain hb3 hB2
      rw [hW3]
      clear hW3 hb3
      have k1 := cell_regrown f1
      have k2 := cell_regrown f2
      have k3 := cell_regrown g2
      have k4 := cell_regrown g3
      have k5 := cell_regrown j0
      have k6 := cell_regrown j1
      have cS : ∀ d os, Calls Tryz.prog 76 #[.agg #[.int .i64 x1, .int .i64 x2]] (grow (redrawn W3 d) os) fun e w'' => e = .returned (.int .i64 (x2 - x1)) ∧ ∃ p : Regrown, w'' = grow (redrawn W3 p.d) p.os := fun d os => Calls.regrown_of (HLN _).out
      cases qq with
      | true =>
        refine wp_region_quiet_below (by kernel_rfl) (by kernel_rfl) ?_
        repeat (quiet_step (first | exact cS _ _))
        refine wpQuiet_nil ?_
        intro _ hw'
        obtain ⟨⟨dq, osq⟩, hw''⟩ := hw'
        subst hw''
        go_wp2_with fail
        go_ret
        exact ⟨by rw [HV2.out]; rfl, bel_chain (below_regrown W3 dq osq) hB2⟩
      | false =>
        refine wp_region_quiet_below (by kernel_rfl) (by kernel_rfl) ?_
        repeat (quiet_step (first | exact cS _ _))
        refine wpQuiet_nil ?_
        intro _ hw'
        obtain ⟨⟨dq, osq⟩, hw''⟩ := hw'
        subst hw''
        go_wp2_with fail
        go_ret
        exact ⟨by rw [HV2.out]; rfl, bel_chain (below_regrown W3 dq osq) hB2⟩
    · rw [decide_eq_false hx] at HV
      have hxx : ((x1 == y1) = false) ∨ ((x1 == y1) = true ∧ (x2 == y2) = false) := by
        by_cases e1 : x1 = y1
        · right
          refine ⟨by rw [beq_iff_eq]; exact e1, ?_⟩
          rw [beq_eq_false_iff_ne]; intro e2; exact hx (by rw [e1, e2])
        · left; rw [beq_eq_false_iff_ne]; exact e1
      clear hx
      go_upto_region 5 with (first
        | (go_at_call 75; refine (HRG2 _ (HEE.out.below HB1.out)).out.mono ?_; rintro e w2 ⟨rfl, hb2⟩))
      have hB2 := bel_chain hb2 HB1.out
      have f0 := cell_keep hb2 d0
      have f1 := cell_keep hb2 d1
      have f2 := cell_keep hb2 d2
      have HX2 := Lib.hid (blk_keep hb2 HX1.out)
      obtain ⟨W3, hW3⟩ : ∃ W, w2.alloc (.cells #[.int .i64 x1, .int .i64 x2] 55) = W := ⟨_, rfl⟩
      have j0 : W3.cell? ⟨w2.heap.size, 0, none⟩ = some (.int .i64 x1) := by rw [← hW3]; exact cell_new0 _ _ _ _
      have j1 : W3.cell? ⟨w2.heap.size, 1, none⟩ = some (.int .i64 x2) := by rw [← hW3]; exact cell_new1 _ _ _ _
      have hb3 : Below w2.heap.size w2 W3 := by rw [← hW3]; exact bel_alloc (Below.refl _ _) _
      have f0 := cell_keep hb3 f0
      have f1 := cell_keep hb3 f1
      have f2 := cell_keep hb3 f2
      have HX2 := Lib.hid (blk_keep hb3 HX2.out)
      have g2 := blk_cell (i := 2) HX2.out rfl
      have g3 := blk_cell (i := 3) HX2.out rfl
      have hB2 := bel_chain hb3 hB2
      rw [hW3]
      clear hW3 hb3
      rcases hxx with e1 | ⟨e1, e2⟩
      · go_quiet (fail)
        go_wp2_with fail
        go_ret
        exact ⟨by rw [HV.out]; rfl, by (repeat (first | exact Below.refl _ _ | assumption | refine bel_drewN ?_ _ | refine bel_drew ?_ | refine bel_alloc ?_ _ | refine bel_set ?_ (by simp) _ | refine bel_set ?_ (by omega) _))⟩
      · go_quiet (fail)
        go_wp2_with fail
        go_ret
        exact ⟨by rw [HV.out]; rfl, by (repeat (first | exact Below.refl _ _ | assumption | refine bel_drewN ?_ _ | refine bel_drew ?_ | refine bel_alloc ?_ _ | refine bel_set ?_ (by simp) _ | refine bel_set ?_ (by omega) _))⟩
end Go.Proofs.YtaaefgieklkekaaGreatDoor
namespace Go.Proofs.YtaaefgieklkekaaGreatDoor
open Go.RowKit Go.Sort

set_option maxHeartbeats 4000000 in
set_option maxRecDepth 100000 in
theorem rspans15_any (st sz : Int) (FA : Option Addr) (fk fc : Nat) (PA : Option Addr) (pc pk : Nat) (P : List PartL) (w : World) (hpk : pk = P.length) (h : SpG encPt 3 w PA pc P) (hl : P.length ≤ 1000) :
    Calls Tryz.prog 24 #[.agg #[.int .i64 st, .slice FA fk fc, .slice PA pk pc, .int .i64 sz]] w (RetSp (spansL P) w) := by
  subst hpk
  have HH := Lib.hid h
  clear h
  go_enter Tryz.func24, Tryz.ntmps24
  go_wp2_with fail
  go_loopw [3, 5, 9] (fun v _ i wr => ∃ (k : Nat) (A' : Option Addr) (c' m : Nat), k ≤ P.length ∧ i = .int .i64 (k : Int) ∧ m = (spansL (P.take k)).length ∧ v = .slice A' m c' ∧ Own wr w.heap.size A' c' (spansL (P.take k)) ∧ Below w.heap.size w wr) (fun _ _ i _ => P.length - (intOf i).toNat)
  case atStart => exact ⟨0, none, 0, 0, Nat.zero_le _, rfl, rfl, rfl, Own.nil _ _, bel_alloc (Below.refl _ _) _⟩
  case round =>
    obtain ⟨k, A', c', m, hk, rfl, hm, rfl, hown, hbw⟩ := hrel
    have HO := Lib.hid hown
    have HB := Lib.hid hbw
    have HM := Lib.hid hm
    have hml : m ≤ 1000 := by have := spansL_len (P.take k); rw [hm]; rw [List.length_take] at this; omega
    clear hown hbw hm
    by_cases hlt : k < P.length
    · obtain ⟨b, off, e, hb, hc⟩ := (HH.out.below HB.out).at' k hlt
      have c0 := hc 0 _ rfl
      have c1 := hc 1 _ rfl
      have c2 := hc 2 _ rfl
      simp only [Nat.add_zero] at c0
      have HST := Lib.hid (spansL_step hlt)
      obtain ⟨⟨t, x1, x2⟩, hx⟩ : ∃ p, P[k] = p := ⟨_, rfl⟩
      rw [hx] at c0 c1 c2 HST
      simp only at c0 c1 c2 HST
      clear hx hc
      rw [e]
      cases hte : t.isEmpty with
      | false =>
        have HS : Hid (spansL (P.take (k + 1)) = spansL (P.take k)) := by simp only [Hid]; rw [HST.out, hte]; simp
        go_wp2_with fail
        go_roundw
        case rel => exact ⟨k + 1, A', c', m, by omega, by go_num, by rw [HS.out]; exact HM.out, rfl, by rw [HS.out]; exact HO.out.alloc _, bel_alloc HB.out _⟩
        case measure => simp [intOf]; omega
      | true =>
        have HS : Hid (spansL (P.take (k + 1)) = spansL (P.take k) ++ [(x1, x2)]) := by simp only [Hid]; rw [HST.out, hte]; simp
        have HM' := HM.out
        obtain ⟨G, hG⟩ : ∃ G, spansL (P.take k) = G := ⟨_, rfl⟩
        rw [hG] at HO HS HM'
        subst HM'
        clear hG HM HST
        go_wp2_with (at_builtin; refine wpl_append (w0 := w) rfl (.tmp 16) (.tmp 19) rfl A' c' G rfl (by exact (HO.out.alloc _).alloc _) _ x1 x2 rfl (by first | exact cell_new0 _ _ _ _ | simp [go_sem]) (by first | exact cell_new1 _ _ _ _ | simp [go_sem]) (by omega) (by exact bel_alloc (bel_alloc HB.out _) _) ?_; intro A2 c2' w2 hown2 hbw2 _)
        go_roundw
        case rel => exact ⟨k + 1, A2, c2', G.length + 1, by omega, by go_num, by rw [HS.out]; simp, rfl, by rw [HS.out]; exact hown2, hbw2⟩
        case measure => simp [intOf]; omega
    · have hke : k = P.length := by omega
      rw [hke, List.take_length] at HM HO
      have HM' := HM.out
      generalize spansL P = G at *
      subst HM'
      clear HM hke
      go_wp2_with fail
      go_ret
      exact ⟨A', c', rfl, HO.out, HB.out⟩
set_option maxHeartbeats 8000000 in
set_option maxRecDepth 100000 in
theorem rone_any (st sz : Int) (FA : Option Addr) (fk fc : Nat) (F : List FieldL) (PA : Option Addr) (pc pk : Nat) (P : List PartL) (w : World) (hpk : pk = P.length) (hfk : fk = F.length) (h : SpG encPt 3 w PA pc P) (hf : SpG encFd 2 w FA fc F) (hl : P.length ≤ 1000000) (hlf : F.length ≤ 100000) (hx : ∀ f ∈ F, f.1.length ≤ 1000000 ∧ f.2.length ≤ 100000) :
    Calls Tryz.prog 50 #[.agg #[.int .i64 st, .slice FA fk fc, .slice PA pk pc, .int .i64 sz]] w fun e w' => e = .returned (.bool (oneB sz F P)) ∧ Below w.heap.size w w' := by
  subst hpk
  have HH := Lib.hid h
  have HFF := Lib.hid hf
  have HGT := fun W (hW : SpG encFd 2 W FA fc F) => Lib.hid (rget_any FA fc fk F nCR W hfk hW hlf (by decide) (fun f hf => (hx f hf).1))
  have hvl : ((getF F nCR).getD []).length ≤ 100000 := by
    cases hg : getF F nCR with
    | none => simp
    | some v =>
      have : ∃ f ∈ F, f.2 = v := by
        clear hx HGT HH HFF h hf hfk
        induction F with
        | nil => cases hg
        | cons f r ih =>
          rw [getF] at hg
          split at hg
          · injection hg with hg; exact ⟨f, by simp, hg⟩
          · obtain ⟨g, h1, h2⟩ := ih (by simp only [List.length_cons] at hlf; omega) hg
            exact ⟨g, by simp [h1], h2⟩
      obtain ⟨f, h1, h2⟩ := this
      have := (hx f h1).2
      simp only [Option.getD_some]
      rw [← h2]; exact this
  have HRG := fun W => Lib.hid (r11range_any ((getF F nCR).getD []) W hvl)
  clear h hf hx hlf hfk
  by_cases h1 : P.length = 1
  rotate_left
  · have HV : Hid (oneB sz F P = false) := by
      simp only [Hid]
      match P, h1 with
      | [], _ => rfl
      | [p], h1 => exact absurd rfl h1
      | p :: q :: r, _ => rfl
    have hb : ((P.length : Int) != 1) = true := by rw [bne_iff_ne]; omega
    clear h1
    go_enter Tryz.func50, Tryz.ntmps50
    go_wp2_with fail
    go_ret
    exact ⟨by rw [HV.out]; rfl, by (repeat (first | exact Below.refl _ _ | refine bel_drewN ?_ _ | refine bel_drew ?_ | refine bel_alloc ?_ _ | refine bel_set ?_ (by simp) _))⟩
  obtain ⟨⟨t, y1, y2⟩, rfl⟩ := single h1
  obtain ⟨b, off, e, hb, hc⟩ := HH.out.at' 0 (by simp)
  have c0 := hc 0 _ rfl
  have c1 := hc 1 _ rfl
  have c2 := hc 2 _ rfl
  simp only [Nat.add_zero, Nat.zero_mul, List.getElem_cons_zero] at c0 c1 c2
  subst e
  clear hc h1
  cases hte : t.isEmpty with
  | false =>
    have HV : Hid (oneB sz F [(t, y1, y2)] = false) := by simp only [Hid]; unfold oneB; simp only; rw [hte]; rfl
    go_enter Tryz.func50, Tryz.ntmps50
    go_wp2_with fail
    go_ret
    exact ⟨by rw [HV.out]; rfl, by (repeat (first | exact Below.refl _ _ | refine bel_drewN ?_ _ | refine bel_drew ?_ | refine bel_alloc ?_ _ | refine bel_set ?_ (by simp) _))⟩
  | true =>
  have HV : Hid (oneB sz F [(t, y1, y2)] = (match rdL ((getF F nCR).getD []) with | some (x, _) => decide (x = (y1, y2)) && decide (sz = x.2 - x.1) | none => false)) := by simp only [Hid]; unfold oneB; simp only; rw [hte]; rfl
  have HRD := Lib.hid (rd_read ((getF F nCR).getD []))
  obtain ⟨vv, hvv⟩ : ∃ v, (getF F nCR).getD [] = v := ⟨_, rfl⟩
  obtain ⟨bb, hbb⟩ : ∃ v, (getF F nCR).isSome = v := ⟨_, rfl⟩
  unfold GetPost optT at HGT
  simp only [hvv, hbb] at HGT HRG HV HRD
  have HNB : Hid (bb = false → rdL vv = none) := fun hb => by
    subst hb
    rw [← hvv]
    cases hg : getF F nCR with
    | none => rfl
    | some x => rw [hg] at hbb; cases hbb
  clear hvv hbb hvl
  have HRG2 : ∀ W, Hid (Calls Tryz.prog 87 #[.string ⟨vv.toArray⟩] W fun e w' => e = .returned (rangeV (rdL vv)) ∧ Below W.heap.size W w') := fun W => by
    refine Lib.hid ((HRG W).out.mono ?_)
    rintro e w' ⟨o, ho, rfl, hb⟩
    rw [ho.uniq HRD.out]
    exact ⟨rfl, hb⟩
  clear HRG HRD
  go_enter Tryz.func50, Tryz.ntmps50
  go_upto_region 4 with (go_at_call 86; refine (HGT _ (HFF.out.below (bel_alloc (Below.refl _ _) _))).out.mono ?_; rintro e w1 ⟨rfl, hb1⟩)
  --M1
  have HX1 : Hid (w1.heap[w.heap.size]? = some (.cells #[.int .i64 st, .slice FA fk fc, .slice (some ⟨b, off, none⟩) 1 pc, .int .i64 sz] 43 (0, 0))) := blk_keep hb1 (blk_new rfl)
  have HB1 := Lib.hid (bel_chain hb1 (bel_alloc (Below.refl _ _) _))
  have d0 := cell_keep hb1 (cell_keep (bel_alloc (Below.refl _ _) _) c0)
  have d1 := cell_keep hb1 (cell_keep (bel_alloc (Below.refl _ _) _) c1)
  have d2 := cell_keep hb1 (cell_keep (bel_alloc (Below.refl _ _) _) c2)
  clear hb1 c0 c1 c2
  cases bb with
  | false =>
    have hrd := HNB.out rfl
    rw [hrd] at HV HRG2
    unfold rangeV at HRG2
    simp only at HRG2 HV
    clear hrd
    go_upto_region 5 with (first
      | (go_at_call 87; refine (HRG2 _).out.mono ?_; rintro e w2 ⟨rfl, hb2⟩))
    have HB2 := Lib.hid (bel_chain hb2 HB1.out)
    go_quiet (fail)
    go_wp2_with fail
    go_ret
    have hB2 := HB2.out
    exact ⟨by rw [HV.out]; rfl, by (repeat (first | exact Below.refl _ _ | assumption | refine bel_drewN ?_ _ | refine bel_drew ?_ | refine bel_alloc ?_ _ | refine bel_set ?_ (by simp) _ | refine bel_set ?_ (by omega) _))⟩
  | true =>
  cases hrd : rdL vv with
  | none =>
    rw [hrd] at HV HRG2
    unfold rangeV at HRG2
    simp only at HRG2 HV
    go_upto_region 5 with (first
      | (go_at_call 87; refine (HRG2 _).out.mono ?_; rintro e w2 ⟨rfl, hb2⟩))
    have HB2 := Lib.hid (bel_chain hb2 HB1.out)
    go_quiet (fail)
    go_wp2_with fail
    go_ret
    have hB2 := HB2.out
    exact ⟨by rw [HV.out]; rfl, by (repeat (first | exact Below.refl _ _ | assumption | refine bel_drewN ?_ _ | refine bel_drew ?_ | refine bel_alloc ?_ _ | refine bel_set ?_ (by simp) _ | refine bel_set ?_ (by omega) _))⟩
  | some p =>
    obtain ⟨⟨x1, x2⟩, tt⟩ := p
    rw [hrd] at HV HRG2
    unfold rangeV at HRG2
    simp only at HRG2 HV
    have d0' := d0
    by_cases hx : (x1, x2) = (y1, y2)
    · rw [decide_eq_true hx, Bool.true_and] at HV
      have hri := range_in (rd_some hrd)
      have hok : okS (x1, x2) = true := (okS_iff (x1, x2)).2 (by simp only at hri ⊢; omega)
      have hno : x2 ≠ 4611686018427387904 := by simp only at hri; omega
      have HLN := fun W => Lib.hid (spanLen_yes x1 x2 W hok hno)
      injection hx with hx1 hx2
      subst hx1 hx2
      have hsw : IntKind.i64.wrap (x2 - x1) = x2 - x1 := IntWalk.i64_in _ (by simp only at hri; omega)
      clear hri hok hno hrd HLN
      obtain ⟨qq, hqq⟩ : ∃ q, (sz == x2 - x1) = q := ⟨_, rfl⟩
      have HV2 : Hid (oneB sz F [(t, x1, x2)] = qq) := by
        simp only [Hid]; rw [HV.out, ← hqq]; rfl
      clear HV
      go_upto_region 5 with (first
        | (go_at_call 87; refine (HRG2 _).out.mono ?_; rintro e w2 ⟨rfl, hb2⟩))
      have hB2 := bel_chain hb2 HB1.out
      have f0 := cell_keep hb2 d0
      have f1 := cell_keep hb2 d1
      have f2 := cell_keep hb2 d2
      have HX2 := Lib.hid (blk_keep hb2 HX1.out)
      have g2 := blk_cell (i := 2) HX2.out rfl
      obtain ⟨W3, hW3⟩ : ∃ W, w2.alloc (.cells #[.int .i64 x1, .int .i64 x2] 55) = W := ⟨_, rfl⟩
      have j0 : W3.cell? ⟨w2.heap.size, 0, none⟩ = some (.int .i64 x1) := by rw [← hW3]; exact cell_new0 _ _ _ _
      have j1 : W3.cell? ⟨w2.heap.size, 1, none⟩ = some (.int .i64 x2) := by rw [← hW3]; exact cell_new1 _ _ _ _
      have hb3 : Below w2.heap.size w2 W3 := by rw [← hW3]; exact bel_alloc (Below.refl _ _) _
      have f0 := cell_keep hb3 f0
      have f1 := cell_keep hb3 f1
      have f2 := cell_keep hb3 f2
      have HX2 := Lib.hid (blk_keep hb3 HX2.out)
      have g2 := blk_cell (i := 2) HX2.out rfl
      have g3 := blk_cell (i := 3) HX2.out rfl
      have hB2 := bel_chain hb3 hB2
      rw [hW3]
      clear hW3 hb3
      cases qq with
      | true =>
        go_quiet (fail)
        go_wp2_with fail
        go_ret
        exact ⟨by rw [HV2.out]; rfl, bel_drewN hB2 _⟩
      | false =>
        go_quiet (fail)
        go_wp2_with fail
        go_ret
        exact ⟨by rw [HV2.out]; rfl, bel_drewN hB2 _⟩
    · rw [decide_eq_false hx] at HV
      have hxx : ((x1 == y1) = false) ∨ ((x1 == y1) = true ∧ (x2 == y2) = false) := by
        by_cases e1 : x1 = y1
        · right
          refine ⟨by rw [beq_iff_eq]; exact e1, ?_⟩
          rw [beq_eq_false_iff_ne]; intro e2; exact hx (by rw [e1, e2])
        · left; rw [beq_eq_false_iff_ne]; exact e1
      clear hx
      go_upto_region 5 with (first
        | (go_at_call 87; refine (HRG2 _).out.mono ?_; rintro e w2 ⟨rfl, hb2⟩))
      have hB2 := bel_chain hb2 HB1.out
      have f0 := cell_keep hb2 d0
      have f1 := cell_keep hb2 d1
      have f2 := cell_keep hb2 d2
      have HX2 := Lib.hid (blk_keep hb2 HX1.out)
      obtain ⟨W3, hW3⟩ : ∃ W, w2.alloc (.cells #[.int .i64 x1, .int .i64 x2] 55) = W := ⟨_, rfl⟩
      have j0 : W3.cell? ⟨w2.heap.size, 0, none⟩ = some (.int .i64 x1) := by rw [← hW3]; exact cell_new0 _ _ _ _
      have j1 : W3.cell? ⟨w2.heap.size, 1, none⟩ = some (.int .i64 x2) := by rw [← hW3]; exact cell_new1 _ _ _ _
      have hb3 : Below w2.heap.size w2 W3 := by rw [← hW3]; exact bel_alloc (Below.refl _ _) _
      have f0 := cell_keep hb3 f0
      have f1 := cell_keep hb3 f1
      have f2 := cell_keep hb3 f2
      have HX2 := Lib.hid (blk_keep hb3 HX2.out)
      have g2 := blk_cell (i := 2) HX2.out rfl
      have g3 := blk_cell (i := 3) HX2.out rfl
      have hB2 := bel_chain hb3 hB2
      rw [hW3]
      clear hW3 hb3
      rcases hxx with e1 | ⟨e1, e2⟩
      · go_quiet (fail)
        go_wp2_with fail
        go_ret
        exact ⟨by rw [HV.out]; rfl, by (repeat (first | exact Below.refl _ _ | assumption | refine bel_drewN ?_ _ | refine bel_drew ?_ | refine bel_alloc ?_ _ | refine bel_set ?_ (by simp) _ | refine bel_set ?_ (by omega) _))⟩
      · go_quiet (fail)
        go_wp2_with fail
        go_ret
        exact ⟨by rw [HV.out]; rfl, by (repeat (first | exact Below.refl _ _ | assumption | refine bel_drewN ?_ _ | refine bel_drew ?_ | refine bel_alloc ?_ _ | refine bel_set ?_ (by simp) _ | refine bel_set ?_ (by omega) _))⟩
end Go.Proofs.YtaaefgieklkekaaGreatDoor
