/- Contracts of span.Meet and of a set's And. -/
import Derived.Test.YtfpfdgljhcpkpaaDoorD1
namespace Go.Proofs.YtfpfdgljhcpkpaaDoor
open Go.RowKit

theorem ok_of_good {x : Int × Int} (h : goodS x = true) : okS x = true := by
  have := (goodS_iff x).1 h
  rw [okS_iff]; omega

theorem kept_new' {W V w' : World} {x y : Value} {t : TypeId} (hh : V.heap = W.heap.push (.cells #[x, y] t)) (hb : Below V.heap.size V w') :
    w'.cell? ⟨W.heap.size, 0, none⟩ = some x ∧ w'.cell? ⟨W.heap.size, 1, none⟩ = some y ∧ w'.frozen? ⟨W.heap.size, 0, none⟩ = false ∧ w'.frozen? ⟨W.heap.size, 1, none⟩ = false := by
  have hlt : W.heap.size < V.heap.size := by rw [hh]; simp
  refine ⟨(hb.cell (p := ⟨W.heap.size, 0, none⟩) hlt).trans ?_, (hb.cell (p := ⟨W.heap.size, 1, none⟩) hlt).trans ?_, (hb.frozen (p := ⟨W.heap.size, 0, none⟩) hlt).trans ?_, (hb.frozen (p := ⟨W.heap.size, 1, none⟩) hlt).trans ?_⟩
  · unfold World.cell?; rw [hh]; simp
  · unfold World.cell?; rw [hh]; simp
  · unfold World.frozen?; rw [hh]; simp
  · unfold World.frozen?; rw [hh]; simp
/-- What Meet answers. -/
def meetV (f t f' t' : Int) : Int × Int := if max f f' < min t t' then (max f f', min t t') else (0, 0)
theorem meetV_yes {f t f' t' : Int} (h : max f f' < min t t') : meetV f t f' t' = (max f f', min t t') := if_pos h
theorem meetV_no {f t f' t' : Int} (h : ¬ max f f' < min t t') : meetV f t f' t' = (0, 0) := if_neg h

set_option maxHeartbeats 1000000 in
theorem meet_any (f t f' t' : Int) (w : World) (g : goodS (f, t) = true) (g' : goodS (f', t') = true) :
    Calls Tryd.prog 53 #[.agg #[.int .i64 f, .int .i64 t], .agg #[.int .i64 f', .int .i64 t']] w fun e w' => e = .returned (.tuple #[.agg #[.int .i64 (meetV f t f' t').1, .int .i64 (meetV f t f' t').2], .bool (decide (max f f' < min t t'))]) ∧ Below w.heap.size w w' := by
  have hR := fun W => Lib.hid (right_any f t W)
  have hR' := fun W => Lib.hid (right_any f' t' W)
  rw [ok_of_good g] at hR
  rw [ok_of_good g'] at hR'
  have g1 := (goodS_iff _).1 g
  have g2 := (goodS_iff _).1 g'
  simp only at g1 g2
  clear g g'
  by_cases hm : max f f' < min t t'
  · rw [meetV_yes hm]
    have hmd : decide (max f f' < min t t') = true := by simpa using hm
    rw [hmd]
    clear hmd
    by_cases h1 : f < f' <;> by_cases h2 : t' < t
    · have h3 : f' < t' := by omega
      clear hm
      go_enter Tryd.func53, Tryd.ntmps53
      go_wp2_with fail
      refine (hR _).out.mono ?_
      rintro e w1 ⟨rfl, rfl⟩
      go_wp2_with fail
      refine (hR' _).out.mono ?_
      rintro e w1 ⟨rfl, rfl⟩
      go_wp2_with fail
      refine bodyPost_ret (by simp [results, Tryd.results53, go_sem]; try rfl) rfl ?_
      exact ⟨ret_span (by omega) (by omega), by (repeat (first | exact Below.refl _ _ | refine bel_drewN ?_ _ | refine bel_drew ?_ | refine bel_alloc ?_ _ | refine bel_set ?_ (by simp) _))⟩
    · have h3 : f' < t := by omega
      clear hm
      go_enter Tryd.func53, Tryd.ntmps53
      go_wp2_with fail
      refine (hR _).out.mono ?_
      rintro e w1 ⟨rfl, rfl⟩
      go_wp2_with fail
      refine (hR' _).out.mono ?_
      rintro e w1 ⟨rfl, rfl⟩
      go_wp2_with fail
      refine bodyPost_ret (by simp [results, Tryd.results53, go_sem]; try rfl) rfl ?_
      exact ⟨ret_span (by omega) (by omega), by (repeat (first | exact Below.refl _ _ | refine bel_drewN ?_ _ | refine bel_drew ?_ | refine bel_alloc ?_ _ | refine bel_set ?_ (by simp) _))⟩
    · have h3 : f < t' := by omega
      clear hm
      go_enter Tryd.func53, Tryd.ntmps53
      go_wp2_with fail
      refine (hR _).out.mono ?_
      rintro e w1 ⟨rfl, rfl⟩
      go_wp2_with fail
      refine (hR' _).out.mono ?_
      rintro e w1 ⟨rfl, rfl⟩
      go_wp2_with fail
      refine bodyPost_ret (by simp [results, Tryd.results53, go_sem]; try rfl) rfl ?_
      exact ⟨ret_span (by omega) (by omega), by (repeat (first | exact Below.refl _ _ | refine bel_drewN ?_ _ | refine bel_drew ?_ | refine bel_alloc ?_ _ | refine bel_set ?_ (by simp) _))⟩
    · have h3 : f < t := by omega
      clear hm
      go_enter Tryd.func53, Tryd.ntmps53
      go_wp2_with fail
      refine (hR _).out.mono ?_
      rintro e w1 ⟨rfl, rfl⟩
      go_wp2_with fail
      refine (hR' _).out.mono ?_
      rintro e w1 ⟨rfl, rfl⟩
      go_wp2_with fail
      refine bodyPost_ret (by simp [results, Tryd.results53, go_sem]; try rfl) rfl ?_
      exact ⟨ret_span (by omega) (by omega), by (repeat (first | exact Below.refl _ _ | refine bel_drewN ?_ _ | refine bel_drew ?_ | refine bel_alloc ?_ _ | refine bel_set ?_ (by simp) _))⟩
  · rw [meetV_no hm]
    have hmd : decide (max f f' < min t t') = false := by simpa using hm
    rw [hmd]
    clear hmd
    by_cases h1 : f < f'
    · have h2 : ¬ t' < t := by omega
      have h3 : t ≤ f' := by omega
      clear hm
      go_enter Tryd.func53, Tryd.ntmps53
      go_wp2_with fail
      refine (hR _).out.mono ?_
      rintro e w1 ⟨rfl, rfl⟩
      go_wp2_with fail
      refine (hR' _).out.mono ?_
      rintro e w1 ⟨rfl, rfl⟩
      go_wp2_with fail
      refine bodyPost_ret (by simp [results, Tryd.results53, go_sem]; try rfl) rfl ?_
      exact ⟨rfl, by (repeat (first | exact Below.refl _ _ | refine bel_drewN ?_ _ | refine bel_drew ?_ | refine bel_alloc ?_ _ | refine bel_set ?_ (by simp) _))⟩
    · have h2 : t' < t := by omega
      have h3 : t' ≤ f := by omega
      clear hm
      go_enter Tryd.func53, Tryd.ntmps53
      go_wp2_with fail
      refine (hR _).out.mono ?_
      rintro e w1 ⟨rfl, rfl⟩
      go_wp2_with fail
      refine (hR' _).out.mono ?_
      rintro e w1 ⟨rfl, rfl⟩
      go_wp2_with fail
      refine bodyPost_ret (by simp [results, Tryd.results53, go_sem]; try rfl) rfl ?_
      exact ⟨rfl, by (repeat (first | exact Below.refl _ _ | refine bel_drewN ?_ _ | refine bel_drew ?_ | refine bel_alloc ?_ _ | refine bel_set ?_ (by simp) _))⟩

section
variable {L M T done : List (Int × Int)} {i j : Nat} {x y : Int × Int}
theorem an_left (hi : i < L.length) (hx : L[i] = x) (hj : j < M.length) (hy : M[j] = y) (h : x.2 ≤ y.2) (he : done ++ andL (L.drop i) (M.drop j) = T) : (done ++ meetL x y) ++ andL (L.drop (i + 1)) (M.drop j) = T := by
  rw [drop_at hi, hx, drop_at hj, hy, andL_le h, ← hy, ← drop_at hj] at he
  rw [← he, hy]; simp
theorem an_right (hi : i < L.length) (hx : L[i] = x) (hj : j < M.length) (hy : M[j] = y) (h : ¬ x.2 ≤ y.2) (he : done ++ andL (L.drop i) (M.drop j) = T) : (done ++ meetL x y) ++ andL (L.drop i) (M.drop (j + 1)) = T := by
  rw [drop_at hi, hx, drop_at hj, hy, andL_gt h, ← hx, ← drop_at hi] at he
  rw [← he, hx]; simp
theorem an_end (h : ¬ i < L.length ∨ ¬ j < M.length) (he : done ++ andL (L.drop i) (M.drop j) = T) : done = T := by
  rcases h with h | h
  · rw [drop_end h, andL_nil] at he; simpa using he
  · rw [drop_end h, andL_nil'] at he; simpa using he
end
theorem meetL_yes {f t f' t' : Int} (h : max f f' < min t t') : meetL (f, t) (f', t') = [(max f f', min t t')] := if_pos h
theorem meetL_no {f t f' t' : Int} (h : ¬ max f f' < min t t') : meetL (f, t) (f', t') = [] := if_neg h

set_option maxHeartbeats 4000000 in
set_option maxRecDepth 100000 in
theorem and_any (A : Option Addr) (c : Nat) (L : List (Int × Int)) (B : Option Addr) (d : Nat) (M : List (Int × Int)) (w : World) (h : Sp w A c L) (h' : Sp w B d M) (hc : Canon L) (hc' : Canon M) (hl : L.length ≤ 100000) (hl' : M.length ≤ 100000) :
    Calls Tryd.prog 17 #[.agg #[.slice A L.length c], .agg #[.slice B M.length d]] w (RetSet (ofOp L M 2) w) := by
  have HMG := Lib.hid (andL_length _ L M (Nat.le_refl _))
  have HOR := Lib.hid (and_eq hc hc')
  have HBX := Lib.hid (boxes w A c L B d M)
  have hH := Lib.hid h
  have hH' := Lib.hid h'
  have HC := Lib.hid hc
  have HC' := Lib.hid hc'
  clear h h' hc hc'
  go_enter Tryd.func17, Tryd.ntmps17
  go_wp2
  generalize World.alloc (World.alloc (World.alloc w (.cells #[.slice A L.length c] 29)) (.cells #[.slice B M.length d] 29)) (.cells #[.slice none 0 0] 29) = W0 at HBX ⊢
  have HS := Lib.hid (hH.out.below HBX.out.bel)
  have HS' := Lib.hid (hH'.out.below HBX.out.bel)
  clear hH hH'
  go_loopw [5, 6, 7, 8, 9] (fun v si sj _ _ wr => ∃ (i j : Nat) (A' : Option Addr) (c' : Nat) (D : List (Int × Int)), i ≤ L.length ∧ j ≤ M.length ∧ si = .int .i64 i ∧ sj = .int .i64 j ∧ v = .slice A' D.length c' ∧ Own wr W0.heap.size A' c' D ∧ Below W0.heap.size W0 wr ∧ D ++ andL (L.drop i) (M.drop j) = andL L M) (fun _ si sj _ _ _ => L.length + M.length - ((intOf si).toNat + (intOf sj).toNat))
  case atStart => exact ⟨0, 0, none, 0, [], Nat.zero_le _, Nat.zero_le _, rfl, rfl, rfl, Own.nil _ _, Below.refl _ _, by simp⟩
  case round =>
    obtain ⟨i, j, A', c', D, hi, hj, rfl, rfl, rfl, hown, hbw, he⟩ := hrel
    have HO := Lib.hid hown
    have HB := Lib.hid hbw
    have HE := Lib.hid he
    have hDl : D.length ≤ 200000 := by
      have h1 := congrArg List.length he
      have h2 := HMG.out
      simp at h1
      omega
    have q0 := cell_keep hbw HBX.out.c0
    have q1 := cell_keep hbw HBX.out.c1
    have hz : w.heap.size + 3 ≤ wr.heap.size := by have := hbw.size; rw [HBX.out.size] at this; exact this
    clear hown hbw he
    by_cases hlt : i < L.length ∧ j < M.length
    · obtain ⟨hlt, hlt'⟩ := hlt
      obtain ⟨b, off, e, hb, d1, d2⟩ := HS.out.at_ hlt
      have HGX := Lib.hid (HC.out.good _ (List.getElem_mem hlt))
      obtain ⟨⟨x1, x2⟩, hx⟩ : ∃ x, L[i] = x := ⟨_, rfl⟩
      rw [hx] at d1 d2 HGX
      have HX := Lib.hid hx
      have hi0 : (0 : Int) ≤ (i : Int) := by omega
      have hi1 : (i : Int) < (L.length : Int) := by omega
      clear hx
      subst e
      obtain ⟨b', off', e', hb', d1', d2'⟩ := HS'.out.at_ hlt'
      have HGY := Lib.hid (HC'.out.good _ (List.getElem_mem hlt'))
      obtain ⟨⟨y1, y2⟩, hy⟩ : ∃ y, M[j] = y := ⟨_, rfl⟩
      rw [hy] at d1' d2' HGY
      have HY := Lib.hid hy
      have hj0 : (0 : Int) ≤ (j : Int) := by omega
      have hj1 : (j : Int) < (M.length : Int) := by omega
      clear hy
      subst e'
      simp only at d1 d2 d1' d2'
      have c1 := cell_keep HB.out d1
      have c2 := cell_keep HB.out d2
      have c1' := cell_keep HB.out d1'
      have c2' := cell_keep HB.out d2'
      have D2 := Lib.hid d2
      have D2' := Lib.hid d2'
      clear d1 d2 d1' d2'
      have hM := fun W => Lib.hid (meet_any x1 x2 y1 y2 W HGX.out HGY.out)
      obtain ⟨mb, hmb⟩ : ∃ b, decide (max x1 y1 < min x2 y2) = b := ⟨_, rfl⟩
      obtain ⟨⟨m1, m2⟩, hmv⟩ : ∃ v, meetV x1 x2 y1 y2 = v := ⟨_, rfl⟩
      rw [hmb, hmv] at hM
      simp only at hM
      have HMB := Lib.hid hmb
      have HMV := Lib.hid hmv
      clear hmb hmv
      go_upto_region 4 with fail
      go_cut [8, 9] (fun s8 s9 wx => ∃ g : Nat, s8 = .pointer (some ⟨g, 0, none⟩) ∧ s9 = .bool mb ∧ wr.heap.size ≤ g ∧ wx.cell? ⟨g, 0, none⟩ = some (.int .i64 m1) ∧ wx.cell? ⟨g, 1, none⟩ = some (.int .i64 m2) ∧ Below wr.heap.size wr wx)
      case first =>
        go_region_held3 (fun w' => w'.cell? ⟨w.heap.size, 0, none⟩ = some (.slice (some ⟨b, off, none⟩) L.length c) ∧ w'.cell? ⟨w.heap.size + 1, 0, none⟩ = some (.slice (some ⟨b', off', none⟩) M.length d) ∧ w'.cell? ⟨b, off + i * 2, none⟩ = some (.int .i64 x1) ∧ w'.cell? ⟨b, off + i * 2 + 1, none⟩ = some (.int .i64 x2) ∧ w'.cell? ⟨b', off' + j * 2, none⟩ = some (.int .i64 y1) ∧ w'.cell? ⟨b', off' + j * 2 + 1, none⟩ = some (.int .i64 y2))
          (((try dsimp only); refine ⟨cell_keep (W := wr) ?_ q0, cell_keep (W := wr) ?_ q1, cell_keep (W := wr) ?_ c1, cell_keep (W := wr) ?_ c2, cell_keep (W := wr) ?_ c1', cell_keep (W := wr) ?_ c2'⟩ <;> (repeat (first | exact Below.refl _ _ | exact hbw4 | refine bel_drewN ?_ _ | refine bel_drew ?_ | refine bel_alloc ?_ _ | refine bel_set ?_ (by first | omega | (dsimp only; omega) | (simp; omega)) _))))
          (first | (go_at_call 53
                    refine (hM _).out.mono ?_
                    rintro r4 w4 ⟨rfl, hb4⟩
                    have hbw4 : Below wr.heap.size wr w4 := bel_chain hb4 (by repeat (first | exact Below.refl _ _ | refine bel_drewN ?_ _ | refine bel_drew ?_ | refine bel_alloc ?_ _))
                    have hz4 := hbw4.size
                    have k0 : w4.cell? ⟨wr.heap.size, 0, none⟩ = some (.int .i64 0) := (kept_new' (W := wr) (x := .int .i64 0) (y := .int .i64 0) (t := 48) rfl hb4).1
                    have k1 : w4.cell? ⟨wr.heap.size, 1, none⟩ = some (.int .i64 0) := (kept_new' (W := wr) (x := .int .i64 0) (y := .int .i64 0) (t := 48) rfl hb4).2.1
                    have kf : w4.frozen? ⟨wr.heap.size, 0, none⟩ = false := (kept_new' (W := wr) (x := .int .i64 0) (y := .int .i64 0) (t := 48) rfl hb4).2.2.1
                    have kf1 : w4.frozen? ⟨wr.heap.size, 1, none⟩ = false := (kept_new' (W := wr) (x := .int .i64 0) (y := .int .i64 0) (t := 48) rfl hb4).2.2.2
                    clear hb4)
                 | (go_at_call 53
                    refine (hM _).out.mono ?_
                    rintro r4 w4 ⟨rfl, hb4⟩
                    have hbw4 : Below wr.heap.size wr w4 := bel_chain hb4 (by repeat (first | exact Below.refl _ _ | refine bel_drewN ?_ _ | refine bel_drew ?_ | refine bel_alloc ?_ _))
                    have hz4 := hbw4.size
                    clear hb4))
        all_goals go_wp2_with fail
        all_goals go_meet
        · exact ⟨_, rfl, rfl, hz4, cell_new0 _ _ _ _, cell_new1 _ _ _ _, bel_alloc hbw4 _⟩
        · exact ⟨_, rfl, rfl, Nat.le_refl _, by simp [go_sem, k0, k1], by simp [go_sem, k0, k1], bel_set (bel_set hbw4 (Nat.le_refl _) _) (Nat.le_refl _) _⟩
      case rest =>
        obtain ⟨g, rfl, rfl, hg, e1, e2, hbx⟩ := hcut
        have HOC := Lib.hid (HO.out.below hbx)
        have HBC := Lib.hid (bel_chain hbx HB.out)
        have p0 := cell_keep hbx q0
        have p1 := cell_keep hbx q1
        have p2 := cell_keep hbx c2
        have p2' := cell_keep hbx c2'
        clear hbx q0 q1 c1 c2 c1' c2' hM
        cases mb
        · have HML := Lib.hid (meetL_no (of_decide_eq_false HMB.out))
          by_cases hxy : x2 ≤ y2
          · have HR := Lib.hid (an_left hlt HX.out hlt' HY.out hxy HE.out)
            go_wp2_with fail
            go_quiet (fail)
            go_wp2_with fail
            go_roundw
            case rel => exact ⟨i + 1, j, A', c', D, by omega, hj, by go_num, rfl, rfl, HOC.out.drewN _, bel_drewN HBC.out _, by have := HR.out; rw [HML.out, List.append_nil] at this; exact this⟩
            case measure => simp [intOf]; omega
          · have HR := Lib.hid (an_right hlt HX.out hlt' HY.out hxy HE.out)
            have hxyb : decide (x2 ≤ y2) = false := by simpa using hxy
            go_wp2_with fail
            go_quiet (fail)
            go_wp2_with fail
            go_roundw
            case rel => exact ⟨i, j + 1, A', c', D, hi, by omega, rfl, by go_num, rfl, HOC.out.drewN _, bel_drewN HBC.out _, by have := HR.out; rw [HML.out, List.append_nil] at this; exact this⟩
            case measure => simp [intOf]; omega
        · have hlt2 := of_decide_eq_true HMB.out
          have HML : Hid (meetL (x1, x2) (y1, y2) = [(m1, m2)]) := by
            simp only [Hid]; rw [meetL_yes hlt2, ← HMV.out, meetV_yes hlt2]
          clear hlt2
          by_cases hxy : x2 ≤ y2
          · have HR := Lib.hid (an_left hlt HX.out hlt' HY.out hxy HE.out)
            go_wp2_with (at_builtin; refine wpl_append (w0 := W0) rfl (.tmp 37) (.tmp 39) rfl A' c' D rfl (by exact HOC.out.alloc _) _ m1 m2 rfl (by first | exact cell_new0 _ _ _ _ | simp [go_sem]) (by first | exact cell_new1 _ _ _ _ | simp [go_sem]) (by omega) (by exact bel_alloc HBC.out _) ?_; intro A2 c2' w2 hown2 hbw2 _; have r0 := cell_keep hbw2 HBX.out.c0; have r1 := cell_keep hbw2 HBX.out.c1; have r2 := cell_keep hbw2 D2.out; have r2' := cell_keep hbw2 D2'.out; have HO2 := Lib.hid hown2; have HB2 := Lib.hid hbw2; clear hown2 hbw2)
            go_quiet (fail)
            go_wp2_with fail
            go_roundw
            case rel => exact ⟨i + 1, j, A2, c2', D ++ [(m1, m2)], by omega, hj, by go_num, rfl, by simp, HO2.out.drewN _, bel_drewN HB2.out _, by have := HR.out; rw [HML.out] at this; exact this⟩
            case measure => simp [intOf]; omega
          · have HR := Lib.hid (an_right hlt HX.out hlt' HY.out hxy HE.out)
            have hxyb : decide (x2 ≤ y2) = false := by simpa using hxy
            go_wp2_with (at_builtin; refine wpl_append (w0 := W0) rfl (.tmp 37) (.tmp 39) rfl A' c' D rfl (by exact HOC.out.alloc _) _ m1 m2 rfl (by first | exact cell_new0 _ _ _ _ | simp [go_sem]) (by first | exact cell_new1 _ _ _ _ | simp [go_sem]) (by omega) (by exact bel_alloc HBC.out _) ?_; intro A2 c2' w2 hown2 hbw2 _; have r0 := cell_keep hbw2 HBX.out.c0; have r1 := cell_keep hbw2 HBX.out.c1; have r2 := cell_keep hbw2 D2.out; have r2' := cell_keep hbw2 D2'.out; have HO2 := Lib.hid hown2; have HB2 := Lib.hid hbw2; clear hown2 hbw2)
            go_quiet (fail)
            go_wp2_with fail
            go_roundw
            case rel => exact ⟨i, j + 1, A2, c2', D ++ [(m1, m2)], hi, by omega, rfl, by go_num, by simp, HO2.out.drewN _, bel_drewN HB2.out _, by have := HR.out; rw [HML.out] at this; exact this⟩
            case measure => simp [intOf]; omega
    · have HD : Hid (D = andL L M) := an_end (by omega) HE.out
      have q2 := cell_keep HB.out HBX.out.c2
      have g2 : wr.frozen? ⟨w.heap.size + 2, 0, none⟩ = false := (HB.out.frozen (p := ⟨w.heap.size + 2, 0, none⟩) (by simp [HBX.out.size])).trans HBX.out.f2
      have HBW := Lib.hid (bel_chain HB.out HBX.out.bel)
      have HZ : Hid (W0.heap.size = w.heap.size + 3) := HBX.out.size
      have fin : RetSet (ofOp L M 2) w (.returned (.agg #[.slice A' D.length c'])) (wr.setCell ⟨w.heap.size + 2, 0, none⟩ (.slice A' D.length c')) := by
        have hOD := HO.out
        have e1 : D = ofOp L M 2 := HD.out.trans HOR.out
        rw [e1] at hOD ⊢
        exact ⟨A', c', rfl, Own.sp (ownsRow_setCell_below hOD (by rw [HZ.out]; show w.heap.size + 2 < w.heap.size + 3; omega) _), bel_set HBW.out (by show w.heap.size ≤ w.heap.size + 2; omega) _⟩
      have FIN := Lib.hid fin
      clear fin
      by_cases hlt1 : i < L.length
      · have hlt2 : ¬ j < M.length := fun h => hlt ⟨hlt1, h⟩
        have hjb : decide (j < M.length) = false := by simpa using hlt2
        clear hlt
        go_wp2_with fail
        refine bodyPost_ret (by simp [results, Tryd.results17, go_sem, q2]; try rfl) rfl ?_
        exact FIN.out
      · have hib : decide (i < L.length) = false := by simpa using hlt1
        clear hlt
        go_wp2_with fail
        refine bodyPost_ret (by simp [results, Tryd.results17, go_sem, q2]; try rfl) rfl ?_
        exact FIN.out
end Go.Proofs.YtfpfdgljhcpkpaaDoor
