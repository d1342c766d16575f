/- Contract of a set's Less. -/
import Derived.Test.YtfpfdgljhcpkpaaDoorD1
namespace Go.Proofs.YtfpfdgljhcpkpaaDoor
open Go.RowKit

section
variable {L M T R done : List (Int × Int)} {i j k : Nat} {x y : Int × Int} {t f : Int}
theorem le_start (hi : i < L.length) (hx : L[i] = x) (hs : skipL x.1 (M.drop j) = M.drop k) (he : done ++ lessL (L.drop i) (M.drop j) = T) : done ++ (cutL x.2 x.1 (M.drop k) ++ lessL (L.drop (i + 1)) (M.drop k)) = T := by
  rw [drop_at hi, hx, lessL_cons, hs] at he
  exact he
theorem le_end (hi : ¬ i < L.length) (he : done ++ lessL (L.drop i) (M.drop j) = T) : done = T := by
  rw [drop_end hi, lessL_nil] at he
  simpa using he
theorem cut_step (hk : k < M.length) (hy : M[k] = y) (h : y.1 < t) (he : done ++ (cutL t f (M.drop k) ++ R) = T) : (done ++ pieceL f y.1) ++ (cutL t (max f y.2) (M.drop (k + 1)) ++ R) = T := by
  rw [drop_at hk, hy, cutL_in h] at he
  rw [← he]; simp
theorem cut_end (h : ∀ hk : k < M.length, ¬ (M[k]).1 < t) (he : done ++ (cutL t f (M.drop k) ++ R) = T) : (done ++ pieceL f t) ++ R = T := by
  by_cases hk : k < M.length
  · rw [drop_at hk, cutL_out (h hk)] at he
    rw [← he]; simp
  · rw [drop_end hk, cutL_nil] at he
    rw [← he]; simp
theorem skip_step (hj : j < M.length) (hy : M[j] = y) (h : y.2 ≤ f) : skipL f (M.drop (j + 1)) = skipL f (M.drop j) := by
  rw [drop_at hj, hy, skipL_yes h]
theorem skip_end (h : ∀ hj : j < M.length, ¬ (M[j]).2 ≤ f) : skipL f (M.drop j) = M.drop j := by
  by_cases hj : j < M.length
  · rw [drop_at hj, skipL_no (h hj)]
  · rw [drop_end hj, skipL_nil]
end
theorem piece_yes {f t : Int} (h : f < t) : pieceL f t = [(f, t)] := if_pos h
theorem piece_no {f t : Int} (h : ¬ f < t) : pieceL f t = [] := if_neg h
theorem Own.offNew {w : World} {base : Nat} {A : Option Addr} {c : Nat} {L : List (Int × Int)} (h : Own w base A c L) : OffB A w.heap.size := by
  intro a ha
  subst ha
  have := (World.ownsRow.lt h a.block rfl).2
  omega

set_option maxHeartbeats 8000000 in
set_option maxRecDepth 100000 in
theorem less_any (A : Option Addr) (c : Nat) (L : List (Int × Int)) (B : Option Addr) (d : Nat) (M : List (Int × Int)) (w : World) (h : Sp w A c L) (h' : Sp w B d M) (hc : Canon L) (hc' : Canon M) (hl : L.length ≤ 100000) (hl' : M.length ≤ 100000) :
    Calls Tryd.prog 18 #[.agg #[.slice A L.length c], .agg #[.slice B M.length d]] w (RetSet (ofOp L M 3) w) := by
  have HOR := Lib.hid (less_eq hc hc')
  have HLN : Hid ((lessL L M).length ≤ 2 * (L.length + M.length)) := by simp only [Hid]; rw [HOR.out]; exact ofOp_length L M 3
  have HBX := Lib.hid (boxes w A c L B d M)
  have hH := Lib.hid h
  have hH' := Lib.hid h'
  have HC := Lib.hid hc
  have HC' := Lib.hid hc'
  clear h h' hc hc'
  go_enter Tryd.func18, Tryd.ntmps18
  go_wp2
  generalize World.alloc (World.alloc (World.alloc w (.cells #[.slice A L.length c] 29)) (.cells #[.slice B M.length d] 29)) (.cells #[.slice none 0 0] 29) = W0 at HBX ⊢
  have HS := Lib.hid (hH.out.below HBX.out.bel)
  have HS' := Lib.hid (hH'.out.below HBX.out.bel)
  clear hH hH'
  go_loopw [5, 6, 8, 9, 10, 14] (fun v sj _ _ _ si wr => ∃ (i j : Nat) (A' : Option Addr) (c' : Nat) (D : List (Int × Int)), i ≤ L.length ∧ j ≤ M.length ∧ si = .int .i64 i ∧ sj = .int .i64 j ∧ v = .slice A' D.length c' ∧ Own wr W0.heap.size A' c' D ∧ Below W0.heap.size W0 wr ∧ D ++ lessL (L.drop i) (M.drop j) = lessL L M) (fun _ _ _ _ _ si _ => L.length - (intOf si).toNat)
  case atStart => exact ⟨0, 0, none, 0, [], Nat.zero_le _, Nat.zero_le _, rfl, rfl, rfl, Own.nil _ _, Below.refl _ _, by simp⟩
  case round =>
    obtain ⟨i, j, A', c', D, hi, hj, rfl, rfl, rfl, hown, hbw, he⟩ := hrel
    obtain ⟨wo, rfl⟩ : ∃ wo : World, wo = wr := ⟨_, rfl⟩
    have HO := Lib.hid hown
    have HB := Lib.hid hbw
    have HE := Lib.hid he
    clear hown hbw he
    by_cases hlt : i < L.length
    · obtain ⟨b, off, e, hb, d1, d2⟩ := HS.out.at_ hlt
      have hgx := HC.out.mem (List.getElem_mem hlt)
      obtain ⟨⟨x1, x2⟩, hx⟩ : ∃ x, L[i] = x := ⟨_, rfl⟩
      rw [hx] at d1 d2 hgx
      have HX := Lib.hid hx
      simp only at d1 d2 hgx
      obtain ⟨hgx0, hgx1, hgx2⟩ := hgx
      clear hx
      subst e
      have c1 := cell_keep HB.out d1
      have c2 := cell_keep HB.out d2
      clear d1 d2
      go_wp2_with fail
      obtain ⟨W1, hW1⟩ : ∃ W1, World.alloc wo (.cells #[.int .i64 x1, .int .i64 x2] 48) = W1 := ⟨_, rfl⟩
      rw [hW1]
      have HO1 : Hid (Own W1 W0.heap.size A' c' D) := by simp only [Hid]; rw [← hW1]; exact HO.out.alloc _
      have HB1 : Hid (Below W0.heap.size W0 W1) := by simp only [Hid]; rw [← hW1]; exact bel_alloc HB.out _
      have HF1 : Hid (OffB A' wo.heap.size) := HO.out.offNew
      have hz1 : wo.heap.size < W1.heap.size := by rw [← hW1]; simp
      have k0 : W1.cell? ⟨wo.heap.size, 0, none⟩ = some (.int .i64 x1) := by rw [← hW1]; simp [go_sem]
      have k1 : W1.cell? ⟨wo.heap.size, 1, none⟩ = some (.int .i64 x2) := by rw [← hW1]; simp [go_sem]
      have q1 := cell_keep HB1.out HBX.out.c1
      clear hW1 c1 c2 HO HB hb
      go_loop [6] (fun sj => ∃ j2 : Nat, j2 ≤ M.length ∧ sj = .int .i64 j2 ∧ skipL x1 (M.drop j2) = skipL x1 (M.drop j)) (fun sj => M.length - (intOf sj).toNat)
      case atStart => exact ⟨j, hj, rfl, rfl⟩
      case round =>
        obtain ⟨j2, hj2, rfl, hsk⟩ := hrel
        have HSK := Lib.hid hsk
        clear hsk
        by_cases hgo : ∃ hm : j2 < M.length, (M[j2]).2 ≤ x1
        · obtain ⟨hm, hle⟩ := hgo
          obtain ⟨b', off', e', hb', d1', d2'⟩ := HS'.out.at_ hm
          obtain ⟨⟨y1, y2⟩, hy⟩ : ∃ y, M[j2] = y := ⟨_, rfl⟩
          rw [hy] at d1' d2' hle
          have HST := Lib.hid (skip_step hm hy hle)
          simp only at d2' hle
          have hm0 : (0 : Int) ≤ (j2 : Int) := by omega
          have hm1 : (j2 : Int) < (M.length : Int) := by omega
          clear hy
          first | subst e' | (injection e' with e'; injection e' with e1 e2 _; subst e1; subst e2)
          have p2 := cell_keep HB1.out d2'
          clear d1' d2'
          go_wp2_with fail
          go_round
          case rel => exact ⟨j2 + 1, by omega, by go_num, HST.out.trans HSK.out⟩
          case measure => simp [intOf]; omega
        · have HJ := Lib.hid (skip_end (M := M) (j := j2) (f := x1) (fun hm hle => hgo ⟨hm, hle⟩))
          have HR0 := Lib.hid (le_start hlt HX.out (HSK.out.symm.trans HJ.out) HE.out)
          simp only at HR0
          have HNO : Hid (∀ hm : j2 < M.length, ¬ (M[j2]).2 ≤ x1) := fun hm hle => hgo ⟨hm, hle⟩
          clear hgo
          by_cases hm : j2 < M.length
          focus
            obtain ⟨b', off', e', hb', d1', d2'⟩ := HS'.out.at_ hm
            have hno := HNO.out hm
            obtain ⟨⟨y1, y2⟩, hy⟩ : ∃ y, M[j2] = y := ⟨_, rfl⟩
            rw [hy] at d1' d2' hno
            simp only at d2' hno
            have hnob : decide (y2 ≤ x1) = false := by simpa using hno
            have hm0 : (0 : Int) ≤ (j2 : Int) := by omega
            have hm1 : (j2 : Int) < (M.length : Int) := by omega
            clear hy
            first | subst e' | (injection e' with e'; injection e' with e1 e2 _; subst e1; subst e2)
            have p2 := cell_keep HB1.out d2'
            clear d1' d2'
            go_wp2_with fail
            clear p2 hnob hno hb'
          rotate_left
          focus
            have hmb : decide (j2 < M.length) = false := by simpa using hm
            go_wp2_with fail
            clear hmb
          all_goals
            clear HNO HSK HJ hm
            go_loopw [5, 9, 10] (fun v sf sk wr => ∃ (k : Nat) (f : Int) (A3 : Option Addr) (c3 : Nat) (D3 : List (Int × Int)), k ≤ M.length ∧ sf = .int .i64 f ∧ sk = .int .i64 k ∧ x1 ≤ f ∧ f ≤ 4611686018427387904 ∧ v = .slice A3 D3.length c3 ∧ Own wr W0.heap.size A3 c3 D3 ∧ OffB A3 wo.heap.size ∧ Below W0.heap.size W0 wr ∧ wr.cell? ⟨wo.heap.size, 1, none⟩ = some (.int .i64 x2) ∧ wo.heap.size < wr.heap.size ∧ D3 ++ (cutL x2 f (M.drop k) ++ lessL (L.drop (i + 1)) (M.drop j2)) = lessL L M) (fun _ _ sk _ => M.length - (intOf sk).toNat)
            case atStart => exact ⟨j2, x1, A', c', D, hj2, rfl, rfl, Int.le_refl _, by omega, rfl, HO1.out, HF1.out, HB1.out, k1, hz1, HR0.out⟩
            case round =>
              obtain ⟨k, f, A3, c3, D3, hk, rfl, rfl, hf0, hf1, rfl, hown, hoff, hbw, x2c, hzr, he3⟩ := hrel
              clear k0 k1 q1
              have HO3 := Lib.hid hown
              have HB3 := Lib.hid hbw
              have HE3 := Lib.hid he3
              have HF3 := Lib.hid hoff
              have hDl : D3.length ≤ 400000 := by
                have h1 := congrArg List.length he3
                have h2 := HLN.out
                simp at h1
                omega
              have q1 := cell_keep hbw HBX.out.c1
              clear hown hbw he3 hoff
              by_cases hgo : ∃ hm : k < M.length, (M[k]).1 < x2
              · obtain ⟨hm, hyt⟩ := hgo
                obtain ⟨b', off', e', hb', d1', d2'⟩ := HS'.out.at_ hm
                have hgy := HC'.out.mem (List.getElem_mem hm)
                obtain ⟨⟨y1, y2⟩, hy⟩ : ∃ y, M[k] = y := ⟨_, rfl⟩
                rw [hy] at d1' d2' hyt hgy
                have HST := Lib.hid (cut_step hm hy hyt HE3.out)
                simp only at d1' d2' hyt hgy HST
                obtain ⟨hgy0, hgy1, hgy2⟩ := hgy
                have hm0 : (0 : Int) ≤ (k : Int) := by omega
                have hm1 : (k : Int) < (M.length : Int) := by omega
                clear hy
                first | subst e' | (injection e' with e'; injection e' with e1 e2 _; subst e1; subst e2)
                have p1 := cell_keep HB3.out d1'
                have p2 := cell_keep HB3.out d2'
                have D1' := Lib.hid d1'
                have D2' := Lib.hid d2'
                clear d1' d2'
                by_cases hfy : f < y1
                · have hfy2 : f < y2 := by omega
                  have HPC := Lib.hid (piece_yes hfy)
                  have hmx : max f y2 = y2 := by omega
                  rw [hmx, HPC.out] at HST
                  clear hmx
                  go_wp2_with fail
                  go_quiet (fail)
                  go_wp2_with (at_builtin; refine wpl_append_at (w0 := W0) rfl (.tmp 64) (.tmp 73) rfl A3 c3 D3 rfl (by exact (HO3.out.drewN _).alloc _) _ f y1 rfl (by first | exact cell_new0 _ _ _ _ | simp [go_sem]) (by first | exact cell_new1 _ _ _ _ | simp [go_sem]) (by omega) (by exact bel_alloc (bel_drewN HB3.out _) _) wo.heap.size HF3.out (by exact lt_alloc hzr _) ?_; intro A4 c4 w4 hown4 hbw4 hoff4 hX4 hsz4; have r1 := cell_keep hbw4 HBX.out.c1; have r2 := cell_keep hbw4 D2'.out; have HX4 := Lib.hid hX4; have HO4 := Lib.hid hown4; have HB4 := Lib.hid hbw4; have HF4 := Lib.hid hoff4; clear hown4 hbw4 hoff4 hX4)
                  go_roundw
                  case rel => exact ⟨k + 1, y2, A4, c4, D3 ++ [(f, y1)], by omega, rfl, by go_num, by omega, by omega, by simp, HO4.out, HF4.out, HB4.out, (HX4.out 1).trans (cell_keep (W := wr) (by (repeat (first | exact Below.refl _ _ | refine bel_drewN ?_ _ | refine bel_drew ?_ | refine bel_alloc ?_ _ | refine bel_set ?_ (by simp) _))) x2c), hsz4, HST.out⟩
                  case measure => simp [intOf]; omega
                · have HPC := Lib.hid (piece_no hfy)
                  rw [HPC.out, List.append_nil] at HST
                  by_cases hfy2 : f < y2
                  · have hmx : max f y2 = y2 := by omega
                    rw [hmx] at HST
                    clear hmx
                    go_wp2_with fail
                    go_quiet (fail)
                    go_wp2_with fail
                    go_roundw
                    case rel => exact ⟨k + 1, y2, A3, c3, D3, by omega, rfl, by go_num, by omega, by omega, rfl, HO3.out.drewN _, HF3.out, bel_drewN HB3.out _, x2c, hzr, HST.out⟩
                    case measure => simp [intOf]; omega
                  · have hmx : max f y2 = f := by omega
                    rw [hmx] at HST
                    clear hmx
                    go_wp2_with fail
                    go_quiet (fail)
                    go_wp2_with fail
                    go_roundw
                    case rel => exact ⟨k + 1, f, A3, c3, D3, by omega, rfl, by go_num, by omega, by omega, rfl, HO3.out.drewN _, HF3.out, bel_drewN HB3.out _, x2c, hzr, HST.out⟩
                    case measure => simp [intOf]; omega
              · have HCE := Lib.hid (cut_end (fun hm hyt => hgo ⟨hm, hyt⟩) HE3.out)
                have HNO : Hid (∀ hm : k < M.length, ¬ (M[k]).1 < x2) := fun hm hle => hgo ⟨hm, hle⟩
                clear hgo
                by_cases hm : k < M.length
                focus
                  obtain ⟨b', off', e', hb', d1', d2'⟩ := HS'.out.at_ hm
                  have hno := HNO.out hm
                  obtain ⟨⟨y1, y2⟩, hy⟩ : ∃ y, M[k] = y := ⟨_, rfl⟩
                  rw [hy] at d1' d2' hno
                  simp only at d1' hno
                  have hnob : decide (y1 < x2) = false := by simpa using hno
                  have hm0 : (0 : Int) ≤ (k : Int) := by omega
                  have hm1 : (k : Int) < (M.length : Int) := by omega
                  clear hy
                  first | subst e' | (injection e' with e'; injection e' with e1 e2 _; subst e1; subst e2)
                  have p1 := cell_keep HB3.out d1'
                  clear d1' d2'
                  go_wp2_with fail
                  go_quiet (fail)
                rotate_left
                focus
                  have hmb : decide (k < M.length) = false := by simpa using hm
                  go_wp2_with fail
                  go_quiet (fail)
                all_goals
                  by_cases hfx : f < x2
                  · have HPC := Lib.hid (piece_yes hfx)
                    rw [HPC.out] at HCE
                    go_wp2_with (at_builtin; refine wpl_append_at (w0 := W0) rfl (.tmp 87) (.tmp 92) rfl A3 c3 D3 rfl (by exact (HO3.out.drewN _).alloc _) _ f x2 rfl (by first | exact cell_new0 _ _ _ _ | simp [go_sem]) (by first | exact cell_new1 _ _ _ _ | simp [go_sem]) (by omega) (by exact bel_alloc (bel_drewN HB3.out _) _) wo.heap.size HF3.out (by exact lt_alloc hzr _) ?_; intro A4 c4 w4 hown4 hbw4 _ _ _; have HO4 := Lib.hid hown4; have HB4 := Lib.hid hbw4; clear hown4 hbw4)
                    go_roundw
                    case rel => exact ⟨i + 1, j2, A4, c4, D3 ++ [(f, x2)], by omega, hj2, by go_num, rfl, by simp, HO4.out, HB4.out, HCE.out⟩
                    case measure => simp [intOf]; omega
                  · have HPC := Lib.hid (piece_no hfx)
                    rw [HPC.out, List.append_nil] at HCE
                    go_wp2_with fail
                    go_roundw
                    case rel => exact ⟨i + 1, j2, A3, c3, D3, by omega, hj2, by go_num, rfl, rfl, HO3.out.drewN _, bel_drewN HB3.out _, HCE.out⟩
                    case measure => simp [intOf]; omega
    · have HD : Hid (D = lessL L M) := le_end hlt HE.out
      have q2 := cell_keep HB.out HBX.out.c2
      have g2 : wo.frozen? ⟨w.heap.size + 2, 0, none⟩ = false := (HB.out.frozen (p := ⟨w.heap.size + 2, 0, none⟩) (by simp [HBX.out.size])).trans HBX.out.f2
      have HBW := Lib.hid (bel_chain HB.out HBX.out.bel)
      have HZ : Hid (W0.heap.size = w.heap.size + 3) := HBX.out.size
      have fin : RetSet (ofOp L M 3) w (.returned (.agg #[.slice A' D.length c'])) (wo.setCell ⟨w.heap.size + 2, 0, none⟩ (.slice A' D.length c')) := by
        have hOD := HO.out
        have e1 : D = ofOp L M 3 := HD.out.trans HOR.out
        rw [e1] at hOD ⊢
        exact ⟨A', c', rfl, Own.sp (ownsRow_setCell_below hOD (by rw [HZ.out]; show w.heap.size + 2 < w.heap.size + 3; omega) _), bel_set HBW.out (by show w.heap.size ≤ w.heap.size + 2; omega) _⟩
      have FIN := Lib.hid fin
      clear fin
      have hib : decide (i < L.length) = false := by simpa using hlt
      go_wp2_with fail
      refine bodyPost_ret (by simp [results, Tryd.results18, go_sem, q2]; try rfl) rfl ?_
      exact FIN.out
end Go.Proofs.YtfpfdgljhcpkpaaDoor
