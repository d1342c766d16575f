/- Contracts of the reference's Holds, Near and Same. -/
import Derived.Test.YtfpfdgljhcpkpaaDoorB14
import Derived.Test.YtfpfdgljhcpkpaaDoorD1
import Derived.IntWalk
namespace Go.Proofs.YtfpfdgljhcpkpaaDoor
open Go.RowKit

theorem gap_step {gap : Int} {L T D : List (Int × Int)} {k : Nat} {x y : Int × Int} (hk : k < L.length) (hk1 : k + 1 < L.length) (hx : L[k] = x) (hy : L[k + 1] = y) (h : y.1 - x.2 ≤ gap) (he : D ++ gapsL gap (L.drop k) = T) : (D ++ [(x.2, y.1)]) ++ gapsL gap (L.drop (k + 1)) = T := by
  rw [drop_at hk, drop_at hk1, hx, hy, gapsL_yes h] at he
  rw [drop_at hk1, hy, ← he]; simp
theorem gap_skip {gap : Int} {L T D : List (Int × Int)} {k : Nat} {x y : Int × Int} (hk : k < L.length) (hk1 : k + 1 < L.length) (hx : L[k] = x) (hy : L[k + 1] = y) (h : ¬ y.1 - x.2 ≤ gap) (he : D ++ gapsL gap (L.drop k) = T) : D ++ gapsL gap (L.drop (k + 1)) = T := by
  rw [drop_at hk, drop_at hk1, hx, hy, gapsL_no h] at he
  rw [drop_at hk1, hy, ← he]
theorem gap_end {gap : Int} {L T D : List (Int × Int)} {k : Nat} (hk : ¬ k + 1 < L.length) (he : D ++ gapsL gap (L.drop k) = T) : D = T := by
  by_cases h : k < L.length
  · rw [drop_at h, drop_end hk] at he
    simpa [gapsL] using he
  · rw [drop_end h] at he
    simpa [gapsL] using he

set_option maxHeartbeats 4000000 in
set_option maxRecDepth 100000 in
theorem rnear_any (A : Option Addr) (c : Nat) (L : List (Int × Int)) (gap : Int) (w : World) (h : Sp w A c L) (hc : Canon L) (hl : L.length ≤ 40000) :
    Calls Tryd.prog 29 #[.slice A L.length c, .int .i64 gap] w (RetSp (nearP gap L) w) := by
  have hH := Lib.hid h
  have HC := Lib.hid hc
  have HP := Lib.hid (nearP_eq gap hc)
  have HGL := Lib.hid (gaps_length gap L)
  clear h hc
  go_enter Tryd.func29, Tryd.ntmps29
  go_wp2_with (at_builtin; refine wpl_appendS (w0 := w) rfl (.tmp 7) (.tmp 8) rfl (some ⟨w.heap.size, 0, none⟩) 0 [] rfl (by exact World.ownsRow_made _ _ _ (Nat.le_refl _) (by simp [maxLen]) rfl) A c L rfl (by exact hH.out.alloc _) (by simp; omega) (by (repeat (first | exact Below.refl _ _ | refine bel_drewN ?_ _ | refine bel_drew ?_ | refine bel_alloc ?_ _ | refine bel_set ?_ (by simp) _))) ?_; intro A1 c1 w1 hown1 hbw1 _; have HO1 := Lib.hid hown1; clear hown1)
  go_loopw [5, 6] (fun v i wr => ∃ (k : Nat) (A' : Option Addr) (c' : Nat) (D : List (Int × Int)), (k = 0 ∨ k + 1 ≤ L.length) ∧ i = .int .i64 k ∧ v = .slice A' D.length c' ∧ Own wr w.heap.size A' c' D ∧ Below w.heap.size w wr ∧ D ++ gapsL gap (L.drop k) = L ++ gapsL gap L) (fun _ i _ => L.length - (intOf i).toNat)
  case atStart => exact ⟨0, A1, c1, L, .inl rfl, rfl, by simp, by have := HO1.out; simpa using this, hbw1, by simp⟩
  case round =>
    clear HO1 hbw1
    obtain ⟨k, A', c', D, hk, rfl, rfl, hown, hbw, he⟩ := hrel
    have HO := Lib.hid hown
    have HB := Lib.hid hbw
    have HE := Lib.hid he
    have HK := Lib.hid hk
    have hDl : D.length ≤ 80000 := by
      have h1 := congrArg List.length he
      have h2 := HGL.out
      simp at h1
      omega
    have hkb : k ≤ 100000 := by rcases hk with h | h <;> omega
    clear hown hbw he hk
    by_cases hlt1 : k + 1 < L.length
    · have hlt : k < L.length := by omega
      obtain ⟨b, off, e, hb, c1, d2⟩ := hH.out.at_ hlt
      obtain ⟨b2, off2, e2, hb2, d3, c4⟩ := hH.out.at_ hlt1
      have g1 := HC.out.mem (List.getElem_mem hlt)
      have g2 := HC.out.mem (List.getElem_mem hlt1)
      rw [e] at e2
      injection e2 with e2
      injection e2 with e3 e4 _
      subst e3 e4
      obtain ⟨⟨x1, x2⟩, hx⟩ : ∃ x, L[k] = x := ⟨_, rfl⟩
      obtain ⟨⟨y1, y2⟩, hy⟩ : ∃ y, L[k + 1] = y := ⟨_, rfl⟩
      rw [hx] at c1 d2 g1
      rw [hy] at d3 c4 g2
      have HX := Lib.hid hx
      have HY := Lib.hid hy
      simp only at c1 d2 d3 c4 g1 g2
      have c2 := cell_keep HB.out d2
      have c3 := cell_keep HB.out d3
      have D2 := Lib.hid d2
      have D3 := Lib.hid d3
      obtain ⟨g11, g12, g13⟩ := g1
      obtain ⟨g21, g22, g23⟩ := g2
      have HLT1 := Lib.hid hlt1
      have hk0 : (0 : Int) ≤ (k : Int) := by omega
      have hk1 : (k : Int) < (L.length : Int) := by omega
      have hk2 : (0 : Int) ≤ (k : Int) + 1 := by omega
      have hk3 : (k : Int) + 1 < (L.length : Int) := by omega
      clear hx hy c1 c4 d2 d3
      subst e
      by_cases hj : y1 - x2 ≤ gap
      · have HR := Lib.hid (gap_step hlt hlt1 HX.out HY.out hj HE.out)
        have hk4 : IntKind.i64.wrap ((k : Int) + 1) = (k : Int) + 1 := IntWalk.i64_in _ (by omega)
        have hk5 : ((k : Int) + 1).toNat = k + 1 := by omega
        go_wp2_with fail
        go_quiet (fail)
        go_wp2_with fail
        go_region_held3 (fun w' => w'.cell? ⟨b, off + k * 2 + 1, none⟩ = some (.int .i64 x2) ∧ w'.cell? ⟨b, off + (k + 1) * 2, none⟩ = some (.int .i64 y1))
          (first | exact ⟨q1, q2⟩ | (refine ⟨cell_keep (W := wr) ?_ c2, cell_keep (W := wr) ?_ c3⟩ <;> (repeat (first | exact Below.refl _ _ | refine bel_drewN ?_ _ | refine bel_drew ?_ | refine bel_alloc ?_ _ | refine bel_set ?_ (by simp) _))))
          (first | (refine step_append rfl (.tmp 31) (.tmp 44) rfl A' c' D rfl (by exact ((HO.out.drewN _).drew).alloc _) _ x2 y1 rfl (by exact cell_new0 _ _ _ _) (by exact cell_new1 _ _ _ _) (by exact Nat.le_trans hDl (by decide)) (by exact bel_alloc (bel_drew (bel_drewN HB.out _)) _) ?_; intro A7 c7 w7 hown7 hbw7 hgr7; have q1 := cell_keep hbw7 D2.out; have q2 := cell_keep hbw7 D3.out; have HO7 := Lib.hid hown7; have HB7 := Lib.hid hbw7; clear hown7 hbw7 hgr7))
        clear hk4 hk5
        go_wp2_with fail
        go_roundw
        case rel => exact ⟨k + 1, A7, c7, D ++ [(x2, y1)], .inr (by omega), by go_num, by simp, HO7.out, HB7.out, HR.out⟩
        case measure => simp [intOf]; omega
      · have HR := Lib.hid (gap_skip hlt hlt1 HX.out HY.out hj HE.out)
        have hjb : decide (y1 - x2 ≤ gap) = false := by simpa using hj
        have hk4 : IntKind.i64.wrap ((k : Int) + 1) = (k : Int) + 1 := IntWalk.i64_in _ (by omega)
        have hk5 : ((k : Int) + 1).toNat = k + 1 := by omega
        go_wp2_with fail
        go_quiet (fail)
        clear hk4 hk5
        go_wp2_with fail
        go_roundw
        case rel => exact ⟨k + 1, A', c', D, .inr (by omega), by go_num, rfl, HO.out.drewN _, bel_drewN HB.out _, HR.out⟩
        case measure => simp [intOf]; omega
    · have HD := Lib.hid (gap_end hlt1 HE.out)
      have hOD := HO.out
      have HF := Lib.hid (rOf_any A' c' D wr (Own.sp HO.out) (by omega))
      rw [HD.out, ← HP.out] at HF
      clear hOD
      go_wp2_with fail
      rw [HD.out]
      refine HF.out.mono ?_
      rintro e w3 ⟨A3, c3, rfl, ho3, hb3⟩
      have HO3 := Lib.hid (ho3.base_le HB.out.size)
      have HB3 := Lib.hid (bel_chain hb3 HB.out)
      clear ho3 hb3 HF
      go_wp2_with fail
      go_ret
      exact RetSp.of HO3.out HB3.out

set_option maxHeartbeats 2000000 in
theorem rsame_any (A : Option Addr) (c : Nat) (L : List (Int × Int)) (B : Option Addr) (d : Nat) (M : List (Int × Int)) (w : World) (h : Sp w A c L) (h' : Sp w B d M) (hl : L.length ≤ 100000) (hl' : M.length ≤ 100000) :
    Calls Tryd.prog 28 #[.slice A L.length c, .slice B M.length d] w fun e w' => e = .returned (.bool (decide (cano L = cano M))) ∧ Below w.heap.size w w' := by
  have HO1 := Lib.hid (rOf_any A c L w h hl)
  have HO2 := fun W hW => Lib.hid (rOf_any B d M W hW hl')
  have hH' := Lib.hid h'
  have hcl := cano_length L
  have hcm := cano_length M
  clear h h'
  go_enter Tryd.func28, Tryd.ntmps28
  go_wp2_with fail
  refine HO1.out.mono ?_
  rintro e w1 ⟨A1, c1, rfl, ho1, hb1⟩
  have H1 := Lib.hid (Own.sp ho1)
  have HB1 := Lib.hid hb1
  clear ho1 hb1 HO1
  go_wp2_with fail
  refine (HO2 _ (hH'.out.below HB1.out)).out.mono ?_
  rintro e w2 ⟨A2, c2, rfl, ho2, hb2⟩
  have H2 := Lib.hid (Own.sp ho2)
  have H1' := Lib.hid (H1.out.below hb2)
  have HB2 := Lib.hid (bel_chain hb2 HB1.out)
  clear ho2 hb2 HO2 H1 HB1 hH'
  generalize hXX : cano L = X at *
  generalize hYY : cano M = Y at *
  have HXX := Lib.hid hXX
  have HYY := Lib.hid hYY
  clear hXX hYY
  by_cases hll : X.length = Y.length
  · have hbb : ((X.length : Int) != (Y.length : Int)) = false := by simp [hll]
    have hle : X.length ≤ Y.length := by omega
    have hge : Y.length ≤ X.length := by omega
    clear hll
    go_wp2_with fail
    clear hbb
    go_loopw [7] (fun i wr => ∃ k n : Nat, k ≤ X.length ∧ i = .int .i64 k ∧ X.take k = Y.take k ∧ wr = w2.drewN n) (fun i _ => X.length - (intOf i).toNat)
    case atStart => exact ⟨0, 0, Nat.zero_le _, rfl, by simp, rfl⟩
    case round =>
      obtain ⟨k, n, hk, rfl, hin, rfl⟩ := hrel
      have HI := Lib.hid hin
      clear hin
      by_cases hlt : k < X.length
      · have hlt' : k < Y.length := by omega
        obtain ⟨b, off, e, hb, c1, c2⟩ := H1'.out.at_ hlt
        obtain ⟨b', off', e', hb', c1', c2'⟩ := H2.out.at_ hlt'
        obtain ⟨⟨x1, x2⟩, hx⟩ : ∃ x, X[k] = x := ⟨_, rfl⟩
        obtain ⟨⟨y1, y2⟩, hy⟩ : ∃ x, Y[k] = x := ⟨_, rfl⟩
        rw [hx] at c1 c2
        rw [hy] at c1' c2'
        have HX := Lib.hid hx
        have HY := Lib.hid hy
        clear hx hy
        subst e
        subst e'
        by_cases exy : x1 = y1 ∧ x2 = y2
        · obtain ⟨rfl, rfl⟩ := exy
          go_wp2_with fail
          go_quiet (fail)
          go_wp2_with fail
          go_roundw
          case rel => exact ⟨k + 1, _, by omega, by go_num, take_eq_step hlt hlt' HI.out (by rw [HX.out, HY.out]), rfl⟩
          case measure => simp [intOf]; omega
        · have HE : Hid (X[k] ≠ Y[k]) := by
            simp only [Hid]; rw [HX.out, HY.out]; intro h; injection h with h1 h2; exact exy ⟨h1, h2⟩
          have exy' : x1 = y1 → (x2 == y2) = false := fun h => by simpa using fun h2 => exy ⟨h, h2⟩
          clear exy
          by_cases e1 : x1 = y1
          · have e2 := exy' e1
            subst e1
            clear exy'
            go_wp2_with fail
            go_quiet (fail)
            go_wp2_with fail
            go_ret
            exact ⟨ret_bool (by rw [HXX.out, HYY.out]; exact (ne_of_at hlt hlt' HE.out).symm), bel_drewN (bel_drewN HB2.out _) _⟩
          · have e2 : (x1 == y1) = false := by simpa using e1
            clear exy' e1
            go_wp2_with fail
            go_quiet (fail)
            go_wp2_with fail
            go_ret
            exact ⟨ret_bool (by rw [HXX.out, HYY.out]; exact (ne_of_at hlt hlt' HE.out).symm), bel_drewN (bel_drewN HB2.out _) _⟩
      · go_wp2
        go_ret
        refine ⟨ret_bool ?_, bel_drewN HB2.out _⟩
        have h1 := HI.out
        rw [List.take_of_length_le (by omega), List.take_of_length_le (by omega)] at h1
        rw [HXX.out, HYY.out]
        simp [h1]
  · have hbb : ((X.length : Int) != (Y.length : Int)) = true := by rw [bne_iff_ne]; omega
    have H : Hid (decide (X = Y) = false) := by
      simp only [Hid, decide_eq_false_iff_not]; rintro rfl; exact hll rfl
    clear hll
    go_wp2_with fail
    go_ret
    exact ⟨ret_bool (by rw [HXX.out, HYY.out, H.out]), HB2.out⟩
end Go.Proofs.YtfpfdgljhcpkpaaDoor
