/- Contract of the merge at folded spans: the great case, and all. -/
import Derived.Test.YtfpfdgljhcpkpaaDoorT8
import Derived.Deep.RegionHeld3
import Derived.IntWalk
namespace Go.Proofs.YtfpfdgljhcpkpaaDoor
open Go.RowKit Go.Shelf Go.Sort

set_option maxHeartbeats 8000000 in
set_option maxRecDepth 100000 in
theorem sym_gen {w0 w : World} {g c sz N : Nat} (IH : ∀ (w' : World) (P X Y S : List FE) (a m b : Nat), X.length + Y.length ≤ sz → RowAt w0 w' g c (P ++ X ++ Y ++ S) → SortF X → SortF Y → 0 < X.length → 0 < Y.length → P.length = a → a + X.length = m → m + Y.length = b → b + S.length = N → Calls Tryd.prog 126 #[.slice (some ⟨g, 0, none⟩) N c, .int .i64 a, .int .i64 m, .int .i64 b, .func (.func 57) #[] #[]] w' (SymPost w0 g c P X Y S))
    (P X Y S : List FE) (a m b : Nat) (hsz : X.length + Y.length ≤ sz + 1) (hR : RowAt w0 w g c (P ++ X ++ Y ++ S)) (hX : SortF X) (hY : SortF Y) (hX0 : 1 < X.length) (hY0 : 1 < Y.length) (ha : P.length = a) (hm : a + X.length = m) (hb : m + Y.length = b) (hN : b + S.length = N) (hl : N ≤ 1000000) :
    Calls Tryd.prog 126 #[.slice (some ⟨g, 0, none⟩) N c, .int .i64 a, .int .i64 m, .int .i64 b, .func (.func 57) #[] #[]] w (SymPost w0 g c P X Y S) := by
  have HR := Lib.hid hR
  have HIH := Lib.hid IH
  have e1 : (m : Int) - (a : Int) = (X.length : Int) := by omega
  have e1' : ((X.length : Int) == 1) = false := by rw [beq_eq_false_iff_ne]; omega
  have e2 : (b : Int) - (m : Int) = (Y.length : Int) := by omega
  have e2' : ((Y.length : Int) == 1) = false := by rw [beq_eq_false_iff_ne]; omega
  have hlN : (N : Int) ≤ 1000000 := by omega
  obtain ⟨mid, hmid⟩ : ∃ mid, (a + b) / 2 = mid := ⟨_, rfl⟩
  obtain ⟨n, hn⟩ : ∃ n, mid + m = n := ⟨_, rfl⟩
  have emid : ((a : Int) + (b : Int)) / 2 = (mid : Int) := by omega
  have en : (mid : Int) + (m : Int) = (n : Int) := by omega
  obtain ⟨p, hp⟩ : ∃ p, n - 1 = p := ⟨_, rfl⟩
  have ep : (n : Int) - 1 = (p : Int) := by omega
  have hnz : (n : Int) ≤ 2000000 := by omega
  have hmz : (mid : Int) ≤ 1000000 := by omega
  clear hR IH
  go_enter Tryd.func126, Tryd.ntmps126
  go_upto_if 140 with fail
  go_cut [20, 21] (fun ss sr wx => wx = w ∧ ∃ s r : Nat, ss = .int .i64 s ∧ sr = .int .i64 r ∧ a ≤ s ∧ s ≤ r ∧ r ≤ m ∧ r ≤ mid ∧ n ≤ s + b ∧ (s = a ∨ n = s + b) ∧ (r = m ∨ r = mid))
  case first =>
    by_cases h : mid < m
    · have h' : (mid : Int) < (m : Int) := by omega
      obtain ⟨s0, hs0⟩ : ∃ s0, n - b = s0 := ⟨_, rfl⟩
      have es0 : (n : Int) - (b : Int) = (s0 : Int) := by omega
      clear HR HIH
      go_wp2_with fail
      go_meet
      exact ⟨rfl, s0, mid, rfl, rfl, by omega, by omega, by omega, by omega, by omega, .inr (by omega), .inr rfl⟩
    · have h' : ¬ (mid : Int) < (m : Int) := by omega
      clear HR HIH
      go_wp2_with fail
      go_meet
      exact ⟨rfl, a, m, rfl, rfl, by omega, by omega, by omega, by omega, by omega, .inl rfl, .inl rfl⟩
  case rest =>
    obtain ⟨rfl, s0, r0, rfl, rfl, i1, i2, i3, i4, i5, i6, i7⟩ := hcut
    have HI6 := Lib.hid i6
    have HI7 := Lib.hid i7
    clear i6 i7
    go_wp2_with fail
    go_loopw [20, 21, 23] (fun ss sr _ wr => ∃ s r : Nat, ss = .int .i64 s ∧ sr = .int .i64 r ∧ a ≤ s ∧ s ≤ r ∧ r ≤ m ∧ r ≤ mid ∧ n ≤ s + b ∧ (s = a ∨ n = s + b ∨ ∀ x y, X[s - 1 - a]? = some x → Y[mid - s]? = some y → leF x y) ∧ (r = m ∨ r = mid ∨ ∀ x y, X[r - a]? = some x → Y[mid - 1 - r]? = some y → leF y x) ∧ RowAt w0 wr g c (P ++ X ++ Y ++ S)) (fun ss sr _ _ => (intOf sr).toNat - (intOf ss).toNat)
    case atStart => exact ⟨s0, r0, rfl, rfl, i1, i2, i3, i4, i5, HI6.out.elim .inl (fun h => .inr (.inl h)), HI7.out.elim .inl (fun h => .inr (.inl h)), HR.out⟩
    case round =>
      clear HR e1 e1' e2 e2' HI6 HI7 i1 i2 i3 i4 i5
      obtain ⟨s, r, rfl, rfl, has, hsr, hrm, hrmid, hsb, hlo, hhi, hr⟩ := hrel
      have HLO := Lib.hid hlo
      have HHI := Lib.hid hhi
      clear hlo hhi
      by_cases hlt : s < r
      · as_aux_lemma =>
          obtain ⟨h, hh⟩ : ∃ h, (s + r) / 2 = h := ⟨_, rfl⟩
          have eh : ((s : Int) + (r : Int)) / 2 = (h : Int) := by omega
          have hsh : s ≤ h ∧ h < r := by omega
          obtain ⟨q, hq⟩ : ∃ q, p - h = q := ⟨_, rfl⟩
          have eq1 : (p : Int) - (h : Int) = (q : Int) := by omega
          have hxb : h - a < X.length := by omega
          have hyb : mid - 1 - h < Y.length := by omega
          obtain ⟨x, hx⟩ : ∃ x, X[h - a]? = some x := ⟨_, List.getElem?_eq_getElem hxb⟩
          obtain ⟨y, hy⟩ : ∃ y, Y[mid - 1 - h]? = some y := ⟨_, List.getElem?_eq_getElem hyb⟩
          have hxM : (P ++ X ++ Y ++ S)[h]? = some x := by
            rw [List.getElem?_append_left (by simp; omega), List.getElem?_append_left (by simp; omega), List.getElem?_append_right (by omega), ha]
            exact hx
          have hyM : (P ++ X ++ Y ++ S)[q]? = some y := by
            rw [List.getElem?_append_left (by simp; omega), List.getElem?_append_right (by simp; omega), ← hy]
            congr 1; simp; omega
          obtain ⟨c1, c2, c3, f1, f2, f3⟩ := hr.facts hxM
          obtain ⟨d1, d2, d3, g1, g2, g3⟩ := hr.facts hyM
          have hz := hr.lt
          have HR2 := Lib.hid hr
          have HX := Lib.hid hx
          have HY := Lib.hid hy
          have hhN : (h : Int) < (N : Int) := by omega
          have hqN : (q : Int) < (N : Int) := by omega
          have hhz : (h : Int) ≤ 1000000 := by omega
          have hqz : (q : Int) ≤ 1000000 := by omega
          have hpz : (p : Int) ≤ 2000000 := by omega
          obtain ⟨⟨x1, x2⟩, xp⟩ := x
          obtain ⟨⟨y1, y2⟩, yp⟩ := y
          simp only at c1 c2 c3 d1 d2 d3
          clear hr hx hy hyM hxM hh hq
          have wq : IntKind.i64.wrap (q : Int) = (q : Int) := IntWalk.i64_in _ (by omega)
          by_cases hc : y1 < x1
          · as_aux_lemma =>
              have HC := fun W => Lib.hid (fold1_as y1 y2 yp x1 x2 xp true (by simpa using hc) W)
              go_wp2_with fail
              go_region_held3 (fun w' => w'.cell? ⟨g, q * 3, none⟩ = some (.int .i64 y1) ∧ w'.cell? ⟨g, q * 3 + 1, none⟩ = some (.int .i64 y2) ∧ w'.cell? ⟨g, q * 3 + 2, none⟩ = some (.int .i64 (yp : Int)) ∧ w'.cell? ⟨g, h * 3, none⟩ = some (.int .i64 x1) ∧ w'.cell? ⟨g, h * 3 + 1, none⟩ = some (.int .i64 x2) ∧ w'.cell? ⟨g, h * 3 + 2, none⟩ = some (.int .i64 (xp : Int)))
                (first | exact ⟨d1, d2, d3, c1, c2, c3⟩ | exact ⟨cell_keep hb1 d1, cell_keep hb1 d2, cell_keep hb1 d3, cell_keep hb1 c1, cell_keep hb1 c2, cell_keep hb1 c3⟩ | fail)
                ((first | (go_at_call 57; refine (HC _).out.mono ?_; rintro e w1 ⟨rr, rfl, hrt, hb1⟩)))
              all_goals
                clear wq
                have HR3 := Lib.hid (HR2.out.drew.below hb1)
                clear hb1
                go_wp2_with fail
                go_roundw
                case rel => exact ⟨s, h, rfl, by go_num, has, by omega, by omega, by omega, hsb, HLO.out, .inr (.inr fun x' y' hx' hy' => by have e := HX.out.symm.trans hx'; injection e with e; have e' := HY.out.symm.trans hy'; injection e' with e'; rw [← e, ← e']; exact Int.le_of_lt hc), HR3.out⟩
                case measure => simp [intOf]; omega
          · as_aux_lemma =>
              have HC := fun W => Lib.hid (fold1_as y1 y2 yp x1 x2 xp false (by simpa using hc) W)
              go_wp2_with fail
              go_region_held3 (fun w' => w'.cell? ⟨g, q * 3, none⟩ = some (.int .i64 y1) ∧ w'.cell? ⟨g, q * 3 + 1, none⟩ = some (.int .i64 y2) ∧ w'.cell? ⟨g, q * 3 + 2, none⟩ = some (.int .i64 (yp : Int)) ∧ w'.cell? ⟨g, h * 3, none⟩ = some (.int .i64 x1) ∧ w'.cell? ⟨g, h * 3 + 1, none⟩ = some (.int .i64 x2) ∧ w'.cell? ⟨g, h * 3 + 2, none⟩ = some (.int .i64 (xp : Int)))
                (first | exact ⟨d1, d2, d3, c1, c2, c3⟩ | exact ⟨cell_keep hb1 d1, cell_keep hb1 d2, cell_keep hb1 d3, cell_keep hb1 c1, cell_keep hb1 c2, cell_keep hb1 c3⟩ | fail)
                ((first | (go_at_call 57; refine (HC _).out.mono ?_; rintro e w1 ⟨rr, rfl, hrt, hb1⟩)))
              all_goals
                clear wq
                have HR3 := Lib.hid (HR2.out.drew.below hb1)
                clear hb1
                go_wp2_with fail
                go_roundw
                case rel => exact ⟨h + 1, r, by go_num, rfl, by omega, by omega, hrm, hrmid, by omega, .inr (.inr fun x' y' hx' hy' => by rw [show h + 1 - 1 - a = h - a from by omega] at hx'; rw [show mid - (h + 1) = mid - 1 - h from by omega] at hy'; have e := HX.out.symm.trans hx'; injection e with e; have e' := HY.out.symm.trans hy'; injection e' with e'; rw [← e, ← e']; first | exact hc | exact Int.not_lt.1 hc), HHI.out, HR3.out⟩
                case measure => simp [intOf]; omega
      · as_aux_lemma =>
          obtain rfl : s = r := by omega
          obtain ⟨X1, hX1⟩ : ∃ l, X.take (s - a) = l := ⟨_, rfl⟩
          obtain ⟨X2, hX2⟩ : ∃ l, X.drop (s - a) = l := ⟨_, rfl⟩
          obtain ⟨Y1, hY1⟩ : ∃ l, Y.take (mid - s) = l := ⟨_, rfl⟩
          obtain ⟨Y2, hY2⟩ : ∃ l, Y.drop (mid - s) = l := ⟨_, rfl⟩
          have eX : X1 ++ X2 = X := by rw [← hX1, ← hX2, List.take_append_drop]
          have eY : Y1 ++ Y2 = Y := by rw [← hY1, ← hY2, List.take_append_drop]
          have cr1 : ∀ x ∈ X1, ∀ y ∈ Y2, leF x y := by
            rw [← hX1, ← hY2]
            refine cross hX hY (by omega) fun h0 q1 q2 => ?_
            rcases HLO.out with hh | hh | hh
            · omega
            · omega
            · exact hh _ _ (by rw [show s - 1 - a = s - a - 1 from by omega]; exact List.getElem?_eq_getElem q1) (List.getElem?_eq_getElem q2)
          have cr2 : ∀ y ∈ Y1, ∀ x ∈ X2, leF y x := by
            rw [← hY1, ← hX2]
            refine cross hY hX (by omega) fun h0 q1 q2 => ?_
            rcases HHI.out with hh | hh | hh
            · omega
            · omega
            · exact hh _ _ (List.getElem?_eq_getElem q2) (by rw [show mid - 1 - s = mid - s - 1 from by omega]; exact List.getElem?_eq_getElem q1)
          have sX1 : SortF X1 := by rw [← hX1]; exact hX.take _
          have sX2 : SortF X2 := by rw [← hX2]; exact hX.drop _
          have sY1 : SortF Y1 := by rw [← hY1]; exact hY.take _
          have sY2 : SortF Y2 := by rw [← hY2]; exact hY.drop _
          have lX1 : X1.length = s - a := by rw [← hX1]; simp; omega
          have lX2 : X2.length = m - s := by rw [← hX2]; simp; omega
          have lY1 : Y1.length = mid - s := by rw [← hY1]; simp; omega
          have lY2 : Y2.length = b - (n - s) := by rw [← hY2]; simp; omega
          obtain ⟨en2, hen2⟩ : ∃ e, n - s = e := ⟨_, rfl⟩
          have een : (n : Int) - (s : Int) = (en2 : Int) := by omega
          have hsz' : (s : Int) ≤ 1000000 := by omega
          have hez : (en2 : Int) ≤ 1000000 := by omega
          have hr' : RowAt w0 wr g c (P ++ X1 ++ X2 ++ Y1 ++ (Y2 ++ S)) := hr.cast (by rw [← eX, ← eY]; simp only [List.append_assoc])
          have HSX : Hid (SortF (X1 ++ X2)) := by simp only [Hid]; rw [eX]; exact hX
          have HSY : Hid (SortF (Y1 ++ Y2)) := by simp only [Hid]; rw [eY]; exact hY
          have HC1 := Lib.hid cr1
          have HC2 := Lib.hid cr2
          have HPF : Hid (∀ Z : List FE, Z.Perm ((X1 ++ X2) ++ (Y1 ++ Y2)) → Z.Perm (X ++ Y)) := by simp only [Hid]; intro Z hZ; rw [eX, eY] at hZ; exact hZ
          have HS1 := Lib.hid sX1
          have HS2 := Lib.hid sX2
          have HS3 := Lib.hid sY1
          have HS4 := Lib.hid sY2
          have HRR := Lib.hid hr'
          rw [hen2] at lY2
          have he1 : s ≤ en2 := by omega
          have he2 : mid ≤ en2 := by omega
          have he3 : en2 ≤ b := by omega
          have he4 : en2 + s = mid + m := by omega
          clear hen2
          have hab : mid - a ≤ sz ∧ b - mid ≤ sz := by omega
          clear hr hr' cr1 cr2 sX1 sX2 sY1 sY2 hX1 hX2 hY1 hY2 eX eY HLO HHI hX hY
          go_upto_region 39 with fail
          go_cut [185] (fun s185 wx => s185 = .bool (decide (s < m ∧ m < en2)) ∧ wx = wr)
          case first =>
            by_cases h1 : s < m
            · have t1 : (s : Int) < (m : Int) := by omega
              by_cases h2 : m < en2
              · have t2 : (m : Int) < (en2 : Int) := by omega
                go_wp2_with fail
                go_meet
                exact ⟨by simp [h1, h2], rfl⟩
              · have t2 : ¬ (m : Int) < (en2 : Int) := by omega
                go_wp2_with fail
                go_meet
                exact ⟨by simp [h2], rfl⟩
            · have t1 : ¬ (s : Int) < (m : Int) := by omega
              go_wp2_with fail
              go_meet
              exact ⟨by simp [h1], rfl⟩
          case rest =>
          obtain ⟨rfl, rfl⟩ := hcut
          obtain ⟨bt, hbt⟩ : ∃ bt, decide (s < m ∧ m < en2) = bt := ⟨_, rfl⟩
          rw [hbt]
          go_upto_if 185 with fail
          go_cut [] (fun wx => RowAt w0 wx g c (P ++ X1 ++ Y1 ++ X2 ++ Y2 ++ S))
          case first =>
            cases bt
            · have hrot : ¬ (s < m ∧ m < en2) := by simpa using hbt
              have HC : Hid (RowAt w0 wc g c (P ++ X1 ++ Y1 ++ X2 ++ Y2 ++ S)) := HRR.out.cast (by
                have : X2 = [] ∨ Y1 = [] := by
                  by_cases h1 : s < m
                  · exact .inr (List.eq_nil_of_length_eq_zero (by omega))
                  · exact .inl (List.eq_nil_of_length_eq_zero (by omega))
                rcases this with e | e <;> rw [e] <;> simp)
              go_wp2_with fail
              go_meet
              exact HC.out
            · as_aux_lemma =>
                have hrot : s < m ∧ m < en2 := by simpa using hbt
                have HC := Lib.hid (rotate_any (P ++ X1) X2 Y1 (Y2 ++ S) s m en2 N (.func (.func 57) #[] #[]) HRR.out (by omega) (by omega) (by simp; omega) (by simp; omega) (by simp; omega) (by simp; omega) hl)
                go_wp2_with fail
                refine HC.out.mono ?_
                rintro e w1 ⟨rfl, hr1⟩
                go_wp2_with fail
                go_meet
                exact hr1.cast (by simp only [List.append_assoc])
          case rest =>
            have HR5 := Lib.hid hcut
            clear hcut HRR
            go_upto_region 41 with fail
            obtain ⟨w5, rfl⟩ : ∃ w5 : World, w5 = wc := ⟨_, rfl⟩
            go_cut [199] (fun s199 wx => s199 = .bool (decide (a < s ∧ s < mid)) ∧ wx = w5)
            case first =>
              by_cases h1 : a < s
              · have t1 : (a : Int) < (s : Int) := by omega
                by_cases h2 : s < mid
                · have t2 : (s : Int) < (mid : Int) := by omega
                  go_wp2_with fail
                  go_meet
                  exact ⟨by simp [h1, h2], rfl⟩
                · have t2 : ¬ (s : Int) < (mid : Int) := by omega
                  go_wp2_with fail
                  go_meet
                  exact ⟨by simp [h2], rfl⟩
              · have t1 : ¬ (a : Int) < (s : Int) := by omega
                go_wp2_with fail
                go_meet
                exact ⟨by simp [h1], rfl⟩
            case rest =>
            obtain ⟨rfl, rfl⟩ := hcut
            obtain ⟨bu, hbu⟩ : ∃ bu, decide (a < s ∧ s < mid) = bu := ⟨_, rfl⟩
            rw [hbu]
            go_upto_if 199 with fail
            go_cut [] (fun wx => ∃ Z1, Z1.Perm (X1 ++ Y1) ∧ SortF Z1 ∧ RowAt w0 wx g c (P ++ Z1 ++ X2 ++ Y2 ++ S))
            case first =>
              cases bu
              · have hgo : ¬ (a < s ∧ s < mid) := by simpa using hbu
                have HC : Hid (SortF (X1 ++ Y1)) := by
                  have : X1 = [] ∨ Y1 = [] := by
                    by_cases h1 : a < s
                    · exact .inr (List.eq_nil_of_length_eq_zero (by omega))
                    · exact .inl (List.eq_nil_of_length_eq_zero (by omega))
                  rcases this with e | e
                  · simp only [Hid]; rw [e]; exact HS3.out
                  · simp only [Hid]; rw [e, List.append_nil]; exact HS1.out
                go_wp2_with fail
                go_meet
                exact ⟨X1 ++ Y1, List.Perm.refl _, HC.out, HR5.out.cast (by simp only [List.append_assoc])⟩
              · as_aux_lemma =>
                  have hgo : a < s ∧ s < mid := by simpa using hbu
                  have HC := Lib.hid (HIH.out _ P X1 Y1 (X2 ++ Y2 ++ S) a s mid (by omega) (HR5.out.cast (by simp only [List.append_assoc])) HS1.out HS3.out (by omega) (by omega) ha (by omega) (by omega) (by simp; omega))
                  go_wp2_with fail
                  refine HC.out.mono ?_
                  rintro e w1 ⟨rfl, Z1, z1, z2, hr1⟩
                  go_wp2_with fail
                  go_meet
                  exact ⟨Z1, z1, z2, hr1.cast (by simp only [List.append_assoc])⟩
            case rest =>
              clear HR5
              obtain ⟨Z1, z1, z2, hr6⟩ := hcut
              have HR6 := Lib.hid hr6
              have lZ1 : Z1.length = X1.length + Y1.length := by rw [z1.length_eq]; simp
              have HZ1 := Lib.hid z1
              have HZ2 := Lib.hid z2
              have HFIN : Hid (∀ Z2 : List FE, Z2.Perm (X2 ++ Y2) → SortF Z2 → (Z1 ++ Z2).Perm (X ++ Y) ∧ SortF (Z1 ++ Z2)) := fun Z2 q1 q2 => ⟨HPF.out _ (merge_perm HZ1.out q1), merge_sorted HSX.out HSY.out HC1.out HC2.out HZ1.out q1 HZ2.out q2⟩
              clear hr6 z1 z2
              by_cases hgo : mid < en2 ∧ en2 < b
              · as_aux_lemma =>
                  have t1 : (mid : Int) < (en2 : Int) := by omega
                  have t2 : (en2 : Int) < (b : Int) := by omega
                  have HC := Lib.hid (HIH.out _ (P ++ Z1) X2 Y2 S mid en2 b (by omega) (HR6.out.cast (by simp only [List.append_assoc])) HS2.out HS4.out (by omega) (by omega) (by simp; omega) (by omega) (by omega) (by omega))
                  go_wp2_with fail
                  refine HC.out.mono ?_
                  rintro e w1 ⟨rfl, Z2, q1, q2, hr1⟩
                  obtain ⟨f1, f2⟩ := HFIN.out Z2 q1 q2
                  go_wp2_with fail
                  refine bodyPost_end (v := .tuple #[]) (by simp [results, Tryd.results126, go_sem]) rfl ?_
                  exact ⟨rfl, Z1 ++ Z2, f1, f2, hr1.cast (by simp only [List.append_assoc])⟩
              · have HC : Hid (SortF (X2 ++ Y2)) := by
                  have : X2 = [] ∨ Y2 = [] := by
                    by_cases h1 : mid < en2
                    · exact .inr (List.eq_nil_of_length_eq_zero (by omega))
                    · exact .inl (List.eq_nil_of_length_eq_zero (by omega))
                  rcases this with e | e
                  · simp only [Hid]; rw [e]; exact HS4.out
                  · simp only [Hid]; rw [e, List.append_nil]; exact HS2.out
                obtain ⟨f1, f2⟩ := HFIN.out _ (List.Perm.refl _) HC.out
                by_cases h1 : mid < en2
                · have t1 : (mid : Int) < (en2 : Int) := by omega
                  have t2 : ¬ (en2 : Int) < (b : Int) := by omega
                  go_wp2_with fail
                  refine bodyPost_end (v := .tuple #[]) (by simp [results, Tryd.results126, go_sem]) rfl ?_
                  exact ⟨rfl, _, f1, f2, HR6.out.cast (by simp only [List.append_assoc])⟩
                · have t1 : ¬ (mid : Int) < (en2 : Int) := by omega
                  go_wp2_with fail
                  refine bodyPost_end (v := .tuple #[]) (by simp [results, Tryd.results126, go_sem]) rfl ?_
                  exact ⟨rfl, _, f1, f2, HR6.out.cast (by simp only [List.append_assoc])⟩
theorem sym_all {w0 : World} {g c N : Nat} (hl : N ≤ 1000000) : ∀ (sz : Nat) (w : World) (P X Y S : List FE) (a m b : Nat), X.length + Y.length ≤ sz → RowAt w0 w g c (P ++ X ++ Y ++ S) → SortF X → SortF Y → 0 < X.length → 0 < Y.length → P.length = a → a + X.length = m → m + Y.length = b → b + S.length = N → Calls Tryd.prog 126 #[.slice (some ⟨g, 0, none⟩) N c, .int .i64 a, .int .i64 m, .int .i64 b, .func (.func 57) #[] #[]] w (SymPost w0 g c P X Y S) := by
  intro sz
  induction sz with
  | zero => intro w P X Y S a m b h; omega
  | succ sz ih =>
    intro w P X Y S a m b hsz hR hX hY hX0 hY0 ha hm hb hN
    by_cases h1 : X.length = 1
    · obtain ⟨x, rfl⟩ := List.length_eq_one_iff.1 h1
      exact sym_first P x Y S a m b N hR hY hY0 ha hm hb hN hl
    · by_cases h2 : Y.length = 1
      · obtain ⟨y, rfl⟩ := List.length_eq_one_iff.1 h2
        exact sym_last P X y S a m b N hR hX (by omega) ha hm hb hN hl
      · exact sym_gen ih P X Y S a m b hsz hR hX hY (by omega) (by omega) ha hm hb hN hl
end Go.Proofs.YtfpfdgljhcpkpaaDoor
