/- Contract of the merge at folded spans: symMerge. -/
import Derived.Test.YtfpfdgljhcpkpaaDoorT7
namespace Go.Proofs.YtfpfdgljhcpkpaaDoor
open Go.RowKit Go.Shelf Go.Sort

theorem cf_lt (x y : FE) : decide (cfF x y < 0) = decide (x.1.1 < y.1.1) := by unfold cfF; exact cmp_lt _ _
theorem fold1_as (x1 x2 : Int) (xp : Nat) (y1 y2 : Int) (yp : Nat) (t : Bool) (h : decide (x1 < y1) = t) (W : World) : Calls Tryd.prog 57 #[.agg #[.int .i64 x1, .int .i64 x2, .int .i64 (xp : Int)], .agg #[.int .i64 y1, .int .i64 y2, .int .i64 (yp : Int)]] W fun e w' => ∃ r, e = .returned (.int .i64 r) ∧ decide (r < 0) = t ∧ Below W.heap.size W w' := by
  refine Calls.mono (fold1_any ((x1, x2), xp) ((y1, y2), yp) W) ?_
  rintro e w' ⟨rfl, q, os, rfl⟩
  exact ⟨_, rfl, by rw [cf_lt]; exact h, below_growN W q os⟩
/-- What a merge leaves. -/
def SymPost (w0 : World) (g c : Nat) (P X Y S : List FE) (e : Ending) (w' : World) : Prop := e = .returned (.tuple #[]) ∧ ∃ Z, Z.Perm (X ++ Y) ∧ SortF Z ∧ RowAt w0 w' g c (P ++ Z ++ S)
theorem swap_two' {L1 L2 L3 : List FE} {x y : FE} {i j : Nat} (hi : L1.length = i) (hj : L1.length + 1 + L2.length = j) : ((L1 ++ x :: (L2 ++ y :: L3)).set j x).set i y = L1 ++ y :: (L2 ++ x :: L3) := by
  rw [List.set_comm _ _ (by omega)]; exact swap_two hi hj
/-- The one element on its way through the others. -/
def along (P Y S : List FE) (x : FE) (d : Nat) : List FE := P ++ Y.take d ++ x :: (Y.drop d ++ S)
theorem along_up {P Y S : List FE} {x : FE} {d : Nat} (hd : d < Y.length) : along P Y S x d = (P ++ Y.take d) ++ x :: ([] ++ Y[d] :: (Y.drop (d + 1) ++ S)) := by
  unfold along; rw [List.drop_eq_getElem_cons hd]; simp only [List.append_assoc, List.cons_append, List.nil_append]
theorem along_up' {P Y S : List FE} {x : FE} {d : Nat} (hd : d < Y.length) : (P ++ Y.take d) ++ Y[d] :: ([] ++ x :: (Y.drop (d + 1) ++ S)) = along P Y S x (d + 1) := by
  unfold along; rw [List.take_succ_eq_append_getElem hd]; simp only [List.append_assoc, List.cons_append, List.nil_append]
theorem along_mid {P Y S : List FE} {x : FE} {d : Nat} : along P Y S x d = P ++ (Y.take d ++ x :: Y.drop d) ++ S := by unfold along; simp only [List.append_assoc, List.cons_append]
theorem along_perm {Y : List FE} {x : FE} {d : Nat} : (Y.take d ++ x :: Y.drop d).Perm (x :: Y) := by
  have h := List.perm_middle (a := x) (l₁ := Y.take d) (l₂ := Y.drop d)
  rwa [List.take_append_drop] at h
theorem along_sorted {Y : List FE} {x : FE} {d : Nat} (hY : SortF Y) (hd : d ≤ Y.length) (h1 : ∀ y, Y[d - 1]? = some y → 0 < d → leF y x) (h2 : ∀ y, Y[d]? = some y → leF x y) : SortF (Y.take d ++ x :: Y.drop d) := by
  refine insert_sorted (by rw [List.take_append_drop]; exact hY) (below_all hY hd fun h0 => h1 _ (List.getElem?_eq_getElem (by omega)) h0) (above_all hY fun hk => h2 _ (List.getElem?_eq_getElem hk))
set_option maxHeartbeats 8000000 in
set_option maxRecDepth 100000 in
theorem sym_first {w0 w : World} {g c : Nat} (P : List FE) (x : FE) (Y S : List FE) (a m b N : Nat) (hR : RowAt w0 w g c (P ++ [x] ++ Y ++ S)) (hY : SortF Y) (hY0 : 0 < Y.length) (ha : P.length = a) (hm : a + 1 = m) (hb : m + Y.length = b) (hN : b + S.length = N) (hl : N ≤ 1000000) :
    Calls Tryd.prog 126 #[.slice (some ⟨g, 0, none⟩) N c, .int .i64 a, .int .i64 m, .int .i64 b, .func (.func 57) #[] #[]] w (SymPost w0 g c P [x] Y S) := by
  have HR := Lib.hid hR
  have e1 : (m : Int) - (a : Int) = 1 := by omega
  have hlN : (N : Int) ≤ 1000000 := by omega
  clear hR
  go_enter Tryd.func126, Tryd.ntmps126
  go_wp2_with fail
  go_loopw [10, 11, 12] (fun si sj _ wr => ∃ i j : Nat, si = .int .i64 i ∧ sj = .int .i64 j ∧ m ≤ i ∧ i ≤ j ∧ j ≤ b ∧ (∀ y, Y[i - 1 - m]? = some y → m < i → leF y x) ∧ (∀ y, Y[j - m]? = some y → leF x y) ∧ RowAt w0 wr g c (P ++ [x] ++ Y ++ S)) (fun si sj _ _ => (intOf sj).toNat - (intOf si).toNat)
  case atStart => exact ⟨m, b, rfl, rfl, Nat.le_refl _, by omega, Nat.le_refl _, by omega, (fun y hy => by rw [List.getElem?_eq_none (by omega)] at hy; cases hy), HR.out⟩
  case round =>
    clear HR
    obtain ⟨i, j, rfl, rfl, hmi, hij, hjb, hlo, hhi, hr⟩ := hrel
    have HLO := Lib.hid hlo
    have HHI := Lib.hid hhi
    clear hlo hhi
    by_cases hlt : i < j
    · obtain ⟨h, hh⟩ : ∃ h, (i + j) / 2 = h := ⟨_, rfl⟩
      have eh : ((i : Int) + (j : Int)) / 2 = (h : Int) := by omega
      have hhb : h - m < Y.length := by omega
      obtain ⟨y, hy⟩ : ∃ y, Y[h - m]? = some y := ⟨_, List.getElem?_eq_getElem hhb⟩
      have hyM : (P ++ [x] ++ Y ++ S)[h]? = some y := by
        rw [List.getElem?_append_left (by simp; omega), List.getElem?_append_right (by simp; omega)]
        rw [← hy]; congr 1; simp; omega
      have hxM : (P ++ [x] ++ Y ++ S)[a]? = some x := by rw [List.append_assoc, List.append_assoc]; exact at_first ha
      obtain ⟨c1, c2, c3, f1, f2, f3⟩ := hr.facts hyM
      obtain ⟨d1, d2, d3, g1, g2, g3⟩ := hr.facts hxM
      have hz := hr.lt
      have HR2 := Lib.hid hr
      have HY := Lib.hid hy
      have hhN : (h : Int) < (N : Int) := by omega
      have haN : (a : Int) < (N : Int) := by omega
      have hih : i ≤ h ∧ h < j := by omega
      have hhz : (h : Int) ≤ 1000000 := by omega
      obtain ⟨⟨x1, x2⟩, xp⟩ := x
      obtain ⟨⟨y1, y2⟩, yp⟩ := y
      simp only at c1 c2 c3 d1 d2 d3
      clear hr hy hyM hxM hh
      by_cases hc : y1 < x1
      · have HC := fun W => Lib.hid (fold1_as y1 y2 yp x1 x2 xp true (by simpa using hc) W)
        go_wp2_with fail
        go_region_with (go_at_call 57; refine (HC _).out.mono ?_; rintro e w1 ⟨r, rfl, hrt, hb1⟩)
        all_goals
          have HR3 := Lib.hid (HR2.out.drew.below hb1)
          clear hb1
          go_wp2_with fail
          go_roundw
          case rel => exact ⟨h + 1, j, by go_num, rfl, by omega, by omega, hjb, (fun y' hy' _ => by have e := HY.out.symm.trans (by simpa using hy'); injection e with e; rw [← e]; exact Int.le_of_lt hc), HHI.out, HR3.out⟩
          case measure => simp [intOf]; omega
      · have HC := fun W => Lib.hid (fold1_as y1 y2 yp x1 x2 xp false (by simpa using hc) W)
        go_wp2_with fail
        go_region_with (go_at_call 57; refine (HC _).out.mono ?_; rintro e w1 ⟨r, rfl, hrt, hb1⟩)
        all_goals
          have HR3 := Lib.hid (HR2.out.drew.below hb1)
          clear hb1
          go_wp2_with fail
          go_roundw
          case rel => exact ⟨i, h, rfl, by go_num, hmi, by omega, by omega, HLO.out, (fun y' hy' => by have e := HY.out.symm.trans hy'; injection e with e; rw [← e]; first | exact hc | exact Int.not_lt.1 hc), HR3.out⟩
          case measure => simp [intOf]; omega
    · obtain rfl : i = j := by omega
      have ei : (i : Int) - 1 = ((i - 1 : Nat) : Int) := by omega
      obtain ⟨t, ht⟩ : ∃ t, i - 1 = t := ⟨_, rfl⟩
      rw [ht] at ei
      have HR2 : Hid (RowAt w0 wr g c (along P Y S x 0)) := hr.cast (by unfold along; simp)
      have HS : Hid (SortF (Y.take (t - a) ++ x :: Y.drop (t - a))) := along_sorted hY (by omega) (fun y hy h0 => HLO.out y (by rw [← hy]; congr 1; omega) (by omega)) (fun y hy => HHI.out y (by rw [← hy]; congr 1; omega))
      have hta : a ≤ t ∧ t - a ≤ Y.length := by omega
      have htz : (t : Int) ≤ 1000000 := by omega
      clear HLO HHI hr hlt hij
      go_wp2_with fail
      go_loopw [13] (fun sk wr => ∃ k : Nat, sk = .int .i64 k ∧ a ≤ k ∧ k ≤ t ∧ RowAt w0 wr g c (along P Y S x (k - a))) (fun sk _ => t - (intOf sk).toNat)
      case atStart => exact ⟨a, rfl, Nat.le_refl _, hta.1, by rw [Nat.sub_self]; exact HR2.out⟩
      case round =>
        clear HR2
        obtain ⟨k, rfl, hak, hkt, hr⟩ := hrel
        by_cases hlt : k < t
        · have hd : k - a < Y.length := by omega
          rw [along_up hd] at hr
          have HNX := Lib.hid (along_up' (P := P) (S := S) (x := x) hd)
          obtain ⟨q, hq⟩ : ∃ q, k + 1 = q := ⟨_, rfl⟩
          have l1 : (P ++ Y.take (k - a)).length = k := by simp; omega
          have l2 : (P ++ Y.take (k - a)).length + 1 + ([] : List FE).length = q := by rw [l1]; simp; omega
          obtain ⟨y, hy⟩ : ∃ y, Y[k - a] = y := ⟨_, rfl⟩
          rw [hy] at hr HNX
          obtain ⟨c1, c2, c3, f1, f2, f3⟩ := hr.facts (at_first l1)
          obtain ⟨d1, d2, d3, g1, g2, g3⟩ := hr.facts (at_second l2)
          have HR3 := Lib.hid hr
          have HW := Lib.hid (swap_two (x := x) (y := y) (L3 := Y.drop (k - a + 1) ++ S) l1 l2)
          have hz := hr.lt
          have eq1 : (k : Int) + 1 = (q : Int) := by omega
          have hqN : (q : Int) < (N : Int) := by omega
          have hkN : (k : Int) < (N : Int) := by omega
          have hpq : k < q := by omega
          have EK : Hid (k + 1 - a = k - a + 1) := by simp only [Hid]; omega
          clear hy hr l1 l2 hd
          go_wp2_with fail
          go_region
          all_goals
            go_wp2_with fail
            go_roundw
            case rel =>
              refine ⟨k + 1, by go_num, by omega, by omega, ?_⟩
              rw [EK.out, ← HNX.out, ← HW.out]
              exact ((HR3.out.put k y).put q x).drew
            case measure => simp [intOf]; omega
        · obtain rfl : k = t := by omega
          have HR3 := Lib.hid hr
          clear hr
          go_wp2_with fail
          refine bodyPost_ret (by simp [results, Tryd.results126, go_sem]; try rfl) rfl ?_
          exact ⟨rfl, _, along_perm, HS.out, HR3.out.cast along_mid⟩
theorem along_down {P X S : List FE} {y : FE} {d : Nat} (hd : d < X.length) : along P X S y (d + 1) = (P ++ X.take d) ++ X[d] :: ([] ++ y :: (X.drop (d + 1) ++ S)) := (along_up' hd).symm
theorem along_down' {P X S : List FE} {y : FE} {d : Nat} (hd : d < X.length) : (P ++ X.take d) ++ y :: ([] ++ X[d] :: (X.drop (d + 1) ++ S)) = along P X S y d := (along_up hd).symm
set_option maxHeartbeats 8000000 in
set_option maxRecDepth 100000 in
theorem sym_last {w0 w : World} {g c : Nat} (P X : List FE) (y : FE) (S : List FE) (a m b N : Nat) (hR : RowAt w0 w g c (P ++ X ++ [y] ++ S)) (hX : SortF X) (hX0 : 1 < X.length) (ha : P.length = a) (hm : a + X.length = m) (hb : m + 1 = b) (hN : b + S.length = N) (hl : N ≤ 1000000) :
    Calls Tryd.prog 126 #[.slice (some ⟨g, 0, none⟩) N c, .int .i64 a, .int .i64 m, .int .i64 b, .func (.func 57) #[] #[]] w (SymPost w0 g c P X [y] S) := by
  have HR := Lib.hid hR
  have e1 : (m : Int) - (a : Int) = (X.length : Int) := by omega
  have e1' : ((X.length : Int) == 1) = false := by rw [beq_eq_false_iff_ne]; omega
  have e2 : (b : Int) - (m : Int) = 1 := by omega
  have hlN : (N : Int) ≤ 1000000 := by omega
  clear hR
  go_enter Tryd.func126, Tryd.ntmps126
  go_wp2_with fail
  go_loopw [14, 15, 16] (fun si sj _ wr => ∃ i j : Nat, si = .int .i64 i ∧ sj = .int .i64 j ∧ a ≤ i ∧ i ≤ j ∧ j ≤ m ∧ (∀ x, X[i - 1 - a]? = some x → a < i → leF x y) ∧ (∀ x, X[j - a]? = some x → leF y x) ∧ RowAt w0 wr g c (P ++ X ++ [y] ++ S)) (fun si sj _ _ => (intOf sj).toNat - (intOf si).toNat)
  case atStart => exact ⟨a, m, rfl, rfl, Nat.le_refl _, by omega, Nat.le_refl _, by omega, (fun y hy => by rw [List.getElem?_eq_none (by omega)] at hy; cases hy), HR.out⟩
  case round =>
    clear HR e1 e1' e2
    obtain ⟨i, j, rfl, rfl, hmi, hij, hjb, hlo, hhi, hr⟩ := hrel
    have HLO := Lib.hid hlo
    have HHI := Lib.hid hhi
    clear hlo hhi
    by_cases hlt : i < j
    · obtain ⟨h, hh⟩ : ∃ h, (i + j) / 2 = h := ⟨_, rfl⟩
      have eh : ((i : Int) + (j : Int)) / 2 = (h : Int) := by omega
      have hhb : h - a < X.length := by omega
      obtain ⟨x, hx⟩ : ∃ x, X[h - a]? = some x := ⟨_, List.getElem?_eq_getElem hhb⟩
      have hxM : (P ++ X ++ [y] ++ S)[h]? = some x := by
        rw [List.getElem?_append_left (by simp; omega), List.getElem?_append_left (by simp; omega), List.getElem?_append_right (by omega), ha]
        exact hx
      have hyM : (P ++ X ++ [y] ++ S)[m]? = some y := by rw [List.append_assoc]; exact at_first (by simp; omega)
      obtain ⟨c1, c2, c3, f1, f2, f3⟩ := hr.facts hxM
      obtain ⟨d1, d2, d3, g1, g2, g3⟩ := hr.facts hyM
      have hz := hr.lt
      have HR2 := Lib.hid hr
      have HX := Lib.hid hx
      have hhN : (h : Int) < (N : Int) := by omega
      have hmN : (m : Int) < (N : Int) := by omega
      have hih : i ≤ h ∧ h < j := by omega
      have hhz : (h : Int) ≤ 1000000 := by omega
      obtain ⟨⟨x1, x2⟩, xp⟩ := x
      obtain ⟨⟨y1, y2⟩, yp⟩ := y
      simp only at c1 c2 c3 d1 d2 d3
      clear hr hx hyM hxM hh
      by_cases hc : y1 < x1
      · have HC := fun W => Lib.hid (fold1_as y1 y2 yp x1 x2 xp true (by simpa using hc) W)
        go_wp2_with fail
        go_region_with (go_at_call 57; refine (HC _).out.mono ?_; rintro e w1 ⟨r, rfl, hrt, hb1⟩)
        all_goals
          have HR3 := Lib.hid (HR2.out.drew.below hb1)
          clear hb1
          go_wp2_with fail
          go_roundw
          case rel => exact ⟨i, h, rfl, by go_num, hmi, by omega, by omega, HLO.out, (fun y' hy' => by have e := HX.out.symm.trans hy'; injection e with e; rw [← e]; exact Int.le_of_lt hc), HR3.out⟩
          case measure => simp [intOf]; omega
      · have HC := fun W => Lib.hid (fold1_as y1 y2 yp x1 x2 xp false (by simpa using hc) W)
        go_wp2_with fail
        go_region_with (go_at_call 57; refine (HC _).out.mono ?_; rintro e w1 ⟨r, rfl, hrt, hb1⟩)
        all_goals
          have HR3 := Lib.hid (HR2.out.drew.below hb1)
          clear hb1
          go_wp2_with fail
          go_roundw
          case rel => exact ⟨h + 1, j, by go_num, rfl, by omega, by omega, hjb, (fun y' hy' _ => by have e := HX.out.symm.trans (by simpa using hy'); injection e with e; rw [← e]; first | exact hc | exact Int.not_lt.1 hc), HHI.out, HR3.out⟩
          case measure => simp [intOf]; omega
    · obtain rfl : i = j := by omega
      have HR2 : Hid (RowAt w0 wr g c (along P X S y (m - a))) := hr.cast (by unfold along; rw [List.take_of_length_le (by omega), List.drop_of_length_le (by omega)]; simp)
      have HS : Hid (SortF (X.take (i - a) ++ y :: X.drop (i - a))) := along_sorted hX (by omega) (fun x hx h0 => HLO.out x (by rw [← hx]; congr 1; omega) (by omega)) (fun x hx => HHI.out x hx)
      have hia : i - a ≤ X.length := by omega
      have hiz : (i : Int) ≤ 1000000 := by omega
      clear HLO HHI hr hlt hij
      go_wp2_with fail
      go_loopw [17] (fun sk wr => ∃ k : Nat, sk = .int .i64 k ∧ i ≤ k ∧ k ≤ m ∧ RowAt w0 wr g c (along P X S y (k - a))) (fun sk _ => (intOf sk).toNat)
      case atStart => exact ⟨m, rfl, by omega, Nat.le_refl _, HR2.out⟩
      case round =>
        clear HR2
        obtain ⟨k, rfl, hik, hkm, hr⟩ := hrel
        by_cases hlt : i < k
        · obtain ⟨q, hq⟩ : ∃ q, k - 1 = q := ⟨_, rfl⟩
          have hd : q - a < X.length := by omega
          have ek : k - a = q - a + 1 := by omega
          rw [ek, along_down hd] at hr
          have HNX := Lib.hid (along_down' (P := P) (S := S) (y := y) hd)
          have l1 : (P ++ X.take (q - a)).length = q := by simp; omega
          have l2 : (P ++ X.take (q - a)).length + 1 + ([] : List FE).length = k := by rw [l1]; simp; omega
          obtain ⟨x, hx⟩ : ∃ x, X[q - a] = x := ⟨_, rfl⟩
          rw [hx] at hr HNX
          obtain ⟨c1, c2, c3, f1, f2, f3⟩ := hr.facts (at_first l1)
          obtain ⟨d1, d2, d3, g1, g2, g3⟩ := hr.facts (at_second l2)
          have HR3 := Lib.hid hr
          have HW := Lib.hid (swap_two' (x := x) (y := y) (L3 := X.drop (q - a + 1) ++ S) l1 l2)
          have hz := hr.lt
          have eq1 : (k : Int) - 1 = (q : Int) := by omega
          have hqN : (q : Int) < (N : Int) := by omega
          have hkN : (k : Int) < (N : Int) := by omega
          have hpq : q < k := by omega
          have hkz : (k : Int) ≤ 1000000 := by omega
          clear hx hr l1 l2 hd ek
          go_wp2_with fail
          go_region
          all_goals
            go_wp2_with fail
            go_roundw
            case rel =>
              refine ⟨q, by go_num, by omega, by omega, ?_⟩
              rw [← HNX.out, ← HW.out]
              exact ((HR3.out.put k x).put q y).drew
            case measure => simp [intOf]; omega
        · obtain rfl : k = i := by omega
          have HR3 := Lib.hid hr
          clear hr
          go_wp2_with fail
          refine bodyPost_ret (by simp [results, Tryd.results126, go_sem]; try rfl) rfl ?_
          exact ⟨rfl, _, along_perm.trans (List.perm_append_comm (l₁ := [y])), HS.out, HR3.out.cast along_mid⟩
end Go.Proofs.YtfpfdgljhcpkpaaDoor
