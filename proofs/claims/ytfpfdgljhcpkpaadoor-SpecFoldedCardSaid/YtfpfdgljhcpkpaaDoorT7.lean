/- Contracts of the merge's helpers at folded spans: swapRange, rotate. -/
import Derived.Test.YtfpfdgljhcpkpaaDoorT2
import Derived.Test.YtfpfdgljhcpkpaaDoorN4
namespace Go.Proofs.YtfpfdgljhcpkpaaDoor
open Go.RowKit Go.Shelf Go.Sort

/-- A row of folded spans of the call's own, over the world in which the outer call began. -/
structure RowAt (w0 w : World) (g c : Nat) (M : List FE) : Prop where
  own : OwnF w w0.heap.size (some ⟨g, 0, none⟩) c M
  lo : w0.heap.size ≤ g
  lt : g < w.heap.size
  bel : Below w0.heap.size w0 w
section
variable {w0 w : World} {g c : Nat} {M : List FE}
theorem RowAt.drew (h : RowAt w0 w g c M) : RowAt w0 w.drew g c M := ⟨h.own.drew, h.lo, h.lt, bel_drew h.bel⟩
theorem RowAt.drewN (h : RowAt w0 w g c M) (n : Nat) : RowAt w0 (w.drewN n) g c M := ⟨h.own.drewN n, h.lo, h.lt, bel_drewN h.bel n⟩
theorem RowAt.below {w' : World} (h : RowAt w0 w g c M) (hb : Below w.heap.size w w') : RowAt w0 w' g c M := ⟨h.own.below hb, h.lo, Nat.lt_of_lt_of_le h.lt hb.size, bel_chain hb h.bel⟩
theorem RowAt.put (h : RowAt w0 w g c M) (k : Nat) (x : FE) : RowAt w0 (((w.setCell ⟨g, k * 3, none⟩ (.int .i64 x.1.1)).setCell ⟨g, k * 3 + 1, none⟩ (.int .i64 x.1.2)).setCell ⟨g, k * 3 + 2, none⟩ (.int .i64 (x.2 : Int))) g c (M.set k x) :=
  ⟨h.own.put k x, h.lo, by simpa using h.lt, bel_set (bel_set (bel_set h.bel h.lo _) h.lo _) h.lo _⟩
theorem RowAt.cast {M' : List FE} (h : RowAt w0 w g c M) (e : M = M') : RowAt w0 w g c M' := e ▸ h
/-- What the walk asks at a place. -/
theorem RowAt.facts (h : RowAt w0 w g c M) {k : Nat} {x : FE} (hx : M[k]? = some x) : w.cell? ⟨g, k * 3, none⟩ = some (.int .i64 x.1.1) ∧ w.cell? ⟨g, k * 3 + 1, none⟩ = some (.int .i64 x.1.2) ∧ w.cell? ⟨g, k * 3 + 2, none⟩ = some (.int .i64 (x.2 : Int)) ∧ w.frozen? ⟨g, k * 3, none⟩ = false ∧ w.frozen? ⟨g, k * 3 + 1, none⟩ = false ∧ w.frozen? ⟨g, k * 3 + 2, none⟩ = false := by
  obtain ⟨hk, rfl⟩ := List.getElem?_eq_some_iff.1 hx
  obtain ⟨a, b, d⟩ := h.own.cells hk
  exact ⟨a, b, d, World.ownsRow.frozenAt h.own _, World.ownsRow.frozenAt h.own _, World.ownsRow.frozenAt h.own _⟩
end
theorem below_growN (W : World) (q : Nat) (os : Array Obj) : Below W.heap.size W (grow (W.drewN q) os) := by
  have h := grownBy_sortedF (w := W) (g := W.heap.size) (n := 0) (os := #[]) #[]
  clear h
  refine ⟨rfl, rfl, rfl, ?_, fun k hk => ?_⟩
  · simp [grow]
  · rw [heap_grow_old _ _ (by simpa using hk)]; rfl
/-- Two elements change places. -/
theorem swap_two {L1 L2 L3 : List FE} {x y : FE} {i j : Nat} (hi : L1.length = i) (hj : L1.length + 1 + L2.length = j) : ((L1 ++ x :: (L2 ++ y :: L3)).set i y).set j x = L1 ++ y :: (L2 ++ x :: L3) := by
  subst hi hj
  rw [List.set_append_right _ _ (by omega)]
  simp only [Nat.sub_self, List.set_cons_zero]
  rw [List.set_append_right _ _ (by omega), show L1.length + 1 + L2.length - L1.length = L2.length + 1 from by omega, List.set_cons_succ, List.set_append_right _ _ (by omega)]
  simp
theorem at_first {L1 L2 : List FE} {x : FE} {i : Nat} (hi : L1.length = i) : (L1 ++ x :: L2)[i]? = some x := by subst hi; simp
theorem at_second {L1 L2 L3 : List FE} {x y : FE} {j : Nat} (hj : L1.length + 1 + L2.length = j) : (L1 ++ x :: (L2 ++ y :: L3))[j]? = some y := by
  subst hj
  rw [List.getElem?_append_right (by omega), show L1.length + 1 + L2.length - L1.length = L2.length + 1 from by omega, List.getElem?_cons_succ]
  simp
/-- What stands when i pairs have changed places. -/
def swapped (P U V W S : List FE) (i : Nat) : List FE := P ++ (W.take i ++ U.drop i) ++ V ++ (U.take i ++ W.drop i) ++ S
theorem swapped_zero (P U V W S : List FE) : swapped P U V W S 0 = P ++ U ++ V ++ W ++ S := by simp [swapped]
theorem swapped_all (P U V W S : List FE) (h : U.length = W.length) : swapped P U V W S U.length = P ++ W ++ V ++ U ++ S := by
  unfold swapped
  rw [List.take_of_length_le (by omega), List.drop_of_length_le (Nat.le_refl _), List.take_of_length_le (Nat.le_refl _), List.drop_of_length_le (by omega)]
  simp
theorem swapped_form (P U V W S : List FE) {i : Nat} (h : U.length = W.length) (hi : i < U.length) : swapped P U V W S i = (P ++ W.take i) ++ U[i] :: ((U.drop (i + 1) ++ V ++ U.take i) ++ W[i] :: (W.drop (i + 1) ++ S)) := by
  unfold swapped
  rw [List.drop_eq_getElem_cons hi, List.drop_eq_getElem_cons (show i < W.length by omega)]
  simp only [List.append_assoc, List.cons_append]
theorem swapped_next (P U V W S : List FE) {i : Nat} (h : U.length = W.length) (hi : i < U.length) : (P ++ W.take i) ++ W[i] :: ((U.drop (i + 1) ++ V ++ U.take i) ++ U[i] :: (W.drop (i + 1) ++ S)) = swapped P U V W S (i + 1) := by
  unfold swapped
  rw [List.take_succ_eq_append_getElem hi, List.take_succ_eq_append_getElem (show i < W.length by omega)]
  simp only [List.append_assoc, List.cons_append, List.nil_append]
theorem swapped_length (P U V W S : List FE) {i : Nat} (h : U.length = W.length) (hi : i ≤ U.length) : (swapped P U V W S i).length = P.length + U.length + V.length + W.length + S.length := by
  unfold swapped; simp; omega
set_option maxHeartbeats 4000000 in
set_option maxRecDepth 100000 in
theorem swapR_any {w0 w : World} {g c : Nat} (P U V W S : List FE) (a b n N : Nat) (fv : Value) (hR : RowAt w0 w g c (P ++ U ++ V ++ W ++ S)) (hUW : U.length = W.length) (ha : P.length = a) (hb : P.length + U.length + V.length = b) (hn : U.length = n) (hN : P.length + U.length + V.length + W.length + S.length = N) (hl : N ≤ 1000000) :
    Calls Tryd.prog 195 #[.slice (some ⟨g, 0, none⟩) N c, .int .i64 a, .int .i64 b, .int .i64 n, fv] w fun e w' => e = .returned (.tuple #[]) ∧ RowAt w0 w' g c (P ++ W ++ V ++ U ++ S) := by
  have HR : Hid (RowAt w0 w g c (swapped P U V W S 0)) := by simp only [Hid]; rw [swapped_zero]; exact hR
  clear hR
  go_enter Tryd.func195, Tryd.ntmps195
  go_wp2_with fail
  go_loopw [10] (fun i wr => ∃ k : Nat, k ≤ n ∧ i = .int .i64 k ∧ RowAt w0 wr g c (swapped P U V W S k)) (fun i _ => n - (intOf i).toNat)
  case atStart => exact ⟨0, Nat.zero_le _, rfl, HR.out⟩
  case round =>
    clear HR
    obtain ⟨k, hk, rfl, hr⟩ := hrel
    by_cases hlt : k < n
    · have hku : k < U.length := by omega
      have hkw : k < W.length := by omega
      rw [swapped_form P U V W S hUW hku] at hr
      have HNX := Lib.hid (swapped_next P U V W S hUW hku)
      obtain ⟨p, hp⟩ : ∃ p, a + k = p := ⟨_, rfl⟩
      obtain ⟨q, hq⟩ : ∃ q, b + k = q := ⟨_, rfl⟩
      have l1 : (P ++ W.take k).length = p := by simp; omega
      have l2 : (P ++ W.take k).length + 1 + (U.drop (k + 1) ++ V ++ U.take k).length = q := by simp; omega
      obtain ⟨x, hx⟩ : ∃ x, U[k] = x := ⟨_, rfl⟩
      obtain ⟨y, hy⟩ : ∃ y, W[k] = y := ⟨_, rfl⟩
      rw [hx, hy] at hr HNX
      obtain ⟨c1, c2, c3, f1, f2, f3⟩ := hr.facts (at_first l1)
      obtain ⟨d1, d2, d3, e1, e2, e3⟩ := hr.facts (at_second l2)
      have HR2 := Lib.hid hr
      have HS := Lib.hid (swap_two (x := x) (y := y) (L3 := W.drop (k + 1) ++ S) l1 l2)
      have hz := hr.lt
      have hpq : p < q := by omega
      have hqN : q < N := by omega
      have ea : (a : Int) + (k : Int) = (p : Int) := by omega
      have eb : (b : Int) + (k : Int) = (q : Int) := by omega
      have hl' : (N : Int) ≤ 1000000 := by omega
      clear hx hy hr l1 l2 hku hkw hUW ha hb hn hN hp hq
      go_wp2_with fail
      go_region
      all_goals
        go_wp2_with fail
        go_roundw
        case rel =>
          refine ⟨k + 1, by omega, by go_num, ?_⟩
          rw [← HNX.out, ← HS.out]
          exact ((HR2.out.put p y).put q x).drew
        case measure => simp [intOf]; omega
    · obtain rfl : k = n := by omega
      rw [← hn, swapped_all P U V W S hUW] at hr
      have HR2 := Lib.hid hr
      clear hr
      go_wp2_with fail
      refine bodyPost_end (v := .tuple #[]) (by simp [results, Tryd.results195, go_sem]) rfl ?_
      exact ⟨rfl, HR2.out⟩
set_option maxHeartbeats 4000000 in
set_option maxRecDepth 100000 in
theorem rotate_any {w0 w : World} {g c : Nat} (P U V S : List FE) (a m b N : Nat) (fv : Value) (hR : RowAt w0 w g c (P ++ U ++ V ++ S)) (hU : 0 < U.length) (hV : 0 < V.length) (ha : P.length = a) (hm : P.length + U.length = m) (hb : P.length + U.length + V.length = b) (hN : P.length + U.length + V.length + S.length = N) (hl : N ≤ 1000000) :
    Calls Tryd.prog 171 #[.slice (some ⟨g, 0, none⟩) N c, .int .i64 a, .int .i64 m, .int .i64 b, fv] w fun e w' => e = .returned (.tuple #[]) ∧ RowAt w0 w' g c (P ++ V ++ U ++ S) := by
  have HR := Lib.hid hR
  have e1 : (m : Int) - (a : Int) = (U.length : Int) := by omega
  have e2 : (b : Int) - (m : Int) = (V.length : Int) := by omega
  have hlN : (N : Int) ≤ 1000000 := by omega
  clear hR
  go_enter Tryd.func171, Tryd.ntmps171
  go_wp2_with fail
  go_loopw [10, 11] (fun si sj wr => ∃ (i j p : Nat) (P1 U1 V1 S1 : List FE), si = .int .i64 i ∧ sj = .int .i64 j ∧ U1.length = i ∧ V1.length = j ∧ P1.length = p ∧ 0 < i ∧ 0 < j ∧ p + i = m ∧ p + i + j + S1.length = N ∧ P1 ++ V1 ++ U1 ++ S1 = P ++ V ++ U ++ S ∧ RowAt w0 wr g c (P1 ++ U1 ++ V1 ++ S1)) (fun si sj _ => (intOf si).toNat + (intOf sj).toNat)
  case atStart => exact ⟨U.length, V.length, P.length, P, U, V, S, rfl, rfl, rfl, rfl, rfl, hU, hV, hm, hN, rfl, HR.out⟩
  case round =>
    clear HR e1 e2 ha hb hU hV hm hN
    obtain ⟨i, j, p, P1, U1, V1, S1, rfl, rfl, lu, lv, lp, hi0, hj0, hpm, hpN, h5, hr⟩ := hrel
    have HE := Lib.hid h5
    have em : (m : Int) - (i : Int) = (p : Int) := by omega
    have hiN : (i : Int) ≤ 1000000 := by omega
    have hjN : (j : Int) ≤ 1000000 := by omega
    have hmN : (m : Int) ≤ 1000000 := by omega
    have hpz : (p : Int) ≤ 1000000 := by omega
    clear h5
    rcases Nat.lt_trichotomy i j with hlt | rfl | hgt
    · have hne : ((i : Int) != (j : Int)) = true := by rw [bne_iff_ne]; omega
      have hgt : ¬ (j : Int) < (i : Int) := by omega
      obtain ⟨k, hk⟩ : ∃ k, j - i = k := ⟨_, rfl⟩
      have ek : (j : Int) - (i : Int) = (k : Int) := by omega
      have l1 : (V1.take k).length = k := by simp; omega
      have l2 : (V1.drop k).length = i := by simp; omega
      have hv : V1 = V1.take k ++ V1.drop k := (List.take_append_drop _ _).symm
      obtain ⟨q, hq⟩ : ∃ q, m + k = q := ⟨_, rfl⟩
      have eq1 : (m : Int) + (j : Int) - (i : Int) = (q : Int) := by omega
      have HC := Lib.hid (swapR_any P1 U1 (V1.take k) (V1.drop k) S1 p q i N fv (hr.cast (by rw [List.append_assoc _ (V1.take k), ← hv])) (by omega) lp (by omega) lu (by omega) hl)
      have HE2 : Hid (P1 ++ V1.take k ++ V1.drop k ++ (U1 ++ S1) = P ++ V ++ U ++ S) := by
        simp only [Hid]
        rw [← HE.out, List.append_assoc P1, ← hv]; simp only [List.append_assoc]
      have HL : Hid (k < j ∧ 0 < k ∧ p + i + k + (U1 ++ S1).length = N) := by simp only [Hid]; simp; omega
      clear hr hv hk hq hlt hpN
      have L1 := Lib.hid l1
      have L2 := Lib.hid l2
      clear l1 l2
      go_wp2_with fail
      refine HC.out.mono ?_
      rintro e w1 ⟨rfl, hr1⟩
      have HR1 := Lib.hid hr1
      clear hr1 HC
      go_wp2_with fail
      go_roundw
      case rel => exact ⟨i, k, p, P1, V1.drop k, V1.take k, U1 ++ S1, rfl, rfl, L2.out, L1.out, lp, hi0, HL.out.2.1, hpm, HL.out.2.2, HE2.out, HR1.out.cast (by simp only [List.append_assoc])⟩
      case measure => have := HL.out.1; simp [intOf]; omega
    · have hne : ((i : Int) != (i : Int)) = false := by simp
      have HC := Lib.hid (swapR_any P1 U1 [] V1 S1 p m i N fv (hr.cast (by simp)) (by omega) lp (by simp; omega) lu (by simp; omega) hl)
      clear hr
      go_wp2_with fail
      refine HC.out.mono ?_
      rintro e w1 ⟨rfl, hr1⟩
      have HR1 : Hid (RowAt w0 w1 g c (P ++ V ++ U ++ S)) := hr1.cast (by rw [← HE.out]; simp)
      clear hr1 HC
      go_wp2_with fail
      refine bodyPost_end (v := .tuple #[]) (by simp [results, Tryd.results171, go_sem]) rfl ?_
      exact ⟨rfl, HR1.out⟩
    · have hne : ((i : Int) != (j : Int)) = true := by rw [bne_iff_ne]; omega
      have hgt' : (j : Int) < (i : Int) := by omega
      obtain ⟨k, hk⟩ : ∃ k, i - j = k := ⟨_, rfl⟩
      have ek : (i : Int) - (j : Int) = (k : Int) := by omega
      have l1 : (U1.take j).length = j := by simp; omega
      have l2 : (U1.drop j).length = k := by simp; omega
      have hv : U1 = U1.take j ++ U1.drop j := (List.take_append_drop _ _).symm
      have HC := Lib.hid (swapR_any P1 (U1.take j) (U1.drop j) V1 S1 p m j N fv (hr.cast (by rw [show P1 ++ U1 = P1 ++ U1.take j ++ U1.drop j from by rw [List.append_assoc, ← hv]])) (by omega) lp (by omega) l1 (by omega) hl)
      have HE2 : Hid ((P1 ++ V1) ++ U1.take j ++ U1.drop j ++ S1 = P ++ V ++ U ++ S) := by
        simp only [Hid]
        rw [← HE.out, List.append_assoc (P1 ++ V1), ← hv]
      have HL : Hid (k < i ∧ 0 < k ∧ (P1 ++ V1).length = p + j ∧ p + j + k = m ∧ p + j + k + j + S1.length = N) := by simp only [Hid]; simp; omega
      clear hr hv hk hgt hpN
      have L1 := Lib.hid l1
      have L2 := Lib.hid l2
      clear l1 l2
      go_wp2_with fail
      refine HC.out.mono ?_
      rintro e w1 ⟨rfl, hr1⟩
      have HR1 := Lib.hid hr1
      clear hr1 HC
      go_wp2_with fail
      go_roundw
      case rel => exact ⟨k, j, p + j, P1 ++ V1, U1.drop j, U1.take j, S1, rfl, rfl, L2.out, L1.out, HL.out.2.2.1, HL.out.2.1, hj0, HL.out.2.2.2.1, HL.out.2.2.2.2, HE2.out, HR1.out.cast (by simp only [List.append_assoc])⟩
      case measure => have := HL.out.1; simp [intOf]; omega
end Go.Proofs.YtfpfdgljhcpkpaaDoor
