/- Contract of a set's Near. -/
import Derived.Test.YtmbcnfgeobbldaaDoorD1
namespace Go.Proofs.YtmbcnfgeobbldaaDoor
open Go.RowKit

/-- What has been gathered of the first k spans. -/
def NearAt (gap : Int) (L : List (Int × Int)) (k : Nat) (D : List (Int × Int)) : Prop :=
  (k = 0 ∧ D = []) ∨ ∃ I l, D = I ++ [l] ∧ I ++ nearR gap l (L.drop k) = nearL gap L ∧ 0 ≤ l.2 ∧ l.2 ≤ 4611686018427387904
theorem NearAt.start {gap : Int} {L : List (Int × Int)} {k : Nat} (hk : k < L.length) {x : Int × Int} (hx : L[k] = x) (h : NearAt gap L k []) (h0 : 0 ≤ x.2) (h1 : x.2 ≤ 4611686018427387904) : NearAt gap L (k + 1) [x] := by
  rcases h with ⟨rfl, _⟩ | ⟨I, l, e, _⟩
  · refine .inr ⟨[], x, rfl, ?_, h0, h1⟩
    cases L with
    | nil => simp at hk
    | cons y r => simp at hx; subst hx; rfl
  · simp at e
theorem NearAt.last {gap : Int} {L I : List (Int × Int)} {l : Int × Int} {k : Nat} (h : NearAt gap L k (I ++ [l])) : I ++ nearR gap l (L.drop k) = nearL gap L ∧ 0 ≤ l.2 ∧ l.2 ≤ 4611686018427387904 := by
  rcases h with ⟨_, e⟩ | ⟨I', l', e, h1, h2, h3⟩
  · simp at e
  · have hl := List.append_inj' e rfl
    obtain ⟨rfl, e2⟩ := hl
    simp at e2
    subst e2
    exact ⟨h1, h2, h3⟩
theorem NearAt.join {gap : Int} {L I : List (Int × Int)} {l x : Int × Int} {k : Nat} (hk : k < L.length) (hx : L[k] = x) (h : NearAt gap L k (I ++ [l])) (hj : x.1 - l.2 ≤ gap) (h0 : 0 ≤ x.2) (h1 : x.2 ≤ 4611686018427387904) : NearAt gap L (k + 1) (I ++ [(l.1, x.2)]) := by
  have hl := h.last.1
  rw [drop_at hk, hx, nearR_join hj] at hl
  exact .inr ⟨I, (l.1, x.2), rfl, hl, h0, h1⟩
theorem NearAt.new {gap : Int} {L I : List (Int × Int)} {l x : Int × Int} {k : Nat} (hk : k < L.length) (hx : L[k] = x) (h : NearAt gap L k (I ++ [l])) (hj : ¬ x.1 - l.2 ≤ gap) (h0 : 0 ≤ x.2) (h1 : x.2 ≤ 4611686018427387904) : NearAt gap L (k + 1) (I ++ [l] ++ [x]) := by
  have hl := h.last.1
  rw [drop_at hk, hx, nearR_new hj] at hl
  exact .inr ⟨I ++ [l], x, rfl, by rw [← hl]; simp, h0, h1⟩
theorem NearAt.done {gap : Int} {L D : List (Int × Int)} {k : Nat} (hk : ¬ k < L.length) (h : NearAt gap L k D) : D = nearL gap L := by
  rcases h with ⟨rfl, rfl⟩ | ⟨I, l, rfl, h1, _⟩
  · have : L = [] := List.eq_nil_of_length_eq_zero (by omega)
    subst this; rfl
  · rw [drop_end hk, nearR_nil] at h1
    exact h1
theorem NearAt.length {gap : Int} {L D : List (Int × Int)} {k : Nat} (h : NearAt gap L k D) : D.length ≤ L.length + 1 := by
  rcases h with ⟨_, rfl⟩ | ⟨I, l, rfl, h1, _⟩
  · simp
  · have h2 := congrArg List.length h1
    have h3 : (nearL gap L).length ≤ L.length := by
      cases L with
      | nil => simp [nearL]
      | cons x r => exact near_length gap r x
    simp at h2
    simp
    omega
theorem nearP_neg {gap : Int} {L : List (Int × Int)} (h : gap < 1) : nearP gap L = L := if_pos h
theorem nearP_pos {gap : Int} {L : List (Int × Int)} (h : ¬ gap < 1) : nearP gap L = nearL gap L := if_neg h

/-- A set's box and the result's cell. -/
structure Box1 (w W0 : World) (A : Option Addr) (c : Nat) (L : List (Int × Int)) : Prop where
  size : W0.heap.size = w.heap.size + 2
  bel : Below w.heap.size w W0
  c0 : W0.cell? ⟨w.heap.size, 0, none⟩ = some (.slice A L.length c)
  c1 : W0.cell? ⟨w.heap.size + 1, 0, none⟩ = some (.slice none 0 0)
  f1 : W0.frozen? ⟨w.heap.size + 1, 0, none⟩ = false
theorem box1 (w : World) (A : Option Addr) (c : Nat) (L : List (Int × Int)) :
    Box1 w ((w.alloc (.cells #[.slice A L.length c] 26)).alloc (.cells #[.slice none 0 0] 26)) A c L :=
  ⟨by simp, by (repeat (first | exact Below.refl _ _ | refine bel_drewN ?_ _ | refine bel_drew ?_ | refine bel_alloc ?_ _ | refine bel_set ?_ (by simp) _)), by simp [go_sem], by simp [go_sem], by simp [go_sem]⟩

set_option maxHeartbeats 4000000 in
set_option maxRecDepth 100000 in
theorem near_any (A : Option Addr) (c : Nat) (L : List (Int × Int)) (gap : Int) (w : World) (h : Sp w A c L) (hc : Canon L) (hl : L.length ≤ 100000) :
    Calls Tryd.prog 37 #[.agg #[.slice A L.length c], .int .i64 gap] w (RetSet (nearP gap L) w) := by
  have hH := Lib.hid h
  have HC := Lib.hid hc
  clear h hc
  by_cases hgap : gap < 1
  · rw [nearP_neg hgap]
    go_enter Tryd.func37, Tryd.ntmps37
    go_wp2_with fail
    refine bodyPost_ret (by simp [results, Tryd.results37, go_sem]; try rfl) rfl ?_
    exact ⟨A, c, rfl, (hH.out.alloc _).alloc _, by (repeat (first | exact Below.refl _ _ | refine bel_drewN ?_ _ | refine bel_drew ?_ | refine bel_alloc ?_ _ | refine bel_set ?_ (by simp) _))⟩
  · rw [nearP_pos hgap]
    have HBX := Lib.hid (box1 w A c L)
    go_enter Tryd.func37, Tryd.ntmps37
    go_wp2
    generalize World.alloc (World.alloc w (.cells #[.slice A L.length c] 26)) (.cells #[.slice none 0 0] 26) = W0 at HBX ⊢
    have HS := Lib.hid (hH.out.below HBX.out.bel)
    clear hH
    go_loopw [5, 7, 8, 15] (fun v _ _ i wr => ∃ (k : Nat) (A' : Option Addr) (c' : Nat) (D : List (Int × Int)), k ≤ L.length ∧ i = .int .i64 k ∧ v = .slice A' D.length c' ∧ Own wr W0.heap.size A' c' D ∧ Below W0.heap.size W0 wr ∧ NearAt gap L k D) (fun _ _ _ i _ => L.length - (intOf i).toNat)
    case atStart => exact ⟨0, none, 0, [], Nat.zero_le _, rfl, rfl, Own.nil _ _, Below.refl _ _, .inl ⟨rfl, rfl⟩⟩
    case round =>
      obtain ⟨k, A', c', D, hk, rfl, rfl, hown, hbw, hna⟩ := hrel
      have HB := Lib.hid hbw
      have HN := Lib.hid hna
      have hDl := hna.length
      clear hbw hna
      by_cases hlt : k < L.length
      · obtain ⟨b, off, e, hb, c1, c2⟩ := (HS.out.below HB.out).at_ hlt
        have hgx := HC.out.mem (List.getElem_mem hlt)
        obtain ⟨⟨x1, x2⟩, hx⟩ : ∃ x, L[k] = x := ⟨_, rfl⟩
        rw [hx] at c1 c2 hgx
        have HX := Lib.hid hx
        simp only at c1 c2 hgx
        obtain ⟨hx0, hx1, hx2⟩ := hgx
        clear hx
        subst e
        rcases nil_or_snoc D with rfl | ⟨i, l, rfl⟩
        · have HO := Lib.hid hown
          have HR := Lib.hid (HN.out.start hlt HX.out (by simp only; omega) (by simp only; omega))
          clear hown
          have hd : decide ((0 : Int) < 0) = false := rfl
          go_wp2_with fail
          go_quiet (fail)
          go_wp2_with (at_builtin; refine wpl_append (w0 := W0) rfl (.tmp 43) (.tmp 45) rfl A' c' [] rfl (by exact ((HO.out.alloc _).drewN _).alloc _) _ x1 x2 rfl (by first | exact cell_new0 _ _ _ _ | simp [go_sem]) (by first | exact cell_new1 _ _ _ _ | simp [go_sem]) (by simp) (by exact bel_alloc (bel_drewN (bel_alloc HB.out _) _) _) ?_; intro A2 c2' w2 hown2 hbw2 _)
          go_roundw
          case rel => exact ⟨k + 1, A2, c2', [(x1, x2)], by omega, by go_num, by simp, hown2, hbw2, HR.out⟩
          case measure => simp [intOf]; omega
        · have el : (i ++ [l]).length = i.length + 1 := by simp
          obtain ⟨g, rfl, hg1, hg2⟩ := hown.at_ (by omega)
          have hown' : wr.ownsRow W0.heap.size 29 2 (.slice (some ⟨g, 0, none⟩) (i.length + 1) c') (i.length + 1) (spCells (i ++ [l])) := by
            have := hown
            unfold Own at this
            rw [el] at this
            exact this
          have cl := (spCells_even (i ++ [l]) i.length l (by simp)).2
          have d2 : wr.cell? ⟨g, i.length * 2 + 1, none⟩ = some (.int .i64 l.2) := by
            rw [hown'.cellAt _ (by omega), ← cl, Nat.mul_comm]
          have f2 := hown'.frozenAt (i.length * 2 + 1)
          have HO := Lib.hid hown
          obtain ⟨_, hl0, hl1⟩ := HN.out.last
          clear hown hown' cl
          rw [el]
          have HEL := Lib.hid el
          rw [el] at hDl
          clear el
          obtain ⟨l1, l2⟩ := l
          simp only at d2 hl0 hl1
          have hng : g ≠ wr.heap.size := by omega
          by_cases hj : x1 - l2 ≤ gap
          · have HR := Lib.hid (HN.out.join hlt HX.out hj (by simp only; omega) (by simp only; omega))
            go_wp2_with fail
            go_quiet (fail)
            go_wp2_with fail
            go_roundw
            case rel => exact ⟨k + 1, some ⟨g, 0, none⟩, c', i ++ [(l1, x2)], by omega, by go_num, by simp, Own.setTo _ ((HO.out.alloc _).drewN _), bel_set (bel_drewN (bel_alloc HB.out _) _) hg1 _, HR.out⟩
            case measure => simp [intOf]; omega
          · have HR := Lib.hid (HN.out.new hlt HX.out hj (by simp only; omega) (by simp only; omega))
            have hjb : decide (x1 - l2 ≤ gap) = false := by simpa using hj
            go_wp2_with fail
            go_quiet (fail)
            go_wp2_with (at_builtin; refine wpl_append (w0 := W0) rfl (.tmp 43) (.tmp 45) rfl (some ⟨g, 0, none⟩) c' (i ++ [(l1, l2)]) (by rw [HEL.out]; rfl) (by exact ((HO.out.alloc _).drewN _).alloc _) _ x1 x2 rfl (by first | exact cell_new0 _ _ _ _ | simp [go_sem]) (by first | exact cell_new1 _ _ _ _ | simp [go_sem]) (by rw [HEL.out]; omega) (by exact bel_alloc (bel_drewN (bel_alloc HB.out _) _) _) ?_; intro A2 c2' w2 hown2 hbw2 _)
            go_roundw
            case rel => exact ⟨k + 1, A2, c2', i ++ [(l1, l2)] ++ [(x1, x2)], by omega, by go_num, by simp, hown2, hbw2, HR.out⟩
            case measure => simp [intOf]; omega
      · have HO := Lib.hid hown
        have HD := Lib.hid (HN.out.done hlt)
        have q2 := cell_keep HB.out HBX.out.c1
        have g2 : wr.frozen? ⟨w.heap.size + 1, 0, none⟩ = false := (HB.out.frozen (p := ⟨w.heap.size + 1, 0, none⟩) (by simp [HBX.out.size])).trans HBX.out.f1
        have HBW := Lib.hid (bel_chain HB.out HBX.out.bel)
        have HZ : Hid (W0.heap.size = w.heap.size + 2) := HBX.out.size
        have fin : RetSet (nearL gap L) w (.returned (.agg #[.slice A' D.length c'])) (wr.setCell ⟨w.heap.size + 1, 0, none⟩ (.slice A' D.length c')) := by
          have hOD := HO.out
          rw [HD.out] at hOD ⊢
          exact ⟨A', c', rfl, Own.sp (ownsRow_setCell_below hOD (by rw [HZ.out]; show w.heap.size + 1 < w.heap.size + 2; omega) _), bel_set HBW.out (by show w.heap.size ≤ w.heap.size + 1; omega) _⟩
        have FIN := Lib.hid fin
        clear fin hown
        go_wp2_with fail
        refine bodyPost_ret (by simp [results, Tryd.results37, go_sem, q2]; try rfl) rfl ?_
        exact FIN.out
end Go.Proofs.YtmbcnfgeobbldaaDoor
