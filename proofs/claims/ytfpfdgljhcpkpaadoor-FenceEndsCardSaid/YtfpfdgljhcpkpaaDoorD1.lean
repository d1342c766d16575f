/- Contract of a set's Or. -/
import Derived.Test.YtfpfdgljhcpkpaaDoorB4
import Derived.Test.YtfpfdgljhcpkpaaDoorM7
import Derived.Laws.MakeOwn
import Derived.Maps.AppendAt
namespace Go.Proofs.YtfpfdgljhcpkpaaDoor
open Go.RowKit

/-- A make of no spans, with room for some. -/
theorem made_spans (a b : Nat) (h : a + b ≤ 1000000) : ∃ C : Array Value, C.size = (a + b) * 2 ∧ ∀ W : World, (Instr.makeSlice 22 (.int .i64 0) (.int .i64 ((a : Int) + (b : Int)))).run Tryd.prog W = .ok (.slice (some ⟨W.heap.size, 0, none⟩) 0 (a + b)) (W.alloc (.cells C 48)) := by
  obtain ⟨i0, hi, hz0, hz1, hz2⟩ := info_parts Tryd.spanInfo
  refine ⟨madeCells (Value.agg #[.int .i64 0, .int .i64 0]).cells ((a + b) * 2), size_madeCells _ _, fun W => ?_⟩
  have := run_make (P := Tryd.prog) W 22 48 i0 _ Tryd.underlying22 hi hz0 .i64 .i64 0 ((a : Int) + (b : Int)) (by omega) (by omega) (by rw [hz2]; omega) (by omega)
  rw [hz1] at this
  have e : ((a : Int) + (b : Int)).toNat = a + b := by omega
  rw [e] at this
  exact this
theorem Own.made {W : World} {C : Array Value} {n : Nat} {base : Nat} (hb : base ≤ W.heap.size) (hn : n ≤ 2000000) (hC : C.size = n * 2) : Own (W.alloc (.cells C 48)) base (some ⟨W.heap.size, 0, none⟩) n [] :=
  World.ownsRow_made W C n hb (by simp only [maxLen]; omega) hC

theorem lt_alloc {W : World} {n : Nat} (h : n < W.heap.size) (o : Obj) : n < (W.alloc o).heap.size := by simp; omega
theorem kept_new {W w' : World} {x y : Value} {t : TypeId} (hb : Below (W.alloc (.cells #[x, y] t)).heap.size (W.alloc (.cells #[x, y] t)) w') :
    w'.cell? ⟨W.heap.size, 0, none⟩ = some x ∧ w'.cell? ⟨W.heap.size, 1, none⟩ = some y ∧ w'.frozen? ⟨W.heap.size, 0, none⟩ = false ∧ w'.frozen? ⟨W.heap.size, 1, none⟩ = false :=
  ⟨cell_keep hb (cell_new0 _ _ _ _), cell_keep hb (cell_new1 _ _ _ _), (hb.frozen (p := ⟨W.heap.size, 0, none⟩) (by simp)).trans (by simp [go_sem]), (hb.frozen (p := ⟨W.heap.size, 1, none⟩) (by simp)).trans (by simp [go_sem])⟩
/-- The row's block isn't this one. -/
def OffB (A : Option Addr) (X : Nat) : Prop := ∀ a, A = some a → a.block ≠ X
/-- append of one span to a row of the call's own; where the row lies then. -/
theorem wpl_append_at {w0 w : World} {ops : Array Oper} {rest : List Oper} {o : Oper} {a : Act} {Q : Exit → Act → World → Prop} (hgd : o.guard = none) (s x : Operand)
    (ho : o.op = .call { callee := .builtin .append, args := #[s, x], argTypes := #[22, 22] })
    (A : Option Addr) (c : Nat) (L : List (Int × Int)) (hs : a.eval s = .slice A L.length c) (hown : Own w w0.heap.size A c L)
    (g : Nat) (x1 x2 : Int) (hx : a.eval x = .slice (some ⟨g, 0, none⟩) 1 1) (hc : w.cell? ⟨g, 0, none⟩ = some (.int .i64 x1)) (hc' : w.cell? ⟨g, 1, none⟩ = some (.int .i64 x2))
    (hl : L.length ≤ 2000000) (hbel : Below w0.heap.size w0 w) (X : Nat) (hX : OffB A X) (hXl : X < w.heap.size)
    (h : ∀ A' c' w', Own w' w0.heap.size A' c' (L ++ [(x1, x2)]) → Below w0.heap.size w0 w' → OffB A' X → (∀ o, w'.cell? ⟨X, o, none⟩ = w.cell? ⟨X, o, none⟩) → X < w'.heap.size → wpList Tryd.prog ops Q rest (a.put o.dst (.slice A' (L.length + 1) c')) w') : wpList Tryd.prog ops Q (o :: rest) a w := by
  obtain ⟨i0, hi, hz0, hz1, hz2⟩ := info_parts Tryd.spanInfo
  refine wpList_append_own_at w hgd s x _ ho w0.heap.size 48 i0 _ 2 16 Tryd.underlying22 hi hz0 hz1 hz2 rfl (by decide) _ _ _ hs hown ⟨g, 0, none⟩ 1 1 [.int .i64 x1, .int .i64 x2] hx rfl ?_ ?_ (by simp only [maxLen]; omega) (by omega) hbel.size ?_
  · intro j u hj
    have hadd : ∀ j, (⟨g, 0, none⟩ : Addr).add j = ⟨g, j, none⟩ := fun j => by unfold Addr.add; split <;> simp_all
    rw [hadd]
    match j, hj with
    | 0, hj => simp at hj; rw [← hj]; exact hc
    | 1, hj => simp at hj; rw [← hj]; exact hc'
    | j + 2, hj => simp at hj
  · intro u hu
    simp at hu
    rcases hu with rfl | rfl <;> rfl
  · intro v' w' h1 h2 _ h4
    have hlt := World.ownsRow.lt hown
    have hbel' : Below w0.heap.size w0 w' := hbel.grown h2 hbel.size (fun k hk => (hlt k hk).1)
    have hlen : (L ++ [(x1, x2)]).length = L.length + 1 := by simp
    have hsp : spCells L ++ [.int .i64 x1, .int .i64 x2] = spCells (L ++ [(x1, x2)]) := by rw [spCells_append]; rfl
    rw [hsp] at h1
    have hform : ∃ A' c', v' = .slice A' (L.length + 1) c' := by
      rcases h1.2 with ⟨_, hn⟩ | ⟨g', cap, cur, hv, _⟩
      · omega
      · exact ⟨_, _, hv⟩
    obtain ⟨A', c', rfl⟩ := hform
    have hne : (Value.slice A L.length c).ownBlock ≠ some X := by
      cases A with
      | none => intro e; cases e
      | some a => intro e; injection e with e; exact hX a rfl e
    refine h A' c' w' (by unfold Own; rw [hlen]; exact h1) hbel' ?_ ?_ ?_
    · intro a' ha' e
      subst ha'
      have e1 : (Value.slice (some a') (L.length + 1) c').ownBlock = some a'.block := rfl
      rw [e1, e] at h4
      rcases h4 with h4 | h4
      · exact hne h4.symm
      · injection h4 with h4; omega
    · intro o
      have := h2.block X hXl (fun e => hne e.symm)
      unfold World.cell?
      rw [this]
    · have := h2.size
      omega

section
variable {L M T done : List (Int × Int)} {i j : Nat} {x y : Int × Int}
theorem mg_left (hi : i < L.length) (hx : L[i] = x) (hj : j < M.length) (hy : M[j] = y) (h : x.1 ≤ y.1) (he : done ++ mgL (L.drop i) (M.drop j) = T) : (done ++ [x]) ++ mgL (L.drop (i + 1)) (M.drop j) = T := by
  rw [drop_at hi, hx, drop_at hj, hy, mgL_le h, ← hy, ← drop_at hj] at he
  rw [← he]; simp
theorem mg_left' (hi : i < L.length) (hx : L[i] = x) (hj : ¬ j < M.length) (he : done ++ mgL (L.drop i) (M.drop j) = T) : (done ++ [x]) ++ mgL (L.drop (i + 1)) (M.drop j) = T := by
  rw [drop_at hi, hx, drop_end hj, mgL_nil'] at he
  rw [drop_end hj, mgL_nil', ← he]; simp
theorem mg_right (hi : i < L.length) (hx : L[i] = x) (hj : j < M.length) (hy : M[j] = y) (h : ¬ x.1 ≤ y.1) (he : done ++ mgL (L.drop i) (M.drop j) = T) : (done ++ [y]) ++ mgL (L.drop i) (M.drop (j + 1)) = T := by
  rw [drop_at hi, hx, drop_at hj, hy, mgL_gt h, ← hx, ← drop_at hi] at he
  rw [← he]; simp
theorem mg_right' (hi : ¬ i < L.length) (hj : j < M.length) (hy : M[j] = y) (he : done ++ mgL (L.drop i) (M.drop j) = T) : (done ++ [y]) ++ mgL (L.drop i) (M.drop (j + 1)) = T := by
  rw [drop_end hi, mgL_nil, drop_at hj, hy] at he
  rw [drop_end hi, mgL_nil, ← he]; simp
theorem mg_end (hi : ¬ i < L.length) (hj : ¬ j < M.length) (he : done ++ mgL (L.drop i) (M.drop j) = T) : done = T := by
  rw [drop_end hi, drop_end hj, mgL_nil] at he
  simpa using he
end

/-- The two sets' boxes and the result's cell, and what the walk asks of the world with them. -/
structure Boxes (w W0 : World) (A : Option Addr) (c : Nat) (L : List (Int × Int)) (B : Option Addr) (d : Nat) (M : List (Int × Int)) : Prop where
  size : W0.heap.size = w.heap.size + 3
  bel : Below w.heap.size w W0
  c0 : W0.cell? ⟨w.heap.size, 0, none⟩ = some (.slice A L.length c)
  c1 : W0.cell? ⟨w.heap.size + 1, 0, none⟩ = some (.slice B M.length d)
  c2 : W0.cell? ⟨w.heap.size + 2, 0, none⟩ = some (.slice none 0 0)
  f2 : W0.frozen? ⟨w.heap.size + 2, 0, none⟩ = false
theorem boxes (w : World) (A : Option Addr) (c : Nat) (L : List (Int × Int)) (B : Option Addr) (d : Nat) (M : List (Int × Int)) :
    Boxes w (((w.alloc (.cells #[.slice A L.length c] 29)).alloc (.cells #[.slice B M.length d] 29)).alloc (.cells #[.slice none 0 0] 29)) A c L B d M :=
  ⟨by simp, by (repeat (first | exact Below.refl _ _ | refine bel_drewN ?_ _ | refine bel_drew ?_ | refine bel_alloc ?_ _ | refine bel_set ?_ (by simp) _)), by simp [go_sem], by simp [go_sem], by simp [go_sem], by simp [go_sem]⟩

set_option maxHeartbeats 4000000 in
set_option maxRecDepth 100000 in
theorem or_any (A : Option Addr) (c : Nat) (L : List (Int × Int)) (B : Option Addr) (d : Nat) (M : List (Int × Int)) (w : World) (h : Sp w A c L) (h' : Sp w B d M) (hc : Canon L) (hc' : Canon M) (hl : L.length ≤ 100000) (hl' : M.length ≤ 100000) :
    Calls Tryd.prog 19 #[.agg #[.slice A L.length c], .agg #[.slice B M.length d]] w (RetSet (ofOp L M 1) w) := by
  have HMG := Lib.hid (mgL_length L M hc.rising hc'.rising)
  have HOR := Lib.hid (or_eq hc hc')
  obtain ⟨C, hCs, hmk⟩ := made_spans L.length M.length (by omega)
  have HCs := Lib.hid hCs
  have HBX := Lib.hid (boxes w A c L B d M)
  have hH := Lib.hid h
  have hH' := Lib.hid h'
  clear h h' hc hc' hCs
  go_enter Tryd.func19, Tryd.ntmps19
  go_wp2
  generalize World.alloc (World.alloc (World.alloc w (.cells #[.slice A L.length c] 29)) (.cells #[.slice B M.length d] 29)) (.cells #[.slice none 0 0] 29) = W0 at HBX ⊢
  have HS := Lib.hid (hH.out.below HBX.out.bel)
  have HS' := Lib.hid (hH'.out.below HBX.out.bel)
  clear hmk hH hH'
  go_loopw [5, 6, 7] (fun v si sj wr => ∃ (i j : Nat) (A' : Option Addr) (c' : Nat) (D : List (Int × Int)), i ≤ L.length ∧ j ≤ M.length ∧ si = .int .i64 i ∧ sj = .int .i64 j ∧ v = .slice A' D.length c' ∧ Own wr W0.heap.size A' c' D ∧ Below W0.heap.size W0 wr ∧ D ++ mgL (L.drop i) (M.drop j) = mgL L M) (fun _ si sj _ => L.length + M.length - ((intOf si).toNat + (intOf sj).toNat))
  case atStart =>
    refine ⟨0, 0, _, _, [], Nat.zero_le _, Nat.zero_le _, rfl, rfl, rfl, ?_, ?_, by simp⟩
    · have := Own.made (W := W0) (Nat.le_refl _) (n := L.length + M.length) (by omega) HCs.out
      rw [HBX.out.size] at this ⊢
      exact this
    · exact bel_alloc (Below.refl _ _) _
  case round =>
    obtain ⟨i, j, A', c', D, hi, hj, rfl, rfl, rfl, hown, hbw, he⟩ := hrel
    have HO := Lib.hid hown
    have HB := Lib.hid hbw
    have HE := Lib.hid he
    have hDl : D.length ≤ 200000 := by
      have h1 := congrArg List.length he
      rw [HMG.out] at h1
      simp at h1
      omega
    have q0 := cell_keep hbw HBX.out.c0
    have q1 := cell_keep hbw HBX.out.c1
    have hz : w.heap.size + 3 ≤ wr.heap.size := by have := hbw.size; rw [HBX.out.size] at this; exact this
    clear hown hbw he
    by_cases hlt : i < L.length
    · obtain ⟨b, off, e, hb, c1, c2⟩ := (HS.out.below HB.out).at_ hlt
      obtain ⟨⟨x1, x2⟩, hx⟩ : ∃ x, L[i] = x := ⟨_, rfl⟩
      rw [hx] at c1 c2
      have HX := Lib.hid hx
      have hi0 : (0 : Int) ≤ (i : Int) := by omega
      have hi1 : (i : Int) < (L.length : Int) := by omega
      clear hx
      subst e
      by_cases hlt' : j < M.length
      · obtain ⟨b', off', e', hb', c1', c2'⟩ := (HS'.out.below HB.out).at_ hlt'
        obtain ⟨⟨y1, y2⟩, hy⟩ : ∃ y, M[j] = y := ⟨_, rfl⟩
        rw [hy] at c1' c2'
        have HY := Lib.hid hy
        have hj0 : (0 : Int) ≤ (j : Int) := by omega
        have hj1 : (j : Int) < (M.length : Int) := by omega
        have hjne : ((j : Int) == (M.length : Int)) = false := by rw [beq_eq_false_iff_ne]; omega
        have hjne' : (j == M.length) = false := by rw [beq_eq_false_iff_ne]; omega
        clear hy
        subst e'
        by_cases hxy : x1 ≤ y1
        · have HR := Lib.hid (mg_left hlt HX.out hlt' HY.out hxy HE.out)
          go_wp2_with fail
          go_quiet (fail)
          go_wp2_with (at_builtin; go_must (refine wpl_append (w0 := W0) rfl (.tmp 55) (.tmp 61) rfl A' c' D rfl (by exact (HO.out.drewN _).alloc _) _ x1 x2 rfl (by exact cell_new0 _ _ _ _) (by exact cell_new1 _ _ _ _) (by omega) (by exact bel_alloc (bel_drewN HB.out _) _) ?_); intro A2 c2' w2 hown2 hbw2 _)
          go_roundw
          case rel => exact ⟨i + 1, j, A2, c2', D ++ [(x1, x2)], by omega, hj, by go_num, rfl, by simp, hown2, hbw2, HR.out⟩
          case measure => simp [intOf]; omega
        · have HR := Lib.hid (mg_right hlt HX.out hlt' HY.out hxy HE.out)
          have hxyb : decide (x1 ≤ y1) = false := by simpa using hxy
          go_wp2_with fail
          go_quiet (fail)
          go_wp2_with (at_builtin; refine wpl_append (w0 := W0) rfl (.tmp 65) (.tmp 71) rfl A' c' D rfl (by exact (HO.out.drewN _).alloc _) _ y1 y2 rfl (by exact cell_new0 _ _ _ _) (by exact cell_new1 _ _ _ _) (by omega) (by exact bel_alloc (bel_drewN HB.out _) _) ?_; intro A2 c2' w2 hown2 hbw2 _)
          go_roundw
          case rel => exact ⟨i, j + 1, A2, c2', D ++ [(y1, y2)], hi, by omega, rfl, by go_num, by simp, hown2, hbw2, HR.out⟩
          case measure => simp [intOf]; omega
      · have HR := Lib.hid (mg_left' hlt HX.out hlt' HE.out)
        have hje : (j == M.length) = true := by rw [beq_iff_eq]; omega
        have hje' : ((j : Int) == (M.length : Int)) = true := by rw [beq_iff_eq]; omega
        go_wp2_with fail
        go_quiet (fail)
        go_wp2_with (at_builtin; refine wpl_append (w0 := W0) rfl (.tmp 55) (.tmp 61) rfl A' c' D rfl (by exact (HO.out.drewN _).alloc _) _ x1 x2 rfl (by exact cell_new0 _ _ _ _) (by exact cell_new1 _ _ _ _) (by omega) (by exact bel_alloc (bel_drewN HB.out _) _) ?_; intro A2 c2' w2 hown2 hbw2 _)
        go_roundw
        case rel => exact ⟨i + 1, j, A2, c2', D ++ [(x1, x2)], by omega, hj, by go_num, rfl, by simp, hown2, hbw2, HR.out⟩
        case measure => simp [intOf]; omega
    · have hib : decide (i < L.length) = false := by simpa using hlt
      by_cases hlt' : j < M.length
      · obtain ⟨b', off', e', hb', c1', c2'⟩ := (HS'.out.below HB.out).at_ hlt'
        obtain ⟨⟨y1, y2⟩, hy⟩ : ∃ y, M[j] = y := ⟨_, rfl⟩
        rw [hy] at c1' c2'
        have HY := Lib.hid hy
        have hj0 : (0 : Int) ≤ (j : Int) := by omega
        have hj1 : (j : Int) < (M.length : Int) := by omega
        have hjne : ((j : Int) == (M.length : Int)) = false := by rw [beq_eq_false_iff_ne]; omega
        have hjne' : (j == M.length) = false := by rw [beq_eq_false_iff_ne]; omega
        clear hy
        subst e'
        have HR := Lib.hid (mg_right' hlt hlt' HY.out HE.out)
        go_wp2_with fail
        go_quiet (fail)
        go_wp2_with (at_builtin; refine wpl_append (w0 := W0) rfl (.tmp 65) (.tmp 71) rfl A' c' D rfl (by exact (HO.out.drewN _).alloc _) _ y1 y2 rfl (by exact cell_new0 _ _ _ _) (by exact cell_new1 _ _ _ _) (by omega) (by exact bel_alloc (bel_drewN HB.out _) _) ?_; intro A2 c2' w2 hown2 hbw2 _)
        go_roundw
        case rel => exact ⟨i, j + 1, A2, c2', D ++ [(y1, y2)], hi, by omega, rfl, by go_num, by simp, hown2, hbw2, HR.out⟩
        case measure => simp [intOf]; omega
      · have hjb : decide (j < M.length) = false := by simpa using hlt'
        have HD := Lib.hid (mg_end hlt hlt' HE.out)
        have HG := Lib.hid (gather_any A' c' D wr (Own.sp HO.out) (by omega))
        rw [HD.out, HOR.out] at HG
        have q2 := cell_keep HB.out HBX.out.c2
        go_wp2_with fail
        rw [HD.out]
        refine HG.out.mono ?_
        rintro e2 w3 ⟨A3, c3, rfl, hown3, hb3⟩
        have HO3 := Lib.hid hown3
        have p2 := cell_keep hb3 q2
        have g2 : w3.frozen? ⟨w.heap.size + 2, 0, none⟩ = false := ((bel_chain hb3 HB.out).frozen (p := ⟨w.heap.size + 2, 0, none⟩) (by simp [HBX.out.size])).trans HBX.out.f2
        have HB3 := Lib.hid (bel_chain (bel_chain hb3 HB.out) HBX.out.bel)
        clear hown3 hb3 HG q2
        go_wp2_with fail
        refine bodyPost_ret (by simp [results, Tryd.results19, go_sem, p2]; try rfl) rfl ?_
        refine ⟨A3, c3, rfl, ?_, ?_⟩
        · exact Own.sp (ownsRow_setCell_below HO3.out (by show w.heap.size + 2 < wr.heap.size; omega) _)
        · exact bel_set HB3.out (by show w.heap.size ≤ w.heap.size + 2; omega) _
end Go.Proofs.YtfpfdgljhcpkpaaDoor
