/- Contract of the program's Parse of a set. The walk of RangesTexts. -/
import Derived.Test.YtbphndihjdiiiaaGreatDoorZE3
import Derived.Test.YtbphndihjdiiiaaGreatDoorZW3
import Derived.Test.YtbphndihjdiiiaaGreatDoorZQ2
import Derived.Test.YtbphndihjdiiiaaGreatDoorZB11
import Derived.Test.YtbphndihjdiiiaaGreatDoorZD1
import Derived.IntWalk
namespace Go.Proofs.YtbphndihjdiiiaaGreatDoor
open Go Go.RowKit
attribute [local go_sem] Oper.semAt_some

theorem wplIn_appendO {F : Fence} {n b0 : Nat} {w : World} {ops : Array Oper} {rest : List Oper} {o : Oper} {a : Act} {Q : Exit → Act → World → Prop} (hgd : o.guard = none) (s x : Operand)
    (ho : o.op = .call { callee := .builtin .append, args := #[s, x], argTypes := #[22, 22] })
    (A : Option Addr) (c : Nat) (L : List (Int × Int)) (hs : a.eval s = .slice A L.length c) (hown : Own w b0 A c L)
    (g : Nat) (x1 x2 : Int) (hx : a.eval x = .slice (some ⟨g, 0, none⟩) 1 1) (hc : w.cell? ⟨g, 0, none⟩ = some (.int .i64 x1)) (hc' : w.cell? ⟨g, 1, none⟩ = some (.int .i64 x2))
    (hl : L.length ≤ 2000000) (hb0 : b0 ≤ w.heap.size)
    (h : ∀ A' c' w', Own w' b0 A' c' (L ++ [(x1, x2)]) → w.grownBy w' (Value.slice A L.length c).ownBlock → wpListIn F n Tryz.prog ops Q rest (a.put o.dst (.slice A' (L.length + 1) c')) w') : wpListIn F n Tryz.prog ops Q (o :: rest) a w := by
  obtain ⟨i0, hi, hz0, hz1, hz2⟩ := info_parts Tryz.spanInfo
  refine wpListIn_append_own w hgd s x _ ho b0 80 i0 _ 2 16 Tryz.underlying22 hi hz0 hz1 hz2 rfl (by decide) _ _ _ hs hown ⟨g, 0, none⟩ 1 1 [.int .i64 x1, .int .i64 x2] hx rfl ?_ ?_ (by simp only [maxLen]; omega) (by omega) hb0 ?_
  · intro j u hj
    have hadd : ∀ j, (⟨g, 0, none⟩ : Addr).add j = ⟨g, j, none⟩ := fun j => by unfold Addr.add; split <;> simp_all
    rw [hadd]
    match j, hj with
    | 0, hj => simp at hj; rw [← hj]; exact hc
    | 1, hj => simp at hj; rw [← hj]; exact hc'
    | j + 2, hj => simp at hj
  · intro u hu
    simp at hu
    rcases hu with rfl | rfl <;> rfl
  · intro v' w' h1 h2 _
    have hlen : (L ++ [(x1, x2)]).length = L.length + 1 := by simp
    have hsp : spCells L ++ [.int .i64 x1, .int .i64 x2] = spCells (L ++ [(x1, x2)]) := by rw [spCells_append]; rfl
    rw [hsp] at h1
    have hform : ∃ A' c', v' = .slice A' (L.length + 1) c' := by
      rcases h1.2 with ⟨_, hn⟩ | ⟨g', cap, cur, hv, _⟩
      · omega
      · exact ⟨_, _, hv⟩
    obtain ⟨A', c', rfl⟩ := hform
    exact h A' c' w' (by unfold Own; rw [hlen]; exact h1) h2
section
variable {W W' : World} {base k : Nat} {A : Option Addr} {c : Nat} {L : List (Int × Int)}
theorem Own.offK (h : Own W base A c L) (hg : W.grownBy W' (some k)) (hk : k < base) : Own W' base A c L :=
  World.ownsRow.kept h hg (.inr fun e => by have := (World.ownsRow.lt h _ e).1; omega)
theorem Own.turned {o : Obj} (h : Own W base A c L) (ho : W.heap[k]? = some o) (hc : o.isCells = false) (o' : Obj) : Own (W.putObj k o') base A c L := by
  refine World.ownsRow.kept h (grownBy_putObj' _ _ _) (.inr ?_)
  rcases h.2 with ⟨hv, _⟩ | ⟨g, cap, cur, hv, _, hg, _⟩
  · rw [hv]; simp [Value.ownBlock]
  · rw [hv]
    intro e
    simp [Value.ownBlock] at e
    subst e
    rw [ho] at hg
    injection hg with hg
    rw [hg] at hc
    cases hc
theorem Own.notblk (h : Own W base A c L) (hk : k < base) : some k ≠ (Value.slice A L.length c).ownBlock := fun e => by have := (World.ownsRow.lt h _ e.symm).1; omega
theorem Own.others (h : Own W base A c L) (hg : W.grownBy W' (Value.slice A L.length c).ownBlock) : KeepsOthers W W' := by
  refine ⟨hg.size, fun k o hk ho => (hg.block k (qb_lt hk) fun e => ?_).trans hk⟩
  rcases h.2 with ⟨hv, _⟩ | ⟨g, cap, cur, hv, _, hgb, _⟩
  · rw [hv] at e; simp [Value.ownBlock] at e
  · rw [hv] at e
    simp [Value.ownBlock] at e
    subst e
    rw [hk] at hgb
    injection hgb with hgb
    rw [hgb] at ho
    cases ho
theorem own_grown {o : Obj} (h : Own W base A c L) (hg : W.grownBy W' (Value.slice A L.length c).ownBlock) (hk : k < base) (ho : W.heap[k]? = some o) : W'.heap[k]? = some o :=
  (hg.block k (qb_lt ho) (h.notblk hk)).trans ho
theorem Own.kept' (h : Own W base A c L) (hb : Below W.heap.size W W') : Own W' base A c L :=
  World.ownsRow.kept (row := none) h ⟨hb.os, hb.tape, hb.output, hb.size, fun k hk _ => hb.block k hk⟩ (by cases A <;> simp [Value.ownBlock])
theorem Own.al (h : Own W base A c L) (o : Obj) : Own (W.alloc o) base A c L := World.ownsRow.alloc h o
end
theorem runP_len : ∀ {ws : List (List UInt8)} {ys zs : List (Int × Int)}, runP ys ws = some zs → zs.length = ys.length + ws.length
  | [], ys, zs, h => by rw [runP] at h; injection h with h; subst h; simp
  | w :: r, ys, zs, h => by
    rw [runP] at h
    cases hn : nextP ys w with
    | none => rw [hn] at h; cases h
    | some us =>
      rw [hn] at h
      have := runP_len h
      have h2 : us.length = ys.length + 1 := by
        unfold nextP at hn
        split at hn
        · cases hn
        · split at hn
          · cases hn
          · split at hn
            · injection hn with hn; subst hn; simp
            · split at hn
              · cases hn
              · injection hn with hn; subst hn; simp
      simp; omega
/-- What the program's Parse of a set comes to. -/
def SetRet (v : Option (List (Int × Int))) (w : World) (e : Ending) (w' : World) : Prop :=
  (match v with
    | some L => ∃ A c, e = .returned (.tuple #[.agg #[.slice A L.length c], .int .i64 0]) ∧ Sp w' A c L
    | none => e = .returned (.tuple #[.agg #[.slice none 0 0], .int .i64 2])) ∧ Below w.heap.size w w'
/-- What holds between two rounds. -/
structure SetInv (w : World) (pre : List (List UInt8)) (W : World) : Prop where
  ex : ∃ ys A c, runP [] pre = some ys ∧ W.heap[w.heap.size + 2]? = some (.cells #[.slice A ys.length c] 22 (0, 0)) ∧ Own W (w.heap.size + 6) A c ys
  r2 : W.heap[w.heap.size]? = some (.cells #[.slice none 0 0] 26 (0, 0))
  r3 : W.heap[w.heap.size + 1]? = some (.cells #[.int .i64 0] 28 (0, 0))
  bel : Below w.heap.size w W
  sz : w.heap.size + 6 ≤ W.heap.size
/-- What holds where a round has left. -/
def SetStop (w : World) (c : Code) (pre : List (List UInt8)) (W : World) : Prop := c = .ret ∧ runP [] pre = none ∧ W.heap[w.heap.size]? = some (.cells #[.slice none 0 0] 26 (0, 0)) ∧ W.heap[w.heap.size + 1]? = some (.cells #[.int .i64 2] 28 (0, 0)) ∧ Below w.heap.size w W
theorem SetInv.grown {w W W' : World} {k : Nat} {pre : List (List UInt8)} (h : SetInv w pre W) (hg : W.grownBy W' (some k)) (hk : w.heap.size + 3 ≤ k) (hrow : ∀ A c L, Own W (w.heap.size + 6) A c L → (Value.slice A (List.length L) c).ownBlock ≠ some k) : SetInv w pre W' := by
  obtain ⟨ys, A, c, h1, h2, h4⟩ := h.ex
  have blk : ∀ j o, j ≠ k → W.heap[j]? = some o → W'.heap[j]? = some o := fun j o hj ho => (hg.block j (Array.getElem?_eq_some_iff.1 ho).1 (by intro e; injection e with e; exact hj e)).trans ho
  refine ⟨⟨ys, A, c, h1, blk _ _ (by omega) h2, World.ownsRow.kept h4 hg (.inr (hrow _ _ _ h4))⟩, blk _ _ (by omega) h.r2, blk _ _ (by omega) h.r3, h.bel.grown hg h.bel.size (fun j hj => by injection hj with hj; omega), Nat.le_trans h.sz hg.size⟩
theorem SetInv.below {w W W' : World} {pre : List (List UInt8)} (h : SetInv w pre W) (hb : Below W.heap.size W W') : SetInv w pre W' := by
  obtain ⟨ys, A, c, h1, h2, h4⟩ := h.ex
  exact ⟨⟨ys, A, c, h1, qb_keep hb (Nat.le_refl _) h2, h4.kept' hb⟩, qb_keep hb (Nat.le_refl _) h.r2, qb_keep hb (Nat.le_refl _) h.r3, bel_chain hb h.bel, Nat.le_trans h.sz hb.size⟩
theorem SetInv.turn {w W : World} {k : Nat} {pre : List (List UInt8)} {o : Obj} (h : SetInv w pre W) (hk : w.heap.size + 3 ≤ k) (ho : W.heap[k]? = some o) (hc : o.isCells = false) (o' : Obj) : SetInv w pre (W.putObj k o') := by
  refine h.grown (grownBy_putObj' _ _ _) hk fun A c L h4 => ?_
  rcases h4.2 with ⟨hv, _⟩ | ⟨g, cap, cur, hv, _, hg, _⟩
  · rw [hv]; simp [Value.ownBlock]
  · rw [hv]
    intro e
    simp [Value.ownBlock] at e
    subst e
    rw [ho] at hg
    injection hg with hg
    rw [hg] at hc
    cases hc
theorem SetInv.box {w W : World} {pre : List (List UInt8)} (h : SetInv w pre W) (v : Value) : SetInv w pre (W.setCell ⟨w.heap.size + 3, 0, none⟩ v) := by
  refine h.grown (k := w.heap.size + 3) (qb_set W ⟨w.heap.size + 3, 0, none⟩ v) (by omega) fun A c L h4 e => ?_
  have := (World.ownsRow.lt h4 _ e).1
  omega
theorem parseSet_run {l : List UInt8} (h : l ≠ noneT) : parseSet l = runP [] (splitC l) := by unfold parseSet; rw [if_neg h]
set_option maxHeartbeats 4000000 in
set_option maxRecDepth 100000 in
theorem parseP_any (l : List UInt8) (w : World) (hl : l.length ≤ 65536) (htab : Lib.TabIs Tryz.prog w "internal/strconv.uint64pow10" .u64 Lib.pow10Tab) (herr : ErrsOk w) :
    Calls Tryz.prog 13 #[.string ⟨l.toArray⟩] w (SetRet (parseSet l) w) := by
  have hsz : (⟨l.toArray⟩ : ByteArray).size = l.length := List.size_toArray ..
  have hbig : decide ((65536 : Int) < (l.length : Int)) = false := decide_eq_false (by omega)
  have hbig2 : ¬ (65536 : Int) < (l.length : Int) := by omega
  by_cases hn : l = noneT
  · have HV : Hid (parseSet l = some []) := by simp only [Hid]; unfold parseSet; rw [if_pos hn]
    have hb : (l == [110, 111, 110, 101]) = true := by rw [beq_iff_eq]; exact hn
    clear hn htab herr
    go_enter Tryz.func13, Tryz.ntmps13
    go_wp2_with fail
    refine bodyPost_ret (by simp [results, Tryz.results13, go_sem]; try rfl) rfl ?_
    unfold SetRet
    rw [HV.out]
    exact ⟨⟨none, 0, rfl, Sp.nil _⟩, by (repeat (first | exact Below.refl _ _ | refine bel_drewN ?_ _ | refine bel_drew ?_ | refine bel_alloc ?_ _ | refine bel_set ?_ (by simp) _))⟩
  have HV := Lib.hid (parseSet_run hn)
  have hb : (l == [110, 111, 110, 101]) = false := by rw [beq_eq_false_iff_ne]; exact hn
  have HTAB := Lib.hid htab
  have HERR := Lib.hid herr
  clear hn htab herr
  refine (callsIn_wide (n := 4)).1 ?_
  refine callsIn_of_wp_marks Tryz.func13 rfl trivial ?_
  simp only [Tryz.ntmps13, List.size_toArray, List.length_cons, List.length_nil, Nat.reduceAdd, Nat.reduceSub, Array.replicate_succ, Array.replicate_zero, List.push_toArray, List.append_toArray, List.nil_append, List.cons_append]
  gi_wp2_with fail
  refine ⟨trivial, ?_⟩
  refine (callsIn_wide.2 (splitSeq_any _ _)).mono ?_
  rintro e2 w2 ⟨rfl, rfl⟩
  gi_wp2_with fail
  refine rangeFunc_cells (α := List UInt8) rfl (by omega) (gf := 160) (lb := #[.pointer (some ⟨w.heap.size + 1 + 1 + 1 + 1, 0, none⟩), .pointer (some ⟨w.heap.size + 1 + 1 + 1, 0, none⟩), .pointer (some ⟨w.heap.size + 1 + 1 + 1 + 2, 0, none⟩)]) rfl trivial (enters_of Tryz.func160 (by kernel_rfl) rfl) (encs := fun x => #[.string ⟨x.toArray⟩]) (Ok := fun pre x => x.length ≤ 100000 ∧ pre.length ≤ 100001) (Kp := KeepsBoxes (w.heap.size + 3)) (fun _ => rfl) (fun h k => h.trans k) ?hKb (SetInv w) (SetStop w) ?hI ?hIx (S := fun xs => xs = splitC l) ?h0 ?hserves ?a1 ?hassign ?hbody ?hdone ?hstop
  case hassign =>
    intro lp x W K hK
    gi_wp2
    exact hK
  case hKb =>
    intro W lp o o' h _ _
    simp at h
    exact KeepsBoxes.put (by omega) _
  case hI =>
    intro pre W lp o o' h hlp ho hc
    simp at hlp
    exact h.turn (by omega) ho hc o'
  case hIx =>
    rintro c pre W lp o o' ⟨h1, h2, h3, h4, h5⟩ hlp ho hc
    simp at hlp
    exact ⟨h1, h2, (World.putObj_heap_other (by omega)).trans h3, (World.putObj_heap_other (by omega)).trans h4, h5.grown (grownBy_putObj' _ _ _) h5.size (fun j hj => by injection hj with hj; omega)⟩
  case h0 =>
    intro o o'
    refine ⟨⟨[], none, 0, rfl, ?_, Own.nil _ _⟩, ?_, ?_, ?_, by simp⟩
    · exact qb_skip (qb_skip (qb_skip (qb_skip (qb_skip (qb_new (by simp))))))
    · exact qb_skip (qb_skip (qb_skip (qb_skip (qb_skip (qb_skip (qb_skip (qb_new rfl)))))))
    · exact qb_skip (qb_skip (qb_skip (qb_skip (qb_skip (qb_skip (qb_new (by simp)))))))
    · (repeat (first | exact Below.refl _ _ | refine bel_drewN ?_ _ | refine bel_drew ?_ | refine bel_alloc ?_ _ | refine bel_set ?_ (by simp) _))
  case hserves =>
    intro W hW hbW
    refine split_serves 3 (w.heap.size + 3) l (by omega) _ _ ?_ ?_ W ?_
    · intro pre W v h
      exact h.box v
    · intro pre W h
      exact ⟨h.ex, h.r2, h.r3, h.bel.drew, h.sz⟩
    · exact ⟨qb_keep hbW (Nat.le_refl _) (qb_skip (qb_skip (qb_new (by simp)))), qb_keep hbW (Nat.le_refl _) (qb_skip (qb_new (by simp))), qb_keep hbW (Nat.le_refl _) (qb_new (by simp))⟩
  case hstop =>
    rintro D c pre W hD ⟨suf, hsuf⟩ ⟨rfl, h2, h3, h4, h5⟩ hK
    simp at hD
    have hp : parseSet l = none := by rw [HV.out, ← hsuf, runP_append, h2]
    rw [hp]
    have d3 := qb_put (o' := .deferred none) h3 hK rfl
    have d4 := qb_put (o' := .deferred none) h4 hK rfl
    have c3 := Lib.cell_of_heap d3 0
    have c4 := Lib.cell_of_heap d4 0
    gi_wp2
    refine ⟨by simp, .inl ⟨_, _, rfl, run_takeDeferred hK, ?_⟩⟩
    refine ⟨.tuple #[.agg #[.slice none 0 0], .int .i64 2], ?_, rfl, h5.grown (grownBy_putObj' _ _ _) h5.size (fun j hj => by injection hj with hj; omega)⟩
    simp [results, Tryz.results13, go_sem, c3, c4]
  case hdone =>
    rintro D xs W hD rfl hW hK
    simp at hD
    rename_i K hKK
    refine hKK _ _ ?_
    clear hKK
    obtain ⟨ys, A, c, hy, hb1, hown⟩ := hW.ex
    have c4 := Lib.cell_of_heap hb1 0
    have c2 := Lib.cell_of_heap hW.r2 0
    have c3 := Lib.cell_of_heap hW.r3 0
    have f2 : W.frozen? ⟨w.heap.size, 0, none⟩ = false := Lib.frozen_of_heap hW.r2 0
    have f3 : W.frozen? ⟨w.heap.size + 1, 0, none⟩ = false := Lib.frozen_of_heap hW.r3 0
    have z4 := qb_lt hb1
    rw [hy] at HV
    have hb := hW.bel
    have fin : ∀ (u v : Value), Hid (Below w.heap.size w (((W.setCell ⟨w.heap.size, 0, none⟩ u).setCell ⟨w.heap.size + 1, 0, none⟩ v).putObj D (.deferred none)) ∧ ((W.setCell ⟨w.heap.size, 0, none⟩ u).setCell ⟨w.heap.size + 1, 0, none⟩ v).heap[D]? = some (.deferred (some [])) ∧ (((W.setCell ⟨w.heap.size, 0, none⟩ u).setCell ⟨w.heap.size + 1, 0, none⟩ v).putObj D (.deferred none)).cell? ⟨w.heap.size, 0, none⟩ = some u ∧ (((W.setCell ⟨w.heap.size, 0, none⟩ u).setCell ⟨w.heap.size + 1, 0, none⟩ v).putObj D (.deferred none)).cell? ⟨w.heap.size + 1, 0, none⟩ = some v) := by
      intro u v
      have k1 : ((W.setCell ⟨w.heap.size, 0, none⟩ u).setCell ⟨w.heap.size + 1, 0, none⟩ v).heap[D]? = some (.deferred (some [])) := (KeepsOthers.setCell _ _ _).same D _ ((KeepsOthers.setCell _ _ _).same D _ hK rfl) rfl
      have b1 := (hb.setCell (p := ⟨w.heap.size, 0, none⟩) (Nat.le_refl _) u).setCell (p := ⟨w.heap.size + 1, 0, none⟩) (by simp) v
      refine ⟨b1.grown (grownBy_putObj' _ _ _) b1.size (fun j hj => by injection hj with hj; omega), k1, ?_, ?_⟩
      · refine cell_kept ?_ (grownBy_putObj' _ D (.deferred none)) (fun r e => by cases e; exact ⟨_, k1, rfl⟩)
        rw [World.cell?_of_block (Below.heap_setCell _ _ _ _ (by simp))]
        exact World.cell?_setCell_same' W ⟨w.heap.size, 0, none⟩ u (by rw [c2]; rfl)
      · refine cell_kept ?_ (grownBy_putObj' _ D (.deferred none)) (fun r e => by cases e; exact ⟨_, k1, rfl⟩)
        exact World.cell?_setCell_same' _ ⟨w.heap.size + 1, 0, none⟩ v (by rw [World.cell?_of_block (Below.heap_setCell _ _ _ _ (by simp)), c3]; rfl)
    have HO := Lib.hid hown
    clear hW hb1 hb hown
    gi_wp2
    obtain ⟨q1, q2, q3, q4⟩ := (fin (.slice A ys.length c) (.int .i64 0)).out
    refine ⟨by simp, .inl ⟨_, _, rfl, run_takeDeferred q2, ?_⟩⟩
    rw [HV.out]
    refine ⟨.tuple #[.agg #[.slice A ys.length c], .int .i64 0], ?_, ⟨A, c, rfl, ?_⟩, q1⟩
    · simp [results, Tryz.results13, go_sem, q3, q4]
    · exact (((HO.out.offK (k := w.heap.size) (qb_set _ ⟨w.heap.size, 0, none⟩ _) (by omega)).offK (k := w.heap.size + 1) (qb_set _ ⟨w.heap.size + 1, 0, none⟩ _) (by omega)).turned q2 rfl _).sp
  case hbody =>
    intro lp pre x W ⟨hx, hpl⟩ hW
    rename_i K hKK
    clear hKK
    have HPA := fun W h1 h2 => Lib.hid (spanParse_any x W hx h1 h2)
    gi_wp2_with fail
    refine ⟨trivial, ?_⟩
    refine (CallsIn.inRound lp (callsIn_wide.2 (HPA _ (tab_below HTAB.out hW.bel) (HERR.out.below hW.bel)).out)).mono ?_
    rintro e w3 ⟨hp, hbP⟩
    have HW3 := Lib.hid (hW.below hbP)
    have HBP := Lib.hid hbP
    have HSZ := Lib.hid hW.sz
    have z3 : w.heap.size + 6 ≤ w3.heap.size := HW3.out.sz
    have c2 : w3.cell? ⟨w.heap.size, 0, none⟩ = some (.slice none 0 0) := Lib.cell_of_heap HW3.out.r2 0
    have c3 : w3.cell? ⟨w.heap.size + 1, 0, none⟩ = some (.int .i64 0) := Lib.cell_of_heap HW3.out.r3 0
    have f2 : w3.frozen? ⟨w.heap.size, 0, none⟩ = false := Lib.frozen_of_heap HW3.out.r2 0
    have f3 : w3.frozen? ⟨w.heap.size + 1, 0, none⟩ = false := Lib.frozen_of_heap HW3.out.r3 0
    have y2 : w.heap.size < w3.heap.size := by omega
    have y3 : w.heap.size + 1 < w3.heap.size := by omega
    obtain ⟨ys, A, c, hy, hb1, hown⟩ := HW3.out.ex
    have HY := Lib.hid hy
    have HYL := Lib.hid (runP_len hy)
    have HRS := Lib.hid (runP_snoc (w := x) hy)
    clear HPA hbP hW hy
    cases hsp : spanP x with
    | none =>
      rw [hsp] at hp
      obtain rfl := hp
      have HRN : Hid (runP [] (pre ++ [x]) = none) := by simp only [Hid]; rw [HRS.out]; unfold nextP; rw [hsp]
      clear hsp HRS
      gi_wp2_with fail
      refine ⟨(((qb_others HBP.out).trans (KeepsOthers.setCell _ _ _)).trans (KeepsOthers.setCell _ _ _)).trans (KeepsOthers.alloc _ _), rfl, HRN.out, ?_, ?_, ?_⟩
      · exact qb_skip (qb_other (by simp) (qb_one _ HW3.out.r2))
      · exact qb_skip (qb_one _ (qb_other (by simp) HW3.out.r3))
      · exact bel_alloc (bel_setw (bel_setw HW3.out.bel (Nat.le_refl _) _) (by simp) _) _
    | some p =>
      obtain ⟨p1, p2⟩ := p
      rw [hsp] at hp
      obtain rfl := hp
      by_cases h12 : p1 = p2
      · have HRN : Hid (runP [] (pre ++ [x]) = none) := by simp only [Hid]; rw [HRS.out]; unfold nextP; rw [hsp]; exact if_pos h12
        have hq : (p1 == p2) = true := by rw [beq_iff_eq]; exact h12
        clear hsp HRS h12
        gi_wp2_with fail
        refine ⟨(((qb_others HBP.out).trans (KeepsOthers.setCell _ _ _)).trans (KeepsOthers.setCell _ _ _)).trans (KeepsOthers.alloc _ _), rfl, HRN.out, ?_, ?_, ?_⟩
        · exact qb_skip (qb_other (by simp) (qb_one _ HW3.out.r2))
        · exact qb_skip (qb_one _ (qb_other (by simp) HW3.out.r3))
        · exact bel_alloc (bel_setw (bel_setw HW3.out.bel (Nat.le_refl _) _) (by simp) _) _
      · have hq : (p1 == p2) = false := by rw [beq_eq_false_iff_ne]; exact h12
        have HNP : Hid (runP [] (pre ++ [x]) = match ys.getLast? with
            | none => some (ys ++ [(p1, p2)])
            | some l => if p1 ≤ l.2 then none else some (ys ++ [(p1, p2)])) := by simp only [Hid]; rw [HRS.out]; unfold nextP; rw [hsp]; exact if_neg h12
        have c4 : w3.cell? ⟨w.heap.size + 1 + 1, 0, none⟩ = some (.slice A ys.length c) := Lib.cell_of_heap hb1 0
        have f4 : w3.frozen? ⟨w.heap.size + 1 + 1, 0, none⟩ = false := Lib.frozen_of_heap hb1 0
        have y4 : w.heap.size + 1 + 1 < w3.heap.size := by omega
        have HB1 := Lib.hid hb1
        have hyl : ys.length ≤ 100001 := by have := HYL.out; simp at this; omega
        clear hsp HRS h12 hb1 HYL
        gi_wp2_with fail
        rcases nil_or_snoc ys with rfl | ⟨i, l, rfl⟩
        · have HO := Lib.hid hown
          have HR : Hid (runP [] (pre ++ [x]) = some [(p1, p2)]) := HNP.out
          clear hown HNP
          have hd : decide ((0 : Int) < 0) = false := rfl
          refine wpIn_region_quiet_litR (by kernel_rfl) (by kernel_rfl) (by kernel_rfl) ?_
          repeat (gi_big_quiet_step (fail))
          refine wpQuietIn_nil ?_
          rintro _ ⟨nq, rfl⟩
          have HBW : Hid (Below W.heap.size W (((w3.alloc (.cells #[.int .i64 p1, .int .i64 p2] 80)).drewN nq).alloc (.cells #[.int .i64 p1, .int .i64 p2] 80))) := bel_alloc (bel_drewN (bel_alloc HBP.out _) _) _
          have HOW : Hid (Own (((w3.alloc (.cells #[.int .i64 p1, .int .i64 p2] 80)).drewN nq).alloc (.cells #[.int .i64 p1, .int .i64 p2] 80)) (w.heap.size + 6) A c (([] : List (Int × Int)))) := by simp only [Hid]; exact ((HO.out.al _).drewN _).al _
          have HB1w : Hid ((((w3.alloc (.cells #[.int .i64 p1, .int .i64 p2] 80)).drewN nq).alloc (.cells #[.int .i64 p1, .int .i64 p2] 80)).heap[w.heap.size + 2]? = some (.cells #[.slice A (([] : List (Int × Int))).length c] 22 (0, 0))) := qb_skip (blk_drewN (qb_skip HB1.out))
          have HR2w : Hid ((((w3.alloc (.cells #[.int .i64 p1, .int .i64 p2] 80)).drewN nq).alloc (.cells #[.int .i64 p1, .int .i64 p2] 80)).heap[w.heap.size]? = some (.cells #[.slice none 0 0] 26 (0, 0))) := qb_skip (blk_drewN (qb_skip HW3.out.r2))
          have HR3w : Hid ((((w3.alloc (.cells #[.int .i64 p1, .int .i64 p2] 80)).drewN nq).alloc (.cells #[.int .i64 p1, .int .i64 p2] 80)).heap[w.heap.size + 1]? = some (.cells #[.int .i64 0] 28 (0, 0))) := qb_skip (blk_drewN (qb_skip HW3.out.r3))
          have HBw : Hid (Below w.heap.size w (((w3.alloc (.cells #[.int .i64 p1, .int .i64 p2] 80)).drewN nq).alloc (.cells #[.int .i64 p1, .int .i64 p2] 80))) := bel_alloc (bel_drewN (bel_alloc HW3.out.bel _) _) _
          gi_wp2_with (gi_at_builtin; refine wplIn_appendO (b0 := w.heap.size + 6) rfl (.tmp 50) (.tmp 52) rfl A c (([] : List (Int × Int))) rfl HOW.out (w3.heap.size + 1) p1 p2 rfl (by simp [go_sem]) (by simp [go_sem]) (by simp) (by simp; omega) ?_; intro A2 c2' w4 hown4 hg4; have hb4 := own_grown HOW.out hg4 (k := w.heap.size + 2) (by omega) HB1w.out; have d4 : w4.cell? ⟨w.heap.size + 1 + 1, 0, none⟩ = _ := Lib.cell_of_heap hb4 0; have df4 : w4.frozen? ⟨w.heap.size + 1 + 1, 0, none⟩ = false := Lib.frozen_of_heap hb4 0)
          refine ⟨((qb_others HBW.out).trans (HOW.out.others hg4)).trans (KeepsOthers.setCell _ _ _), ?_, ?_⟩
          · intro b hb1 hb2
            rw [Below.heap_setCell _ _ _ _ (by simp; omega), hg4.block b (by simp; omega) (HOW.out.notblk (by omega))]
            exact HBW.out.block b (by have := HSZ.out; omega)
          · refine ⟨⟨([] : List (Int × Int)) ++ [(p1, p2)], A2, c2', HR.out, ?_, ?_⟩, ?_, ?_, ?_, ?_⟩
            · rw [List.length_append]; exact qb_one _ hb4
            · exact hown4.offK (k := w.heap.size + 2) (qb_set _ ⟨w.heap.size + 2, 0, none⟩ _) (by omega)
            · exact qb_other (by simp; omega) (own_grown HOW.out hg4 (by omega) HR2w.out)
            · exact qb_other (by simp) (own_grown HOW.out hg4 (by omega) HR3w.out)
            · refine bel_setw ?_ (by simp; omega) _
              exact HBw.out.grown hg4 HBw.out.size (fun j hj => by have := (World.ownsRow.lt HOW.out _ hj).1; omega)
            · have h1 := hg4.size; simp at h1 ⊢; omega
        · have el : (i ++ [l]).length = i.length + 1 := by simp
          have hne : 0 < (i ++ [l]).length := by omega
          obtain ⟨g, rfl, hg1, hg2⟩ := Own.at_ hown hne
          have hown' : w3.ownsRow (w.heap.size + 6) 80 2 (.slice (some ⟨g, 0, none⟩) (i.length + 1) c) (i.length + 1) (spCells (i ++ [l])) := by
            have := hown
            unfold Own at this
            rw [el] at this
            exact this
          have cl := (spCells_even (i ++ [l]) i.length l (by simp)).2
          have d2 : w3.cell? ⟨g, i.length * 2 + 1, none⟩ = some (.int .i64 l.2) := by
            rw [hown'.cellAt _ (by omega), ← cl, Nat.mul_comm]
          have HO := Lib.hid hown
          have HNP2 : Hid (runP [] (pre ++ [x]) = if p1 ≤ l.2 then none else some (i ++ [l] ++ [(p1, p2)])) := by
            simp only [Hid]; rw [HNP.out]; simp
          clear hown hown' cl HNP hne
          rw [el] at c4 hyl ⊢
          have HEL := Lib.hid el
          clear el
          obtain ⟨l1, l2⟩ := l
          simp only at d2 HNP2
          have hng : g ≠ w3.heap.size := by omega
          by_cases hj : p1 ≤ l2
          · have HRN : Hid (runP [] (pre ++ [x]) = none) := by simp only [Hid]; rw [HNP2.out, if_pos hj]
            clear HNP2
            refine wpIn_region_quiet_litR (by kernel_rfl) (by kernel_rfl) (by kernel_rfl) ?_
            repeat (gi_big_quiet_step (fail))
            refine wpQuietIn_nil ?_
            rintro _ ⟨nq, rfl⟩
            gi_wp2_with fail
            refine ⟨(((qb_others (show Below W.heap.size W _ from bel_drewN (bel_alloc HBP.out _) _)).trans (KeepsOthers.setCell _ _ _)).trans (KeepsOthers.setCell _ _ _)), rfl, HRN.out, ?_, ?_, ?_⟩
            · exact qb_other (by simp) (qb_one _ (blk_drewN (qb_skip HW3.out.r2)))
            · exact qb_one _ (qb_other (by simp) (blk_drewN (qb_skip HW3.out.r3)))
            · exact bel_setw (bel_setw (bel_drewN (bel_alloc HW3.out.bel _) _) (Nat.le_refl _) _) (by simp) _
          · have HR : Hid (runP [] (pre ++ [x]) = some (i ++ [(l1, l2)] ++ [(p1, p2)])) := by simp only [Hid]; rw [HNP2.out, if_neg hj]
            have hjb : decide (p1 ≤ l2) = false := decide_eq_false hj
            clear HNP2
            refine wpIn_region_quiet_litR (by kernel_rfl) (by kernel_rfl) (by kernel_rfl) ?_
            repeat (gi_big_quiet_step (fail))
            refine wpQuietIn_nil ?_
            rintro _ ⟨nq, rfl⟩
            have HBW : Hid (Below W.heap.size W (((w3.alloc (.cells #[.int .i64 p1, .int .i64 p2] 80)).drewN nq).alloc (.cells #[.int .i64 p1, .int .i64 p2] 80))) := bel_alloc (bel_drewN (bel_alloc HBP.out _) _) _
            have HOW : Hid (Own (((w3.alloc (.cells #[.int .i64 p1, .int .i64 p2] 80)).drewN nq).alloc (.cells #[.int .i64 p1, .int .i64 p2] 80)) (w.heap.size + 6) (some ⟨g, 0, none⟩) c (i ++ [(l1, l2)])) := by simp only [Hid]; exact ((HO.out.al _).drewN _).al _
            have HB1w : Hid ((((w3.alloc (.cells #[.int .i64 p1, .int .i64 p2] 80)).drewN nq).alloc (.cells #[.int .i64 p1, .int .i64 p2] 80)).heap[w.heap.size + 2]? = some (.cells #[.slice (some ⟨g, 0, none⟩) (i ++ [(l1, l2)]).length c] 22 (0, 0))) := qb_skip (blk_drewN (qb_skip HB1.out))
            have HR2w : Hid ((((w3.alloc (.cells #[.int .i64 p1, .int .i64 p2] 80)).drewN nq).alloc (.cells #[.int .i64 p1, .int .i64 p2] 80)).heap[w.heap.size]? = some (.cells #[.slice none 0 0] 26 (0, 0))) := qb_skip (blk_drewN (qb_skip HW3.out.r2))
            have HR3w : Hid ((((w3.alloc (.cells #[.int .i64 p1, .int .i64 p2] 80)).drewN nq).alloc (.cells #[.int .i64 p1, .int .i64 p2] 80)).heap[w.heap.size + 1]? = some (.cells #[.int .i64 0] 28 (0, 0))) := qb_skip (blk_drewN (qb_skip HW3.out.r3))
            have HBw : Hid (Below w.heap.size w (((w3.alloc (.cells #[.int .i64 p1, .int .i64 p2] 80)).drewN nq).alloc (.cells #[.int .i64 p1, .int .i64 p2] 80))) := bel_alloc (bel_drewN (bel_alloc HW3.out.bel _) _) _
            gi_wp2_with (gi_at_builtin; refine wplIn_appendO (b0 := w.heap.size + 6) rfl (.tmp 50) (.tmp 52) rfl (some ⟨g, 0, none⟩) c (i ++ [(l1, l2)]) (by rw [HEL.out]; rfl) HOW.out (w3.heap.size + 1) p1 p2 rfl (by simp [go_sem]) (by simp [go_sem]) (by rw [HEL.out]; omega) (by simp; omega) ?_; intro A2 c2' w4 hown4 hg4; have hb4 := own_grown HOW.out hg4 (k := w.heap.size + 2) (by omega) HB1w.out; have d4 : w4.cell? ⟨w.heap.size + 1 + 1, 0, none⟩ = _ := Lib.cell_of_heap hb4 0; have df4 : w4.frozen? ⟨w.heap.size + 1 + 1, 0, none⟩ = false := Lib.frozen_of_heap hb4 0)
            refine ⟨((qb_others HBW.out).trans (HOW.out.others hg4)).trans (KeepsOthers.setCell _ _ _), ?_, ?_⟩
            · intro b hb1 hb2
              rw [Below.heap_setCell _ _ _ _ (by simp; omega), hg4.block b (by simp; omega) (HOW.out.notblk (by omega))]
              exact HBW.out.block b (by have := HSZ.out; omega)
            · refine ⟨⟨i ++ [(l1, l2)] ++ [(p1, p2)], A2, c2', HR.out, ?_, ?_⟩, ?_, ?_, ?_, ?_⟩
              · rw [List.length_append, HEL.out]; exact qb_one _ hb4
              · exact hown4.offK (k := w.heap.size + 2) (qb_set _ ⟨w.heap.size + 2, 0, none⟩ _) (by omega)
              · exact qb_other (by simp; omega) (own_grown HOW.out hg4 (by omega) HR2w.out)
              · exact qb_other (by simp) (own_grown HOW.out hg4 (by omega) HR3w.out)
              · refine bel_setw ?_ (by simp; omega) _
                exact HBw.out.grown hg4 HBw.out.size (fun j hj => by have := (World.ownsRow.lt HOW.out _ hj).1; omega)
              · have h1 := hg4.size; simp at h1 ⊢; omega
end Go.Proofs.YtbphndihjdiiiaaGreatDoor
namespace Go.Proofs.YtbphndihjdiiiaaGreatDoor
open Go.RowKit

theorem canon_okS {L : List (Int × Int)} (h : Canon L) : ∀ x ∈ L, okS x = true := fun x hx => by
  obtain ⟨h1, h2, h3⟩ := h.mem hx
  exact (okS_iff x).2 ⟨h1, by omega, h3⟩
theorem great1_e (A : Option Addr) (n c g : Nat) (w : World) (h : w.cell? ⟨g, 0, none⟩ = some (.slice A n c)) (hn : n ≤ 9223372036854775807) :
    Calls Tryz.prog 11 #[.slice (some ⟨g, 0, none⟩) 1 1] w fun e w' => e = .returned (.bool (decide (20 < n))) ∧ Below w.heap.size w w' :=
  (great1_any A n c g w h hn).mono fun _ _ ⟨he, hw⟩ => ⟨he, by rw [hw]; exact Below.refl _ _⟩
theorem setText_any (A : Option Addr) (c : Nat) (L : List (Int × Int)) (w : World) (h : Sp w A c L) (hok : ∀ x ∈ L, okS x = true) (hl : L.length ≤ 1000) (htab : Lib.TabIs Tryz.prog w "internal/strconv.uint64pow10" .u64 Lib.pow10Tab) :
    Calls Tryz.prog 14 #[.agg #[.slice A L.length c]] w fun e w' => e = .returned (.string ⟨(textSet L).toArray⟩) ∧ Below w.heap.size w w' := by
  by_cases h0 : L = []
  · subst h0
    have hz : ((([] : List (Int × Int)).length : Int) == 0) = true := rfl
    clear hok hl htab h
    go_enter Tryz.func14, Tryz.ntmps14
    go_wp2_with fail
    go_ret
    exact ⟨rfl, by (repeat (first | exact Below.refl _ _ | refine bel_drewN ?_ _ | refine bel_drew ?_ | refine bel_alloc ?_ _ | refine bel_set ?_ (by simp) _))⟩
  · have e : textSet L = joinT tS L := by unfold textSet; rw [if_neg h0]
    rw [e]
    refine text_any tS A c L w h (by omega) h0 (fun x hx => by have := tS_len (hok x hx); omega) (fun x hx W hW => ?_)
    have := spanT_any x.1 x.2 W (tab_below htab hW)
    have e2 : tX (x.1, x.2) = tS x := by unfold tX; rw [if_pos (hok x hx)]
    rw [e2] at this
    exact this
theorem parse_len {l : List UInt8} {L : List (Int × Int)} (h : parseSet l = some L) : L.length ≤ l.length + 1 := by
  unfold parseSet at h
  split at h
  · injection h with h; subst h; simp
  · have := runP_len h
    have h2 := splitC_length l
    simp at this; omega
theorem ba_listE (o : ByteArray) : ∃ l : List UInt8, o = ⟨l.toArray⟩ ∧ o.size = l.length := ⟨o.data.toList, by obtain ⟨⟨d⟩⟩ := o; rfl, rfl⟩
set_option maxHeartbeats 8000000 in
set_option maxRecDepth 100000 in
theorem rangesTexts_any (A : Option Addr) (c : Nat) (L : List (Int × Int)) (o : ByteArray) (w : World) (h : Sp w A c L) (hn : L.length ≤ 9223372036854775807) (htab : Lib.TabIs Tryz.prog w "internal/strconv.uint64pow10" .u64 Lib.pow10Tab) (herr : ErrsOk w) :
    Calls Tryz.prog 3 #[.slice A L.length c, .string o] w fun e w' => e = .returned (.bool true) ∧ Below w.heap.size w w' := by
  obtain ⟨l, rfl, hol⟩ := ba_listE o
  have HS0 := Lib.hid h
  have HTAB := Lib.hid htab
  have HERR := Lib.hid herr
  clear h htab herr
  go_enter Tryz.func3, Tryz.ntmps3
  go_wp2_with fail
  refine (wakes_any _).mono ?_
  rintro e1 w1 ⟨rfl, hb1⟩
  have HB1 := Lib.hid hb1
  have HS1 := Lib.hid (HS0.out.below hb1)
  clear hb1 HS0
  by_cases hg : 20 < L.length
  · have HG := fun g W h => Lib.hid (great1_e A L.length c g W h hn)
    rw [show decide (20 < L.length) = true from decide_eq_true hg] at HG
    clear hg
    go_wp2_with (go_at_call 11; refine (HG _ _ (by simp [go_sem])).out.mono ?_; rintro e2 w2 ⟨rfl, hb2⟩; have HB2 := Lib.hid (bel_chain hb2 (bel_alloc HB1.out _)); clear hb2)
    go_ret
    exact ⟨rfl, HB2.out⟩
  have HG := fun g W h => Lib.hid (great1_e A L.length c g W h hn)
  rw [show decide (20 < L.length) = false from decide_eq_false hg] at HG
  by_cases hlong : 300 < l.length
  · have hlo : (300 : Int) < (l.length : Int) := by omega
    clear hg hlong
    go_wp2_with (go_at_call 11; refine (HG _ _ (by simp [go_sem])).out.mono ?_; rintro e2 w2 ⟨rfl, hb2⟩; have HB2 := Lib.hid (bel_chain hb2 (bel_alloc HB1.out _)); clear hb2)
    go_ret
    exact ⟨rfl, HB2.out⟩
  have hlo : ¬ (300 : Int) < (l.length : Int) := by omega
  go_wp2_with (go_at_call 11; refine (HG _ _ (by simp [go_sem])).out.mono ?_; rintro e2 w2 ⟨rfl, hb2⟩; have HB2 := Lib.hid (bel_chain hb2 (bel_alloc HB1.out _)); have HS2 := Lib.hid (HS1.out.below (bel_chain hb2 (bel_alloc (Below.refl _ _) _))); clear hb2 HB1 HS1)
  have hcl := cano_length L
  have hcan := cano_canon L
  refine (of_any A c L w2 HS2.out (by omega)).mono ?_
  rintro e3 w3 ⟨A3, c3, rfl, hs3, hb3⟩
  have HOf := fun W h => Lib.hid (rOf_any A c L W h (by omega))
  obtain ⟨C, hC⟩ : ∃ C, cano L = C := ⟨_, rfl⟩
  rw [hC] at hs3 hcl hcan HOf ⊢
  clear hC
  have hok := canon_okS hcan
  have htl := textSet_len hcan
  have hpt := parse_textSet hcan
  have HTX := fun A c W h1 h2 => Lib.hid (setText_any A c C W h1 hok (by omega) h2)
  have HRT := fun A c W h => Lib.hid (rText02_any A c C W h hok (by omega))
  have HPA := fun W h1 h2 => Lib.hid (parseP_any (textSet C) W (by omega) h1 h2)
  rw [hpt] at HPA
  obtain ⟨T, hT⟩ : ∃ T, textSet C = T := ⟨_, rfl⟩
  rw [hT] at HTX HRT HPA
  have hCl : C.length ≤ 1000000 := by omega
  clear hT hpt htl hok hcan
  have HB3 := Lib.hid (bel_chain hb3 HB2.out)
  have HS3 := Lib.hid hs3
  have HL3 := Lib.hid (HS2.out.below hb3)
  clear hs3 hb3 HB2 HS2
  -- THE REST
  go_wp2_with fail
  have BS0 : Hid ((w3.alloc (.cells #[.slice A3 C.length c3] 26)).heap[w3.heap.size]? = some (.cells #[.slice A3 C.length c3] 26 (0, 0))) := blk_new rfl
  have HS0 : Hid (Sp (w3.alloc (.cells #[.slice A3 C.length c3] 26)) A3 c3 C) := HS3.out.alloc _
  have HL0 : Hid (Sp (w3.alloc (.cells #[.slice A3 C.length c3] 26)) A c L) := HL3.out.alloc _
  have HB0 : Hid (Below w.heap.size w (w3.alloc (.cells #[.slice A3 C.length c3] 26))) := bel_alloc HB3.out _
  clear HS3 HL3 HB3
  refine (HTX _ _ _ HS0.out (tab_below HTAB.out HB0.out)).out.mono ?_
  rintro e4 w4 ⟨rfl, hb4⟩
  have BS4 := Lib.hid (blk_keep hb4 BS0.out)
  have HS4 := Lib.hid (HS0.out.below hb4)
  have HL4 := Lib.hid (HL0.out.below hb4)
  have HB4 := Lib.hid (bel_chain hb4 HB0.out)
  clear BS0 HS0 HL0 HB0 hb4
  go_wp2_with fail
  refine (HPA _ (tab_below HTAB.out HB4.out) (HERR.out.below HB4.out)).out.mono ?_
  rintro e5 w5 ⟨⟨A5, c5, rfl, hs5⟩, hb5⟩
  have HK5 := Lib.hid hs5
  clear hs5
  have BS5 := Lib.hid (blk_keep hb5 BS4.out)
  have HS5 := Lib.hid (HS4.out.below hb5)
  have HL5 := Lib.hid (HL4.out.below hb5)
  have HB5 := Lib.hid (bel_chain hb5 HB4.out)
  clear BS4 HS4 HL4 HB4 hb5
  have bs5 := blk_cell (i := 0) BS5.out rfl
  have zs5 := blk_lt BS5.out
  go_wp2_with fail
  have BK6 : Hid ((w5.alloc (.cells #[.slice A5 C.length c5] 26)).heap[w5.heap.size]? = some (.cells #[.slice A5 C.length c5] 26 (0, 0))) := blk_new rfl
  have BS6 : Hid ((w5.alloc (.cells #[.slice A5 C.length c5] 26)).heap[w3.heap.size]? = some (.cells #[.slice A3 C.length c3] 26 (0, 0))) := blk_skip BS5.out
  have HS6 : Hid (Sp (w5.alloc (.cells #[.slice A5 C.length c5] 26)) A3 c3 C) := HS5.out.alloc _
  have HK6 : Hid (Sp (w5.alloc (.cells #[.slice A5 C.length c5] 26)) A5 c5 C) := HK5.out.alloc _
  have HL6 : Hid (Sp (w5.alloc (.cells #[.slice A5 C.length c5] 26)) A c L) := HL5.out.alloc _
  have HB6 : Hid (Below w.heap.size w (w5.alloc (.cells #[.slice A5 C.length c5] 26))) := bel_alloc HB5.out _
  clear BS5 HS5 HK5 HL5 HB5 bs5 zs5
  refine (HTX _ _ _ HS6.out (tab_below HTAB.out HB6.out)).out.mono ?_
  rintro e7 w7 ⟨rfl, hb7⟩
  have BS7 := Lib.hid (blk_keep hb7 BS6.out)
  have BK7 := Lib.hid (blk_keep hb7 BK6.out)
  have HS7 := Lib.hid (HS6.out.below hb7)
  have HK7 := Lib.hid (HK6.out.below hb7)
  have HL7 := Lib.hid (HL6.out.below hb7)
  have HB7 := Lib.hid (bel_chain hb7 HB6.out)
  clear BS6 BK6 HS6 HK6 HL6 HB6 hb7
  go_wp2_with fail
  refine (HOf _ HL7.out).out.mono ?_
  rintro e8 w8 ⟨A8, c8, rfl, hown8, hb8⟩
  have BS8 := Lib.hid (blk_keep hb8 BS7.out)
  have BK8 := Lib.hid (blk_keep hb8 BK7.out)
  have HS8 := Lib.hid (HS7.out.below hb8)
  have HK8 := Lib.hid (HK7.out.below hb8)
  have HL8 := Lib.hid (HL7.out.below hb8)
  have HB8 := Lib.hid (bel_chain hb8 HB7.out)
  clear BS7 BK7 HS7 HK7 HL7 HB7 hb8
  have HO8 := Lib.hid (Own.sp hown8)
  clear hown8
  go_wp2_with fail
  refine (HRT _ _ _ HO8.out).out.mono ?_
  rintro e9 w9 ⟨rfl, hb9⟩
  clear HO8
  have BS9 := Lib.hid (blk_keep hb9 BS8.out)
  have BK9 := Lib.hid (blk_keep hb9 BK8.out)
  have HS9 := Lib.hid (HS8.out.below hb9)
  have HK9 := Lib.hid (HK8.out.below hb9)
  have HL9 := Lib.hid (HL8.out.below hb9)
  have HB9 := Lib.hid (bel_chain hb9 HB8.out)
  clear BS8 BK8 HS8 HK8 HL8 HB8 hb9
  have hTT : (T == T) = true := beq_self_eq_true T
  have bs9 := blk_cell (i := 0) BS9.out rfl
  have zs9 := blk_lt BS9.out
  have bk9 := blk_cell (i := 0) BK9.out rfl
  have zk9 := blk_lt BK9.out
  have HSM := Lib.hid (same_any A5 c5 C A3 c3 C w9 HK9.out HS9.out hCl)
  rw [show decide (C = C) = true from decide_eq_true rfl] at HSM
  go_wp2_with fail
  refine HSM.out.mono ?_
  rintro e10 w10 ⟨rfl, hb10⟩
  clear bs9 zs9 bk9 zk9 HSM
  have BS10 := Lib.hid (blk_keep hb10 BS9.out)
  have BK10 := Lib.hid (blk_keep hb10 BK9.out)
  have HS10 := Lib.hid (HS9.out.below hb10)
  have HK10 := Lib.hid (HK9.out.below hb10)
  have HL10 := Lib.hid (HL9.out.below hb10)
  have HB10 := Lib.hid (bel_chain hb10 HB9.out)
  clear BS9 BK9 HS9 HK9 HL9 HB9 hb10
  have HP1 := fun W h1 h2 => Lib.hid (parseP_any l W (by omega) h1 h2)
  have HP2 := fun W => Lib.hid (parse02_any l W (by omega))
  have HTP := Lib.hid (fun D (h : parseSet l = some D) => textSet_parse h)
  have HTL := Lib.hid (fun D (h : parseSet l = some D) => parse_len h)
  clear HTX HRT HPA HOf
  go_wp2_with fail
  refine (HP1 _ (tab_below HTAB.out HB10.out) (HERR.out.below HB10.out)).out.mono ?_
  rintro e11 w11 ⟨hv, hb11⟩
  have HB11 := Lib.hid (bel_chain hb11 HB10.out)
  clear hb11 HB10 BS10 BK10 HS10 HK10 HL10 HP1
  cases hps : parseSet l with
  | none =>
    rw [hps] at hv HP2
    obtain rfl := hv
    clear HTP HTL hps
    go_wp2_with fail
    refine (HP2 _).out.mono ?_
    rintro e12 w12 ⟨rfl, hb12⟩
    have BX12 := Lib.hid (blk_keep hb12 (blk_new rfl))
    have HB12 := Lib.hid (bel_chain hb12 (bel_alloc HB11.out _))
    have bx := blk_cell (i := 0) BX12.out rfl
    have zx := blk_lt BX12.out
    clear hb12 HB11 HP2
    go_wp2_with fail
    refine (spans_any none 0 [] w12 (Sp.nil _) (by simp)).mono ?_
    rintro e13 w13 ⟨A13, c13, rfl, hown13, hb13⟩
    have HB13 := Lib.hid (bel_chain hb13 HB12.out)
    have HO13 := Lib.hid (Own.sp hown13)
    clear bx zx hown13 hb13 BX12 HB12
    go_wp2_with fail
    refine (rlist_any A13 c13 [] none 0 [] w13 HO13.out (Sp.nil _) (by simp)).mono ?_
    rintro e14 w14 ⟨rfl, n14, rfl⟩
    have hd : decide (([] : List (Int × Int)) = []) = true := rfl
    go_wp2_with fail
    go_ret
    exact ⟨rfl, bel_drewN HB13.out _⟩
  | some D =>
    rw [hps] at hv HP2
    obtain ⟨A11, c11, rfl, hs11⟩ := hv
    obtain ⟨htd, hcd⟩ := HTP.out D hps
    have hdl := HTL.out D hps
    have hokd := canon_okS hcd
    have HTX2 := fun W h1 h2 => Lib.hid (setText_any A11 c11 D W h1 hokd (by omega) h2)
    rw [htd] at HTX2
    have hll : (l == l) = true := beq_self_eq_true l
    have HS11 := Lib.hid hs11
    have hdl2 : D.length ≤ 1000000 := by omega
    clear HTP HTL hps htd hcd hokd hs11 hdl
    go_wp2_with fail
    refine (HP2 _).out.mono ?_
    rintro e12 w12 ⟨⟨A12, c12, rfl, hs12⟩, hb12⟩
    have BX12 := Lib.hid (blk_keep hb12 (blk_new rfl))
    have HB12 := Lib.hid (bel_chain hb12 (bel_alloc HB11.out _))
    have HX12 := Lib.hid ((HS11.out.alloc _).below hb12)
    have HY12 := Lib.hid hs12
    have bx := blk_cell (i := 0) BX12.out rfl
    have zx := blk_lt BX12.out
    clear hb12 hs12 HB11 HS11 HP2
    go_wp2_with fail
    refine (spans_any A11 c11 D w12 HX12.out hdl2).mono ?_
    rintro e13 w13 ⟨A13, c13, rfl, hown13, hb13⟩
    have HB13 := Lib.hid (bel_chain hb13 HB12.out)
    have HO13 := Lib.hid (Own.sp hown13)
    have HX13 := Lib.hid (HX12.out.below hb13)
    have HY13 := Lib.hid (HY12.out.below hb13)
    have BX13 := Lib.hid (blk_keep hb13 BX12.out)
    clear bx zx hown13 hb13 BX12 HB12 HX12 HY12
    have HLS := Lib.hid (rlist_any A13 c13 D A12 c12 D w13 HO13.out HY13.out hdl2)
    rw [show decide (D = D) = true from decide_eq_true rfl] at HLS
    go_wp2_with fail
    refine HLS.out.mono ?_
    rintro e14 w14 ⟨rfl, n14, rfl⟩
    have bx := blk_cell (i := 0) BX13.out rfl
    have zx := blk_lt BX13.out
    clear HLS
    go_wp2_with fail
    refine (HTX2 _ (HX13.out.drewN _) (tab_below HTAB.out (bel_drewN HB13.out _))).out.mono ?_
    rintro e15 w15 ⟨rfl, hb15⟩
    have HB15 := Lib.hid (bel_chain hb15 (bel_drewN HB13.out _))
    clear hb15 bx zx
    go_wp2_with fail
    go_ret
    exact ⟨rfl, HB15.out⟩
end Go.Proofs.YtbphndihjdiiiaaGreatDoor
