/- Contract of spec's Parse. -/
import Derived.Test.YtaaefgieklkekaaGreatDoorZW2
import Derived.Test.YtaaefgieklkekaaGreatDoorZS9
namespace Go.Proofs.YtaaefgieklkekaaGreatDoor
open Go Go.RowKit
attribute [local go_sem] Oper.semAt_some

theorem wplIn_appendQ {F : Fence} {n b0 : Nat} {w : World} {ops : Array Oper} {rest : List Oper} {o : Oper} {a : Act} {Q : Exit → Act → World → Prop} (hgd : o.guard = none) (s x : Operand)
    (ho : o.op = .call { callee := .builtin .append, args := #[s, x], argTypes := #[22, 22] })
    (A : Option Addr) (c : Nat) (L : List (Int × Int)) (hs : a.eval s = .slice A L.length c) (hown : OwnQ w b0 A c L)
    (g : Nat) (x1 x2 : Int) (hx : a.eval x = .slice (some ⟨g, 0, none⟩) 1 1) (hc : w.cell? ⟨g, 0, none⟩ = some (.int .i64 x1)) (hc' : w.cell? ⟨g, 1, none⟩ = some (.int .i64 x2))
    (hl : L.length ≤ 2000000) (hb0 : b0 ≤ w.heap.size)
    (h : ∀ A' c' w', OwnQ w' b0 A' c' (L ++ [(x1, x2)]) → w.grownBy w' (Value.slice A L.length c).ownBlock → wpListIn F n Tryz.prog ops Q rest (a.put o.dst (.slice A' (L.length + 1) c')) w') : wpListIn F n Tryz.prog ops Q (o :: rest) a w := by
  obtain ⟨i0, hi, hz0, hz1, hz2⟩ := info_parts Tryz.specInfo
  refine wpListIn_append_own w hgd s x _ ho b0 60 i0 _ 2 16 Tryz.underlying22 hi hz0 hz1 hz2 rfl (by decide) _ _ _ hs hown ⟨g, 0, none⟩ 1 1 [.int .i64 x1, .int .i64 x2] hx rfl ?_ ?_ (by simp only [maxLen]; omega) (by omega) hb0 ?_
  · intro j u hj
    have hadd : ∀ j, (⟨g, 0, none⟩ : Addr).add j = ⟨g, j, none⟩ := fun j => by unfold Addr.add; split <;> simp_all
    rw [hadd]
    match j, hj with
    | 0, hj => simp at hj; rw [← hj]; exact hc
    | 1, hj => simp at hj; rw [← hj]; exact hc'
    | j + 2, hj => simp at hj
  · intro u hu
    simp at hu
    rcases hu with rfl | rfl <;> rfl
  · intro v' w' h1 h2 _
    have hlen : (L ++ [(x1, x2)]).length = L.length + 1 := by simp
    have hsp : spCells L ++ [.int .i64 x1, .int .i64 x2] = spCells (L ++ [(x1, x2)]) := by rw [spCells_append]; rfl
    rw [hsp] at h1
    have hform : ∃ A' c', v' = .slice A' (L.length + 1) c' := by
      rcases h1.2 with ⟨_, hn⟩ | ⟨g', cap, cur, hv, _⟩
      · omega
      · exact ⟨_, _, hv⟩
    obtain ⟨A', c', rfl⟩ := hform
    exact h A' c' w' (by unfold OwnQ; rw [hlen]; exact h1) h2
theorem qb_lt {w : World} {g : Nat} {o : Obj} (h : w.heap[g]? = some o) : g < w.heap.size := (Array.getElem?_eq_some_iff.1 h).1
theorem qb_new {w : World} {o : Obj} {g : Nat} (hg : g = w.heap.size) : (w.alloc o).heap[g]? = some o := by subst hg; exact heap_alloc_new w o
theorem qb_skip {w : World} {o o' : Obj} {g : Nat} (h : w.heap[g]? = some o) : (w.alloc o').heap[g]? = some o := (Below.heap_alloc w o' g (qb_lt h)).trans h
theorem qb_keep {B : Nat} {W w' : World} {g : Nat} {o : Obj} (hb : Below B W w') (hB : W.heap.size ≤ B) (h : W.heap[g]? = some o) : w'.heap[g]? = some o := (hb.block g (Nat.lt_of_lt_of_le (qb_lt h) hB)).trans h
theorem qb_two (w : World) (o o' : Obj) : Below w.heap.size w ((w.alloc o).alloc o') := ((Below.refl _ _).alloc (Nat.le_refl _) o).alloc (by simp) o'
theorem qb_set (W : World) (p : Addr) (v : Value) : W.grownBy (W.setCell p v) (some p.block) := by
  have h := Below.setCell (Below.refl 0 W) (p := p) (Nat.zero_le _) v
  exact ⟨h.os, h.tape, h.output, h.size, fun k _ hne => Below.heap_setCell W p v k (by intro e; exact hne (by rw [e]))⟩
theorem qb_put {W : World} {k D : Nat} {cs : Array Value} {t : TypeId} {f : Nat × Nat} {o o' : Obj} (h : W.heap[k]? = some (.cells cs t f)) (hD : W.heap[D]? = some o) (ho : o.isCells = false) : (W.putObj D o').heap[k]? = some (.cells cs t f) := by
  refine (World.putObj_heap_other ?_).trans h
  rintro rfl
  rw [h] at hD
  injection hD with hD
  rw [← hD] at ho
  cases ho
theorem OwnQ.off {W W' : World} {base k : Nat} {A : Option Addr} {c : Nat} {L : List (Int × Int)} (h : OwnQ W base A c L) (hg : W.grownBy W' (some k)) (hk : k < base) : OwnQ W' base A c L :=
  World.ownsRow.kept h hg (.inr fun e => by have := (World.ownsRow.lt h _ e).1; omega)
theorem OwnQ.turned {W : World} {base k : Nat} {A : Option Addr} {c : Nat} {L : List (Int × Int)} {o : Obj} (h : OwnQ W base A c L) (ho : W.heap[k]? = some o) (hc : o.isCells = false) (o' : Obj) : OwnQ (W.putObj k o') base A c L := by
  refine World.ownsRow.kept h (grownBy_putObj' _ _ _) (.inr ?_)
  rcases h.2 with ⟨hv, _⟩ | ⟨g, cap, cur, hv, _, hg, _⟩
  · rw [hv]; simp [Value.ownBlock]
  · rw [hv]
    intro e
    simp [Value.ownBlock] at e
    subst e
    rw [ho] at hg
    injection hg with hg
    rw [hg] at hc
    cases hc
/-- What becomes of the ranges of all items. -/
def parseT : Option (List (Int × Int)) → List (Int × Int) × Int
  | none => ([], 2)
  | some [] => ([], 2)
  | some (x :: r) => if 64 < (x :: r).length then ([], 4) else (x :: r, 0)
theorem parseL_eq {l : List UInt8} (h : headB l = true) : parseL l = parseT (rangesL (itemsL (splitC (l.drop 6)))) := by
  unfold parseL
  rw [if_pos h]
  generalize rangesL (itemsL (splitC (l.drop 6))) = o
  match o with
  | none => rfl
  | some [] => rfl
  | some (x :: r) => rfl
theorem itemsL_append (a b : List (List UInt8)) : itemsL (a ++ b) = itemsL a ++ itemsL b := by unfold itemsL; simp
/-- Ranges and what is wrong, handed back. -/
def RetSpecs (p : List (Int × Int) × Int) (w : World) (e : Ending) (w' : World) : Prop := ∃ A c, e = .returned (.tuple #[.slice A p.1.length c, .int .i64 p.2]) ∧ Sp w' A c p.1 ∧ Below w.heap.size w w'
/-- What holds between two rounds of Parse's loop. -/
structure ParseInv (w : World) (b1 : Nat) (pre : List (List UInt8)) (W : World) : Prop where
  ex : ∃ ys A c, rangesL (itemsL pre) = some ys ∧ W.heap[b1]? = some (.cells #[.slice A (ys.take 64).length c] 22 (0, 0)) ∧ W.heap[b1 + 1]? = some (.cells #[.bool (decide (64 < ys.length))] 4 (0, 0)) ∧ OwnQ W (b1 + 5) A c (ys.take 64)
  r2 : W.heap[w.heap.size]? = some (.cells #[.slice none 0 0] 22 (0, 0))
  r3 : W.heap[w.heap.size + 1]? = some (.cells #[.int .i64 0] 66 (0, 0))
  bel : Below w.heap.size w W
  sz : b1 + 5 ≤ W.heap.size
/-- What holds where a round has left. -/
def ParseStop (w : World) (c : Code) (pre : List (List UInt8)) (W : World) : Prop := c = .ret ∧ rangesL (itemsL pre) = none ∧ W.heap[w.heap.size]? = some (.cells #[.slice none 0 0] 22 (0, 0)) ∧ W.heap[w.heap.size + 1]? = some (.cells #[.int .i64 2] 66 (0, 0)) ∧ Below w.heap.size w W
theorem ParseInv.grown {w W W' : World} {b1 k : Nat} {pre : List (List UInt8)} (h : ParseInv w b1 pre W) (hg : W.grownBy W' (some k)) (hlo : w.heap.size + 2 ≤ b1) (hk : b1 + 2 ≤ k) (hrow : ∀ A c L, OwnQ W (b1 + 5) A c L → (Value.slice A (List.length L) c).ownBlock ≠ some k) : ParseInv w b1 pre W' := by
  obtain ⟨ys, A, c, h1, h2, h3, h4⟩ := h.ex
  have blk : ∀ j o, j ≠ k → W.heap[j]? = some o → W'.heap[j]? = some o := fun j o hj ho => (hg.block j (Array.getElem?_eq_some_iff.1 ho).1 (by intro e; injection e with e; exact hj e)).trans ho
  refine ⟨⟨ys, A, c, h1, blk _ _ (by omega) h2, blk _ _ (by omega) h3, World.ownsRow.kept h4 hg (.inr (hrow _ _ _ h4))⟩, blk _ _ (by omega) h.r2, blk _ _ (by omega) h.r3, h.bel.grown hg h.bel.size (fun j hj => by injection hj with hj; omega), Nat.le_trans h.sz hg.size⟩
theorem ParseInv.below {w W W' : World} {b1 : Nat} {pre : List (List UInt8)} (h : ParseInv w b1 pre W) (hb : Below W.heap.size W W') : ParseInv w b1 pre W' := by
  obtain ⟨ys, A, c, h1, h2, h3, h4⟩ := h.ex
  exact ⟨⟨ys, A, c, h1, qb_keep hb (Nat.le_refl _) h2, qb_keep hb (Nat.le_refl _) h3, h4.below hb⟩, qb_keep hb (Nat.le_refl _) h.r2, qb_keep hb (Nat.le_refl _) h.r3, bel_chain hb h.bel, Nat.le_trans h.sz hb.size⟩
theorem qb_others {W W' : World} (hb : Below W.heap.size W W') : KeepsOthers W W' := ⟨hb.size, fun _ _ h _ => qb_keep hb (Nat.le_refl _) h⟩
theorem trimL_len (x : List UInt8) : (trimL x).length ≤ x.length := by
  unfold trimL
  have h1 := (List.dropWhile_sublist (l := x.reverse) blankB).length_le
  have h2 := (List.dropWhile_sublist (l := (x.reverse.dropWhile blankB).reverse) blankB).length_le
  simp at h1 h2 ⊢
  omega
theorem itemsL_snoc (pre : List (List UInt8)) (x : List UInt8) : itemsL (pre ++ [x]) = itemsL pre ++ if (trimL x).isEmpty = true then [] else [trimL x] := by
  unfold itemsL
  cases h : (trimL x).isEmpty <;> simp [h]
theorem ParseInv.turn {w W : World} {b1 k : Nat} {pre : List (List UInt8)} {o : Obj} (h : ParseInv w b1 pre W) (hlo : w.heap.size + 1 + 1 ≤ b1) (hk : b1 + 5 ≤ k) (ho : W.heap[k]? = some o) (hc : o.isCells = false) (o' : Obj) : ParseInv w b1 pre (W.putObj k o') := by
  refine h.grown (grownBy_putObj' _ _ _) (by omega) (by omega) fun A c L h4 => ?_
  rcases h4.2 with ⟨hv, _⟩ | ⟨g, cap, cur, hv, _, hg, _⟩
  · rw [hv]; simp [Value.ownBlock]
  · rw [hv]
    intro e
    simp [Value.ownBlock] at e
    subst e
    rw [ho] at hg
    injection hg with hg
    rw [hg] at hc
    cases hc
theorem ParseInv.box {w W : World} {b1 : Nat} {pre : List (List UInt8)} (h : ParseInv w b1 pre W) (hlo : w.heap.size + 1 + 1 ≤ b1) (v : Value) : ParseInv w b1 pre (W.setCell ⟨b1 + 2, 0, none⟩ v) := by
  refine h.grown (k := b1 + 2) (qb_set W ⟨b1 + 2, 0, none⟩ v) (by omega) (by omega) fun A c L h4 e => ?_
  have := (World.ownsRow.lt h4 _ e).1
  omega
theorem OwnQ.notblk {W : World} {base k : Nat} {A : Option Addr} {c : Nat} {L : List (Int × Int)} (h : OwnQ W base A c L) (hk : k < base) : some k ≠ (Value.slice A L.length c).ownBlock := fun e => by have := (World.ownsRow.lt h _ e.symm).1; omega
theorem OwnQ.others {W W' : World} {base : Nat} {A : Option Addr} {c : Nat} {L : List (Int × Int)} (h : OwnQ W base A c L) (hg : W.grownBy W' (Value.slice A L.length c).ownBlock) : KeepsOthers W W' := by
  refine ⟨hg.size, fun k o hk ho => (hg.block k (qb_lt hk) fun e => ?_).trans hk⟩
  rcases h.2 with ⟨hv, _⟩ | ⟨g, cap, cur, hv, _, hgb, _⟩
  · rw [hv] at e; simp [Value.ownBlock] at e
  · rw [hv] at e
    simp [Value.ownBlock] at e
    subst e
    rw [hk] at hgb
    injection hgb with hgb
    rw [hgb] at ho
    cases ho
theorem qb_grown {W W' : World} {base k : Nat} {A : Option Addr} {c : Nat} {L : List (Int × Int)} {o : Obj} (h : OwnQ W base A c L) (hg : W.grownBy W' (Value.slice A L.length c).ownBlock) (hk : k < base) (ho : W.heap[k]? = some o) : W'.heap[k]? = some o :=
  (hg.block k (qb_lt ho) (h.notblk hk)).trans ho
theorem qb_other {W : World} {p : Addr} {v : Value} {k : Nat} {o : Obj} (hk : k ≠ p.block) (ho : W.heap[k]? = some o) : (W.setCell p v).heap[k]? = some o := (Below.heap_setCell W p v k hk).trans ho
theorem qb_one {W : World} {k : Nat} {u : Value} {t : TypeId} {f : Nat × Nat} (v : Value) (ho : W.heap[k]? = some (.cells #[u] t f)) : (W.setCell ⟨k, 0, none⟩ v).heap[k]? = some (.cells #[v] t f) := by
  simp [World.setCell, Array.getElem?_modify, ho]
theorem take_snoc {ys : List (Int × Int)} (y : Int × Int) (h : 64 ≤ ys.length) : (ys ++ [y]).take 64 = ys.take 64 := List.take_append_of_le_length h
theorem bel_setw {w W : World} (h : Below w.heap.size w W) {p : Addr} (hp : w.heap.size ≤ p.block) (v : Value) : Below w.heap.size w (W.setCell p v) := h.setCell hp v
theorem ascii_low (c : UInt8) : lowB c = 61 → c = 61 := by
  have h2 : ∀ n : Fin 256, lowB (UInt8.ofNat n.val) = 61 → UInt8.ofNat n.val = 61 := by decide +kernel
  have h3 := h2 ⟨c.toNat, UInt8.toNat_lt _⟩
  simpa using h3
theorem headB_no5 {l : List UInt8} (h6 : 6 ≤ l.length) (hh : headB l = false) : (l.take 5).map lowB ≠ [98, 121, 116, 101, 115] ∨ l[5] ≠ 61 := by
  by_cases h1 : (l.take 5).map lowB = [98, 121, 116, 101, 115]
  · right
    intro h2
    have : headB l = true := by
      unfold headB
      have e : l.take 6 = l.take 5 ++ [l[5]] := (List.take_succ_eq_append_getElem (by omega))
      rw [e, List.map_append, h1, h2]
      simp; exact ⟨h6, by decide⟩
    rw [hh] at this; cases this
  · exact .inl h1
end Go.Proofs.YtaaefgieklkekaaGreatDoor
