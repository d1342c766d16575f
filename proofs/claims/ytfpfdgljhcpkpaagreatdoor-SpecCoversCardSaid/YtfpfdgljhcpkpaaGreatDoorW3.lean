/- Contract of spec's Parse. -/
import Derived.Test.YtfpfdgljhcpkpaaGreatDoorW2
import Derived.Test.YtfpfdgljhcpkpaaGreatDoorS10
namespace Go.Proofs.YtfpfdgljhcpkpaaGreatDoor
open Go Go.RowKit
attribute [local go_sem] Oper.semAt_some

theorem wplIn_appendQ {F : Fence} {n b0 : Nat} {w : World} {ops : Array Oper} {rest : List Oper} {o : Oper} {a : Act} {Q : Exit → Act → World → Prop} (hgd : o.guard = none) (s x : Operand)
    (ho : o.op = .call { callee := .builtin .append, args := #[s, x], argTypes := #[42, 42] })
    (A : Option Addr) (c : Nat) (L : List (Int × Int)) (hs : a.eval s = .slice A L.length c) (hown : OwnQ w b0 A c L)
    (g : Nat) (x1 x2 : Int) (hx : a.eval x = .slice (some ⟨g, 0, none⟩) 1 1) (hc : w.cell? ⟨g, 0, none⟩ = some (.int .i64 x1)) (hc' : w.cell? ⟨g, 1, none⟩ = some (.int .i64 x2))
    (hl : L.length ≤ 2000000) (hb0 : b0 ≤ w.heap.size)
    (h : ∀ A' c' w', OwnQ w' b0 A' c' (L ++ [(x1, x2)]) → w.grownBy w' (Value.slice A L.length c).ownBlock → wpListIn F n Tryz.prog ops Q rest (a.put o.dst (.slice A' (L.length + 1) c')) w') : wpListIn F n Tryz.prog ops Q (o :: rest) a w := by
  obtain ⟨i0, hi, hz0, hz1, hz2⟩ := info_parts Tryz.specInfo
  refine wpListIn_append_own w hgd s x _ ho b0 82 i0 _ 2 16 Tryz.underlying42 hi hz0 hz1 hz2 rfl (by decide) _ _ _ hs hown ⟨g, 0, none⟩ 1 1 [.int .i64 x1, .int .i64 x2] hx rfl ?_ ?_ (by simp only [maxLen]; omega) (by omega) hb0 ?_
  · intro j u hj
    have hadd : ∀ j, (⟨g, 0, none⟩ : Addr).add j = ⟨g, j, none⟩ := fun j => by unfold Addr.add; split <;> simp_all
    rw [hadd]
    match j, hj with
    | 0, hj => simp at hj; rw [← hj]; exact hc
    | 1, hj => simp at hj; rw [← hj]; exact hc'
    | j + 2, hj => simp at hj
  · intro u hu
    simp at hu
    rcases hu with rfl | rfl <;> rfl
  · intro v' w' h1 h2 _
    have hlen : (L ++ [(x1, x2)]).length = L.length + 1 := by simp
    have hsp : spCells L ++ [.int .i64 x1, .int .i64 x2] = spCells (L ++ [(x1, x2)]) := by rw [spCells_append]; rfl
    rw [hsp] at h1
    have hform : ∃ A' c', v' = .slice A' (L.length + 1) c' := by
      rcases h1.2 with ⟨_, hn⟩ | ⟨g', cap, cur, hv, _⟩
      · omega
      · exact ⟨_, _, hv⟩
    obtain ⟨A', c', rfl⟩ := hform
    exact h A' c' w' (by unfold OwnQ; rw [hlen]; exact h1) h2
theorem qb_lt {w : World} {g : Nat} {o : Obj} (h : w.heap[g]? = some o) : g < w.heap.size := (Array.getElem?_eq_some_iff.1 h).1
theorem qb_new {w : World} {o : Obj} {g : Nat} (hg : g = w.heap.size) : (w.alloc o).heap[g]? = some o := by subst hg; exact heap_alloc_new w o
theorem qb_skip {w : World} {o o' : Obj} {g : Nat} (h : w.heap[g]? = some o) : (w.alloc o').heap[g]? = some o := (Below.heap_alloc w o' g (qb_lt h)).trans h
theorem qb_keep {B : Nat} {W w' : World} {g : Nat} {o : Obj} (hb : Below B W w') (hB : W.heap.size ≤ B) (h : W.heap[g]? = some o) : w'.heap[g]? = some o := (hb.block g (Nat.lt_of_lt_of_le (qb_lt h) hB)).trans h
theorem qb_two (w : World) (o o' : Obj) : Below w.heap.size w ((w.alloc o).alloc o') := ((Below.refl _ _).alloc (Nat.le_refl _) o).alloc (by simp) o'
theorem qb_set (W : World) (p : Addr) (v : Value) : W.grownBy (W.setCell p v) (some p.block) := by
  have h := Below.setCell (Below.refl 0 W) (p := p) (Nat.zero_le _) v
  exact ⟨h.os, h.tape, h.output, h.size, fun k _ hne => Below.heap_setCell W p v k (by intro e; exact hne (by rw [e]))⟩
theorem qb_put {W : World} {k D : Nat} {cs : Array Value} {t : TypeId} {f : Nat × Nat} {o o' : Obj} (h : W.heap[k]? = some (.cells cs t f)) (hD : W.heap[D]? = some o) (ho : o.isCells = false) : (W.putObj D o').heap[k]? = some (.cells cs t f) := by
  refine (World.putObj_heap_other ?_).trans h
  rintro rfl
  rw [h] at hD
  injection hD with hD
  rw [← hD] at ho
  cases ho
theorem OwnQ.off {W W' : World} {base k : Nat} {A : Option Addr} {c : Nat} {L : List (Int × Int)} (h : OwnQ W base A c L) (hg : W.grownBy W' (some k)) (hk : k < base) : OwnQ W' base A c L :=
  World.ownsRow.kept h hg (.inr fun e => by have := (World.ownsRow.lt h _ e).1; omega)
theorem OwnQ.turned {W : World} {base k : Nat} {A : Option Addr} {c : Nat} {L : List (Int × Int)} {o : Obj} (h : OwnQ W base A c L) (ho : W.heap[k]? = some o) (hc : o.isCells = false) (o' : Obj) : OwnQ (W.putObj k o') base A c L := by
  refine World.ownsRow.kept h (grownBy_putObj' _ _ _) (.inr ?_)
  rcases h.2 with ⟨hv, _⟩ | ⟨g, cap, cur, hv, _, hg, _⟩
  · rw [hv]; simp [Value.ownBlock]
  · rw [hv]
    intro e
    simp [Value.ownBlock] at e
    subst e
    rw [ho] at hg
    injection hg with hg
    rw [hg] at hc
    cases hc
/-- What becomes of the ranges of all items. -/
def parseT : Option (List (Int × Int)) → List (Int × Int) × Int
  | none => ([], 2)
  | some [] => ([], 2)
  | some (x :: r) => if 64 < (x :: r).length then ([], 4) else (x :: r, 0)
theorem parseL_eq {l : List UInt8} (h : headB l = true) : parseL l = parseT (rangesL (itemsL (splitC (l.drop 6)))) := by
  unfold parseL
  rw [if_pos h]
  generalize rangesL (itemsL (splitC (l.drop 6))) = o
  match o with
  | none => rfl
  | some [] => rfl
  | some (x :: r) => rfl
theorem itemsL_append (a b : List (List UInt8)) : itemsL (a ++ b) = itemsL a ++ itemsL b := by unfold itemsL; simp
/-- Ranges and what is wrong, handed back. -/
def RetSpecs (p : List (Int × Int) × Int) (w : World) (e : Ending) (w' : World) : Prop := ∃ A c, e = .returned (.tuple #[.slice A p.1.length c, .int .i64 p.2]) ∧ Sp w' A c p.1 ∧ Below w.heap.size w w'
/-- What holds between two rounds of Parse's loop. -/
structure ParseInv (w : World) (b1 : Nat) (pre : List (List UInt8)) (W : World) : Prop where
  ex : ∃ ys A c, rangesL (itemsL pre) = some ys ∧ W.heap[b1]? = some (.cells #[.slice A (ys.take 64).length c] 42 (0, 0)) ∧ W.heap[b1 + 1]? = some (.cells #[.bool (decide (64 < ys.length))] 4 (0, 0)) ∧ OwnQ W (b1 + 5) A c (ys.take 64)
  r2 : W.heap[w.heap.size]? = some (.cells #[.slice none 0 0] 42 (0, 0))
  r3 : W.heap[w.heap.size + 1]? = some (.cells #[.int .i64 0] 61 (0, 0))
  bel : Below w.heap.size w W
  sz : b1 + 5 ≤ W.heap.size
/-- What holds where a round has left. -/
def ParseStop (w : World) (c : Code) (pre : List (List UInt8)) (W : World) : Prop := c = .ret ∧ rangesL (itemsL pre) = none ∧ W.heap[w.heap.size]? = some (.cells #[.slice none 0 0] 42 (0, 0)) ∧ W.heap[w.heap.size + 1]? = some (.cells #[.int .i64 2] 61 (0, 0)) ∧ Below w.heap.size w W
theorem ParseInv.grown {w W W' : World} {b1 k : Nat} {pre : List (List UInt8)} (h : ParseInv w b1 pre W) (hg : W.grownBy W' (some k)) (hlo : w.heap.size + 2 ≤ b1) (hk : b1 + 2 ≤ k) (hrow : ∀ A c L, OwnQ W (b1 + 5) A c L → (Value.slice A (List.length L) c).ownBlock ≠ some k) : ParseInv w b1 pre W' := by
  obtain ⟨ys, A, c, h1, h2, h3, h4⟩ := h.ex
  have blk : ∀ j o, j ≠ k → W.heap[j]? = some o → W'.heap[j]? = some o := fun j o hj ho => (hg.block j (Array.getElem?_eq_some_iff.1 ho).1 (by intro e; injection e with e; exact hj e)).trans ho
  refine ⟨⟨ys, A, c, h1, blk _ _ (by omega) h2, blk _ _ (by omega) h3, World.ownsRow.kept h4 hg (.inr (hrow _ _ _ h4))⟩, blk _ _ (by omega) h.r2, blk _ _ (by omega) h.r3, h.bel.grown hg h.bel.size (fun j hj => by injection hj with hj; omega), Nat.le_trans h.sz hg.size⟩
theorem ParseInv.below {w W W' : World} {b1 : Nat} {pre : List (List UInt8)} (h : ParseInv w b1 pre W) (hb : Below W.heap.size W W') : ParseInv w b1 pre W' := by
  obtain ⟨ys, A, c, h1, h2, h3, h4⟩ := h.ex
  exact ⟨⟨ys, A, c, h1, qb_keep hb (Nat.le_refl _) h2, qb_keep hb (Nat.le_refl _) h3, h4.below hb⟩, qb_keep hb (Nat.le_refl _) h.r2, qb_keep hb (Nat.le_refl _) h.r3, bel_chain hb h.bel, Nat.le_trans h.sz hb.size⟩
theorem qb_others {W W' : World} (hb : Below W.heap.size W W') : KeepsOthers W W' := ⟨hb.size, fun _ _ h _ => qb_keep hb (Nat.le_refl _) h⟩
theorem qb_boxes {W W' : World} {bs : Nat} (hb : Below W.heap.size W W') (h : bs + 3 ≤ W.heap.size) : KeepsBoxes bs W W' := fun b _ h2 => hb.block b (by omega)
theorem trimL_len (x : List UInt8) : (trimL x).length ≤ x.length := by
  unfold trimL
  have h1 := (List.dropWhile_sublist (l := x.reverse) blankB).length_le
  have h2 := (List.dropWhile_sublist (l := (x.reverse.dropWhile blankB).reverse) blankB).length_le
  simp at h1 h2 ⊢
  omega
theorem itemsL_snoc (pre : List (List UInt8)) (x : List UInt8) : itemsL (pre ++ [x]) = itemsL pre ++ if (trimL x).isEmpty = true then [] else [trimL x] := by
  unfold itemsL
  cases h : (trimL x).isEmpty <;> simp [h]
theorem ParseInv.turn {w W : World} {b1 k : Nat} {pre : List (List UInt8)} {o : Obj} (h : ParseInv w b1 pre W) (hlo : w.heap.size + 1 + 1 ≤ b1) (hk : b1 + 5 ≤ k) (ho : W.heap[k]? = some o) (hc : o.isCells = false) (o' : Obj) : ParseInv w b1 pre (W.putObj k o') := by
  refine h.grown (grownBy_putObj' _ _ _) (by omega) (by omega) fun A c L h4 => ?_
  rcases h4.2 with ⟨hv, _⟩ | ⟨g, cap, cur, hv, _, hg, _⟩
  · rw [hv]; simp [Value.ownBlock]
  · rw [hv]
    intro e
    simp [Value.ownBlock] at e
    subst e
    rw [ho] at hg
    injection hg with hg
    rw [hg] at hc
    cases hc
theorem ParseInv.box {w W : World} {b1 : Nat} {pre : List (List UInt8)} (h : ParseInv w b1 pre W) (hlo : w.heap.size + 1 + 1 ≤ b1) (v : Value) : ParseInv w b1 pre (W.setCell ⟨b1 + 2, 0, none⟩ v) := by
  refine h.grown (k := b1 + 2) (qb_set W ⟨b1 + 2, 0, none⟩ v) (by omega) (by omega) fun A c L h4 e => ?_
  have := (World.ownsRow.lt h4 _ e).1
  omega
theorem OwnQ.notblk {W : World} {base k : Nat} {A : Option Addr} {c : Nat} {L : List (Int × Int)} (h : OwnQ W base A c L) (hk : k < base) : some k ≠ (Value.slice A L.length c).ownBlock := fun e => by have := (World.ownsRow.lt h _ e.symm).1; omega
theorem OwnQ.others {W W' : World} {base : Nat} {A : Option Addr} {c : Nat} {L : List (Int × Int)} (h : OwnQ W base A c L) (hg : W.grownBy W' (Value.slice A L.length c).ownBlock) : KeepsOthers W W' := by
  refine ⟨hg.size, fun k o hk ho => (hg.block k (qb_lt hk) fun e => ?_).trans hk⟩
  rcases h.2 with ⟨hv, _⟩ | ⟨g, cap, cur, hv, _, hgb, _⟩
  · rw [hv] at e; simp [Value.ownBlock] at e
  · rw [hv] at e
    simp [Value.ownBlock] at e
    subst e
    rw [hk] at hgb
    injection hgb with hgb
    rw [hgb] at ho
    cases ho
theorem qb_grown {W W' : World} {base k : Nat} {A : Option Addr} {c : Nat} {L : List (Int × Int)} {o : Obj} (h : OwnQ W base A c L) (hg : W.grownBy W' (Value.slice A L.length c).ownBlock) (hk : k < base) (ho : W.heap[k]? = some o) : W'.heap[k]? = some o :=
  (hg.block k (qb_lt ho) (h.notblk hk)).trans ho
theorem qb_other {W : World} {p : Addr} {v : Value} {k : Nat} {o : Obj} (hk : k ≠ p.block) (ho : W.heap[k]? = some o) : (W.setCell p v).heap[k]? = some o := (Below.heap_setCell W p v k hk).trans ho
theorem qb_one {W : World} {k : Nat} {u : Value} {t : TypeId} {f : Nat × Nat} (v : Value) (ho : W.heap[k]? = some (.cells #[u] t f)) : (W.setCell ⟨k, 0, none⟩ v).heap[k]? = some (.cells #[v] t f) := by
  simp [World.setCell, Array.getElem?_modify, ho]
theorem take_snoc {ys : List (Int × Int)} (y : Int × Int) (h : 64 ≤ ys.length) : (ys ++ [y]).take 64 = ys.take 64 := List.take_append_of_le_length h
theorem bel_setw {w W : World} (h : Below w.heap.size w W) {p : Addr} (hp : w.heap.size ≤ p.block) (v : Value) : Below w.heap.size w (W.setCell p v) := h.setCell hp v
set_option maxHeartbeats 4000000 in
set_option maxRecDepth 100000 in
theorem sParse_head (l : List UInt8) (w : World) (hl : l.length ≤ 100000) (hh : headB l = true) :
    Calls Tryz.prog 44 #[.string ⟨l.toArray⟩] w (RetSpecs (parseL l) w) := by
  have h6n : 6 ≤ l.length := by simp [headB] at hh; omega
  have hm : (l.take 6).map lowB = [98, 121, 116, 101, 115, 61] := by simp only [headB, Bool.and_eq_true, decide_eq_true_eq] at hh; exact hh.2
  have h5m : (l.take 5).map lowB = [98, 121, 116, 101, 115] := by
    have := congrArg (List.take 5) hm
    rw [← List.map_take, List.take_take] at this
    simpa using this
  have hc5 : l[5] = 61 := by
    have h1 : ((l.take 6).map lowB)[5]? = some 61 := by rw [hm]; rfl
    rw [List.getElem?_map, List.getElem?_take_of_lt (by omega), List.getElem?_eq_getElem (by omega)] at h1
    simp at h1
    have h2 : ∀ n : Fin 256, lowB (UInt8.ofNat n.val) = 61 → UInt8.ofNat n.val = 61 := by decide +kernel
    have h3 := h2 ⟨(l[5]).toNat, UInt8.toNat_lt _⟩
    simpa [h1] using h3
  have e5 : (⟨l.toArray⟩ : ByteArray).extract 0 5 = ⟨(l.take 5).toArray⟩ := ex_take ⟨l.toArray⟩ 5
  have HW := fun W => Lib.hid (sword_any ⟨(l.take 5).toArray⟩ W (by rw [ba_size, List.length_take]; omega))
  have ew : decide (((⟨(l.take 5).toArray⟩ : ByteArray).data.toList.map lowB) = [98, 121, 116, 101, 115]) = true := by simpa using h5m
  rw [ew] at HW
  have hx5 : (((((⟨l.toArray⟩ : ByteArray)[5]'(by rw [ba_size]; omega)).toNat : Nat) : Int) != 61) = false := by
    have : (⟨l.toArray⟩ : ByteArray)[5]'(by rw [ba_size]; omega) = l[5] := rfl
    rw [this, hc5]; rfl
  have e6 : (⟨l.toArray⟩ : ByteArray).extract 6 l.length = ⟨(l.drop 6).toArray⟩ := by have := ex_drop ⟨l.toArray⟩ 6; rwa [ba_size] at this
  have HP : Hid (parseL l = parseT (rangesL (itemsL (splitC (l.drop 6))))) := parseL_eq hh
  have HDL : Hid ((l.drop 6).length ≤ 100000) := by simp only [Hid]; simp; omega
  clear ew h5m hm hc5
  refine (callsIn_wide (n := 4)).1 ?_
  refine callsIn_of_wp_marks Tryz.func44 rfl trivial ?_
  simp only [Tryz.ntmps44, List.size_toArray, List.length_cons, List.length_nil, Nat.reduceAdd, Nat.reduceSub, Array.replicate_succ, Array.replicate_zero, List.push_toArray, List.append_toArray, List.nil_append, List.cons_append]
  have h6 : (6 : Int) ≤ (((⟨l.toArray⟩ : ByteArray).size : Nat) : Int) := by rw [ba_size]; omega
  have h6' : (6 : Int) ≤ (l.length : Int) := by omega
  have hd6 : decide ((l.length : Int) < 6) = false := by simp; omega
  gi_wp2_with fail
  refine ⟨trivial, ?_⟩
  refine (callsIn_wide.2 (HW _).out).mono ?_
  rintro e1 w1 ⟨rfl, hb1⟩
  have HB1 := Lib.hid hb1
  clear hb1 HW
  gi_wp2_with fail
  refine ⟨trivial, ?_⟩
  refine (callsIn_wide.2 (splitSeq_any _ _)).mono ?_
  rintro e2 w2 ⟨rfl, rfl⟩
  gi_wp2_with fail
  have hz1 := HB1.out.size
  simp at hz1
  refine rangeFunc_cells (α := List UInt8) rfl (by omega) (gf := 149) (lb := #[.pointer (some ⟨w1.heap.size + 3, 0, none⟩), .pointer (some ⟨w1.heap.size + 2, 0, none⟩), .pointer (some ⟨w1.heap.size + 4, 0, none⟩)]) rfl trivial (enters_of Tryz.func149 (by kernel_rfl) rfl) (encs := fun x => #[.string ⟨x.toArray⟩]) (Ok := fun x => x.length ≤ 100000) (Kp := KeepsBoxes (w1.heap.size + 2)) (fun _ => rfl) (fun h k => h.trans k) ?hKb (ParseInv w w1.heap.size) (ParseStop w) ?hI ?hIx (S := fun xs => xs = splitC (l.drop 6)) ?h0 ?hserves ?a1 ?hassign ?hbody ?hdone ?hstop
  case hassign =>
    intro lp x W K hK
    gi_wp2
    exact hK
  case hKb =>
    intro W lp o o' h _ _
    simp at h
    exact KeepsBoxes.put (by omega) _
  case hI =>
    intro pre W lp o o' h hlp ho hc
    simp at hlp
    exact h.turn hz1 (by omega) ho hc o'
  case hIx =>
    rintro c pre W lp o o' ⟨h1, h2, h3, h4, h5⟩ hlp ho hc
    simp at hlp
    exact ⟨h1, h2, (World.putObj_heap_other (by omega)).trans h3, (World.putObj_heap_other (by omega)).trans h4, h5.grown (grownBy_putObj' _ _ _) h5.size (fun j hj => by injection hj with hj; omega)⟩
  case h0 =>
    intro o o'
    refine ⟨⟨[], none, 0, rfl, ?_, ?_, OwnQ.nil _ _⟩, ?_, ?_, ?_, by simp⟩
    · exact qb_skip (qb_skip (qb_skip (qb_skip (qb_skip (qb_skip (qb_new rfl))))))
    · exact qb_skip (qb_skip (qb_skip (qb_skip (qb_skip (qb_new (by simp))))))
    · exact qb_skip (qb_skip (qb_skip (qb_skip (qb_skip (qb_skip (qb_skip (qb_keep HB1.out (Nat.le_refl _) (qb_skip (qb_new rfl)))))))))
    · exact qb_skip (qb_skip (qb_skip (qb_skip (qb_skip (qb_skip (qb_skip (qb_keep HB1.out (Nat.le_refl _) (qb_new (by simp)))))))))
    · have hb := ((qb_two w (.cells #[.slice none 0 0] 42) (.cells #[.int .i64 0] 61)).trans (HB1.out.mono (by simp; omega)))
      exact bel_alloc (bel_alloc (bel_alloc (bel_alloc (bel_alloc (bel_alloc (bel_alloc hb _) _) _) _) _) _) _
  case hserves =>
    intro W hW hbW
    refine split_serves 3 (w1.heap.size + 2) (l.drop 6) HDL.out _ _ ?_ ?_ W ?_
    · intro pre W v h
      exact h.box hz1 v
    · intro pre W h
      exact ⟨h.ex, h.r2, h.r3, h.bel.drew, h.sz⟩
    · exact ⟨qb_keep hbW (Nat.le_refl _) (qb_skip (qb_skip (qb_new (by simp)))), qb_keep hbW (Nat.le_refl _) (qb_skip (qb_new (by simp))), qb_keep hbW (Nat.le_refl _) (qb_new (by simp))⟩
  case hstop =>
    rintro D c pre W hD ⟨suf, hsuf⟩ ⟨rfl, h2, h3, h4, h5⟩ hK
    simp at hD
    have hp : parseL l = ([], 2) := by rw [HP.out, ← hsuf, itemsL_append, rangesL_append _ _ h2]; rfl
    rw [hp]
    have d3 := qb_put (o' := .deferred none) h3 hK rfl
    have d4 := qb_put (o' := .deferred none) h4 hK rfl
    have c3 := Lib.cell_of_heap d3 0
    have c4 := Lib.cell_of_heap d4 0
    gi_wp2
    refine ⟨by simp, .inl ⟨_, _, rfl, run_takeDeferred hK, ?_⟩⟩
    refine ⟨.tuple #[.slice none 0 0, .int .i64 2], ?_, none, 0, rfl, ⟨by simp, by simp, by simp⟩, h5.grown (grownBy_putObj' _ _ _) h5.size (fun j hj => by injection hj with hj; omega)⟩
    simp [results, Tryz.results44, go_sem, c3, c4]
  case hdone =>
    rintro D xs W hD rfl hW hK
    simp at hD
    rename_i K hKK
    refine hKK _ _ ?_
    clear hKK
    obtain ⟨ys, A, c, hy, hb1, hb2, hown⟩ := hW.ex
    have c4 := Lib.cell_of_heap hb1 0
    have c5 := Lib.cell_of_heap hb2 0
    have c2 := Lib.cell_of_heap hW.r2 0
    have c3 := Lib.cell_of_heap hW.r3 0
    have f2 : W.frozen? ⟨w.heap.size, 0, none⟩ = false := Lib.frozen_of_heap hW.r2 0
    have f3 : W.frozen? ⟨w.heap.size + 1, 0, none⟩ = false := Lib.frozen_of_heap hW.r3 0
    rw [hy] at HP
    have hb := hW.bel
    have fin : ∀ (u v : Value), Hid (Below w.heap.size w (((W.setCell ⟨w.heap.size, 0, none⟩ u).setCell ⟨w.heap.size + 1, 0, none⟩ v).putObj D (.deferred none)) ∧ ((W.setCell ⟨w.heap.size, 0, none⟩ u).setCell ⟨w.heap.size + 1, 0, none⟩ v).heap[D]? = some (.deferred (some [])) ∧ (((W.setCell ⟨w.heap.size, 0, none⟩ u).setCell ⟨w.heap.size + 1, 0, none⟩ v).putObj D (.deferred none)).cell? ⟨w.heap.size, 0, none⟩ = some u ∧ (((W.setCell ⟨w.heap.size, 0, none⟩ u).setCell ⟨w.heap.size + 1, 0, none⟩ v).putObj D (.deferred none)).cell? ⟨w.heap.size + 1, 0, none⟩ = some v) := by
      intro u v
      have k1 : ((W.setCell ⟨w.heap.size, 0, none⟩ u).setCell ⟨w.heap.size + 1, 0, none⟩ v).heap[D]? = some (.deferred (some [])) := (KeepsOthers.setCell _ _ _).same D _ ((KeepsOthers.setCell _ _ _).same D _ hK rfl) rfl
      have b1 := (hb.setCell (p := ⟨w.heap.size, 0, none⟩) (Nat.le_refl _) u).setCell (p := ⟨w.heap.size + 1, 0, none⟩) (by simp) v
      refine ⟨b1.grown (grownBy_putObj' _ _ _) b1.size (fun j hj => by injection hj with hj; omega), k1, ?_, ?_⟩
      · refine cell_kept ?_ (grownBy_putObj' _ D (.deferred none)) (fun r e => by cases e; exact ⟨_, k1, rfl⟩)
        rw [World.cell?_of_block (Below.heap_setCell _ _ _ _ (by simp))]
        exact World.cell?_setCell_same' W ⟨w.heap.size, 0, none⟩ u (by rw [c2]; rfl)
      · refine cell_kept ?_ (grownBy_putObj' _ D (.deferred none)) (fun r e => by cases e; exact ⟨_, k1, rfl⟩)
        exact World.cell?_setCell_same' _ ⟨w.heap.size + 1, 0, none⟩ v (by rw [World.cell?_of_block (Below.heap_setCell _ _ _ _ (by simp)), c3]; rfl)
    clear hW hb1 hb2 hb
    rcases (show ys = [] ∨ 64 < ys.length ∨ (0 < ys.length ∧ ys.length ≤ 64) by cases ys <;> simp <;> omega) with rfl | h | ⟨h, h'⟩
    · simp at c4 c5
      gi_wp2
      obtain ⟨q1, q2, q3, q4⟩ := (fin (.slice none 0 0) (.int .i64 2)).out
      refine ⟨by simp, .inl ⟨_, _, rfl, run_takeDeferred q2, ?_⟩⟩
      rw [HP.out]
      refine ⟨.tuple #[.slice none 0 0, .int .i64 2], ?_, none, 0, rfl, ⟨by simp [parseT], by simp, by simp [parseT]⟩, q1⟩
      simp [results, Tryz.results44, go_sem, q3, q4]
    · have e64 : (ys.take 64).length = 64 := by simp; omega
      rw [e64] at c4
      have t64 : decide (64 < ys.length) = true := decide_eq_true h
      rw [t64] at c5
      simp at c4 c5
      clear e64 t64
      gi_wp2
      obtain ⟨q1, q2, q3, q4⟩ := (fin (.slice none 0 0) (.int .i64 4)).out
      refine ⟨by simp, .inl ⟨_, _, rfl, run_takeDeferred q2, ?_⟩⟩
      have hp : parseT (some ys) = ([], 4) := by
        cases ys with
        | nil => simp at h
        | cons x r => exact if_pos h
      rw [HP.out, hp]
      refine ⟨.tuple #[.slice none 0 0, .int .i64 4], ?_, none, 0, rfl, ⟨by simp, by simp, by simp⟩, q1⟩
      simp [results, Tryz.results44, go_sem, q3, q4]
    · rw [List.take_of_length_le h'] at c4 hown
      have t64 : decide (64 < ys.length) = false := decide_eq_false (by omega)
      rw [t64] at c5
      simp at c4 c5
      have hp : parseT (some ys) = (ys, 0) := by
        cases ys with
        | nil => simp at h
        | cons x r => exact if_neg (Nat.not_lt.2 h')
      have hne : ((ys.length : Int) == 0) = false := by simp; intro e; rw [e] at h; simp at h
      have HO := Lib.hid hown
      clear t64 hown
      gi_wp2
      obtain ⟨q1, q2, q3, q4⟩ := (fin (.slice A ys.length c) (.int .i64 0)).out
      refine ⟨by simp, .inl ⟨_, _, rfl, run_takeDeferred q2, ?_⟩⟩
      rw [HP.out, hp]
      refine ⟨.tuple #[.slice A ys.length c, .int .i64 0], ?_, A, c, rfl, ?_, q1⟩
      · simp [results, Tryz.results44, go_sem, q3, q4]
      · refine ((HO.out.off (k := w.heap.size) (qb_set _ ⟨w.heap.size, 0, none⟩ _) (by omega)).off (k := w.heap.size + 1) (qb_set _ ⟨w.heap.size + 1, 0, none⟩ _) (by omega)).turned q2 rfl _ |>.sp
  case hbody =>
    intro lp pre x W hx hW
    rename_i K hKK
    clear hKK
    have HT := fun W => Lib.hid (trim_any x W (by omega))
    have HPA := fun W => Lib.hid (sparse_any (trimL x) W (Nat.le_trans (trimL_len x) hx))
    gi_wp2_with fail
    refine ⟨trivial, ?_⟩
    refine (CallsIn.inRound lp (callsIn_wide.2 (HT _).out)).mono ?_
    rintro e w2 ⟨rfl, hbT⟩
    have HW2 := Lib.hid (hW.below hbT)
    have HBT := Lib.hid hbT
    have HSZ := Lib.hid hW.sz
    clear hbT HT hW
    rcases hte : (trimL x).isEmpty with _ | _
    · have hne : ((⟨(trimL x).toArray⟩ : ByteArray) == ⟨#[]⟩) = false := by
        cases h : trimL x with
        | nil => rw [h] at hte; cases hte
        | cons a r => rfl
      gi_wp2_with fail
      refine ⟨trivial, ?_⟩
      refine (CallsIn.inRound lp (callsIn_wide.2 (HPA _).out)).mono ?_
      rintro e w3 ⟨p1, p2, rfl, hit, hbP⟩
      have HW3 := Lib.hid (HW2.out.below hbP)
      have HBP := Lib.hid (bel_chain hbP HBT.out)
      have hz3 : w1.heap.size + 5 ≤ w3.heap.size := HW3.out.sz
      clear HPA hbP
      rcases hi : itemL (trimL x) with _ | y
      · simp only [Option.isSome]
        have c2 : w3.cell? ⟨w.heap.size, 0, none⟩ = some (.slice none 0 0) := Lib.cell_of_heap HW3.out.r2 0
        have c3 : w3.cell? ⟨w.heap.size + 1, 0, none⟩ = some (.int .i64 0) := Lib.cell_of_heap HW3.out.r3 0
        have f2 : w3.frozen? ⟨w.heap.size, 0, none⟩ = false := Lib.frozen_of_heap HW3.out.r2 0
        have f3 : w3.frozen? ⟨w.heap.size + 1, 0, none⟩ = false := Lib.frozen_of_heap HW3.out.r3 0
        have z2 : w.heap.size < w3.heap.size := by omega
        have z3 : w.heap.size + 1 < w3.heap.size := by omega
        gi_wp2_with fail
        obtain ⟨ys, A, c, hy, _, _, _⟩ := HW3.out.ex
        refine ⟨(((qb_others HBP.out).trans (KeepsOthers.setCell _ _ _)).trans (KeepsOthers.setCell _ _ _)).trans (KeepsOthers.alloc _ _), rfl, ?_, ?_, ?_, ?_⟩
        · rw [itemsL_snoc, hte]
          simp only [Bool.false_eq_true, if_false]
          rw [rangesL_snoc, hy, hi]
        · exact qb_skip (qb_other (by simp) (qb_one _ HW3.out.r2))
        · exact qb_skip (qb_one _ (qb_other (by simp) HW3.out.r3))
        · exact bel_alloc (bel_setw (bel_setw HW3.out.bel (Nat.le_refl _) _) (by simp) _) _
      · obtain rfl := hit _ hi
        simp only [Option.isSome]
        obtain ⟨ys, A, c, hy, hb1, hb2, hown⟩ := HW3.out.ex
        have c4 : w3.cell? ⟨w1.heap.size, 0, none⟩ = some (.slice A (ys.take 64).length c) := Lib.cell_of_heap hb1 0
        have c5 : w3.cell? ⟨w1.heap.size + 1, 0, none⟩ = some (.bool (decide (64 < ys.length))) := Lib.cell_of_heap hb2 0
        have f4 : w3.frozen? ⟨w1.heap.size, 0, none⟩ = false := Lib.frozen_of_heap hb1 0
        have f5 : w3.frozen? ⟨w1.heap.size + 1, 0, none⟩ = false := Lib.frozen_of_heap hb2 0
        have z4 : w1.heap.size < w3.heap.size := by omega
        have z5 : w1.heap.size + 1 < w3.heap.size := by omega
        have HB1' := Lib.hid hb1
        have HB2' := Lib.hid hb2
        have HOW := Lib.hid hown
        have HY := Lib.hid hy
        clear hb1 hb2 hown hy
        by_cases h64 : 64 ≤ ys.length
        · have e64 : (ys.take 64).length = 64 := by simp; omega
          rw [e64] at c4
          gi_wp2_with fail
          refine ⟨((qb_others HBP.out).trans (KeepsOthers.setCell _ _ _)).trans (KeepsOthers.alloc _ _), ?_, ?_⟩
          · intro b hb1 hb2
            rw [Below.heap_alloc _ _ _ (by simp; omega), Below.heap_setCell _ _ _ _ (by simp; omega)]
            exact HBP.out.block b (by have := HSZ.out; omega)
          · have h := HW3.out
            refine ⟨⟨ys ++ [(p1, p2)], A, c, ?_, ?_, ?_, ?_⟩, ?_, ?_, ?_, ?_⟩
            · rw [itemsL_snoc, hte]
              simp only [Bool.false_eq_true, if_false]
              rw [rangesL_snoc, HY.out, hi]
            · rw [take_snoc _ h64]; exact qb_skip (qb_other (by simp) HB1'.out)
            · rw [show decide (64 < (ys ++ [(p1, p2)]).length) = true by simp; omega]; exact qb_skip (qb_one _ HB2'.out)
            · rw [take_snoc _ h64]; exact (HOW.out.off (k := w1.heap.size + 1) (qb_set _ ⟨w1.heap.size + 1, 0, none⟩ _) (by omega)).alloc _
            · exact qb_skip (qb_other (by simp; omega) h.r2)
            · exact qb_skip (qb_other (by simp; omega) h.r3)
            · exact bel_alloc (bel_setw h.bel (by simp; omega) _) _
            · have := h.sz; simp; omega
        · have e64 : ys.take 64 = ys := List.take_of_length_le (by omega)
          rw [e64] at c4
          have hne : ((ys.length : Int) == 64) = false := by simp; omega
          have ho2 := HOW.out
          rw [e64] at ho2
          have HO2 := Lib.hid ho2
          have hb1e := HB1'.out
          rw [e64] at hb1e
          have HB1e := Lib.hid hb1e
          clear ho2 hb1e HOW HB1'
          gi_wp2_with (gi_at_builtin; refine wplIn_appendQ (b0 := w1.heap.size + 5) rfl (.tmp 41) (.tmp 43) rfl A c ys rfl ((HO2.out.alloc _).alloc _) (w3.heap.size + 1) p1 p2 rfl (by simp [go_sem]) (by simp [go_sem]) (by omega) (by simp; omega) ?_; intro A2 c2 w4 hown4 hg4; have hb4 := qb_grown ((HO2.out.alloc _).alloc _) hg4 (k := w1.heap.size) (by omega) (qb_skip (qb_skip HB1e.out)); have d4 := Lib.cell_of_heap hb4 0; have df4 : w4.frozen? ⟨w1.heap.size, 0, none⟩ = false := Lib.frozen_of_heap hb4 0)
          have hoth := (HO2.out.alloc (.cells #[.int .i64 p1, .int .i64 p2] 82)).alloc (.cells #[.int .i64 p1, .int .i64 p2] 82)
          refine ⟨((((qb_others HBP.out).trans (KeepsOthers.alloc _ _)).trans (KeepsOthers.alloc _ _)).trans (hoth.others hg4)).trans (KeepsOthers.setCell _ _ _), ?_, ?_⟩
          · intro b hb1 hb2
            rw [Below.heap_setCell _ _ _ _ (by simp; omega), hg4.block b (by simp; omega) (hoth.notblk (by omega)), Below.heap_alloc _ _ _ (by simp; omega), Below.heap_alloc _ _ _ (by omega)]
            exact HBP.out.block b (by have := HSZ.out; omega)
          · have h := HW3.out
            have et : (ys ++ [(p1, p2)]).take 64 = ys ++ [(p1, p2)] := List.take_of_length_le (by simp; omega)
            have el : (ys ++ [(p1, p2)]).length = ys.length + 1 := by simp
            refine ⟨⟨ys ++ [(p1, p2)], A2, c2, ?_, ?_, ?_, ?_⟩, ?_, ?_, ?_, ?_⟩
            · rw [itemsL_snoc, hte]
              simp only [Bool.false_eq_true, if_false]
              rw [rangesL_snoc, HY.out, hi]
            · rw [et, el]; exact qb_one _ hb4
            · rw [show decide (64 < (ys ++ [(p1, p2)]).length) = false by simp; omega]
              have hb2 := HB2'.out
              rw [show decide (64 < ys.length) = false by simp; omega] at hb2
              exact qb_other (by simp) (qb_grown hoth hg4 (by omega) (qb_skip (qb_skip hb2)))
            · rw [et]; exact hown4.off (k := w1.heap.size) (qb_set _ ⟨w1.heap.size, 0, none⟩ _) (by omega)
            · exact qb_other (by simp; omega) (qb_grown hoth hg4 (by omega) (qb_skip (qb_skip h.r2)))
            · exact qb_other (by simp; omega) (qb_grown hoth hg4 (by omega) (qb_skip (qb_skip h.r3)))
            · refine bel_setw ?_ (by simp; omega) _
              exact (bel_alloc (bel_alloc h.bel _) _).grown hg4 (bel_alloc (bel_alloc h.bel _) _).size (fun j hj => by have := (World.ownsRow.lt hoth _ hj).1; omega)
            · have := h.sz; have := hg4.size; simp at this ⊢; omega
    · have ht0 : trimL x = [] := List.isEmpty_iff.1 hte
      rw [ht0]
      gi_wp2_with fail
      refine ⟨qb_others HBT.out, qb_boxes HBT.out (by have := HSZ.out; omega), ?_⟩
      have h := HW2.out
      refine ⟨?_, h.r2, h.r3, h.bel, h.sz⟩
      rw [itemsL_snoc, hte]
      simpa using h.ex
theorem ascii_low (c : UInt8) : lowB c = 61 → c = 61 := by
  have h2 : ∀ n : Fin 256, lowB (UInt8.ofNat n.val) = 61 → UInt8.ofNat n.val = 61 := by decide +kernel
  have h3 := h2 ⟨c.toNat, UInt8.toNat_lt _⟩
  simpa using h3
theorem headB_no5 {l : List UInt8} (h6 : 6 ≤ l.length) (hh : headB l = false) : (l.take 5).map lowB ≠ [98, 121, 116, 101, 115] ∨ l[5] ≠ 61 := by
  by_cases h1 : (l.take 5).map lowB = [98, 121, 116, 101, 115]
  · right
    intro h2
    have : headB l = true := by
      unfold headB
      have e : l.take 6 = l.take 5 ++ [l[5]] := (List.take_succ_eq_append_getElem (by omega))
      rw [e, List.map_append, h1, h2]
      simp; exact ⟨h6, by decide⟩
    rw [hh] at this; cases this
  · exact .inl h1
set_option maxHeartbeats 4000000 in
set_option maxRecDepth 100000 in
theorem sParse_no (l : List UInt8) (w : World) (hl : l.length ≤ 100000) (hh : headB l = false) :
    Calls Tryz.prog 44 #[.string ⟨l.toArray⟩] w (RetSpecs (parseL l) w) := by
  have hp : parseL l = ([], 2) := by unfold parseL; rw [hh]; rfl
  rw [hp]
  have hz : (⟨l.toArray⟩ : ByteArray).size = l.length := ba_size l
  refine (callsIn_wide (n := 4)).1 ?_
  refine callsIn_of_wp_marks Tryz.func44 rfl trivial ?_
  simp only [Tryz.ntmps44, List.size_toArray, List.length_cons, List.length_nil, Nat.reduceAdd, Nat.reduceSub, Array.replicate_succ, Array.replicate_zero, List.push_toArray, List.append_toArray, List.nil_append, List.cons_append]
  by_cases h6n : 6 ≤ l.length
  · have e5 : (⟨l.toArray⟩ : ByteArray).extract 0 5 = ⟨(l.take 5).toArray⟩ := ex_take ⟨l.toArray⟩ 5
    have HW := fun W => Lib.hid (sword_any ⟨(l.take 5).toArray⟩ W (by rw [ba_size, List.length_take]; omega))
    have h6 : (6 : Int) ≤ (((⟨l.toArray⟩ : ByteArray).size : Nat) : Int) := by rw [ba_size]; omega
    have h6' : (6 : Int) ≤ (l.length : Int) := by omega
    have hd6 : decide ((l.length : Int) < 6) = false := by simp; omega
    by_cases h5 : (l.take 5).map lowB = [98, 121, 116, 101, 115]
    · have ew : decide (((⟨(l.take 5).toArray⟩ : ByteArray).data.toList.map lowB) = [98, 121, 116, 101, 115]) = true := by simpa using h5
      rw [ew] at HW
      have hc5 : l[5] ≠ 61 := by
        rcases headB_no5 h6n hh with h | h
        · exact absurd h5 h
        · exact h
      have hx5 : (((((⟨l.toArray⟩ : ByteArray)[5]'(by rw [ba_size]; omega)).toNat : Nat) : Int) != 61) = true := by
        have : (⟨l.toArray⟩ : ByteArray)[5]'(by rw [ba_size]; omega) = l[5] := rfl
        rw [this, bne_iff_ne]
        intro e
        apply hc5
        have : (l[5]).toNat = 61 := by omega
        exact UInt8.toNat_inj.1 (by rw [this]; rfl)
      clear ew h5 hc5
      gi_wp2_with fail
      refine ⟨trivial, ?_⟩
      refine (callsIn_wide.2 (HW _).out).mono ?_
      rintro e1 w1 ⟨rfl, hb1⟩
      have hz1 := hb1.size
      simp at hz1
      have HB1 := Lib.hid hb1
      have q2 := Lib.hid (qb_keep HB1.out (Nat.le_refl _) (qb_skip (o' := .cells #[.int .i64 0] 61) (qb_new (w := w) (o := .cells #[.slice none 0 0] 42) rfl)))
      have q3 := Lib.hid (qb_keep HB1.out (Nat.le_refl _) (qb_new (w := w.alloc (.cells #[.slice none 0 0] 42)) (o := .cells #[.int .i64 0] 61) rfl))
      have c2 : w1.cell? ⟨w.heap.size, 0, none⟩ = some (.slice none 0 0) := Lib.cell_of_heap q2.out 0
      have c3 : w1.cell? ⟨w.heap.size + 1, 0, none⟩ = some (.int .i64 0) := by have := Lib.cell_of_heap q3.out 0; simpa using this
      have f2 : w1.frozen? ⟨w.heap.size, 0, none⟩ = false := Lib.frozen_of_heap q2.out 0
      have f3 : w1.frozen? ⟨w.heap.size + 1, 0, none⟩ = false := by have := Lib.frozen_of_heap q3.out 0; simpa using this
      have z2 : w.heap.size < w1.heap.size := by omega
      have z3 : w.heap.size + 1 < w1.heap.size := by omega
      have b1 : Below w.heap.size w w1 := ((qb_two w (.cells #[.slice none 0 0] 42) (.cells #[.int .i64 0] 61)).trans (HB1.out.mono (by simp; omega)))
      have q3' : w1.heap[w.heap.size + 1]? = some (.cells #[.int .i64 0] 61 (0, 0)) := by have := q3.out; simpa using this
      have e2 := Lib.cell_of_heap (qb_other (p := ⟨w.heap.size + 1, 0, none⟩) (v := .int .i64 2) (by simp) (qb_one (.slice none 0 0) q2.out)) 0
      have e3 := Lib.cell_of_heap (qb_one (.int .i64 2) (qb_other (p := ⟨w.heap.size, 0, none⟩) (v := .slice none 0 0) (by simp) q3')) 0
      have E2 := Lib.hid e2
      have E3 := Lib.hid e3
      have BB := Lib.hid b1
      clear hb1 HW e2 e3 q3' b1
      gi_wp2_with fail
      refine ⟨.tuple #[.slice none 0 0, .int .i64 2], ?_, none, 0, rfl, ⟨by simp, by simp, by simp⟩, bel_setw (bel_setw BB.out (Nat.le_refl _) _) (by simp) _⟩
      have e2 := E2.out
      have e3 := E3.out
      simp at e2 e3
      simp [results, Tryz.results44, go_sem, e2, e3]
    · have ew : decide (((⟨(l.take 5).toArray⟩ : ByteArray).data.toList.map lowB) = [98, 121, 116, 101, 115]) = false := by simpa using h5
      rw [ew] at HW
      clear ew h5
      gi_wp2_with fail
      refine ⟨trivial, ?_⟩
      refine (callsIn_wide.2 (HW _).out).mono ?_
      rintro e1 w1 ⟨rfl, hb1⟩
      have hz1 := hb1.size
      simp at hz1
      have HB1 := Lib.hid hb1
      have q2 := Lib.hid (qb_keep HB1.out (Nat.le_refl _) (qb_skip (o' := .cells #[.int .i64 0] 61) (qb_new (w := w) (o := .cells #[.slice none 0 0] 42) rfl)))
      have q3 := Lib.hid (qb_keep HB1.out (Nat.le_refl _) (qb_new (w := w.alloc (.cells #[.slice none 0 0] 42)) (o := .cells #[.int .i64 0] 61) rfl))
      have c2 : w1.cell? ⟨w.heap.size, 0, none⟩ = some (.slice none 0 0) := Lib.cell_of_heap q2.out 0
      have c3 : w1.cell? ⟨w.heap.size + 1, 0, none⟩ = some (.int .i64 0) := by have := Lib.cell_of_heap q3.out 0; simpa using this
      have f2 : w1.frozen? ⟨w.heap.size, 0, none⟩ = false := Lib.frozen_of_heap q2.out 0
      have f3 : w1.frozen? ⟨w.heap.size + 1, 0, none⟩ = false := by have := Lib.frozen_of_heap q3.out 0; simpa using this
      have z2 : w.heap.size < w1.heap.size := by omega
      have z3 : w.heap.size + 1 < w1.heap.size := by omega
      have b1 : Below w.heap.size w w1 := ((qb_two w (.cells #[.slice none 0 0] 42) (.cells #[.int .i64 0] 61)).trans (HB1.out.mono (by simp; omega)))
      have q3' : w1.heap[w.heap.size + 1]? = some (.cells #[.int .i64 0] 61 (0, 0)) := by have := q3.out; simpa using this
      have e2 := Lib.cell_of_heap (qb_other (p := ⟨w.heap.size + 1, 0, none⟩) (v := .int .i64 2) (by simp) (qb_one (.slice none 0 0) q2.out)) 0
      have e3 := Lib.cell_of_heap (qb_one (.int .i64 2) (qb_other (p := ⟨w.heap.size, 0, none⟩) (v := .slice none 0 0) (by simp) q3')) 0
      have E2 := Lib.hid e2
      have E3 := Lib.hid e3
      have BB := Lib.hid b1
      clear hb1 HW e2 e3 q3' b1
      gi_wp2_with fail
      refine ⟨.tuple #[.slice none 0 0, .int .i64 2], ?_, none, 0, rfl, ⟨by simp, by simp, by simp⟩, bel_setw (bel_setw BB.out (Nat.le_refl _) _) (by simp) _⟩
      have e2 := E2.out
      have e3 := E3.out
      simp at e2 e3
      simp [results, Tryz.results44, go_sem, e2, e3]
  · have hd6 : decide ((l.length : Int) < 6) = true := by simp; omega
    have h6' : (l.length : Int) < 6 := by omega
    gi_wp2_with fail
    refine ⟨trivial, ?_⟩
    rename_i K hKK
    refine hKK _ _ ?_
    clear hKK
    gi_wp2_with fail
    refine ⟨.tuple #[.slice none 0 0, .int .i64 2], ?_, none, 0, rfl, ⟨by simp, by simp, by simp⟩, qb_two _ _ _⟩
    simp [results, Tryz.results44, go_sem]
/-- The ranges of a value, or what is wrong with it. -/
theorem sParse_any (l : List UInt8) (w : World) (hl : l.length ≤ 100000) : Calls Tryz.prog 44 #[.string ⟨l.toArray⟩] w (RetSpecs (parseL l) w) := by
  cases hh : headB l
  · exact sParse_no l w hl hh
  · exact sParse_head l w hl hh
end Go.Proofs.YtfpfdgljhcpkpaaGreatDoor
