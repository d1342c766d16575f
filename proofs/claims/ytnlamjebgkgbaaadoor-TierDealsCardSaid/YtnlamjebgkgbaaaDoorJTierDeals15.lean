/- Contracts of the texts: of a span, of a set. Contract of a set's text. Contracts of the reference's Of, Or, And, Less; of Spans; of great. Contracts of spec's and the reference's functions on ranges that are asked: Right, All, Same, Spans, bytes. The examples hold: wakes. Rows of whatever elements: of the call's own, read, appended to. Plain laws of the text of ranges: it is parsed as they were. -/
import Derived.Test.YtnlamjebgkgbaaaDoorJTierDeals14
import Derived.Lib.ItoaMem
import Derived.Laws.Concat
import Derived.Test.YtnlamjebgkgbaaaDoorJTierDeals1
import Derived.Deep.RegionHeld3
import Derived.Test.YtnlamjebgkgbaaaDoorJTierDeals2
namespace Go.Proofs.YtnlamjebgkgbaaaDoor
open Go.RowKit

/-- The text of a set, out of the texts of its spans. -/
def joinT (tx : Int × Int → List UInt8) : List (Int × Int) → List UInt8
  | [] => []
  | x :: L => tx x ++ L.flatMap fun y => 44 :: tx y
theorem joinT_nil (tx) : joinT tx [] = [] := rfl
theorem joinT_snoc (tx) (L : List (Int × Int)) (y : Int × Int) : joinT tx (L ++ [y]) = if L.length = 0 then tx y else joinT tx L ++ 44 :: tx y := by
  cases L with
  | nil => simp [joinT]
  | cons x L => simp [joinT]
theorem joinT_length (tx) (L : List (Int × Int)) (h : ∀ x ∈ L, (tx x).length ≤ 100) : (joinT tx L).length ≤ 101 * L.length := by
  cases L with
  | nil => simp [joinT]
  | cons x L =>
    have h1 := h x (by simp)
    have h2 : ∀ M : List (Int × Int), (∀ y ∈ M, (tx y).length ≤ 100) → (M.flatMap fun y => 44 :: tx y).length ≤ 101 * M.length := by
      intro M
      induction M with
      | nil => intro _; simp
      | cons y M ih =>
        intro hM
        have a := hM y (by simp)
        have b := ih (fun z hz => hM z (by simp [hz]))
        simp only [List.flatMap_cons, List.length_append, List.length_cons] at b ⊢
        omega
    have h3 := h2 L (fun y hy => h y (by simp [hy]))
    simp only [joinT, List.length_append, List.length_cons]
    omega

/-- A span's text, out of its numbers' texts. -/
def spT (nt : Int → List UInt8) (x : Int × Int) : List UInt8 := if x.2 = 4611686018427387904 ∧ x.1 ≠ 4611686018427387904 then nt x.1 ++ [45] else nt x.1 ++ [45] ++ nt x.2

theorem str_app (a b : List UInt8) : (⟨a.toArray⟩ : ByteArray) ++ ⟨b.toArray⟩ = ⟨(a ++ b).toArray⟩ := by
  apply ByteArray.ext
  simp

end Go.Proofs.YtnlamjebgkgbaaaDoor
namespace Go.Proofs.YtnlamjebgkgbaaaDoor
open Go.RowKit

end Go.Proofs.YtnlamjebgkgbaaaDoor
namespace Go.Proofs.YtnlamjebgkgbaaaDoor
open Go.RowKit

theorem RetSp.of {L : List (Int × Int)} {w : World} {A : Option Addr} {c : Nat} {w' : World} (h : Own w' w.heap.size A c L) (hb : Below w.heap.size w w') : RetSp L w (.returned (.slice A L.length c)) w' := ⟨A, c, rfl, h, hb⟩

/-- The slices of a list in a row. -/
def RowSl (w : World) (g : Nat) (S : List (Option Addr × Nat × Nat)) : Prop := ∀ i x, S[i]? = some x → w.cell? ⟨g, i, none⟩ = some (.slice x.1 x.2.1 x.2.2)
def greatL (S : List (Option Addr × Nat × Nat)) : Bool := S.any fun x => decide (20 < x.2.1)

end Go.Proofs.YtnlamjebgkgbaaaDoor
namespace Go.Proofs.YtnlamjebgkgbaaaDoor
open Go.RowKit

theorem allR_step {L : List (Int × Int)} {k : Nat} (h : k < L.length) (h1 : allR (L.take k) = true) (h2 : rightR L[k] = true) : allR (L.take (k + 1)) = true := by
  unfold allR at *
  rw [List.take_succ_eq_append_getElem h, List.all_append, h1]; simpa using h2
theorem allR_no {L : List (Int × Int)} {k : Nat} (h : k < L.length) (h2 : rightR L[k] = false) : allR L = false := by
  unfold allR
  rw [List.all_eq_false]
  exact ⟨L[k], List.getElem_mem h, by simp [h2]⟩
/-- What a range has of so many bytes, and whether that is any. -/
def BytesPost (n : Int) (x : Int × Int) (w : World) (e : Ending) (w' : World) : Prop :=
  e = .returned (.tuple #[.agg #[.int .i64 (spanOf n x).1, .int .i64 (spanOf n x).2], .bool (hasS (spanOf n x))]) ∧ Below w.heap.size w w'
theorem bytes_mk {n : Int} {x : Int × Int} {a b : Int} {t : Bool} {w w' : World} (h : spanOf n x = (a, b)) (ht : t = decide (a < b)) (hb : Below w.heap.size w w') : BytesPost n x w (.returned (.tuple #[.agg #[.int .i64 a, .int .i64 b], .bool t])) w' :=
  ⟨by rw [h, ht]; rfl, hb⟩
end Go.Proofs.YtnlamjebgkgbaaaDoor
namespace Go.Proofs.YtnlamjebgkgbaaaDoor
open Go.RowKit

theorem spCells_get (L : List (Int × Int)) (i : Nat) (x : Int × Int) (h : L[i]? = some x) : (spCells L)[i * 2]? = some (.int .i64 x.1) ∧ (spCells L)[i * 2 + 1]? = some (.int .i64 x.2) := by
  have := spCells_even L i x h
  rw [Nat.mul_comm] at this
  exact this
/-- A row of spans that was just laid. -/
theorem Sp.built (w : World) (L : List (Int × Int)) (T : TypeId) : Sp (w.alloc (.cells (spCells L).toArray T)) (some ⟨w.heap.size, 0, none⟩) L.length L :=
  ⟨Nat.le_refl _, (fun e => by cases e), fun _ => ⟨w.heap.size, 0, rfl, by simp, fun i x hx => by
    have := spCells_get L i x hx
    have hc : ∀ j, (w.alloc (.cells (spCells L).toArray T)).cell? ⟨w.heap.size, j, none⟩ = (spCells L)[j]? := fun j => by
      rw [Lib.cell_of_heap (heap_alloc_new w _)]; simp
    rw [hc, hc, Nat.zero_add]
    exact this⟩⟩

theorem Sp.built' {w : World} {g : Nat} (L : List (Int × Int)) (T : TypeId) (hg : g = w.heap.size) : Sp (w.alloc (.cells (spCells L).toArray T)) (some ⟨g, 0, none⟩) L.length L := by
  subst hg; exact Sp.built w L T
/-- The texts of small numbers. -/
def ntS (n : Int) : List UInt8 := if 0 ≤ n ∧ n < 100 then Lib.decDigits n.toNat else []
theorem ntS_len (n : Int) : (ntS n).length ≤ 40 := by
  unfold ntS
  split
  · rename_i h
    by_cases h1 : n.toNat < 10
    · rw [Lib.decDigits_one h1]; simp
    · rw [Lib.decDigits_two h1 (by omega)]; simp
  · simp
def wakeL : List (Int × Int) := [(0, 6), (9, 4611686018427387904)]
theorem wake_cano : cano [(9, 4611686018427387904), (0, 4), (4, 6)] = wakeL := by decide
theorem wake_text : joinT (spT ntS) wakeL = [48, 45, 54, 44, 57, 45] := by
  simp [joinT, spT, ntS, wakeL, Lib.decDigits_one]

theorem wake_first : firstL wakeL 7 = some (9, 4611686018427387904) := by decide

end Go.Proofs.YtnlamjebgkgbaaaDoor
namespace Go.Proofs.YtnlamjebgkgbaaaDoor
open Go.RowKit

section
variable {α : Type}
/-- What a slice's element type is to this program: its cells by 'enc', n of them. -/
structure ElemK (P : Program) (enc : α → List Value) (n : Nat) (T ST : TypeId) (bytes : Nat) : Prop where
  und : P.underlying ST = some (.slice T)
  info : ∃ i z, P.info? T = some i ∧ i.zero = some z ∧ i.size = n ∧ i.bytes = bytes ∧ z.cells.size = n
  pos : 0 < n
  small : bytes ≤ 128
  len : ∀ x, (enc x).length = n
  one : ∀ x, ∀ v ∈ enc x, v.oneCell' = true
def gCells (enc : α → List Value) (L : List α) : List Value := L.flatMap enc
theorem gCells_cons {enc : α → List Value} (x : α) (r : List α) : gCells enc (x :: r) = enc x ++ gCells enc r := rfl
theorem gCells_append {enc : α → List Value} (a b : List α) : gCells enc (a ++ b) = gCells enc a ++ gCells enc b := by unfold gCells; simp
theorem gCells_length {enc : α → List Value} {n : Nat} (h : ∀ x, (enc x).length = n) : ∀ (L : List α), (gCells enc L).length = L.length * n
  | [] => by simp [gCells]
  | x :: r => by rw [gCells_cons, List.length_append, h, gCells_length h r, List.length_cons, Nat.succ_mul, Nat.add_comm]
theorem gCells_at {enc : α → List Value} {n : Nat} (h : ∀ x, (enc x).length = n) : ∀ (L : List α) (k : Nat) (x : α) (j : Nat) (v : Value), L[k]? = some x → (enc x)[j]? = some v → (gCells enc L)[k * n + j]? = some v
  | [], k, x, j, v, hk, _ => by simp at hk
  | y :: r, 0, x, j, v, hk, hj => by
    simp at hk; subst hk
    have hl := (List.getElem?_eq_some_iff.1 hj).1
    rw [gCells_cons, Nat.zero_mul, Nat.zero_add, List.getElem?_append_left hl]; exact hj
  | y :: r, k + 1, x, j, v, hk, hj => by
    have ih := gCells_at h r k x j v (by simpa using hk) hj
    rw [gCells_cons, Nat.succ_mul, List.getElem?_append_right (by rw [h]; omega), h, show k * n + n + j - n = k * n + j from by omega]
    exact ih
/-- A row of the call's own. -/
def OwnG (T : TypeId) (enc : α → List Value) (n : Nat) (w : World) (base : Nat) (A : Option Addr) (c : Nat) (L : List α) : Prop := w.ownsRow base T n (.slice A L.length c) L.length (gCells enc L)
/-- A slice that reads as a list. -/
structure SpG (enc : α → List Value) (n : Nat) (w : World) (A : Option Addr) (c : Nat) (L : List α) : Prop where
  le : L.length ≤ c
  nil_ : A = none → c = 0
  at' : ∀ k (h : k < L.length), ∃ b off, A = some ⟨b, off, none⟩ ∧ b < w.heap.size ∧ ∀ j v, (enc L[k])[j]? = some v → w.cell? ⟨b, off + k * n + j, none⟩ = some v
variable {enc : α → List Value} {n : Nat} {T ST : TypeId} {w w' w0 : World} {base : Nat} {A : Option Addr} {c : Nat} {L : List α}
theorem SpG.nil (w : World) : SpG enc n w none 0 [] := ⟨Nat.le_refl _, fun _ => rfl, fun k h => by simp at h⟩
theorem SpG.below (h : SpG enc n w A c L) (hb : Below w.heap.size w w') : SpG enc n w' A c L :=
  ⟨h.le, h.nil_, fun k hk => by
    obtain ⟨b, off, e, hl, h1⟩ := h.at' k hk
    exact ⟨b, off, e, Nat.lt_of_lt_of_le hl hb.size, fun j v hj => cell_keep hb (h1 j v hj)⟩⟩
theorem SpG.alloc (h : SpG enc n w A c L) (o : Obj) : SpG enc n (w.alloc o) A c L := h.below (bel_alloc (Below.refl _ _) o)
theorem SpG.drew (h : SpG enc n w A c L) : SpG enc n w.drew A c L := ⟨h.le, h.nil_, h.at'⟩
theorem SpG.drewN (h : SpG enc n w A c L) (q : Nat) : SpG enc n (w.drewN q) A c L := ⟨h.le, h.nil_, h.at'⟩
theorem OwnG.nil (w : World) (base : Nat) : OwnG T enc n w base none 0 [] := World.ownsRow_nil w base _ _
theorem OwnG.at_ (h : OwnG T enc n w base A c L) (hn : 0 < L.length) : ∃ g, A = some ⟨g, 0, none⟩ ∧ base ≤ g ∧ g < w.heap.size := by
  obtain ⟨g, cap, hv, hb, hlt⟩ := World.ownsRow.form h hn
  injection hv with hA
  exact ⟨g, hA, hb, hlt⟩
theorem OwnG.alloc (h : OwnG T enc n w base A c L) (o : Obj) : OwnG T enc n (w.alloc o) base A c L := World.ownsRow.alloc h o
theorem OwnG.drew (h : OwnG T enc n w base A c L) : OwnG T enc n w.drew base A c L := World.ownsRow.drew h
theorem OwnG.drewN (h : OwnG T enc n w base A c L) (q : Nat) : OwnG T enc n (w.drewN q) base A c L := h
theorem OwnG.below (h : OwnG T enc n w base A c L) (hb : Below w.heap.size w w') : OwnG T enc n w' base A c L :=
  World.ownsRow.kept (row := none) h ⟨hb.os, hb.tape, hb.output, hb.size, fun k hk _ => hb.block k hk⟩ (by cases A <;> simp [Value.ownBlock])
theorem OwnG.base_le {base' : Nat} (h : OwnG T enc n w base A c L) (hb : base' ≤ base) : OwnG T enc n w base' A c L := by
  refine ⟨h.1, ?_⟩
  rcases h.2 with h2 | ⟨g, cap, cur, h1, h2, h3, h4⟩
  · exact .inl h2
  · exact .inr ⟨g, cap, cur, h1, Nat.le_trans hb h2, h3, h4⟩
/-- A world that differs in one old block alone. -/
theorem OwnG.off {k : Nat} (h : OwnG T enc n w base A c L) (hg : w.grownBy w' (some k)) (hk : k < base) : OwnG T enc n w' base A c L :=
  World.ownsRow.kept h hg (.inr fun hh => by
    have := (World.ownsRow.lt h _ hh).1
    omega)
theorem OwnG.spg (hl : ∀ x, (enc x).length = n) (h : OwnG T enc n w base A c L) : SpG enc n w A c L := by
  refine ⟨?_, ?_, ?_⟩
  · rcases h.2 with ⟨hv, hn⟩ | ⟨g, cap, cur, hv, _, _, hc, _⟩
    · rw [hn]; exact Nat.zero_le _
    · injection hv with _ _ h3; rw [h3]; exact hc
  · intro hA
    rcases h.2 with ⟨hv, hn⟩ | ⟨g, cap, cur, hv, _⟩
    · injection hv
    · subst hA; injection hv with h1; cases h1
  · intro k hk
    obtain ⟨g, rfl, _, hg⟩ := h.at_ (by omega)
    refine ⟨g, 0, rfl, hg, fun j v hj => ?_⟩
    have h1 := gCells_at hl L k L[k] j v (List.getElem?_eq_getElem hk) hj
    have hlt := (List.getElem?_eq_some_iff.1 h1).1
    rw [Nat.zero_add]
    exact (World.ownsRow.cellAt h _ (by have := gCells_length hl L; omega)).trans h1
/-- The cells of a fresh block. -/
theorem SpG.built (hl : ∀ x, (enc x).length = n) (w : World) (L : List α) (cs : Array Value) (hcs : cs.toList = gCells enc L) (T : TypeId) : SpG enc n (w.alloc (.cells cs T)) (some ⟨w.heap.size, 0, none⟩) L.length L := by
  refine ⟨Nat.le_refl _, (fun h => by cases h), fun k hk => ⟨w.heap.size, 0, rfl, by simp, fun j v hj => ?_⟩⟩
  have h1 := gCells_at hl L k L[k] j v (List.getElem?_eq_getElem hk) hj
  rw [Nat.zero_add]
  have hb : (w.alloc (.cells cs T)).heap[w.heap.size]? = some (.cells cs T (0, 0)) := heap_alloc_new w _
  rw [← hcs, Array.getElem?_toList] at h1
  rw [Lib.cell_of_heap hb]; exact h1
variable {P : Program} {bytes : Nat}
/-- append of one element. -/
theorem wpG_append (K : ElemK P enc n T ST bytes) {o : Oper} {a : Act} {K' : Act → World → Prop} {Q : Exit → Act → World → Prop} (s x : Operand)
    (ho : o.op = .call { callee := .builtin .append, args := #[s, x], argTypes := #[ST, ST] })
    (A : Option Addr) (c : Nat) (L : List α) (hs : a.eval s = .slice A L.length c) (hown : OwnG T enc n w w0.heap.size A c L)
    (A2 : Option Addr) (c2 : Nat) (L2 : List α) (hx : a.eval x = .slice A2 L2.length c2) (hsp : SpG enc n w A2 c2 L2) (h2 : 0 < L2.length)
    (hl : L.length + L2.length ≤ 1000000) (hbel : Below w0.heap.size w0 w)
    (h : ∀ A' c' w', OwnG T enc n w' w0.heap.size A' c' (L ++ L2) → Below w0.heap.size w0 w' → w.grownBy w' (Value.slice A L.length c).ownBlock → K' (a.put o.dst (.slice A' (L.length + L2.length) c')) w') : o.wp P a w K' Q := by
  obtain ⟨i0, z, hi, hz, hsz, hby, hzs⟩ := K.info
  obtain ⟨b, off, e, _, _⟩ := hsp.at' 0 h2
  subst e
  refine wp_append_own w s x _ ho w0.heap.size T i0 z n bytes K.und hi hz hsz hby hzs K.pos _ _ _ hs hown ⟨b, off, none⟩ L2.length c2 (gCells enc L2) hx (gCells_length K.len L2) ?_ ?_ (by simp only [maxLen]; omega) ?_ hbel.size ?_
  · intro j u hj
    have hadd : ∀ j, (⟨b, off, none⟩ : Addr).add j = ⟨b, off + j, none⟩ := fun j => by unfold Addr.add; split <;> simp_all
    rw [hadd]
    have hjl := (List.getElem?_eq_some_iff.1 hj).1
    rw [gCells_length K.len] at hjl
    have hnp := K.pos
    have hk : j / n < L2.length := Nat.div_lt_of_lt_mul (by rw [Nat.mul_comm]; exact hjl)
    obtain ⟨b', off', e', _, h1⟩ := hsp.at' (j / n) hk
    injection e' with e'; injection e' with e1 e2; subst e1 e2
    have hm : j % n < n := Nat.mod_lt _ hnp
    have hlx := K.len L2[j / n]
    have hv := h1 (j % n) _ (List.getElem?_eq_getElem (by omega))
    have hv2 := gCells_at K.len L2 (j / n) L2[j / n] (j % n) _ (List.getElem?_eq_getElem hk) (List.getElem?_eq_getElem (by omega))
    have hdm : j / n * n + j % n = j := by rw [Nat.mul_comm]; exact Nat.div_add_mod j n
    rw [hdm] at hv2
    rw [Nat.add_assoc, hdm] at hv
    rw [hj] at hv2
    injection hv2 with hv2
    rw [hv2]; exact hv
  · intro u hu
    simp only [gCells, List.mem_flatMap] at hu
    obtain ⟨y, _, hu⟩ := hu
    exact K.one y u hu
  · have := K.small
    have : (L.length + L2.length) * bytes ≤ 1000000 * 128 := Nat.mul_le_mul hl this
    omega
  · intro v' w' h1 h2' _
    have hlt := World.ownsRow.lt hown
    have hbel' : Below w0.heap.size w0 w' := hbel.grown h2' hbel.size (fun k hk => (hlt k hk).1)
    have hlen : (L ++ L2).length = L.length + L2.length := by simp
    rw [← gCells_append] at h1
    have hform : ∃ A' c', v' = .slice A' (L.length + L2.length) c' := by
      rcases h1.2 with ⟨hv, hn⟩ | ⟨g', cap, cur, hv, _⟩
      · omega
      · exact ⟨_, _, hv⟩
    obtain ⟨A', c', rfl⟩ := hform
    exact h A' c' w' (by unfold OwnG; rw [hlen]; exact h1) hbel' h2'
theorem wplG_append (K : ElemK P enc n T ST bytes) {ops : Array Oper} {rest : List Oper} {o : Oper} {a : Act} {Q : Exit → Act → World → Prop} (hgd : o.guard = none) (s x : Operand)
    (ho : o.op = .call { callee := .builtin .append, args := #[s, x], argTypes := #[ST, ST] })
    (A : Option Addr) (c : Nat) (L : List α) (hs : a.eval s = .slice A L.length c) (hown : OwnG T enc n w w0.heap.size A c L)
    (A2 : Option Addr) (c2 : Nat) (L2 : List α) (hx : a.eval x = .slice A2 L2.length c2) (hsp : SpG enc n w A2 c2 L2) (h2 : 0 < L2.length)
    (hl : L.length + L2.length ≤ 1000000) (hbel : Below w0.heap.size w0 w)
    (h : ∀ A' c' w', OwnG T enc n w' w0.heap.size A' c' (L ++ L2) → Below w0.heap.size w0 w' → w.grownBy w' (Value.slice A L.length c).ownBlock → wpList P ops Q rest (a.put o.dst (.slice A' (L.length + L2.length) c')) w') : wpList P ops Q (o :: rest) a w :=
  wpList_plain hgd fun _ hK => wpG_append K s x ho A c L hs hown A2 c2 L2 hx hsp h2 hl hbel fun A' c' w' h1 h2 h3 => hK _ _ (h A' c' w' h1 h2 h3)
theorem stepG_append (K : ElemK P enc n T ST bytes) {ops : Array Oper} {o : Oper} {a : Act} {K' : Act → World → Prop} {Q : Exit → Act → World → Prop} {E : Prop} (hgd : o.guard = none) (s x : Operand)
    (ho : o.op = .call { callee := .builtin .append, args := #[s, x], argTypes := #[ST, ST] })
    (A : Option Addr) (c : Nat) (L : List α) (hs : a.eval s = .slice A L.length c) (hown : OwnG T enc n w w0.heap.size A c L)
    (A2 : Option Addr) (c2 : Nat) (L2 : List α) (hx : a.eval x = .slice A2 L2.length c2) (hsp : SpG enc n w A2 c2 L2) (h2 : 0 < L2.length)
    (hl : L.length + L2.length ≤ 1000000) (hbel : Below w0.heap.size w0 w)
    (h : ∀ A' c' w', OwnG T enc n w' w0.heap.size A' c' (L ++ L2) → Below w0.heap.size w0 w' → w.grownBy w' (Value.slice A L.length c).ownBlock → K' (a.put o.dst (.slice A' (L.length + L2.length) c')) w') :
    if Region.wanted o (yielded ops a.tmps) = true then Oper.wp P o a w K' Q else E := by
  have hw : Region.wanted o (yielded ops a.tmps) = true := by simp [Region.wanted, hgd]
  rw [if_pos hw]
  exact wpG_append K s x ho A c L hs hown A2 c2 L2 hx hsp h2 hl hbel h
end
/-- A text in a cell. -/
def encT (l : List UInt8) : List Value := [.string ⟨l.toArray⟩]
def encI (x : Int) : List Value := [.int .i64 x]
theorem Tryd.strInfo : (Tryd.prog.info? 9).map (fun i => (i.zero, i.size, i.bytes)) = some (some (.string ⟨#[]⟩), 1, 16) := by kernel_rfl
theorem Tryd.intInfo' : (Tryd.prog.info? 3).map (fun i => (i.zero, i.size, i.bytes)) = some (some (.int .i64 0), 1, 8) := by kernel_rfl
set_option maxRecDepth 100000 in
theorem elemT : ElemK Tryd.prog encT 1 9 68 16 where
  und := Tryd.underlying68
  info := by
    obtain ⟨i0, hi, hz0, hz1, hz2⟩ := info_parts Tryd.strInfo
    exact ⟨i0, _, hi, hz0, hz1, hz2, rfl⟩
  pos := by decide
  small := by decide
  len _ := rfl
  one _ v hv := by simp [encT] at hv; rw [hv]; rfl
set_option maxRecDepth 100000 in
theorem elemI : ElemK Tryd.prog encI 1 3 31 8 where
  und := Tryd.underlying31
  info := by
    obtain ⟨i0, hi, hz0, hz1, hz2⟩ := info_parts Tryd.intInfo'
    exact ⟨i0, _, hi, hz0, hz1, hz2, rfl⟩
  pos := by decide
  small := by decide
  len _ := rfl
  one _ v hv := by simp [encI] at hv; rw [hv]; rfl
end Go.Proofs.YtnlamjebgkgbaaaDoor
namespace Go.Proofs.YtnlamjebgkgbaaaDoor

theorem digt_toNat {k : Nat} (h : k < 10) : (UInt8.ofNat (48 + k)).toNat = 48 + k := by
  rw [UInt8.toNat_ofNat_of_lt']
  simp [UInt8.size]; omega
theorem numFrom_append : ∀ (l m : List UInt8) (acc : Int), numFrom acc (l ++ m) = match numFrom acc l with | some x => numFrom x m | none => none
  | [], m, acc => rfl
  | c :: r, m, acc => by
    rw [List.cons_append, numFrom, numFrom]
    by_cases h : digB c = true
    · rw [if_pos h, if_pos h]; exact numFrom_append r m _
    · rw [if_neg h, if_neg h]
theorem numFrom_one {acc : Int} {k : Nat} (h : k < 10) : numFrom acc [UInt8.ofNat (48 + k)] = some (acc * 10 + k) := by
  have h1 := digt_toNat h
  have hd : digB (UInt8.ofNat (48 + k)) = true := by unfold digB; rw [h1]; simp; omega
  rw [numFrom, if_pos hd, numFrom, h1]
  congr 1; omega
theorem numFrom_dec (u : Nat) : numFrom 0 (Lib.decDigits u) = some (u : Int) := by
  induction u using Nat.strongRecOn with
  | ind u ih =>
    rw [Lib.decDigits]
    by_cases h : u < 10
    · rw [dif_pos h, numFrom_one h]; congr 1; omega
    · rw [dif_neg h, numFrom_append, ih (u / 10) (by omega)]
      simp only
      rw [numFrom_one (by omega)]
      congr 1; omega
theorem dec_length_le : ∀ (k u : Nat), u < 10 ^ (k + 1) → (Lib.decDigits u).length ≤ k + 1
  | 0, u, h => by rw [Lib.decDigits, dif_pos (by omega)]; simp
  | k + 1, u, h => by
    rw [Lib.decDigits]
    by_cases h0 : u < 10
    · rw [dif_pos h0]; simp
    · rw [dif_neg h0, List.length_append]
      have := dec_length_le k (u / 10) (by rw [Nat.pow_succ] at h; omega)
      simp; omega
theorem dec_pos (u : Nat) : 0 < (Lib.decDigits u).length := by
  rw [Lib.decDigits]
  by_cases h0 : u < 10
  · rw [dif_pos h0]; simp
  · rw [dif_neg h0]; simp
theorem dec_dig (u : Nat) : ∀ c ∈ Lib.decDigits u, 48 ≤ c.toNat ∧ c.toNat ≤ 57 := by
  induction u using Nat.strongRecOn with
  | ind u ih =>
    rw [Lib.decDigits]
    by_cases h : u < 10
    · rw [dif_pos h]
      intro c hc
      rw [List.mem_singleton] at hc
      rw [hc, digt_toNat h]; omega
    · rw [dif_neg h]
      intro c hc
      rcases List.mem_append.1 hc with hc | hc
      · exact ih (u / 10) (by omega) c hc
      · rw [List.mem_singleton] at hc
        rw [hc, digt_toNat (show u % 10 < 10 by omega)]; omega
/-- A number's digits. -/
def digN (n : Int) : List UInt8 := Lib.decDigits n.toNat
theorem digN_len {n : Int} (h1 : n ≤ 999999999999999999) : 0 < (digN n).length ∧ (digN n).length ≤ 18 :=
  ⟨dec_pos _, dec_length_le 17 _ (by have : (10 : Nat) ^ (17 + 1) = 1000000000000000000 := by decide
                                     omega)⟩
theorem digN_len' {n : Int} (h1 : n ≤ 9223372036854775807) : (digN n).length ≤ 19 :=
  dec_length_le 18 _ (by have : (10 : Nat) ^ (18 + 1) = 10000000000000000000 := by decide
                         omega)
theorem numL_dig {n : Int} (h0 : 0 ≤ n) (h1 : n ≤ 999999999999999999) : numL (digN n) = some n := by
  have := digN_len h1
  unfold numL
  rw [if_neg (by omega)]
  unfold digN
  rw [numFrom_dec]; congr 1; omega
/-- A range's text. -/
def textR (x : Int × Int) : List UInt8 := (if 0 ≤ x.1 then digN x.1 else []) ++ 45 :: (if 0 ≤ x.2 then digN x.2 else [])
def textQ (L : List (Int × Int)) : List UInt8 := [98, 121, 116, 101, 115, 61] ++ joinT textR L
theorem textR_byte {x : Int × Int} {c : UInt8} (h : c ∈ textR x) : c.toNat = 45 ∨ (48 ≤ c.toNat ∧ c.toNat ≤ 57) := by
  unfold textR at h
  rcases List.mem_append.1 h with h | h
  · split at h
    · exact .inr (dec_dig _ c h)
    · cases h
  · rcases List.mem_cons.1 h with h | h
    · left; rw [h]; rfl
    · split at h
      · exact .inr (dec_dig _ c h)
      · cases h
theorem textR_len {x : Int × Int} (hr : rightR x = true) : 0 < (textR x).length ∧ (textR x).length ≤ 37 := by
  rw [rightR_iff] at hr
  have h1 := digN_len hr.1
  have h2 := digN_len hr.2.1
  unfold textR
  rw [List.length_append, List.length_cons]
  constructor
  · omega
  · by_cases h3 : 0 ≤ x.1 <;> by_cases h4 : 0 ≤ x.2 <;> simp only [if_pos, if_neg, h3, h4, not_false_eq_true, List.length_nil] <;> omega
theorem u8_ne {c : UInt8} {k : Nat} (h : c.toNat = k → False) (hk : k < 256) : c ≠ UInt8.ofNat k := by
  intro e
  apply h
  rw [e, UInt8.toNat_ofNat_of_lt' (show k < UInt8.size from hk)]
theorem dropWhile_not {α : Type} {p : α → Bool} : ∀ {l : List α}, (∀ c ∈ l, p c = false) → l.dropWhile p = l
  | [], _ => rfl
  | c :: r, h => by simp [List.dropWhile, h c (List.mem_cons_self ..)]
theorem trim_same {l : List UInt8} (h : ∀ c ∈ l, blankB c = false) : trimL l = l := by
  unfold trimL
  rw [dropWhile_not (l := l.reverse) (fun c hc => h c (List.mem_reverse.1 hc)), List.reverse_reverse, dropWhile_not h]
theorem textR_trim (x : Int × Int) : trimL (textR x) = textR x := trim_same fun c hc => by
  have h := textR_byte hc
  have h1 : c ≠ 32 := u8_ne (k := 32) (by omega) (by omega)
  have h2 : c ≠ 9 := u8_ne (k := 9) (by omega) (by omega)
  simp [blankB, h1, h2]
theorem dig_no {n : Int} : ∀ c ∈ digN n, c ≠ 45 := fun c hc => by
  have h := dec_dig _ c hc
  exact u8_ne (k := 45) (by omega) (by omega)
theorem textR_item {x : Int × Int} (hr : rightR x = true) : itemL (textR x) = some x := by
  rw [rightR_iff] at hr
  obtain ⟨x1, x2⟩ := x
  simp only at hr
  obtain ⟨h1, h2, h3⟩ := hr
  unfold itemL textR
  by_cases hf : 0 ≤ x1
  · by_cases ht : 0 ≤ x2
    · have hle : x1 ≤ x2 := by omega
      have l1 := (digN_len h1).1
      have l2 := (digN_len h2).1
      have n1 := numL_dig hf h1
      have n2 := numL_dig ht h2
      rw [if_pos hf, if_pos ht, cutD_some dig_no]
      obtain ⟨c, a, e1⟩ : ∃ c a, digN x1 = c :: a := List.exists_cons_of_length_pos l1
      obtain ⟨d, b, e2⟩ : ∃ c a, digN x2 = c :: a := List.exists_cons_of_length_pos l2
      rw [e1] at n1 ⊢
      rw [e2] at n2 ⊢
      simp only [n1, n2, if_pos hle]
    · have e : x2 = -1 := by omega
      have l1 := (digN_len h1).1
      have n1 := numL_dig hf h1
      rw [if_pos hf, if_neg ht, cutD_some dig_no]
      obtain ⟨c, a, e1⟩ : ∃ c a, digN x1 = c :: a := List.exists_cons_of_length_pos l1
      rw [e1] at n1 ⊢
      simp only [n1, Option.map_some, e]
  · have e : x1 = -1 := by omega
    have ht : 0 ≤ x2 := by omega
    have n2 := numL_dig ht h2
    rw [if_neg hf, if_pos ht, cutD_some (by intro c hc; cases hc)]
    simp only [n2, Option.map_some, e]
theorem split_join : ∀ (x : Int × Int) (L : List (Int × Int)), splitC (textR x ++ L.flatMap fun y => 44 :: textR y) = (x :: L).map textR
  | x, [] => by
    simp only [List.flatMap_nil, List.append_nil, List.map_cons, List.map_nil]
    refine splitC_none fun c hc => ?_
    have h := textR_byte hc
    exact u8_ne (k := 44) (by omega) (by omega)
  | x, y :: L => by
    rw [List.flatMap_cons, List.cons_append, splitC_some fun c hc => ?_]
    · rw [split_join y L]; rfl
    · have h := textR_byte hc
      exact u8_ne (k := 44) (by omega) (by omega)
theorem ranges_text : ∀ {L : List (Int × Int)}, allR L = true → rangesL (L.map textR) = some L
  | [], _ => rfl
  | x :: L, h => by
    have h1 : rightR x = true := List.all_eq_true.1 h x (List.mem_cons_self ..)
    have h2 : allR L = true := List.all_eq_true.2 fun y hy => List.all_eq_true.1 h y (List.mem_cons_of_mem _ hy)
    rw [List.map_cons, rangesL, textR_item h1, ranges_text h2]
theorem items_text {L : List (Int × Int)} (hL : allR L = true) : itemsL (L.map textR) = L.map textR := by
  unfold itemsL
  rw [List.map_map]
  have e : (trimL ∘ textR) = textR := funext textR_trim
  rw [e, List.filter_eq_self]
  intro p hp
  obtain ⟨x, hx, rfl⟩ := List.mem_map.1 hp
  have := (textR_len (List.all_eq_true.1 hL x hx)).1
  cases h : textR x with
  | nil => rw [h] at this; simp at this
  | cons c r => rfl
/-- The text of right ranges is parsed as they were. -/
theorem parse_text {L : List (Int × Int)} (hL : allR L = true) (h0 : 0 < L.length) (h1 : L.length ≤ 64) : parseL (textQ L) = (L, 0) := by
  obtain ⟨x, r, rfl⟩ : ∃ x r, L = x :: r := List.exists_cons_of_length_pos h0
  have hh : headB (textQ (x :: r)) = true := by
    unfold headB textQ
    simp [lowB]
  have hd : (textQ (x :: r)).drop 6 = textR x ++ r.flatMap fun y => 44 :: textR y := rfl
  unfold parseL
  rw [if_pos hh, hd, split_join, items_text hL, ranges_text hL]
  simp only
  rw [if_neg (by omega)]
theorem textQ_len {L : List (Int × Int)} (hL : allR L = true) : (textQ L).length ≤ 6 + 101 * L.length := by
  unfold textQ
  rw [List.length_append]
  have := joinT_length textR L (fun x hx => by have := (textR_len (List.all_eq_true.1 hL x hx)).2; omega)
  simp; omega
end Go.Proofs.YtnlamjebgkgbaaaDoor
