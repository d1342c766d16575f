/- From a row's reading to what the walks ask: slices of any rows; a tier with its operations. -/
import Derived.Test.YtnlamjebgkgbaaaDoorJTierDeals11
import Derived.Test.YtnlamjebgkgbaaaDoorJTierDeals26
namespace Go.Proofs.YtnlamjebgkgbaaaDoor
open Go.ChangeShapes Go.WideShapes Go.ChangeAt Go.RowKit

section
variable {H : Type} {enc : TypeId × Value → H} {w : World} {base : Nat} {spare : Nat → Bool} {held : Bool} {n : Nat}
theorem open_rows {α : Type} [Inhabited α] {P : Program} {en : α → List Value} {k : Nat} {T ST : TypeId} {Pw : α → Prop} (hk : 0 < k) (hlen : ∀ x, (en x).length = k) (hu : P.underlying ST = some (.slice T)) (hc : P.cellsOf T = k)
    (hcells : ∀ (n : Nat) (cs : List Value) (y : DataW H × List MemPlace), cs.length = k → DataW.trod enc P w base spare held n T cs = some y → ∃ x, cs = en x ∧ Pw x)
    {fuel : Nat} {A : Option Addr} {len c : Nat} {x : DataW H × List MemPlace} (h : DataW.trod enc P w base spare held fuel ST [.slice A len c] = some x) :
    ∃ L : List α, len = L.length ∧ SpG en k w A c L ∧ (∀ x ∈ L, Pw x) ∧ L.length ≤ 9223372036854775807 := by
  rcases Deep.open_slice hu h with ⟨h0, _⟩ | ⟨a, len', cap, m, n', D, Pl, hcs, hb, hl, hm, hmm, hx, hi⟩
  · simp only [List.cons.injEq, Value.slice.injEq, and_true] at h0
    obtain ⟨rfl, rfl, rfl⟩ := h0
    exact ⟨[], rfl, SpG.nil w, fun x hx => by simp at hx, by simp⟩
  · simp only [List.cons.injEq, Value.slice.injEq, and_true] at hcs
    obtain ⟨rfl, rfl, rfl⟩ := hcs
    have each : ∀ i, i < len → ∃ x : α, (∀ j v, (en x)[j]? = some v → w.cell? (a.add (i * k + j)) = some v) ∧ Pw x := by
      intro i hi'
      obtain ⟨cs', hcs, ht⟩ := hi i (by rw [hmm]; split <;> omega)
      rw [hc] at hcs
      obtain ⟨_, hlen', hcell⟩ := World.cells?_some hcs
      obtain ⟨x, rfl, hp⟩ := hcells _ _ _ hlen' ht
      refine ⟨x, fun j v hj => ?_, hp⟩
      have hjk : j < k := by have := (List.getElem?_eq_some_iff.1 hj).1; rw [hlen] at this; exact this
      have h1 := hcell j hjk
      rw [Go.Deep.add_add] at h1
      rw [h1]; exact hj
    obtain ⟨f, hf⟩ : ∃ f : Nat → α, ∀ i, i < len → (∀ j v, (en (f i))[j]? = some v → w.cell? (a.add (i * k + j)) = some v) ∧ Pw (f i) :=
      ⟨fun i => if h : i < len then Classical.choose (each i h) else default, fun i h => by simp only [dif_pos h]; exact Classical.choose_spec (each i h)⟩
    refine ⟨(List.range len).map f, by simp, ⟨by simpa using hl, (fun e => by cases e), fun i hi' => ?_⟩, fun x hx => ?_, by simp only [maxLen] at hm; simp; omega⟩
    · have hi2 : i < len := by simpa using hi'
      obtain ⟨v0, hv0⟩ : ∃ v, (en (f 0))[0]? = some v := ⟨_, List.getElem?_eq_getElem (by rw [hlen]; exact hk)⟩
      have h0 := (hf 0 (by omega)).1 0 v0 hv0
      have ha0 : a.add (0 * k + 0) = a := by simp [Addr.add]
      rw [ha0] at h0
      have hs := spot_of_cell h0
      obtain ⟨b, off, sp⟩ := a
      simp only at hs
      subst hs
      have hadd : ∀ j, (⟨b, off, none⟩ : Addr).add j = ⟨b, off + j, none⟩ := fun j => by unfold Addr.add; split <;> simp_all
      refine ⟨b, off, rfl, World.block_lt_of_cell? w ⟨b, off, none⟩ h0, fun j v hj => ?_⟩
      have h3 := (hf i hi2).1 j v (by simpa using hj)
      rw [hadd, ← Nat.add_assoc] at h3
      exact h3
    · obtain ⟨i, hi2, rfl⟩ := List.mem_map.1 hx
      exact (hf i (by simpa using hi2)).2
set_option maxRecDepth 100000 in
theorem op_cells (n : Nat) (cs : List Value) (y : DataW H × List MemPlace) (hl : cs.length = 2) (h : DataW.trod enc Tryd.prog w base spare held n 63 cs = some y) : ∃ x : Int × Bool, cs = encO x ∧ True := by
  obtain ⟨xs, m, _, _, _, hlen, hg⟩ := DataW.trod_struct Tryd.underlying63 h
  have k2 : Tryd.prog.cellsOf 3 = 1 := by kernel_rfl
  have k3 : Tryd.prog.cellsOf 4 = 1 := by kernel_rfl
  match cs, hl, xs, hlen with
  | [c0, c1], _, [y0, y1], _ =>
    have g0 := hg 0 _ rfl
    have g1 := hg 1 _ rfl
    simp only [k2, k3, List.drop_zero, List.take_succ_cons, List.take_zero, List.drop_succ_cons, List.getElem?_cons_zero, List.getElem?_cons_succ] at g0 g1
    obtain ⟨a, e0, _⟩ := DataW.trod_int Tryd.underlying3 g0
    obtain ⟨b, e1, _⟩ := DataW.trod_bool Tryd.underlying4 g1
    obtain rfl : c0 = .int .i64 a := by simpa [k2] using e0
    obtain rfl : c1 = .bool b := by simpa [k3] using e1
    exact ⟨(a, b), rfl, trivial⟩
theorem open_ops1 {v : Value} {x : DataW H × List MemPlace} (h : DataW.trod enc Tryd.prog w base spare held n 22 [v] = some x) :
    ∃ A c os, v = .slice A (List.length os) c ∧ SpG encO 2 w A c os ∧ os.length ≤ 9223372036854775807 := by
  have hv : ∃ A len c, v = .slice A len c := by
    rcases Deep.open_slice Tryd.underlying22 h with ⟨h0, _⟩ | ⟨a, len', cap, m, n', D, Pl, hcs, _⟩
    · simp only [List.cons.injEq, and_true] at h0
      exact ⟨_, _, _, h0⟩
    · simp only [List.cons.injEq, and_true] at hcs
      exact ⟨_, _, _, hcs⟩
  obtain ⟨A, len, c, rfl⟩ := hv
  obtain ⟨L, rfl, h1, _, h2⟩ := open_rows (Pw := fun _ => True) (k := 2) (by decide) (fun _ => rfl) Tryd.underlying22 (by kernel_rfl) op_cells h
  exact ⟨A, c, L, rfl, h1, h2⟩
set_option maxRecDepth 100000 in
theorem make_cells {c0 c1 c2 : Value} {y : DataW H × List MemPlace} (h : DataW.trod enc Tryd.prog w base spare held n 24 [c0, c1, c2] = some y) :
    ∃ (a b : Int) (A : Option Addr) (c : Nat) (os : List (Int × Bool)), c0 = .int .i64 a ∧ c1 = .int .i64 b ∧ c2 = .slice A os.length c ∧ SpG encO 2 w A c os ∧ os.length ≤ 9223372036854775807 := by
  obtain ⟨xs, m, _, _, _, hlen, hg⟩ := DataW.trod_struct Tryd.underlying24 h
  have k2 : Tryd.prog.cellsOf 3 = 1 := by kernel_rfl
  have k3 : Tryd.prog.cellsOf 22 = 1 := by kernel_rfl
  match xs, hlen with
  | [y0, y1, y2], _ =>
    have g0 := hg 0 _ rfl
    have g1 := hg 1 _ rfl
    have g2 := hg 2 _ rfl
    simp only [k2, k3, List.drop_zero, List.take_succ_cons, List.take_zero, List.drop_succ_cons, List.getElem?_cons_zero, List.getElem?_cons_succ] at g0 g1 g2
    obtain ⟨a, e0, _⟩ := DataW.trod_int Tryd.underlying3 g0
    obtain ⟨b, e1, _⟩ := DataW.trod_int Tryd.underlying3 g1
    obtain ⟨A, c, os, rfl, hs, hn⟩ := open_ops1 g2
    exact ⟨a, b, A, c, os, by simpa [k2] using e0, by simpa [k2] using e1, rfl, hs, hn⟩
set_option maxRecDepth 100000 in
theorem open_make {r : Reach} {b0 : Nat} {v : Value} {d : DataW H} {p : List MemPlace} (hv : Value.okWide Tryd.prog w r b0 24 v) (h : DataW.Trod enc Tryd.prog w base spare held 24 v d p) :
    ∃ (a b : Int) (A : Option Addr) (c : Nat) (os : List (Int × Bool)), v = .agg #[.int .i64 a, .int .i64 b, .slice A os.length c] ∧ SpG encO 2 w A c os ∧ os.length ≤ 9223372036854775807 := by
  obtain ⟨cs, rfl, hsz⟩ := okWide_struct Tryd.underlying24 hv
  have k : Tryd.prog.cellsOf 24 = 3 := by kernel_rfl
  obtain ⟨l⟩ := cs
  match l, hsz.trans k with
  | [c0, c1, c2], _ =>
    obtain ⟨fuel, hf⟩ := h
    obtain ⟨a, b, A, c, os, rfl, rfl, rfl, h1, h2⟩ := make_cells (show DataW.trod enc Tryd.prog w base spare held fuel 24 [c0, c1, c2] = some _ from hf)
    exact ⟨a, b, A, c, os, rfl, h1, h2⟩
theorem u8_wf' {q : Int} (h : (Lit.int .u8 q).wf = true) : 0 ≤ q ∧ q ≤ 255 := by
  have h1 : IntKind.u8.min ≤ q ∧ q ≤ IntKind.u8.max := by simpa [Lit.wf] using h
  exact ⟨h1.1, h1.2⟩
end
end Go.Proofs.YtnlamjebgkgbaaaDoor
