/- From a row's reading to what the walk of FenceEnds asks: steps that came in. -/
import Derived.Test.YtfpfdgljhcpkpaaDoorR1
import Derived.Test.YtfpfdgljhcpkpaaDoorG5A
namespace Go.Proofs.YtfpfdgljhcpkpaaDoor
open Go.ChangeShapes Go.WideShapes Go.ChangeAt Go.RowKit

section
variable {H : Type} {enc : TypeId × Value → H} {w : World} {base : Nat} {spare : Nat → Bool} {held : Bool} {n : Nat}
theorem u8_wf {q : Int} (h : (Lit.int .u8 q).wf = true) : 0 ≤ q ∧ q ≤ 255 := by
  have h1 : IntKind.u8.min ≤ q ∧ q ≤ IntKind.u8.max := by simpa [Lit.wf] using h
  exact ⟨h1.1, h1.2⟩
theorem step_cells {c0 c1 : Value} {y : DataW H × List MemPlace} (h : DataW.trod enc Tryd.prog w base spare held n 36 [c0, c1] = some y) : ∃ a b : Int, c0 = .int .i64 a ∧ c1 = .int .u8 b ∧ 0 ≤ b ∧ b ≤ 255 := by
  obtain ⟨xs, m, _, _, _, hlen, hg⟩ := DataW.trod_struct Tryd.underlying36 h
  have k2 : Tryd.prog.cellsOf 3 = 1 := by kernel_rfl
  have k3 : Tryd.prog.cellsOf 5 = 1 := by kernel_rfl
  match xs, hlen with
  | [y0, y1], _ =>
    have g0 := hg 0 _ rfl
    have g1 := hg 1 _ rfl
    simp only [k2, k3, List.drop_zero, List.take_succ_cons, List.take_zero, List.drop_succ_cons, List.getElem?_cons_zero, List.getElem?_cons_succ] at g0 g1
    obtain ⟨a, e0, _⟩ := DataW.trod_int Tryd.underlying3 g0
    obtain ⟨b, e1, _, hw⟩ := DataW.trod_int Tryd.underlying5 g1
    exact ⟨a, b, by simpa [k2] using e0, by simpa [k3] using e1, u8_wf hw⟩
theorem open_steps' {fuel : Nat} {A : Option Addr} {len c : Nat} {x : DataW H × List MemPlace} (h : DataW.trod enc Tryd.prog w base spare held fuel 25 [.slice A len c] = some x) :
    ∃ L, len = L.length ∧ SpU w A L ∧ L.length ≤ 9223372036854775807 := by
  rcases Deep.open_slice Tryd.underlying25 h with ⟨h0, _⟩ | ⟨a, len', cap, m, n', D, Pl, hcs, hb, hl, hm, hmm, hx, hi⟩
  · simp only [List.cons.injEq, Value.slice.injEq, and_true] at h0
    obtain ⟨rfl, rfl, rfl⟩ := h0
    exact ⟨[], rfl, ⟨fun k hk => by simp at hk, fun x hx => by simp at hx⟩, by simp⟩
  · simp only [List.cons.injEq, Value.slice.injEq, and_true] at hcs
    obtain ⟨rfl, rfl, rfl⟩ := hcs
    have hc : Tryd.prog.cellsOf 36 = 2 := by kernel_rfl
    have each : ∀ i, i < len → ∃ x : Int × Int, w.cell? (a.add (i * 2)) = some (.int .i64 x.1) ∧ w.cell? (a.add (i * 2 + 1)) = some (.int .u8 x.2) ∧ 0 ≤ x.2 ∧ x.2 ≤ 255 := by
      intro i hi'
      obtain ⟨cs', hcs, ht⟩ := hi i (by rw [hmm]; split <;> omega)
      rw [hc] at hcs
      obtain ⟨_, hlen, hcell⟩ := World.cells?_some hcs
      match cs', hlen with
      | [c0, c1], _ =>
        obtain ⟨f, t, rfl, rfl, hr⟩ := step_cells ht
        have h0 := hcell 0 (by omega)
        have h1 := hcell 1 (by omega)
        rw [Go.Deep.add_add] at h0 h1
        exact ⟨(f, t), by simpa using h0, by simpa using h1, hr⟩
    obtain ⟨f, hf⟩ : ∃ f : Nat → Int × Int, ∀ i, i < len → w.cell? (a.add (i * 2)) = some (.int .i64 (f i).1) ∧ w.cell? (a.add (i * 2 + 1)) = some (.int .u8 (f i).2) ∧ 0 ≤ (f i).2 ∧ (f i).2 ≤ 255 :=
      ⟨fun i => if h : i < len then Classical.choose (each i h) else (0, 0), fun i h => by simp only [dif_pos h]; exact Classical.choose_spec (each i h)⟩
    refine ⟨(List.range len).map f, by simp, ⟨fun k hk => ?_, fun x hx => ?_⟩, by simp only [maxLen] at hm; simp; omega⟩
    · have hk' : k < len := by simpa using hk
      have h0 := (hf 0 (by omega)).1
      have hs := spot_of_cell (show w.cell? a = _ from h0)
      obtain ⟨b, off, sp⟩ := a
      simp only at hs
      subst hs
      have hadd : ∀ j, (⟨b, off, none⟩ : Addr).add j = ⟨b, off + j, none⟩ := fun j => by unfold Addr.add; split <;> simp_all
      have := hf k hk'
      rw [hadd, hadd, ← Nat.add_assoc] at this
      refine ⟨b, off, rfl, World.block_lt_of_cell? w ⟨b, off, none⟩ h0, ?_⟩
      simpa using ⟨this.1, this.2.1⟩
    · obtain ⟨i, hi2, rfl⟩ := List.mem_map.1 hx
      exact (hf i (by simpa using hi2)).2.2
set_option maxRecDepth 100000 in
theorem open_steps {r : Reach} {b0 : Nat} {v : Value} {d : DataW H} {p : List MemPlace} (hv : Value.okWide Tryd.prog w r b0 25 v) (h : DataW.Trod enc Tryd.prog w base spare held 25 v d p) :
    ∃ A c L, v = .slice A (List.length L) c ∧ SpU w A L ∧ L.length ≤ 9223372036854775807 := by
  obtain ⟨A, len, c, rfl⟩ := okWide_slice Tryd.underlying25 hv
  obtain ⟨fuel, hf⟩ := h
  obtain ⟨L, rfl, h1, h2⟩ := open_steps' (show DataW.trod enc Tryd.prog w base spare held fuel 25 [.slice A len c] = some _ from hf)
  exact ⟨A, c, L, rfl, h1, h2⟩
end
end Go.Proofs.YtfpfdgljhcpkpaaDoor
