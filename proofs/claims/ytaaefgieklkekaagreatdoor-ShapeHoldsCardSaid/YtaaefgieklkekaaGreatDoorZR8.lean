/- From a row's reading to what the walks of the Shape laws ask: what is asked. Printed by gen_r8.py. -/
import Derived.Test.YtaaefgieklkekaaGreatDoorZR7
import Derived.Test.YtaaefgieklkekaaGreatDoorZJ8
namespace Go.Proofs.YtaaefgieklkekaaGreatDoor
open Go.ChangeShapes Go.WideShapes Go.ChangeAt Go.RowKit

section
variable {H : Type} {enc : TypeId × Value → H} {w : World} {base : Nat} {spare : Nat → Bool} {held : Bool} {n : Nat}
theorem open_rowsS {α : Type} [Inhabited α] {P : Program} {en : α → List Value} {k : Nat} {T ST : TypeId} {Pw : α → Prop} (hk : 0 < k) (hlen : ∀ x, (en x).length = k) (hu : P.underlying ST = some (.slice T)) (hc : P.cellsOf T = k)
    (hcells : ∀ (n : Nat) (cs : List Value) (y : DataW H × List MemPlace), cs.length = k → DataW.trod enc P w base spare held n T cs = some y → ∃ x, cs = en x ∧ Pw x)
    {fuel : Nat} {A : Option Addr} {len c : Nat} {x : DataW H × List MemPlace} (h : DataW.trod enc P w base spare held fuel ST [.slice A len c] = some x) :
    ∃ L : List α, len = L.length ∧ SpG en k w A c L ∧ (∀ x ∈ L, Pw x) ∧ L.length ≤ 9223372036854775807 := by
  rcases Deep.open_slice hu h with ⟨h0, _⟩ | ⟨a, len', cap, m, n', D, Pl, hcs, hb, hl, hm, hmm, hx, hi⟩
  · simp only [List.cons.injEq, Value.slice.injEq, and_true] at h0
    obtain ⟨rfl, rfl, rfl⟩ := h0
    exact ⟨[], rfl, SpG.nil w, fun x hx => by simp at hx, by simp⟩
  · simp only [List.cons.injEq, Value.slice.injEq, and_true] at hcs
    obtain ⟨rfl, rfl, rfl⟩ := hcs
    have each : ∀ i, i < len → ∃ x : α, (∀ j v, (en x)[j]? = some v → w.cell? (a.add (i * k + j)) = some v) ∧ Pw x := by
      intro i hi'
      obtain ⟨cs', hcs, ht⟩ := hi i (by rw [hmm]; split <;> omega)
      rw [hc] at hcs
      obtain ⟨_, hlen', hcell⟩ := World.cells?_some hcs
      obtain ⟨x, rfl, hp⟩ := hcells _ _ _ hlen' ht
      refine ⟨x, fun j v hj => ?_, hp⟩
      have hjk : j < k := by have := (List.getElem?_eq_some_iff.1 hj).1; rw [hlen] at this; exact this
      have h1 := hcell j hjk
      rw [Go.Deep.add_add] at h1
      rw [h1]; exact hj
    obtain ⟨f, hf⟩ : ∃ f : Nat → α, ∀ i, i < len → (∀ j v, (en (f i))[j]? = some v → w.cell? (a.add (i * k + j)) = some v) ∧ Pw (f i) :=
      ⟨fun i => if h : i < len then Classical.choose (each i h) else default, fun i h => by simp only [dif_pos h]; exact Classical.choose_spec (each i h)⟩
    refine ⟨(List.range len).map f, by simp, ⟨by simpa using hl, (fun e => by cases e), fun i hi' => ?_⟩, fun x hx => ?_, by simp only [maxLen] at hm; simp; omega⟩
    · have hi2 : i < len := by simpa using hi'
      obtain ⟨v0, hv0⟩ : ∃ v, (en (f 0))[0]? = some v := ⟨_, List.getElem?_eq_getElem (by rw [hlen]; exact hk)⟩
      have h0 := (hf 0 (by omega)).1 0 v0 hv0
      have ha0 : a.add (0 * k + 0) = a := by simp [Addr.add]
      rw [ha0] at h0
      have hs := spot_of_cell h0
      obtain ⟨b, off, sp⟩ := a
      simp only at hs
      subst hs
      have hadd : ∀ j, (⟨b, off, none⟩ : Addr).add j = ⟨b, off + j, none⟩ := fun j => by unfold Addr.add; split <;> simp_all
      refine ⟨b, off, rfl, World.block_lt_of_cell? w ⟨b, off, none⟩ h0, fun j v hj => ?_⟩
      have h3 := (hf i hi2).1 j v (by simpa using hj)
      rw [hadd, ← Nat.add_assoc] at h3
      exact h3
    · obtain ⟨i, hi2, rfl⟩ := List.mem_map.1 hx
      exact (hf i (by simpa using hi2)).2
theorem open_slice1 {P : Program} {ST T : TypeId} (hu : P.underlying ST = some (.slice T)) {v : Value} {x : DataW H × List MemPlace} (h : DataW.trod enc P w base spare held n ST [v] = some x) : ∃ A len c, v = .slice A len c := by
  rcases Deep.open_slice hu h with ⟨h0, _⟩ | ⟨a, len', cap, m, n', D, Pl, hcs, _⟩
  · simp only [List.cons.injEq, and_true] at h0
    exact ⟨_, _, _, h0⟩
  · simp only [List.cons.injEq, and_true] at hcs
    exact ⟨_, _, _, hcs⟩
theorem text_cells (n : Nat) (cs : List Value) (y : DataW H × List MemPlace) (_hl : cs.length = 1) (h : DataW.trod enc Tryz.prog w base spare held n 9 cs = some y) : ∃ x : List UInt8, cs = encT x ∧ True := by
  obtain ⟨s, e, _⟩ := DataW.trod_string Tryz.underlying9 h
  exact ⟨s.data.toList, by rw [e]; simp [encT], trivial⟩
theorem open_texts1 {v : Value} {x : DataW H × List MemPlace} (h : DataW.trod enc Tryz.prog w base spare held n 30 [v] = some x) :
    ∃ A c L, v = .slice A (List.length L) c ∧ SpG encT 1 w A c L ∧ L.length ≤ 9223372036854775807 := by
  obtain ⟨A, len, c, rfl⟩ := open_slice1 Tryz.underlying30 h
  obtain ⟨L, rfl, h1, _, h2⟩ := open_rowsS (Pw := fun _ => True) (k := 1) (by decide) (fun _ => rfl) Tryz.underlying30 (by kernel_rfl) text_cells h
  exact ⟨A, c, L, rfl, h1, h2⟩
theorem open_specs1 {v : Value} {x : DataW H × List MemPlace} (h : DataW.trod enc Tryz.prog w base spare held n 22 [v] = some x) :
    ∃ A c L, v = .slice A (List.length L) c ∧ Sp w A c L ∧ L.length ≤ 9223372036854775807 := by
  obtain ⟨A, len, c, rfl⟩ := open_slice1 Tryz.underlying22 h
  obtain ⟨L, rfl, h1, h2⟩ := open_specs' h
  exact ⟨A, c, L, rfl, h1, h2⟩
set_option maxRecDepth 100000 in
set_option maxHeartbeats 4000000 in
theorem tag_cells {c0 c1 : Value} {y : DataW H × List MemPlace} (h : DataW.trod enc Tryz.prog w base spare held n 25 [c0, c1] = some y) :
    ∃ (qt : ByteArray) (qk : Bool), (c0 = .string qt ∧ c1 = .bool qk) ∧ qt.size ≤ maxLen := by
  obtain ⟨xs, m, _, _, _, hlen, hg⟩ := DataW.trod_struct Tryz.underlying25 h
  have k0 : Tryz.prog.cellsOf 4 = 1 := by kernel_rfl
  have k1 : Tryz.prog.cellsOf 9 = 1 := by kernel_rfl
  match xs, hlen with
  | [y0, y1], _ =>
    have g0 := hg 0 _ rfl
    have g1 := hg 1 _ rfl
    simp only [List.getElem?_cons_zero, List.getElem?_cons_succ] at g0 g1
    obtain ⟨qt, e0, _, z0⟩ := DataW.trod_string Tryz.underlying9 g0
    obtain rfl : c0 = .string qt := by simpa [k1] using e0
    obtain ⟨qk, e1, _⟩ := DataW.trod_bool Tryz.underlying4 g1
    obtain rfl : c1 = .bool qk := by simpa [k0] using e1
    exact ⟨qt, qk, ⟨rfl, rfl⟩, z0⟩
set_option maxRecDepth 100000 in
set_option maxHeartbeats 4000000 in
theorem cond_cells {c0 c1 c2 c3 c4 c5 c6 c7 : Value} {y : DataW H × List MemPlace} (h : DataW.trod enc Tryz.prog w base spare held n 27 [c0, c1, c2, c3, c4, c5, c6, c7] = some y) :
    ∃ (qaA : Option Addr) (qan : Nat) (qac : Nat) (qbA : Option Addr) (qbn : Nat) (qbc : Nat) (qc : Bool) (qd : Bool) (qe : Int) (qf : Int) (qgt : ByteArray) (qgk : Bool), (c0 = .slice qaA qan qac ∧ c1 = .slice qbA qbn qbc ∧ c2 = .bool qc ∧ c3 = .bool qd ∧ c4 = .int .i64 qe ∧ c5 = .int .i64 qf ∧ c6 = .string qgt ∧ c7 = .bool qgk) ∧ (Lit.int .i64 qe).wf = true ∧ (Lit.int .i64 qf).wf = true ∧ qgt.size ≤ maxLen := by
  obtain ⟨xs, m, _, _, _, hlen, hg⟩ := DataW.trod_struct Tryz.underlying27 h
  have k0 : Tryz.prog.cellsOf 23 = 1 := by kernel_rfl
  have k1 : Tryz.prog.cellsOf 25 = 2 := by kernel_rfl
  have k2 : Tryz.prog.cellsOf 4 = 1 := by kernel_rfl
  have k3 : Tryz.prog.cellsOf 2 = 1 := by kernel_rfl
  match xs, hlen with
  | [y0, y1, y2, y3, y4, y5, y6], _ =>
    have g0 := hg 0 _ rfl
    have g1 := hg 1 _ rfl
    have g2 := hg 2 _ rfl
    have g3 := hg 3 _ rfl
    have g4 := hg 4 _ rfl
    have g5 := hg 5 _ rfl
    have g6 := hg 6 _ rfl
    simp only [List.getElem?_cons_zero, List.getElem?_cons_succ] at g0 g1 g2 g3 g4 g5 g6
    obtain ⟨qaA, qan, qac, rfl⟩ := open_slice1 Tryz.underlying23 g0
    obtain ⟨qbA, qbn, qbc, rfl⟩ := open_slice1 Tryz.underlying23 g1
    obtain ⟨qc, e2, _⟩ := DataW.trod_bool Tryz.underlying4 g2
    obtain rfl : c2 = .bool qc := by simpa [k2] using e2
    obtain ⟨qd, e3, _⟩ := DataW.trod_bool Tryz.underlying4 g3
    obtain rfl : c3 = .bool qd := by simpa [k2] using e3
    obtain ⟨qe, e4, _, z4⟩ := DataW.trod_int Tryz.underlying2 g4
    obtain rfl : c4 = .int .i64 qe := by simpa [k3] using e4
    obtain ⟨qf, e5, _, z5⟩ := DataW.trod_int Tryz.underlying2 g5
    obtain rfl : c5 = .int .i64 qf := by simpa [k3] using e5
    obtain ⟨qgt, qgk, ⟨rfl, rfl⟩, z6_0⟩ := tag_cells g6
    exact ⟨qaA, qan, qac, qbA, qbn, qbc, qc, qd, qe, qf, qgt, qgk, ⟨rfl, rfl, rfl, rfl, rfl, rfl, rfl, rfl⟩, z4, z5, z6_0⟩
set_option maxRecDepth 100000 in
set_option maxHeartbeats 4000000 in
theorem request_cells {c0 c1 c2 c3 c4 c5 c6 c7 c8 c9 c10 : Value} {y : DataW H × List MemPlace} (h : DataW.trod enc Tryz.prog w base spare held n 29 [c0, c1, c2, c3, c4, c5, c6, c7, c8, c9, c10] = some y) :
    ∃ (qh : Bool) (qo : ByteArray) (qsA : Option Addr) (qsc : Nat) (qsL : List (Int × Int)) (qcaA : Option Addr) (qcan : Nat) (qcac : Nat) (qcbA : Option Addr) (qcbn : Nat) (qcbc : Nat) (qcc : Bool) (qcd : Bool) (qce : Int) (qcf : Int) (qcgt : ByteArray) (qcgk : Bool), (c0 = .bool qh ∧ c1 = .string qo ∧ c2 = .slice qsA qsL.length qsc ∧ c3 = .slice qcaA qcan qcac ∧ c4 = .slice qcbA qcbn qcbc ∧ c5 = .bool qcc ∧ c6 = .bool qcd ∧ c7 = .int .i64 qce ∧ c8 = .int .i64 qcf ∧ c9 = .string qcgt ∧ c10 = .bool qcgk) ∧ qo.size ≤ maxLen ∧ Sp w qsA qsc qsL ∧ qsL.length ≤ 9223372036854775807 ∧ (Lit.int .i64 qce).wf = true ∧ (Lit.int .i64 qcf).wf = true ∧ qcgt.size ≤ maxLen := by
  obtain ⟨xs, m, _, _, _, hlen, hg⟩ := DataW.trod_struct Tryz.underlying29 h
  have k0 : Tryz.prog.cellsOf 22 = 1 := by kernel_rfl
  have k1 : Tryz.prog.cellsOf 27 = 8 := by kernel_rfl
  have k2 : Tryz.prog.cellsOf 4 = 1 := by kernel_rfl
  have k3 : Tryz.prog.cellsOf 9 = 1 := by kernel_rfl
  match xs, hlen with
  | [y0, y1, y2, y3], _ =>
    have g0 := hg 0 _ rfl
    have g1 := hg 1 _ rfl
    have g2 := hg 2 _ rfl
    have g3 := hg 3 _ rfl
    simp only [List.getElem?_cons_zero, List.getElem?_cons_succ] at g0 g1 g2 g3
    obtain ⟨qh, e0, _⟩ := DataW.trod_bool Tryz.underlying4 g0
    obtain rfl : c0 = .bool qh := by simpa [k2] using e0
    obtain ⟨qo, e1, _, z1⟩ := DataW.trod_string Tryz.underlying9 g1
    obtain rfl : c1 = .string qo := by simpa [k3] using e1
    obtain ⟨qsA, qsc, qsL, rfl, z2, y2⟩ := open_specs1 g2
    obtain ⟨qcaA, qcan, qcac, qcbA, qcbn, qcbc, qcc, qcd, qce, qcf, qcgt, qcgk, ⟨rfl, rfl, rfl, rfl, rfl, rfl, rfl, rfl⟩, z3_0, z3_1, z3_2⟩ := cond_cells g3
    exact ⟨qh, qo, qsA, qsc, qsL, qcaA, qcan, qcac, qcbA, qcbn, qcbc, qcc, qcd, qce, qcf, qcgt, qcgk, ⟨rfl, rfl, rfl, rfl, rfl, rfl, rfl, rfl, rfl, rfl, rfl⟩, z1, z2, y2, z3_0, z3_1, z3_2⟩
set_option maxRecDepth 100000 in
set_option maxHeartbeats 4000000 in
theorem meta_cells {c0 c1 c2 c3 c4 c5 c6 c7 c8 c9 c10 : Value} {y : DataW H × List MemPlace} (h : DataW.trod enc Tryz.prog w base spare held n 32 [c0, c1, c2, c3, c4, c5, c6, c7, c8, c9, c10] = some y) :
    ∃ (qtt : ByteArray) (qtk : Bool) (qn0 : Int) (qn1 : Int) (qn2 : Int) (qn3 : Int) (qn4 : Int) (qn5 : Int) (qkA : Option Addr) (qkc : Nat) (qkL : List (List UInt8)) (qe : ByteArray) (qp : Bool), (c0 = .string qtt ∧ c1 = .bool qtk ∧ c2 = .int .i64 qn0 ∧ c3 = .int .i64 qn1 ∧ c4 = .int .i64 qn2 ∧ c5 = .int .i64 qn3 ∧ c6 = .int .i64 qn4 ∧ c7 = .int .i64 qn5 ∧ c8 = .slice qkA qkL.length qkc ∧ c9 = .string qe ∧ c10 = .bool qp) ∧ qtt.size ≤ maxLen ∧ (Lit.int .i64 qn0).wf = true ∧ (Lit.int .i64 qn1).wf = true ∧ (Lit.int .i64 qn2).wf = true ∧ (Lit.int .i64 qn3).wf = true ∧ (Lit.int .i64 qn4).wf = true ∧ (Lit.int .i64 qn5).wf = true ∧ SpG encT 1 w qkA qkc qkL ∧ qkL.length ≤ 9223372036854775807 ∧ qe.size ≤ maxLen := by
  obtain ⟨xs, m, _, _, _, hlen, hg⟩ := DataW.trod_struct Tryz.underlying32 h
  have k0 : Tryz.prog.cellsOf 30 = 1 := by kernel_rfl
  have k1 : Tryz.prog.cellsOf 25 = 2 := by kernel_rfl
  have k2 : Tryz.prog.cellsOf 4 = 1 := by kernel_rfl
  have k3 : Tryz.prog.cellsOf 2 = 1 := by kernel_rfl
  have k4 : Tryz.prog.cellsOf 9 = 1 := by kernel_rfl
  match xs, hlen with
  | [y0, y1, y2, y3, y4, y5, y6, y7, y8, y9], _ =>
    have g0 := hg 0 _ rfl
    have g1 := hg 1 _ rfl
    have g2 := hg 2 _ rfl
    have g3 := hg 3 _ rfl
    have g4 := hg 4 _ rfl
    have g5 := hg 5 _ rfl
    have g6 := hg 6 _ rfl
    have g7 := hg 7 _ rfl
    have g8 := hg 8 _ rfl
    have g9 := hg 9 _ rfl
    simp only [List.getElem?_cons_zero, List.getElem?_cons_succ] at g0 g1 g2 g3 g4 g5 g6 g7 g8 g9
    obtain ⟨qtt, qtk, ⟨rfl, rfl⟩, z0_0⟩ := tag_cells g0
    obtain ⟨qn0, e1, _, z1⟩ := DataW.trod_int Tryz.underlying2 g1
    obtain rfl : c2 = .int .i64 qn0 := by simpa [k3] using e1
    obtain ⟨qn1, e2, _, z2⟩ := DataW.trod_int Tryz.underlying2 g2
    obtain rfl : c3 = .int .i64 qn1 := by simpa [k3] using e2
    obtain ⟨qn2, e3, _, z3⟩ := DataW.trod_int Tryz.underlying2 g3
    obtain rfl : c4 = .int .i64 qn2 := by simpa [k3] using e3
    obtain ⟨qn3, e4, _, z4⟩ := DataW.trod_int Tryz.underlying2 g4
    obtain rfl : c5 = .int .i64 qn3 := by simpa [k3] using e4
    obtain ⟨qn4, e5, _, z5⟩ := DataW.trod_int Tryz.underlying2 g5
    obtain rfl : c6 = .int .i64 qn4 := by simpa [k3] using e5
    obtain ⟨qn5, e6, _, z6⟩ := DataW.trod_int Tryz.underlying2 g6
    obtain rfl : c7 = .int .i64 qn5 := by simpa [k3] using e6
    obtain ⟨qkA, qkc, qkL, rfl, z7, y7⟩ := open_texts1 g7
    obtain ⟨qe, e8, _, z8⟩ := DataW.trod_string Tryz.underlying9 g8
    obtain rfl : c9 = .string qe := by simpa [k4] using e8
    obtain ⟨qp, e9, _⟩ := DataW.trod_bool Tryz.underlying4 g9
    obtain rfl : c10 = .bool qp := by simpa [k2] using e9
    exact ⟨qtt, qtk, qn0, qn1, qn2, qn3, qn4, qn5, qkA, qkc, qkL, qe, qp, ⟨rfl, rfl, rfl, rfl, rfl, rfl, rfl, rfl, rfl, rfl, rfl⟩, z0_0, z1, z2, z3, z4, z5, z6, z7, y7, z8⟩
set_option maxRecDepth 100000 in
set_option maxHeartbeats 4000000 in
theorem config_cells {c0 c1 c2 c3 c4 c5 c6 c7 c8 c9 : Value} {y : DataW H × List MemPlace} (h : DataW.trod enc Tryz.prog w base spare held n 34 [c0, c1, c2, c3, c4, c5, c6, c7, c8, c9] = some y) :
    ∃ (qn0 : Int) (qn1 : Int) (qn2 : Int) (qn3 : Int) (qn4 : Int) (qn5 : Int) (qn6 : Int) (qn7 : Int) (qn8 : Int) (qn9 : Int), (c0 = .int .i64 qn0 ∧ c1 = .int .i64 qn1 ∧ c2 = .int .i64 qn2 ∧ c3 = .int .i64 qn3 ∧ c4 = .int .i64 qn4 ∧ c5 = .int .i64 qn5 ∧ c6 = .int .i64 qn6 ∧ c7 = .int .i64 qn7 ∧ c8 = .int .i64 qn8 ∧ c9 = .int .i64 qn9) ∧ (Lit.int .i64 qn0).wf = true ∧ (Lit.int .i64 qn1).wf = true ∧ (Lit.int .i64 qn2).wf = true ∧ (Lit.int .i64 qn3).wf = true ∧ (Lit.int .i64 qn4).wf = true ∧ (Lit.int .i64 qn5).wf = true ∧ (Lit.int .i64 qn6).wf = true ∧ (Lit.int .i64 qn7).wf = true ∧ (Lit.int .i64 qn8).wf = true ∧ (Lit.int .i64 qn9).wf = true := by
  obtain ⟨xs, m, _, _, _, hlen, hg⟩ := DataW.trod_struct Tryz.underlying34 h
  have k0 : Tryz.prog.cellsOf 3 = 1 := by kernel_rfl
  have k1 : Tryz.prog.cellsOf 2 = 1 := by kernel_rfl
  match xs, hlen with
  | [y0, y1, y2, y3, y4, y5, y6, y7, y8, y9], _ =>
    have g0 := hg 0 _ rfl
    have g1 := hg 1 _ rfl
    have g2 := hg 2 _ rfl
    have g3 := hg 3 _ rfl
    have g4 := hg 4 _ rfl
    have g5 := hg 5 _ rfl
    have g6 := hg 6 _ rfl
    have g7 := hg 7 _ rfl
    have g8 := hg 8 _ rfl
    have g9 := hg 9 _ rfl
    simp only [List.getElem?_cons_zero, List.getElem?_cons_succ] at g0 g1 g2 g3 g4 g5 g6 g7 g8 g9
    obtain ⟨qn0, e0, _, z0⟩ := DataW.trod_int Tryz.underlying2 g0
    obtain rfl : c0 = .int .i64 qn0 := by simpa [k1] using e0
    obtain ⟨qn1, e1, _, z1⟩ := DataW.trod_int Tryz.underlying2 g1
    obtain rfl : c1 = .int .i64 qn1 := by simpa [k1] using e1
    obtain ⟨qn2, e2, _, z2⟩ := DataW.trod_int Tryz.underlying2 g2
    obtain rfl : c2 = .int .i64 qn2 := by simpa [k1] using e2
    obtain ⟨qn3, e3, _, z3⟩ := DataW.trod_int Tryz.underlying3 g3
    obtain rfl : c3 = .int .i64 qn3 := by simpa [k0] using e3
    obtain ⟨qn4, e4, _, z4⟩ := DataW.trod_int Tryz.underlying3 g4
    obtain rfl : c4 = .int .i64 qn4 := by simpa [k0] using e4
    obtain ⟨qn5, e5, _, z5⟩ := DataW.trod_int Tryz.underlying3 g5
    obtain rfl : c5 = .int .i64 qn5 := by simpa [k0] using e5
    obtain ⟨qn6, e6, _, z6⟩ := DataW.trod_int Tryz.underlying2 g6
    obtain rfl : c6 = .int .i64 qn6 := by simpa [k1] using e6
    obtain ⟨qn7, e7, _, z7⟩ := DataW.trod_int Tryz.underlying2 g7
    obtain rfl : c7 = .int .i64 qn7 := by simpa [k1] using e7
    obtain ⟨qn8, e8, _, z8⟩ := DataW.trod_int Tryz.underlying2 g8
    obtain rfl : c8 = .int .i64 qn8 := by simpa [k1] using e8
    obtain ⟨qn9, e9, _, z9⟩ := DataW.trod_int Tryz.underlying2 g9
    obtain rfl : c9 = .int .i64 qn9 := by simpa [k1] using e9
    exact ⟨qn0, qn1, qn2, qn3, qn4, qn5, qn6, qn7, qn8, qn9, ⟨rfl, rfl, rfl, rfl, rfl, rfl, rfl, rfl, rfl, rfl⟩, z0, z1, z2, z3, z4, z5, z6, z7, z8, z9⟩
set_option maxRecDepth 100000 in
set_option maxHeartbeats 4000000 in
theorem ask_cells {c0 c1 c2 c3 c4 c5 c6 c7 c8 c9 c10 c11 c12 c13 c14 c15 c16 c17 c18 c19 c20 c21 c22 c23 c24 c25 c26 c27 c28 c29 c30 c31 c32 c33 : Value} {y : DataW H × List MemPlace} (h : DataW.trod enc Tryz.prog w base spare held n 36 [c0, c1, c2, c3, c4, c5, c6, c7, c8, c9, c10, c11, c12, c13, c14, c15, c16, c17, c18, c19, c20, c21, c22, c23, c24, c25, c26, c27, c28, c29, c30, c31, c32, c33] = some y) :
    ∃ (qrh : Bool) (qro : ByteArray) (qrsA : Option Addr) (qrsc : Nat) (qrsL : List (Int × Int)) (qrcaA : Option Addr) (qrcan : Nat) (qrcac : Nat) (qrcbA : Option Addr) (qrcbn : Nat) (qrcbc : Nat) (qrcc : Bool) (qrcd : Bool) (qrce : Int) (qrcf : Int) (qrcgt : ByteArray) (qrcgk : Bool) (qmtt : ByteArray) (qmtk : Bool) (qmn0 : Int) (qmn1 : Int) (qmn2 : Int) (qmn3 : Int) (qmn4 : Int) (qmn5 : Int) (qmkA : Option Addr) (qmkc : Nat) (qmkL : List (List UInt8)) (qme : ByteArray) (qmp : Bool) (qo : Int) (qcn0 : Int) (qcn1 : Int) (qcn2 : Int) (qcn3 : Int) (qcn4 : Int) (qcn5 : Int) (qcn6 : Int) (qcn7 : Int) (qcn8 : Int) (qcn9 : Int) (qs : Int), (c0 = .bool qrh ∧ c1 = .string qro ∧ c2 = .slice qrsA qrsL.length qrsc ∧ c3 = .slice qrcaA qrcan qrcac ∧ c4 = .slice qrcbA qrcbn qrcbc ∧ c5 = .bool qrcc ∧ c6 = .bool qrcd ∧ c7 = .int .i64 qrce ∧ c8 = .int .i64 qrcf ∧ c9 = .string qrcgt ∧ c10 = .bool qrcgk ∧ c11 = .string qmtt ∧ c12 = .bool qmtk ∧ c13 = .int .i64 qmn0 ∧ c14 = .int .i64 qmn1 ∧ c15 = .int .i64 qmn2 ∧ c16 = .int .i64 qmn3 ∧ c17 = .int .i64 qmn4 ∧ c18 = .int .i64 qmn5 ∧ c19 = .slice qmkA qmkL.length qmkc ∧ c20 = .string qme ∧ c21 = .bool qmp ∧ c22 = .int .i64 qo ∧ c23 = .int .i64 qcn0 ∧ c24 = .int .i64 qcn1 ∧ c25 = .int .i64 qcn2 ∧ c26 = .int .i64 qcn3 ∧ c27 = .int .i64 qcn4 ∧ c28 = .int .i64 qcn5 ∧ c29 = .int .i64 qcn6 ∧ c30 = .int .i64 qcn7 ∧ c31 = .int .i64 qcn8 ∧ c32 = .int .i64 qcn9 ∧ c33 = .int .i64 qs) ∧ qro.size ≤ maxLen ∧ Sp w qrsA qrsc qrsL ∧ qrsL.length ≤ 9223372036854775807 ∧ (Lit.int .i64 qrce).wf = true ∧ (Lit.int .i64 qrcf).wf = true ∧ qrcgt.size ≤ maxLen ∧ qmtt.size ≤ maxLen ∧ (Lit.int .i64 qmn0).wf = true ∧ (Lit.int .i64 qmn1).wf = true ∧ (Lit.int .i64 qmn2).wf = true ∧ (Lit.int .i64 qmn3).wf = true ∧ (Lit.int .i64 qmn4).wf = true ∧ (Lit.int .i64 qmn5).wf = true ∧ SpG encT 1 w qmkA qmkc qmkL ∧ qmkL.length ≤ 9223372036854775807 ∧ qme.size ≤ maxLen ∧ (Lit.int .i64 qo).wf = true ∧ (Lit.int .i64 qcn0).wf = true ∧ (Lit.int .i64 qcn1).wf = true ∧ (Lit.int .i64 qcn2).wf = true ∧ (Lit.int .i64 qcn3).wf = true ∧ (Lit.int .i64 qcn4).wf = true ∧ (Lit.int .i64 qcn5).wf = true ∧ (Lit.int .i64 qcn6).wf = true ∧ (Lit.int .i64 qcn7).wf = true ∧ (Lit.int .i64 qcn8).wf = true ∧ (Lit.int .i64 qcn9).wf = true ∧ (Lit.int .i64 qs).wf = true := by
  obtain ⟨xs, m, _, _, _, hlen, hg⟩ := DataW.trod_struct Tryz.underlying36 h
  have k0 : Tryz.prog.cellsOf 34 = 10 := by kernel_rfl
  have k1 : Tryz.prog.cellsOf 32 = 11 := by kernel_rfl
  have k2 : Tryz.prog.cellsOf 29 = 11 := by kernel_rfl
  have k3 : Tryz.prog.cellsOf 3 = 1 := by kernel_rfl
  have k4 : Tryz.prog.cellsOf 2 = 1 := by kernel_rfl
  match xs, hlen with
  | [y0, y1, y2, y3, y4], _ =>
    have g0 := hg 0 _ rfl
    have g1 := hg 1 _ rfl
    have g2 := hg 2 _ rfl
    have g3 := hg 3 _ rfl
    have g4 := hg 4 _ rfl
    simp only [List.getElem?_cons_zero, List.getElem?_cons_succ] at g0 g1 g2 g3 g4
    obtain ⟨qrh, qro, qrsA, qrsc, qrsL, qrcaA, qrcan, qrcac, qrcbA, qrcbn, qrcbc, qrcc, qrcd, qrce, qrcf, qrcgt, qrcgk, ⟨rfl, rfl, rfl, rfl, rfl, rfl, rfl, rfl, rfl, rfl, rfl⟩, z0_0, z0_1, z0_2, z0_3, z0_4, z0_5⟩ := request_cells g0
    obtain ⟨qmtt, qmtk, qmn0, qmn1, qmn2, qmn3, qmn4, qmn5, qmkA, qmkc, qmkL, qme, qmp, ⟨rfl, rfl, rfl, rfl, rfl, rfl, rfl, rfl, rfl, rfl, rfl⟩, z1_0, z1_1, z1_2, z1_3, z1_4, z1_5, z1_6, z1_7, z1_8, z1_9⟩ := meta_cells g1
    obtain ⟨qo, e2, _, z2⟩ := DataW.trod_int Tryz.underlying3 g2
    obtain rfl : c22 = .int .i64 qo := by simpa [k3] using e2
    obtain ⟨qcn0, qcn1, qcn2, qcn3, qcn4, qcn5, qcn6, qcn7, qcn8, qcn9, ⟨rfl, rfl, rfl, rfl, rfl, rfl, rfl, rfl, rfl, rfl⟩, z3_0, z3_1, z3_2, z3_3, z3_4, z3_5, z3_6, z3_7, z3_8, z3_9⟩ := config_cells g3
    obtain ⟨qs, e4, _, z4⟩ := DataW.trod_int Tryz.underlying2 g4
    obtain rfl : c33 = .int .i64 qs := by simpa [k4] using e4
    exact ⟨qrh, qro, qrsA, qrsc, qrsL, qrcaA, qrcan, qrcac, qrcbA, qrcbn, qrcbc, qrcc, qrcd, qrce, qrcf, qrcgt, qrcgk, qmtt, qmtk, qmn0, qmn1, qmn2, qmn3, qmn4, qmn5, qmkA, qmkc, qmkL, qme, qmp, qo, qcn0, qcn1, qcn2, qcn3, qcn4, qcn5, qcn6, qcn7, qcn8, qcn9, qs, ⟨rfl, rfl, rfl, rfl, rfl, rfl, rfl, rfl, rfl, rfl, rfl, rfl, rfl, rfl, rfl, rfl, rfl, rfl, rfl, rfl, rfl, rfl, rfl, rfl, rfl, rfl, rfl, rfl, rfl, rfl, rfl, rfl, rfl, rfl⟩, z0_0, z0_1, z0_2, z0_3, z0_4, z0_5, z1_0, z1_1, z1_2, z1_3, z1_4, z1_5, z1_6, z1_7, z1_8, z1_9, z2, z3_0, z3_1, z3_2, z3_3, z3_4, z3_5, z3_6, z3_7, z3_8, z3_9, z4⟩
theorem i64_wf' {q : Int} (h : (Lit.int .i64 q).wf = true) : -9223372036854775808 ≤ q ∧ q ≤ 9223372036854775807 := by
  have h1 : IntKind.i64.min ≤ q ∧ q ≤ IntKind.i64.max := by simpa [Lit.wf] using h
  exact ⟨h1.1, h1.2⟩
theorem list_cons {α : Type} {l : List α} {n : Nat} (h : l.length = n + 1) : ∃ a r, l = a :: r ∧ r.length = n := by
  cases l with
  | nil => cases h
  | cons a r => exact ⟨a, r, rfl, Nat.succ.inj h⟩
set_option maxRecDepth 100000 in
theorem open_ask {r : Reach} {b0 : Nat} {v : Value} {d : DataW H} {p : List MemPlace} (hv : Value.okWide Tryz.prog w r b0 36 v) (h : DataW.Trod enc Tryz.prog w base spare held 36 v d p) :
    ∃ (r : ReqL) (m : MetaL) (KA : Option Addr) (kc : Nat) (o : Int) (g : CfgL) (seed : Int), v = .agg (askC r m KA kc o g seed) ∧ Sp w r.A r.c r.L ∧ SpG encT 1 w KA kc m.keys ∧ (Lit.int .i64 g.cs).wf = true ∧ -9223372036854775808 ≤ seed ∧ seed ≤ 9223372036854775807 := by
  obtain ⟨cs, rfl, hsz⟩ := okWide_struct Tryz.underlying36 hv
  have k : Tryz.prog.cellsOf 36 = 34 := by kernel_rfl
  clear hv
  obtain ⟨l⟩ := cs
  have hl0 : l.length = 34 := hsz.trans k
  clear hsz k
  obtain ⟨c0, l, rfl, hl1⟩ := list_cons hl0
  obtain ⟨c1, l, rfl, hl2⟩ := list_cons hl1
  obtain ⟨c2, l, rfl, hl3⟩ := list_cons hl2
  obtain ⟨c3, l, rfl, hl4⟩ := list_cons hl3
  obtain ⟨c4, l, rfl, hl5⟩ := list_cons hl4
  obtain ⟨c5, l, rfl, hl6⟩ := list_cons hl5
  obtain ⟨c6, l, rfl, hl7⟩ := list_cons hl6
  obtain ⟨c7, l, rfl, hl8⟩ := list_cons hl7
  obtain ⟨c8, l, rfl, hl9⟩ := list_cons hl8
  obtain ⟨c9, l, rfl, hl10⟩ := list_cons hl9
  obtain ⟨c10, l, rfl, hl11⟩ := list_cons hl10
  obtain ⟨c11, l, rfl, hl12⟩ := list_cons hl11
  obtain ⟨c12, l, rfl, hl13⟩ := list_cons hl12
  obtain ⟨c13, l, rfl, hl14⟩ := list_cons hl13
  obtain ⟨c14, l, rfl, hl15⟩ := list_cons hl14
  obtain ⟨c15, l, rfl, hl16⟩ := list_cons hl15
  obtain ⟨c16, l, rfl, hl17⟩ := list_cons hl16
  obtain ⟨c17, l, rfl, hl18⟩ := list_cons hl17
  obtain ⟨c18, l, rfl, hl19⟩ := list_cons hl18
  obtain ⟨c19, l, rfl, hl20⟩ := list_cons hl19
  obtain ⟨c20, l, rfl, hl21⟩ := list_cons hl20
  obtain ⟨c21, l, rfl, hl22⟩ := list_cons hl21
  obtain ⟨c22, l, rfl, hl23⟩ := list_cons hl22
  obtain ⟨c23, l, rfl, hl24⟩ := list_cons hl23
  obtain ⟨c24, l, rfl, hl25⟩ := list_cons hl24
  obtain ⟨c25, l, rfl, hl26⟩ := list_cons hl25
  obtain ⟨c26, l, rfl, hl27⟩ := list_cons hl26
  obtain ⟨c27, l, rfl, hl28⟩ := list_cons hl27
  obtain ⟨c28, l, rfl, hl29⟩ := list_cons hl28
  obtain ⟨c29, l, rfl, hl30⟩ := list_cons hl29
  obtain ⟨c30, l, rfl, hl31⟩ := list_cons hl30
  obtain ⟨c31, l, rfl, hl32⟩ := list_cons hl31
  obtain ⟨c32, l, rfl, hl33⟩ := list_cons hl32
  obtain ⟨c33, l, rfl, hl34⟩ := list_cons hl33
  obtain rfl : l = [] := List.eq_nil_of_length_eq_zero hl34
  · obtain ⟨fuel, hf⟩ := h
    obtain ⟨qrh, qro, qrsA, qrsc, qrsL, qrcaA, qrcan, qrcac, qrcbA, qrcbn, qrcbc, qrcc, qrcd, qrce, qrcf, qrcgt, qrcgk, qmtt, qmtk, qmn0, qmn1, qmn2, qmn3, qmn4, qmn5, qmkA, qmkc, qmkL, qme, qmp, qo, qcn0, qcn1, qcn2, qcn3, qcn4, qcn5, qcn6, qcn7, qcn8, qcn9, qs, ⟨e0, e1, e2, e3, e4, e5, e6, e7, e8, e9, e10, e11, e12, e13, e14, e15, e16, e17, e18, e19, e20, e21, e22, e23, e24, e25, e26, e27, e28, e29, e30, e31, e32, e33⟩, z0, z1, z2, z3, z4, z5, z6, z7, z8, z9, z10, z11, z12, z13, z14, z15, z16, z17, z18, z19, z20, z21, z22, z23, z24, z25, z26, z27⟩ := ask_cells (show DataW.trod enc Tryz.prog w base spare held fuel 36 [c0, c1, c2, c3, c4, c5, c6, c7, c8, c9, c10, c11, c12, c13, c14, c15, c16, c17, c18, c19, c20, c21, c22, c23, c24, c25, c26, c27, c28, c29, c30, c31, c32, c33] = some _ from hf)
    exact ⟨⟨qrh, qro, qrsA, qrsc, qrsL, qrcaA, qrcan, qrcac, qrcbA, qrcbn, qrcbc, qrcc, qrcd, qrce, qrcf, qrcgt, qrcgk⟩, ⟨qmtt.data.toList, qmtk, qmn0, qmn1, qmn2, qmn3, qmn4, qmn5, qmkL, qme.data.toList, qmp⟩, qmkA, qmkc, qo, ⟨qcn0, qcn1, qcn2, qcn3, qcn4, qcn5, qcn6, qcn7, qcn8, qcn9⟩, qs, by rw [e0, e1, e2, e3, e4, e5, e6, e7, e8, e9, e10, e11, e12, e13, e14, e15, e16, e17, e18, e19, e20, e21, e22, e23, e24, e25, e26, e27, e28, e29, e30, e31, e32, e33]; rfl, z1, z13, z20, i64_wf' z27⟩
end
end Go.Proofs.YtaaefgieklkekaaGreatDoor
