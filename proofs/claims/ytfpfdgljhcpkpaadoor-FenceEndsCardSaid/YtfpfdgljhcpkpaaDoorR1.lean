/- From a row's reading to what the fence's walks ask: a state that came in; the table of the texts. -/
import Derived.Test.YtfpfdgljhcpkpaaDoorR3
import Derived.Test.YtfpfdgljhcpkpaaDoorF5
import Derived.LaidSub
import Derived.LaidMore
namespace Go.Proofs.YtfpfdgljhcpkpaaDoor
open Go.ChangeShapes Go.WideShapes Go.ChangeAt Go.RowKit

section
variable {H : Type} {enc : TypeId × Value → H} {w : World} {base : Nat} {spare : Nat → Bool} {held : Bool} {n : Nat}
theorem open_spans1 {v : Value} {x : DataW H × List MemPlace} (h : DataW.trod enc Tryd.prog w base spare held n 22 [v] = some x) :
    ∃ A c L, v = .slice A (List.length L) c ∧ Sp w A c L ∧ L.length ≤ 9223372036854775807 := by
  have hv : ∃ A len c, v = .slice A len c := by
    rcases Deep.open_slice Tryd.underlying22 h with ⟨h0, _⟩ | ⟨a, len', cap, m, n', D, Pl, hcs, _⟩
    · simp only [List.cons.injEq, and_true] at h0
      exact ⟨_, _, _, h0⟩
    · simp only [List.cons.injEq, and_true] at hcs
      exact ⟨_, _, _, hcs⟩
  obtain ⟨A, len, c, rfl⟩ := hv
  obtain ⟨L, rfl, h1, h2⟩ := open_spans' h
  exact ⟨A, c, L, rfl, h1, h2⟩
set_option maxRecDepth 100000 in
theorem open_state {r : Reach} {b0 : Nat} {v : Value} {d : DataW H} {p : List MemPlace} (hv : Value.okWide Tryd.prog w r b0 24 v) (h : DataW.Trod enc Tryd.prog w base spare held 24 v d p) :
    ∃ (he : Bool) (A1 : Option Addr) (c1 : Nat) (R : List (Int × Int)) (A2 : Option Addr) (c2 : Nat) (Hv : List (Int × Int)) (A3 : Option Addr) (c3 : Nat) (F : List (Int × Int)) (tu fa : Bool) (ag : Int) (jo : Bool),
      v = .agg #[.bool he, .slice A1 R.length c1, .slice A2 Hv.length c2, .slice A3 F.length c3, .bool tu, .bool fa, .int .i64 ag, .bool jo] ∧ Sp w A1 c1 R ∧ Sp w A2 c2 Hv ∧ Sp w A3 c3 F ∧ R.length ≤ 9223372036854775807 ∧ Hv.length ≤ 9223372036854775807 ∧ F.length ≤ 9223372036854775807 := by
  obtain ⟨cs, rfl, hsz⟩ := okWide_struct Tryd.underlying24 hv
  have k : Tryd.prog.cellsOf 24 = 8 := by kernel_rfl
  have kb : Tryd.prog.cellsOf 4 = 1 := by kernel_rfl
  have ks : Tryd.prog.cellsOf 22 = 1 := by kernel_rfl
  have ki : Tryd.prog.cellsOf 3 = 1 := by kernel_rfl
  obtain ⟨l⟩ := cs
  match l, hsz.trans k with
  | [a0, a1, a2, a3, a4, a5, a6, a7], _ =>
    obtain ⟨fuel, hf⟩ := h
    obtain ⟨xs, m, _, _, _, hlen, hg⟩ := DataW.trod_struct Tryd.underlying24 hf
    match xs, hlen with
    | [y0, y1, y2, y3, y4, y5, y6, y7], _ =>
      have g0 := hg 0 _ rfl
      have g1 := hg 1 _ rfl
      have g2 := hg 2 _ rfl
      have g3 := hg 3 _ rfl
      have g4 := hg 4 _ rfl
      have g5 := hg 5 _ rfl
      have g6 := hg 6 _ rfl
      have g7 := hg 7 _ rfl
      simp only [Value.cells, kb, ks, ki, List.drop_zero, List.take_succ_cons, List.take_zero, List.drop_succ_cons, List.getElem?_cons_zero, List.getElem?_cons_succ] at g0 g1 g2 g3 g4 g5 g6 g7
      obtain ⟨he, e0, _⟩ := DataW.trod_bool Tryd.underlying4 g0
      obtain ⟨A1, c1, R, rfl, s1, n1⟩ := open_spans1 g1
      obtain ⟨A2, c2, Hv, rfl, s2, n2⟩ := open_spans1 g2
      obtain ⟨A3, c3, F, rfl, s3, n3⟩ := open_spans1 g3
      obtain ⟨tu, e4, _⟩ := DataW.trod_bool Tryd.underlying4 g4
      obtain ⟨fa, e5, _⟩ := DataW.trod_bool Tryd.underlying4 g5
      obtain ⟨ag, e6, _⟩ := DataW.trod_int Tryd.underlying3 g6
      obtain ⟨jo, e7, _⟩ := DataW.trod_bool Tryd.underlying4 g7
      obtain rfl : a0 = .bool he := by simpa [kb] using e0
      obtain rfl : a4 = .bool tu := by simpa [kb] using e4
      obtain rfl : a5 = .bool fa := by simpa [kb] using e5
      obtain rfl : a6 = .int .i64 ag := by simpa [ki] using e6
      obtain rfl : a7 = .bool jo := by simpa [kb] using e7
      exact ⟨he, A1, c1, R, A2, c2, Hv, A3, c3, F, tu, fa, ag, jo, rfl, s1, s2, s3, n1, n2, n3⟩
end

theorem ba_of {a : ByteArray} {l : List UInt8} (h : a.data.toList = l) : a = ⟨l.toArray⟩ := by
  obtain ⟨⟨d⟩⟩ := a
  simp at h
  subst h
  rfl
theorem gNames : Tryd.prog.globalNamed "mandoline/fence.names" = some 0 := by kernel_rfl
theorem tNames : (Tryd.prog.globals[0]?).map (·.type) = some 148 := by kernel_rfl
set_option maxRecDepth 100000 in
/-- What the row's list gives: the cells of the table hold the texts. -/
theorem names_of_laid {W : World} (h : laidMetH Tryd.prog Rows.fenceEndsRow.laid W) : Names W := by
  rw [MakeChecks.laidMetH_plain _ _ _ (by kernel_rfl)] at h
  have h2 : laidMet Tryd.prog [("mandoline/fence.names", Rows.laid_mandoline_fence_names)] W := laidMet.filter (fun x => x.1 == "mandoline/fence.names") h
  obtain ⟨ps, ⟨g, t, cs, fuel, p, q, hg, ht, hv, hd, _, _⟩, _⟩ := h2
  obtain rfl := Option.some.inj (gNames.symm.trans hg)
  obtain rfl := Option.some.inj (tNames.symm.trans ht)
  obtain ⟨xs, m, e1, hx, hlen, hn7, hel⟩ := DataW.trod_array Tryd.underlying148 hd
  have k9 : Tryd.prog.cellsOf 9 = 1 := by kernel_rfl
  have k83 : Tryd.prog.cellsOf 148 = 7 := by kernel_rfl
  obtain ⟨l⟩ := cs
  simp only at hlen hel
  match l, hlen.trans k83, xs, hn7, hx, hel with
  | [v0, v1, v2, v3, v4, v5, v6], _, [x0, x1, x2, x3, x4, x5, x6], _, hx, hel =>
    have g0 := hel 0 (by omega)
    have g1 := hel 1 (by omega)
    have g2 := hel 2 (by omega)
    have g3 := hel 3 (by omega)
    have g4 := hel 4 (by omega)
    have g5 := hel 5 (by omega)
    have g6 := hel 6 (by omega)
    simp only [k9, List.drop_zero, List.take_succ_cons, List.take_zero, List.drop_succ_cons, List.getElem?_cons_zero, List.getElem?_cons_succ] at g0 g1 g2 g3 g4 g5 g6
    obtain ⟨a0, q0, r0⟩ := DataW.trod_string Tryd.underlying9 g0
    obtain ⟨a1, q1, r1⟩ := DataW.trod_string Tryd.underlying9 g1
    obtain ⟨a2, q2, r2⟩ := DataW.trod_string Tryd.underlying9 g2
    obtain ⟨a3, q3, r3⟩ := DataW.trod_string Tryd.underlying9 g3
    obtain ⟨a4, q4, r4⟩ := DataW.trod_string Tryd.underlying9 g4
    obtain ⟨a5, q5, r5⟩ := DataW.trod_string Tryd.underlying9 g5
    obtain ⟨a6, q6, r6⟩ := DataW.trod_string Tryd.underlying9 g6
    obtain rfl : v0 = .string a0 := by simpa using q0
    obtain rfl : v1 = .string a1 := by simpa using q1
    obtain rfl : v2 = .string a2 := by simpa using q2
    obtain rfl : v3 = .string a3 := by simpa using q3
    obtain rfl : v4 = .string a4 := by simpa using q4
    obtain rfl : v5 = .string a5 := by simpa using q5
    obtain rfl : v6 = .string a6 := by simpa using q6
    have hx1 := (Prod.mk.inj hx).1
    simp only [Rows.laid_mandoline_fence_names, List.map_cons, List.map_nil, r0.1, r1.1, r2.1, r3.1, r4.1, r5.1, r6.1, DataW.agg.injEq, List.cons.injEq, DataW.lit.injEq, Lit.string.injEq, and_true] at hx1
    obtain ⟨b0, b1, b2, b3, b4, b5, b6⟩ := hx1
    have c := World.var?_cell hg hv
    have at_ : ∀ i : Nat, i < 7 → W.cell? ⟨0, i, none⟩ = some (.string (textD i)) := by
      intro i hi
      rw [c i]
      match i, hi with
      | 0, _ => show some (Value.string a0) = _; rw [ba_of b0.symm]; rfl
      | 1, _ => show some (Value.string a1) = _; rw [ba_of b1.symm]; rfl
      | 2, _ => show some (Value.string a2) = _; rw [ba_of b2.symm]; rfl
      | 3, _ => show some (Value.string a3) = _; rw [ba_of b3.symm]; rfl
      | 4, _ => show some (Value.string a4) = _; rw [ba_of b4.symm]; rfl
      | 5, _ => show some (Value.string a5) = _; rw [ba_of b5.symm]; rfl
      | 6, _ => show some (Value.string a6) = _; rw [ba_of b6.symm]; rfl
    exact ⟨World.block_lt_of_cell? W ⟨0, 0, none⟩ (at_ 0 (by omega)), at_⟩
end Go.Proofs.YtfpfdgljhcpkpaaDoor
