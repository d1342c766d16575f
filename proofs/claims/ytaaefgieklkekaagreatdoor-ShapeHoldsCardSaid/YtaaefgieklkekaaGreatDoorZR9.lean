/- From a row's reading to what the walks of ShapeRight and ShapeHolds ask: what is laid, an answer that comes in. -/
import Derived.Test.YtaaefgieklkekaaGreatDoorZR7
import Derived.Test.YtaaefgieklkekaaGreatDoorZL11
import Derived.Test.YtaaefgieklkekaaGreatDoorZB11
import Derived.Shelf.Vars
import Derived.Stop.LaidErr
import Derived.LaidSub
import Derived.LaidMore
import Derived.Deep.Slices
namespace Go.Proofs.YtaaefgieklkekaaGreatDoor
open Go.ChangeShapes Go.WideShapes Go.ChangeAt Go.RowKit

theorem gES : Tryz.prog.globalNamed "strconv.ErrSyntax" = some 4 := by kernel_rfl
theorem gESType : (Tryz.prog.globals[4]?).map (·.type) = some 140 := by kernel_rfl
theorem gER : Tryz.prog.globalNamed "strconv.ErrRange" = some 5 := by kernel_rfl
theorem gERType : (Tryz.prog.globals[5]?).map (·.type) = some 140 := by kernel_rfl
theorem cellsES : Tryz.prog.cellsOf 237 = 1 := by kernel_rfl
theorem cellsStr : Tryz.prog.cellsOf 9 = 1 := by kernel_rfl
theorem starES : "*" ++ "errors.errorString" = "*errors.errorString" := by decide
/-- The one row of that name. -/
theorem rowES (u : TypeId) (h : Tryz.prog.typeName? 3 u = some "*errors.errorString") : u = 235 :=
  typeName_ptr_named (nm := "errors.errorString") (by rw [starES]; kernel_rfl) (by kernel_rfl) (by decide) u (by rw [starES]; exact h)
theorem errs_of_parts {W : World} (h1 : laidMet Tryz.prog [("strconv.ErrSyntax", Rows.laid_strconv_ErrSyntax)] W) (h2 : laidMet Tryz.prog [("strconv.ErrRange", Rows.laid_strconv_ErrRange)] W) : ErrsOk W := by
  obtain ⟨a0, s0, hv0, -, -, -⟩ := laid_sentinel h1 gES gESType Tryz.underlying140 rowES Tryz.underlying235 Tryz.underlying237 rfl rfl Tryz.underlying9 cellsES cellsStr
  obtain ⟨a1, s1, hv1, -, -, -⟩ := laid_sentinel h2 gER gERType Tryz.underlying140 rowES Tryz.underlying235 Tryz.underlying237 rfl rfl Tryz.underlying9 cellsES cellsStr
  exact ⟨⟨_, by have h0 := World.var?_cell gES hv0 0; simpa using h0, Or.inr ⟨_, _, rfl⟩⟩, ⟨_, by have h0 := World.var?_cell gER hv1 0; simpa using h0, Or.inr ⟨_, _, rfl⟩⟩⟩
theorem max_of_shaped {W : World} (h : W.ShapedOpen Tryz.prog) : ∃ m, W.cell? ⟨0, 0, none⟩ = some (.int .i64 m) :=
  cell_of_shapedOpen_int (P := Tryz.prog) (g := 0) (t := 3) (zero := #[.int .i64 0]) h (of_decide_eq_true (by kernel_rfl)) (by kernel_rfl) rfl (by kernel_rfl) (by kernel_rfl) Tryz.underlying3
theorem envR_of_shapeRight {W : World} (h : laidMetH Tryz.prog Rows.shapeRightRow.laid W) (hs : W.ShapedOpen Tryz.prog) : EnvR W := by
  refine ⟨env_of_shapeRight h, ?_, max_of_shaped hs⟩
  rw [MakeChecks.laidMetH_plain _ _ _ (by kernel_rfl)] at h
  exact errs_of_parts (laidMet.filter (fun x => x.1 == "strconv.ErrSyntax") h) (laidMet.filter (fun x => x.1 == "strconv.ErrRange") h)
theorem envR_of_shapeHolds {W : World} (h : laidMetH Tryz.prog Rows.shapeHoldsRow.laid W) (hs : W.ShapedOpen Tryz.prog) : EnvR W := by
  refine ⟨env_of_shapeHolds h, ?_, max_of_shaped hs⟩
  rw [MakeChecks.laidMetH_plain _ _ _ (by kernel_rfl)] at h
  exact errs_of_parts (laidMet.filter (fun x => x.1 == "strconv.ErrSyntax") h) (laidMet.filter (fun x => x.1 == "strconv.ErrRange") h)

section
variable {H : Type} {enc : TypeId × Value → H} {w : World} {base : Nat} {spare : Nat → Bool} {held : Bool} {n : Nat}
/-- No part takes more than a machine may hold. -/
def Held (P : Program) (t : TypeId) (d : DataW H) : Prop := (d.weights P t).all (· ≤ reachBytes) = true
theorem held_mem {P : Program} {e : TypeId} : ∀ {l : List (DataW H)} {d : DataW H}, d ∈ l → (DataW.weightsAll P e l).all (· ≤ reachBytes) = true → Held P e d
  | x :: r, d, hd, h => by
    rw [DataW.weightsAll, List.all_append, Bool.and_eq_true] at h
    rcases List.mem_cons.1 hd with rfl | hd
    · exact h.1
    · exact held_mem hd h.2
theorem held_slice {P : Program} {ST T : TypeId} (hu : P.underlying ST = some (.slice T)) {el sp : List (DataW H)} (h : Held P ST (.slice el sp)) : (el.length + sp.length) * P.bytesOf T ≤ reachBytes ∧ ∀ d ∈ el, Held P T d := by
  unfold Held at h
  rw [DataW.weights, hu] at h
  simp only [List.all_cons, List.all_append, Bool.and_eq_true, decide_eq_true_eq] at h
  exact ⟨h.1, fun d hd => held_mem hd h.2.1⟩
theorem held_each {P : Program} : ∀ {ts : List TypeId} {ds : List (DataW H)} {j : Nat} {t : TypeId} {d : DataW H}, (DataW.weightsEach P ts ds).all (· ≤ reachBytes) = true → ts[j]? = some t → ds[j]? = some d → Held P t d
  | t :: ts, d :: ds, 0, _, _, h, h1, h2 => by
    rw [DataW.weightsEach, List.all_append, Bool.and_eq_true] at h
    injection h1 with h1; injection h2 with h2
    subst h1 h2
    exact h.1
  | t :: ts, d :: ds, j + 1, _, _, h, h1, h2 => by
    rw [DataW.weightsEach, List.all_append, Bool.and_eq_true] at h
    exact held_each h.2 (by simpa using h1) (by simpa using h2)
theorem held_struct {P : Program} {ST : TypeId} {fs : Array Field} (hu : P.underlying ST = some (.struct fs)) {ps : List (DataW H)} (h : Held P ST (.agg ps)) {j : Nat} {t : TypeId} {d : DataW H} (h1 : (fs.toList.map (·.type))[j]? = some t) (h2 : ps[j]? = some d) : Held P t d := by
  unfold Held at h
  rw [DataW.weights, hu] at h
  exact held_each h h1 h2
theorem held_text {P : Program} {t : TypeId} {l : List UInt8} (h : Held P t (DataW.lit (H := H) (.string l))) : l.length ≤ 1000000000000000 := by
  unfold Held at h
  rw [DataW.weights] at h
  simp only [List.all_cons, List.all_nil, Bool.and_true, decide_eq_true_eq] at h
  have : reachBytes ≤ 1000000000000000 := by decide
  omega
theorem open_rowsW {α : Type} [Inhabited α] {P : Program} {en : α → List Value} {k : Nat} {T ST : TypeId} {Pw : α → Prop} (hk : 0 < k) (hlen : ∀ x, (en x).length = k) (hu : P.underlying ST = some (.slice T)) (hc : P.cellsOf T = k) (hby : 1 ≤ P.bytesOf T)
    (hcells : ∀ (n : Nat) (cs : List Value) (y : DataW H × List MemPlace), cs.length = k → DataW.trod enc P w base spare held n T cs = some y → Held P T y.1 → ∃ x, cs = en x ∧ Pw x)
    {fuel : Nat} {A : Option Addr} {len c : Nat} {x : DataW H × List MemPlace} (h : DataW.trod enc P w base spare held fuel ST [.slice A len c] = some x) (hw : Held P ST x.1) :
    ∃ L : List α, len = L.length ∧ SpG en k w A c L ∧ (∀ x ∈ L, Pw x) ∧ L.length ≤ 1000000000000000 := by
  rcases Deep.open_slice hu h with ⟨h0, _⟩ | ⟨a, len', cap, m, n', D, Pl, hcs, hb, hl, hm, hmm, hx, hi⟩
  · simp only [List.cons.injEq, Value.slice.injEq, and_true] at h0
    obtain ⟨rfl, rfl, rfl⟩ := h0
    exact ⟨[], rfl, SpG.nil w, fun x hx => by simp at hx, by simp⟩
  · simp only [List.cons.injEq, Value.slice.injEq, and_true] at hcs
    obtain ⟨rfl, rfl, rfl⟩ := hcs
    rw [hx] at hw
    obtain ⟨hw1, hw2⟩ := held_slice hu hw
    have hlb : len ≤ 1000000000000000 := by
      simp only [List.length_map, List.length_range] at hw1
      have h1 : len * 1 ≤ (len + (m - len)) * P.bytesOf T := Nat.mul_le_mul (by omega) hby
      have : reachBytes ≤ 1000000000000000 := by decide
      omega
    have each : ∀ i, i < len → ∃ x : α, (∀ j v, (en x)[j]? = some v → w.cell? (a.add (i * k + j)) = some v) ∧ Pw x := by
      intro i hi'
      obtain ⟨cs', hcs, ht⟩ := hi i (by rw [hmm]; split <;> omega)
      rw [hc] at hcs
      obtain ⟨_, hlen', hcell⟩ := World.cells?_some hcs
      obtain ⟨x, rfl, hp⟩ := hcells _ _ _ hlen' ht (hw2 _ (List.mem_map.2 ⟨i, by simpa using hi', rfl⟩))
      refine ⟨x, fun j v hj => ?_, hp⟩
      have hjk : j < k := by have := (List.getElem?_eq_some_iff.1 hj).1; rw [hlen] at this; exact this
      have h1 := hcell j hjk
      rw [Go.Deep.add_add] at h1
      rw [h1]; exact hj
    obtain ⟨f, hf⟩ : ∃ f : Nat → α, ∀ i, i < len → (∀ j v, (en (f i))[j]? = some v → w.cell? (a.add (i * k + j)) = some v) ∧ Pw (f i) :=
      ⟨fun i => if h : i < len then Classical.choose (each i h) else default, fun i h => by simp only [dif_pos h]; exact Classical.choose_spec (each i h)⟩
    refine ⟨(List.range len).map f, by simp, ⟨by simpa using hl, (fun e => by cases e), fun i hi' => ?_⟩, fun x hx => ?_, by simpa using hlb⟩
    · have hi2 : i < len := by simpa using hi'
      obtain ⟨v0, hv0⟩ : ∃ v, (en (f 0))[0]? = some v := ⟨_, List.getElem?_eq_getElem (by rw [hlen]; exact hk)⟩
      have h0 := (hf 0 (by omega)).1 0 v0 hv0
      have ha0 : a.add (0 * k + 0) = a := by simp [Addr.add]
      rw [ha0] at h0
      have hs := spot_of_cell h0
      obtain ⟨b, off, sp⟩ := a
      simp only at hs
      subst hs
      have hadd : ∀ j, (⟨b, off, none⟩ : Addr).add j = ⟨b, off + j, none⟩ := fun j => by unfold Addr.add; split <;> simp_all
      refine ⟨b, off, rfl, World.block_lt_of_cell? w ⟨b, off, none⟩ h0, fun j v hj => ?_⟩
      have h3 := (hf i hi2).1 j v (by simpa using hj)
      rw [hadd, ← Nat.add_assoc] at h3
      exact h3
    · obtain ⟨i, hi2, rfl⟩ := List.mem_map.1 hx
      exact (hf i (by simpa using hi2)).2
theorem list_two {α : Type} {l : List α} (h : l.length = 2) : ∃ a b, l = [a, b] := by
  match l, h with
  | [a, b], _ => exact ⟨a, b, rfl⟩
theorem list_three {α : Type} {l : List α} (h : l.length = 3) : ∃ a b c, l = [a, b, c] := by
  match l, h with
  | [a, b, c], _ => exact ⟨a, b, c, rfl⟩
theorem list_four {α : Type} {l : List α} (h : l.length = 4) : ∃ a b c d, l = [a, b, c, d] := by
  match l, h with
  | [a, b, c, d], _ => exact ⟨a, b, c, d, rfl⟩
set_option maxRecDepth 100000 in
set_option maxHeartbeats 4000000 in
theorem fd_cells (n : Nat) (cs : List Value) (y : DataW H × List MemPlace) (hl : cs.length = 2) (h : DataW.trod enc Tryz.prog w base spare held n 78 cs = some y) (hw : Held Tryz.prog 78 y.1) : ∃ x : FieldL, cs = encFd x ∧ (x.1.length ≤ 1000000000000000 ∧ x.2.length ≤ 1000000000000000) := by
  obtain ⟨c0, c1, rfl⟩ := list_two hl
  obtain ⟨xs, m, _, hx, _, hlen, hg⟩ := DataW.trod_struct Tryz.underlying78 h
  have k1 : Tryz.prog.cellsOf 9 = 1 := by kernel_rfl
  rw [hx] at hw
  match xs, hlen with
  | [y0, y1], _ =>
    have g0 := hg 0 _ rfl
    have g1 := hg 1 _ rfl
    simp only [List.getElem?_cons_zero, List.getElem?_cons_succ] at g0 g1
    obtain ⟨q0, e0, x0, _⟩ := DataW.trod_string Tryz.underlying9 g0
    obtain rfl : c0 = .string q0 := by simpa [k1] using e0
    obtain ⟨q1, e1, x1, _⟩ := DataW.trod_string Tryz.underlying9 g1
    obtain rfl : c1 = .string q1 := by simpa [k1] using e1
    subst x0 x1
    have w0 := held_struct Tryz.underlying78 hw (j := 0) rfl rfl
    have w1 := held_struct Tryz.underlying78 hw (j := 1) rfl rfl
    exact ⟨(q0.data.toList, q1.data.toList), by simp [encFd], held_text w0, held_text w1⟩
set_option maxRecDepth 100000 in
set_option maxHeartbeats 4000000 in
theorem pt_cells (n : Nat) (cs : List Value) (y : DataW H × List MemPlace) (hl : cs.length = 3) (h : DataW.trod enc Tryz.prog w base spare held n 65 cs = some y) (hw : Held Tryz.prog 65 y.1) : ∃ x : PartL, cs = encPt x ∧ x.1.length ≤ 1000000000000000 := by
  obtain ⟨c0, c1, c2, rfl⟩ := list_three hl
  obtain ⟨xs, m, _, hx, _, hlen, hg⟩ := DataW.trod_struct Tryz.underlying65 h
  have k1 : Tryz.prog.cellsOf 9 = 1 := by kernel_rfl
  have k2 : Tryz.prog.cellsOf 2 = 1 := by kernel_rfl
  have k3 : Tryz.prog.cellsOf 55 = 2 := by kernel_rfl
  rw [hx] at hw
  match xs, hlen with
  | [y0, y1], _ =>
    have g0 := hg 0 _ rfl
    have g1 := hg 1 _ rfl
    simp only [List.getElem?_cons_zero, List.getElem?_cons_succ] at g0 g1
    obtain ⟨q0, e0, x0, _⟩ := DataW.trod_string Tryz.underlying9 g0
    obtain rfl : c0 = .string q0 := by simpa [k1] using e0
    subst x0
    have w0 := held_struct Tryz.underlying65 hw (j := 0) rfl rfl
    obtain ⟨zs, m2, _, _, _, hlen2, hg2⟩ := DataW.trod_struct Tryz.underlying55 g1
    match zs, hlen2 with
    | [z0, z1], _ =>
      have r0 := hg2 0 _ rfl
      have r1 := hg2 1 _ rfl
      simp only [List.getElem?_cons_zero, List.getElem?_cons_succ] at r0 r1
      obtain ⟨q1, e1, _⟩ := DataW.trod_int Tryz.underlying2 r0
      obtain ⟨q2, e2, _⟩ := DataW.trod_int Tryz.underlying2 r1
      obtain rfl : c1 = .int .i64 q1 := by simpa [k1, k2, k3] using e1
      obtain rfl : c2 = .int .i64 q2 := by simpa [k1, k2, k3] using e2
      exact ⟨(q0.data.toList, (q1, q2)), by simp [encPt], held_text w0⟩
set_option maxRecDepth 100000 in
set_option maxHeartbeats 4000000 in
theorem open_answer {r : Reach} {b0 : Nat} {v : Value} {d : DataW H} {p : List MemPlace} (hv : Value.okWide Tryz.prog w r b0 43 v) (h : DataW.Trod enc Tryz.prog w base spare held 43 v d p) (hw : Held Tryz.prog 43 d) :
    ∃ (st sz : Int) (FA : Option Addr) (fc : Nat) (F : List FieldL) (PA : Option Addr) (pc : Nat) (P : List PartL), v = .agg #[.int .i64 st, .slice FA F.length fc, .slice PA P.length pc, .int .i64 sz] ∧ SpG encPt 3 w PA pc P ∧ SpG encFd 2 w FA fc F ∧ P.length ≤ 1000000000000000 ∧ F.length ≤ 1000000000000000 ∧
      (∀ f ∈ F, f.1.length ≤ 1000000000000000 ∧ f.2.length ≤ 1000000000000000) ∧ (∀ p ∈ P, p.1.length ≤ 1000000000000000) := by
  obtain ⟨cs, rfl, hsz⟩ := okWide_struct Tryz.underlying43 hv
  have k : Tryz.prog.cellsOf 43 = 4 := by kernel_rfl
  clear hv
  obtain ⟨l⟩ := cs
  have hl0 : l.length = 4 := hsz.trans k
  obtain ⟨c0, c1, c2, c3, rfl⟩ := list_four hl0
  obtain ⟨fuel, hf⟩ := h
  obtain ⟨xs, m, _, hx, _, hlen, hg⟩ := DataW.trod_struct Tryz.underlying43 hf
  have k1 : Tryz.prog.cellsOf 3 = 1 := by kernel_rfl
  have k2 : Tryz.prog.cellsOf 2 = 1 := by kernel_rfl
  have k3 : Tryz.prog.cellsOf 40 = 1 := by kernel_rfl
  have k4 : Tryz.prog.cellsOf 41 = 1 := by kernel_rfl
  match xs, hlen with
  | [y0, y1, y2, y3], _ =>
    injection hx with hx1 hx2
    rw [hx1] at hw
    have g0 := hg 0 _ rfl
    have g1 := hg 1 _ rfl
    have g2 := hg 2 _ rfl
    have g3 := hg 3 _ rfl
    have hcc : (Value.agg ⟨[c0, c1, c2, c3]⟩).cells.toList = [c0, c1, c2, c3] := rfl
    simp only [List.getElem?_cons_zero, List.getElem?_cons_succ, hcc] at g0 g1 g2 g3
    obtain ⟨q0, e0, _⟩ := DataW.trod_int Tryz.underlying3 g0
    obtain rfl : c0 = .int .i64 q0 := by simpa [k1, k2, k3, k4] using e0
    have g1' : DataW.trod enc Tryz.prog w base spare held m 40 [c1] = some y1 := by simpa [k1, k2, k3, k4] using g1
    have g2' : DataW.trod enc Tryz.prog w base spare held m 41 [c2] = some y2 := by simpa [k1, k2, k3, k4] using g2
    obtain ⟨q3, e3, _⟩ := DataW.trod_int Tryz.underlying2 g3
    obtain rfl : c3 = .int .i64 q3 := by simpa [k1, k2, k3, k4] using e3
    have w1 := held_struct Tryz.underlying43 hw (j := 1) rfl rfl
    have w2 := held_struct Tryz.underlying43 hw (j := 2) rfl rfl
    have sl : ∀ {ST T : TypeId} {v : Value} {x : DataW H × List MemPlace}, Tryz.prog.underlying ST = some (.slice T) → DataW.trod enc Tryz.prog w base spare held m ST [v] = some x → ∃ A len c, v = .slice A len c := by
      intro ST T v x hu h
      rcases Deep.open_slice hu h with ⟨h0, _⟩ | ⟨a, len', cap, m, n', D, Pl, hcs, _⟩
      · simp only [List.cons.injEq, and_true] at h0
        exact ⟨_, _, _, h0⟩
      · simp only [List.cons.injEq, and_true] at hcs
        exact ⟨_, _, _, hcs⟩
    obtain ⟨FA, fl, fc, rfl⟩ := sl Tryz.underlying40 g1'
    obtain ⟨PA, pl, pc, rfl⟩ := sl Tryz.underlying41 g2'
    obtain ⟨F, rfl, f1, f2, f3⟩ := open_rowsW (Pw := fun x : FieldL => x.1.length ≤ 1000000000000000 ∧ x.2.length ≤ 1000000000000000) (k := 2) (by decide) (fun _ => rfl) Tryz.underlying40 (by kernel_rfl) (of_decide_eq_true (by kernel_rfl)) fd_cells g1' w1
    obtain ⟨P, rfl, p1, p2, p3⟩ := open_rowsW (Pw := fun x : PartL => x.1.length ≤ 1000000000000000) (k := 3) (by decide) (fun _ => rfl) Tryz.underlying41 (by kernel_rfl) (of_decide_eq_true (by kernel_rfl)) pt_cells g2' w2
    exact ⟨q0, q3, FA, fc, F, PA, pc, P, rfl, p1, f1, p3, f3, f2, p2⟩
end
end Go.Proofs.YtaaefgieklkekaaGreatDoor
