/- Contract of spec's parse: the range of an item. -/
import Derived.Test.YtfpfdgljhcpkpaaGreatDoorS7
namespace Go.Proofs.YtfpfdgljhcpkpaaGreatDoor
open Go.RowKit

/-- What parse hands back. -/
def ParsePost (l : List UInt8) (w : World) (e : Ending) (w' : World) : Prop :=
  ∃ a b : Int, e = .returned (.tuple #[.agg #[.int .i64 a, .int .i64 b], .bool (itemL l).isSome]) ∧ (∀ x, itemL l = some x → x = (a, b)) ∧ Below w.heap.size w w'
theorem parse_no {l : List UInt8} {w w' : World} {a b : Int} (h : itemL l = none) (hb : Below w.heap.size w w') : ParsePost l w (.returned (.tuple #[.agg #[.int .i64 a, .int .i64 b], .bool false])) w' :=
  ⟨a, b, by rw [h]; rfl, (fun x hx => by rw [h] at hx; cases hx), hb⟩
theorem parse_yes {l : List UInt8} {w w' : World} {a b : Int} {t : Bool} (h : itemL l = if t = true then some (a, b) else none) (hb : Below w.heap.size w w') : ParsePost l w (.returned (.tuple #[.agg #[.int .i64 a, .int .i64 b], .bool t])) w' := by
  cases t
  · exact parse_no h hb
  · exact ⟨a, b, by rw [h]; rfl, (fun x hx => by rw [h] at hx; simp at hx; exact hx.symm), hb⟩
theorem snum_no {l : List UInt8} (h : numL l = none) (w : World) (hl : l.length ≤ 1000000) : Calls Tryz.prog 134 #[.string ⟨l.toArray⟩] w fun e w' => e = .returned (.tuple #[.int .i64 0, .bool false]) ∧ w = w' := by
  have h1 := snumber_any ⟨l.toArray⟩ w (by rw [ba_size]; omega)
  simp only [h] at h1
  exact h1
theorem snum_yes {l : List UInt8} {y : Int} (h : numL l = some y) (w : World) (hl : l.length ≤ 1000000) : Calls Tryz.prog 134 #[.string ⟨l.toArray⟩] w fun e w' => e = .returned (.tuple #[.int .i64 y, .bool true]) ∧ w = w' := by
  have h1 := snumber_any ⟨l.toArray⟩ w (by rw [ba_size]; omega)
  simp only [h] at h1
  exact h1
theorem cutD_len : ∀ {l a b : List UInt8}, cutD l = some (a, b) → a.length ≤ l.length ∧ b.length ≤ l.length
  | [], _, _, h => by cases h
  | c :: r, a, b, h => by
    rw [cutD] at h
    split at h
    · simp at h; obtain ⟨rfl, rfl⟩ := h; simp
    · cases hr : cutD r with
      | none => rw [hr] at h; cases h
      | some p =>
        rw [hr] at h
        simp at h
        obtain ⟨rfl, rfl⟩ := h
        have := cutD_len (a := p.1) (b := p.2) (l := r) (by rw [hr])
        simp; omega
theorem cut_no {l : List UInt8} (h : cutD l = none) (w : World) (hl : l.length ≤ 1000000) : Calls Tryz.prog 101 #[.string ⟨l.toArray⟩, .string ⟨#[45]⟩] w fun e w' => ∃ a b, e = .returned (.tuple #[.string a, .string b, .bool false]) ∧ Below w.heap.size w w' := by
  refine (cut_any ⟨l.toArray⟩ w (by rw [ba_size]; omega)).mono ?_
  rintro e w' ⟨a, b, t, rfl, hc, hb⟩
  cases t
  · exact ⟨_, _, rfl, hb⟩
  · simp only [if_true] at hc; rw [h] at hc; cases hc
theorem cut_yes {l a b : List UInt8} (h : cutD l = some (a, b)) (w : World) (hl : l.length ≤ 1000000) : Calls Tryz.prog 101 #[.string ⟨l.toArray⟩, .string ⟨#[45]⟩] w fun e w' => e = .returned (.tuple #[.string ⟨a.toArray⟩, .string ⟨b.toArray⟩, .bool true]) ∧ Below w.heap.size w w' := by
  refine (cut_any ⟨l.toArray⟩ w (by rw [ba_size]; omega)).mono ?_
  rintro e w' ⟨a', b', t, rfl, hc, hb⟩
  simp only at hc
  rw [h] at hc
  cases t
  · cases hc
  · simp only [if_true] at hc; injection hc with hc; injection hc with h1 h2; subst h1 h2; exact ⟨rfl, hb⟩
theorem two_set {w : World} {g : Nat} {x y : Value} (h0 : w.cell? ⟨g, 0, none⟩ = some x) (h1 : w.cell? ⟨g, 1, none⟩ = some y) (u v : Value) :
    ((w.setCell ⟨g, 0, none⟩ u).setCell ⟨g, 1, none⟩ v).cell? ⟨g, 0, none⟩ = some u ∧ ((w.setCell ⟨g, 0, none⟩ u).setCell ⟨g, 1, none⟩ v).cell? ⟨g, 1, none⟩ = some v := by
  have l1 : g < w.heap.size := World.block_lt_of_cell? w ⟨g, 0, none⟩ h0
  exact ⟨by simp [go_sem, h0, l1], by simp [go_sem, h1, l1]⟩
/-- What the two cells of the result hold, behind one new block and behind two. -/
theorem two_read {w : World} {g : Nat} {x y : Value} (h0 : w.cell? ⟨g, 0, none⟩ = some x) (h1 : w.cell? ⟨g, 1, none⟩ = some y) :
    (∀ u v o, (((w.setCell ⟨g, 0, none⟩ u).setCell ⟨g, 1, none⟩ v).alloc o).cell? ⟨g, 0, none⟩ = some u) ∧ (∀ u v o, (((w.setCell ⟨g, 0, none⟩ u).setCell ⟨g, 1, none⟩ v).alloc o).cell? ⟨g, 1, none⟩ = some v) ∧
    (∀ u v o o', ((((w.setCell ⟨g, 0, none⟩ u).setCell ⟨g, 1, none⟩ v).alloc o).alloc o').cell? ⟨g, 0, none⟩ = some u) ∧ (∀ u v o o', ((((w.setCell ⟨g, 0, none⟩ u).setCell ⟨g, 1, none⟩ v).alloc o).alloc o').cell? ⟨g, 1, none⟩ = some v) :=
  ⟨fun u v o => cell_keep (bel_alloc (Below.refl _ _) _) (two_set h0 h1 u v).1, fun u v o => cell_keep (bel_alloc (Below.refl _ _) _) (two_set h0 h1 u v).2,
   fun u v o o' => cell_keep (bel_alloc (bel_alloc (Below.refl _ _) _) _) (two_set h0 h1 u v).1, fun u v o o' => cell_keep (bel_alloc (bel_alloc (Below.refl _ _) _) _) (two_set h0 h1 u v).2⟩
set_option maxHeartbeats 4000000 in
set_option maxRecDepth 100000 in
theorem sparse_any (l : List UInt8) (w : World) (hl : l.length ≤ 100000) :
    Calls Tryz.prog 87 #[.string ⟨l.toArray⟩] w (ParsePost l w) := by
  cases hc : cutD l with
  | none =>
    have HN : Hid (itemL l = none) := by simp only [Hid, itemL, hc]
    have HC := fun W => Lib.hid (cut_no hc W (by omega))
    clear hc
    go_enter Tryz.func87, Tryz.ntmps87
    go_wp2_with fail
    refine (HC _).out.mono ?_
    rintro e1 w1 ⟨a, b, rfl, hb1⟩
    have q1 : w1.cell? ⟨w.heap.size, 0, none⟩ = some (.int .i64 0) := cell_keep hb1 (by simp [go_sem])
    have q2 : w1.cell? ⟨w.heap.size, 1, none⟩ = some (.int .i64 0) := cell_keep hb1 (by simp [go_sem])
    have f1 : w1.frozen? ⟨w.heap.size, 0, none⟩ = false := (hb1.frozen (p := ⟨w.heap.size, 0, none⟩) (by simp)).trans (by simp [go_sem])
    have f2 : w1.frozen? ⟨w.heap.size, 1, none⟩ = false := (hb1.frozen (p := ⟨w.heap.size, 1, none⟩) (by simp)).trans (by simp [go_sem])
    have HB : Hid (Below w.heap.size w w1) := bel_chain hb1 (by (repeat (first | exact Below.refl _ _ | refine bel_drewN ?_ _ | refine bel_drew ?_ | refine bel_alloc ?_ _ | refine bel_set ?_ (by simp) _)))
    clear HC hb1
    go_wp2_with fail
    refine bodyPost_ret (by simp [results, Tryz.results87, go_sem, q1, q2, (two_read q1 q2).1, (two_read q1 q2).2.1, (two_read q1 q2).2.2.1, (two_read q1 q2).2.2.2]; try rfl) rfl ?_
    exact parse_no HN.out (by repeat (first | (with_reducible exact HB.out) | (with_reducible refine bel_set ?_ (by first | omega | (dsimp only; omega)) _)))
  | some p =>
    obtain ⟨a, b⟩ := p
    have hcl := cutD_len hc
    have HC := fun W => Lib.hid (cut_yes hc W (by omega))
    match a, b, hc, hcl, HC with
    | [], [], hc, hcl, HC =>
      have HN : Hid (itemL l = none) := by simp only [Hid, itemL, hc]; rfl
      clear hc
      go_enter Tryz.func87, Tryz.ntmps87
      go_wp2_with fail
      refine (HC _).out.mono ?_
      rintro e1 w1 ⟨rfl, hb1⟩
      have q1 : w1.cell? ⟨w.heap.size, 0, none⟩ = some (.int .i64 0) := cell_keep hb1 (by simp [go_sem])
      have q2 : w1.cell? ⟨w.heap.size, 1, none⟩ = some (.int .i64 0) := cell_keep hb1 (by simp [go_sem])
      have f1 : w1.frozen? ⟨w.heap.size, 0, none⟩ = false := (hb1.frozen (p := ⟨w.heap.size, 0, none⟩) (by simp)).trans (by simp [go_sem])
      have f2 : w1.frozen? ⟨w.heap.size, 1, none⟩ = false := (hb1.frozen (p := ⟨w.heap.size, 1, none⟩) (by simp)).trans (by simp [go_sem])
      have q3 : w.heap.size < w1.heap.size := World.block_lt_of_cell? w1 ⟨w.heap.size, 0, none⟩ q1
      have HB : Hid (Below w.heap.size w w1) := bel_chain hb1 (by (repeat (first | exact Below.refl _ _ | refine bel_drewN ?_ _ | refine bel_drew ?_ | refine bel_alloc ?_ _ | refine bel_set ?_ (by simp) _)))
      clear HC hb1
      go_wp2_with fail
      refine bodyPost_ret (by simp [results, Tryz.results87, go_sem, q1, q2, (two_read q1 q2).1, (two_read q1 q2).2.1, (two_read q1 q2).2.2.1, (two_read q1 q2).2.2.2]; try rfl) rfl ?_
      exact parse_no HN.out (by repeat (first | (with_reducible exact HB.out) | (with_reducible refine bel_alloc ?_ _) | (with_reducible refine bel_drew ?_) | (with_reducible refine bel_drewN ?_ _) | (with_reducible refine bel_set ?_ (by first | omega | (dsimp only; omega)) _)))
    | [], d :: b, hc, hcl, HC =>
      cases hn : numL (d :: b) with
      | none =>
        have HN : Hid (itemL l = none) := by simp only [Hid, itemL, hc, hn]; rfl
        have HU := fun W => Lib.hid (snum_no hn W (by omega))
        clear hc hn
        go_enter Tryz.func87, Tryz.ntmps87
        go_wp2_with fail
        refine (HC _).out.mono ?_
        rintro e1 w1 ⟨rfl, hb1⟩
        have q1 : w1.cell? ⟨w.heap.size, 0, none⟩ = some (.int .i64 0) := cell_keep hb1 (by simp [go_sem])
        have q2 : w1.cell? ⟨w.heap.size, 1, none⟩ = some (.int .i64 0) := cell_keep hb1 (by simp [go_sem])
        have f1 : w1.frozen? ⟨w.heap.size, 0, none⟩ = false := (hb1.frozen (p := ⟨w.heap.size, 0, none⟩) (by simp)).trans (by simp [go_sem])
        have f2 : w1.frozen? ⟨w.heap.size, 1, none⟩ = false := (hb1.frozen (p := ⟨w.heap.size, 1, none⟩) (by simp)).trans (by simp [go_sem])
        have q3 : w.heap.size < w1.heap.size := World.block_lt_of_cell? w1 ⟨w.heap.size, 0, none⟩ q1
        have HB : Hid (Below w.heap.size w w1) := bel_chain hb1 (by (repeat (first | exact Below.refl _ _ | refine bel_drewN ?_ _ | refine bel_drew ?_ | refine bel_alloc ?_ _ | refine bel_set ?_ (by simp) _)))
        clear HC hb1
        go_wp2_with (go_at_call 134; refine (HU _).out.mono ?_; rintro e2 w2 ⟨rfl, rfl⟩)
        refine bodyPost_ret (by simp [results, Tryz.results87, go_sem, q1, q2, (two_read q1 q2).1, (two_read q1 q2).2.1, (two_read q1 q2).2.2.1, (two_read q1 q2).2.2.2]; try rfl) rfl ?_
        exact parse_no HN.out (by repeat (first | (with_reducible exact HB.out) | (with_reducible refine bel_alloc ?_ _) | (with_reducible refine bel_drew ?_) | (with_reducible refine bel_drewN ?_ _) | (with_reducible refine bel_set ?_ (by first | omega | (dsimp only; omega)) _)))
      | some y =>
        have hr := itemL_right (l := l) (x := (-1, y)) (by simp only [itemL, hc, hn]; rfl)
        have HN : Hid (itemL l = if true = true then some (-1, y) else none) := by simp only [Hid, itemL, hc, hn]; rfl
        have HU := fun W => Lib.hid (snum_yes hn W (by omega))
        have HR := fun W => Lib.hid (sright_any (-1) y W)
        rw [hr] at HR
        clear hc hn hr
        go_enter Tryz.func87, Tryz.ntmps87
        go_wp2_with fail
        refine (HC _).out.mono ?_
        rintro e1 w1 ⟨rfl, hb1⟩
        have q1 : w1.cell? ⟨w.heap.size, 0, none⟩ = some (.int .i64 0) := cell_keep hb1 (by simp [go_sem])
        have q2 : w1.cell? ⟨w.heap.size, 1, none⟩ = some (.int .i64 0) := cell_keep hb1 (by simp [go_sem])
        have f1 : w1.frozen? ⟨w.heap.size, 0, none⟩ = false := (hb1.frozen (p := ⟨w.heap.size, 0, none⟩) (by simp)).trans (by simp [go_sem])
        have f2 : w1.frozen? ⟨w.heap.size, 1, none⟩ = false := (hb1.frozen (p := ⟨w.heap.size, 1, none⟩) (by simp)).trans (by simp [go_sem])
        have q3 : w.heap.size < w1.heap.size := World.block_lt_of_cell? w1 ⟨w.heap.size, 0, none⟩ q1
        have HB : Hid (Below w.heap.size w w1) := bel_chain hb1 (by (repeat (first | exact Below.refl _ _ | refine bel_drewN ?_ _ | refine bel_drew ?_ | refine bel_alloc ?_ _ | refine bel_set ?_ (by simp) _)))
        clear HC hb1
        go_wp2_with (go_at_call 134; refine (HU _).out.mono ?_; rintro e2 w2 ⟨rfl, rfl⟩)
        go_region_with ((first
          | (go_at_call 93; refine (HR _).out.mono ?_; rintro e2 w2 ⟨rfl, rfl⟩)))
        all_goals go_wp2_with fail
        all_goals
          refine bodyPost_ret (by simp [results, Tryz.results87, go_sem, q1, q2, (two_read q1 q2).1, (two_read q1 q2).2.1, (two_read q1 q2).2.2.1, (two_read q1 q2).2.2.2]; try rfl) rfl ?_
          exact parse_yes HN.out (by repeat (first | (with_reducible exact HB.out) | (with_reducible refine bel_alloc ?_ _) | (with_reducible refine bel_drew ?_) | (with_reducible refine bel_drewN ?_ _) | (with_reducible refine bel_set ?_ (by first | omega | (dsimp only; omega)) _)))
    | c :: a, [], hc, hcl, HC =>
      cases hn : numL (c :: a) with
      | none =>
        have HN : Hid (itemL l = none) := by simp only [Hid, itemL, hc, hn]; rfl
        have HU := fun W => Lib.hid (snum_no hn W (by omega))
        clear hc hn
        go_enter Tryz.func87, Tryz.ntmps87
        go_wp2_with fail
        refine (HC _).out.mono ?_
        rintro e1 w1 ⟨rfl, hb1⟩
        have q1 : w1.cell? ⟨w.heap.size, 0, none⟩ = some (.int .i64 0) := cell_keep hb1 (by simp [go_sem])
        have q2 : w1.cell? ⟨w.heap.size, 1, none⟩ = some (.int .i64 0) := cell_keep hb1 (by simp [go_sem])
        have f1 : w1.frozen? ⟨w.heap.size, 0, none⟩ = false := (hb1.frozen (p := ⟨w.heap.size, 0, none⟩) (by simp)).trans (by simp [go_sem])
        have f2 : w1.frozen? ⟨w.heap.size, 1, none⟩ = false := (hb1.frozen (p := ⟨w.heap.size, 1, none⟩) (by simp)).trans (by simp [go_sem])
        have q3 : w.heap.size < w1.heap.size := World.block_lt_of_cell? w1 ⟨w.heap.size, 0, none⟩ q1
        have HB : Hid (Below w.heap.size w w1) := bel_chain hb1 (by (repeat (first | exact Below.refl _ _ | refine bel_drewN ?_ _ | refine bel_drew ?_ | refine bel_alloc ?_ _ | refine bel_set ?_ (by simp) _)))
        clear HC hb1
        go_wp2_with (go_at_call 134; refine (HU _).out.mono ?_; rintro e2 w2 ⟨rfl, rfl⟩)
        refine bodyPost_ret (by simp [results, Tryz.results87, go_sem, q1, q2, (two_read q1 q2).1, (two_read q1 q2).2.1, (two_read q1 q2).2.2.1, (two_read q1 q2).2.2.2]; try rfl) rfl ?_
        exact parse_no HN.out (by repeat (first | (with_reducible exact HB.out) | (with_reducible refine bel_alloc ?_ _) | (with_reducible refine bel_drew ?_) | (with_reducible refine bel_drewN ?_ _) | (with_reducible refine bel_set ?_ (by first | omega | (dsimp only; omega)) _)))
      | some y =>
        have hr := itemL_right (l := l) (x := (y, -1)) (by simp only [itemL, hc, hn]; rfl)
        have HN : Hid (itemL l = if true = true then some (y, -1) else none) := by simp only [Hid, itemL, hc, hn]; rfl
        have HU := fun W => Lib.hid (snum_yes hn W (by omega))
        have HR := fun W => Lib.hid (sright_any y (-1) W)
        rw [hr] at HR
        clear hc hn hr
        go_enter Tryz.func87, Tryz.ntmps87
        go_wp2_with fail
        refine (HC _).out.mono ?_
        rintro e1 w1 ⟨rfl, hb1⟩
        have q1 : w1.cell? ⟨w.heap.size, 0, none⟩ = some (.int .i64 0) := cell_keep hb1 (by simp [go_sem])
        have q2 : w1.cell? ⟨w.heap.size, 1, none⟩ = some (.int .i64 0) := cell_keep hb1 (by simp [go_sem])
        have f1 : w1.frozen? ⟨w.heap.size, 0, none⟩ = false := (hb1.frozen (p := ⟨w.heap.size, 0, none⟩) (by simp)).trans (by simp [go_sem])
        have f2 : w1.frozen? ⟨w.heap.size, 1, none⟩ = false := (hb1.frozen (p := ⟨w.heap.size, 1, none⟩) (by simp)).trans (by simp [go_sem])
        have q3 : w.heap.size < w1.heap.size := World.block_lt_of_cell? w1 ⟨w.heap.size, 0, none⟩ q1
        have HB : Hid (Below w.heap.size w w1) := bel_chain hb1 (by (repeat (first | exact Below.refl _ _ | refine bel_drewN ?_ _ | refine bel_drew ?_ | refine bel_alloc ?_ _ | refine bel_set ?_ (by simp) _)))
        clear HC hb1
        go_wp2_with (go_at_call 134; refine (HU _).out.mono ?_; rintro e2 w2 ⟨rfl, rfl⟩)
        go_region_with ((first
          | (go_at_call 93; refine (HR _).out.mono ?_; rintro e2 w2 ⟨rfl, rfl⟩)))
        all_goals go_wp2_with fail
        all_goals
          refine bodyPost_ret (by simp [results, Tryz.results87, go_sem, q1, q2, (two_read q1 q2).1, (two_read q1 q2).2.1, (two_read q1 q2).2.2.1, (two_read q1 q2).2.2.2]; try rfl) rfl ?_
          exact parse_yes HN.out (by repeat (first | (with_reducible exact HB.out) | (with_reducible refine bel_alloc ?_ _) | (with_reducible refine bel_drew ?_) | (with_reducible refine bel_drewN ?_ _) | (with_reducible refine bel_set ?_ (by first | omega | (dsimp only; omega)) _)))
    | c :: a, d :: b, hc, hcl, HC =>
      cases hn : numL (c :: a) with
      | none =>
        have HN : Hid (itemL l = none) := by simp only [Hid, itemL, hc, hn]
        have HU := fun W => Lib.hid (snum_no hn W (by omega))
        clear hc hn
        go_enter Tryz.func87, Tryz.ntmps87
        go_wp2_with fail
        refine (HC _).out.mono ?_
        rintro e1 w1 ⟨rfl, hb1⟩
        have q1 : w1.cell? ⟨w.heap.size, 0, none⟩ = some (.int .i64 0) := cell_keep hb1 (by simp [go_sem])
        have q2 : w1.cell? ⟨w.heap.size, 1, none⟩ = some (.int .i64 0) := cell_keep hb1 (by simp [go_sem])
        have f1 : w1.frozen? ⟨w.heap.size, 0, none⟩ = false := (hb1.frozen (p := ⟨w.heap.size, 0, none⟩) (by simp)).trans (by simp [go_sem])
        have f2 : w1.frozen? ⟨w.heap.size, 1, none⟩ = false := (hb1.frozen (p := ⟨w.heap.size, 1, none⟩) (by simp)).trans (by simp [go_sem])
        have q3 : w.heap.size < w1.heap.size := World.block_lt_of_cell? w1 ⟨w.heap.size, 0, none⟩ q1
        have HB : Hid (Below w.heap.size w w1) := bel_chain hb1 (by (repeat (first | exact Below.refl _ _ | refine bel_drewN ?_ _ | refine bel_drew ?_ | refine bel_alloc ?_ _ | refine bel_set ?_ (by simp) _)))
        clear HC hb1
        go_wp2_with (go_at_call 134; refine (HU _).out.mono ?_; rintro e2 w2 ⟨rfl, rfl⟩)
        refine bodyPost_ret (by simp [results, Tryz.results87, go_sem, q1, q2, (two_read q1 q2).1, (two_read q1 q2).2.1, (two_read q1 q2).2.2.1, (two_read q1 q2).2.2.2]; try rfl) rfl ?_
        exact parse_no HN.out (by repeat (first | (with_reducible exact HB.out) | (with_reducible refine bel_alloc ?_ _) | (with_reducible refine bel_drew ?_) | (with_reducible refine bel_drewN ?_ _) | (with_reducible refine bel_set ?_ (by first | omega | (dsimp only; omega)) _)))
      | some y =>
        cases hn2 : numL (d :: b) with
        | none =>
          have HN : Hid (itemL l = none) := by simp only [Hid, itemL, hc, hn, hn2]
          have HU := fun W => Lib.hid (snum_yes hn W (by omega))
          have HV := fun W => Lib.hid (snum_no hn2 W (by omega))
          clear hc hn hn2
          go_enter Tryz.func87, Tryz.ntmps87
          go_wp2_with fail
          refine (HC _).out.mono ?_
          rintro e1 w1 ⟨rfl, hb1⟩
          have q1 : w1.cell? ⟨w.heap.size, 0, none⟩ = some (.int .i64 0) := cell_keep hb1 (by simp [go_sem])
          have q2 : w1.cell? ⟨w.heap.size, 1, none⟩ = some (.int .i64 0) := cell_keep hb1 (by simp [go_sem])
          have f1 : w1.frozen? ⟨w.heap.size, 0, none⟩ = false := (hb1.frozen (p := ⟨w.heap.size, 0, none⟩) (by simp)).trans (by simp [go_sem])
          have f2 : w1.frozen? ⟨w.heap.size, 1, none⟩ = false := (hb1.frozen (p := ⟨w.heap.size, 1, none⟩) (by simp)).trans (by simp [go_sem])
          have q3 : w.heap.size < w1.heap.size := World.block_lt_of_cell? w1 ⟨w.heap.size, 0, none⟩ q1
          have HB : Hid (Below w.heap.size w w1) := bel_chain hb1 (by (repeat (first | exact Below.refl _ _ | refine bel_drewN ?_ _ | refine bel_drew ?_ | refine bel_alloc ?_ _ | refine bel_set ?_ (by simp) _)))
          clear HC hb1
          go_wp2_with fail
          refine (HU _).out.mono ?_
          rintro e2 w2 ⟨rfl, rfl⟩
          go_wp2_with fail
          refine (HV _).out.mono ?_
          rintro e3 w3 ⟨rfl, rfl⟩
          go_wp2_with fail
          refine bodyPost_ret (by simp [results, Tryz.results87, go_sem, q1, q2, (two_read q1 q2).1, (two_read q1 q2).2.1, (two_read q1 q2).2.2.1, (two_read q1 q2).2.2.2]; try rfl) rfl ?_
          exact parse_no HN.out (by repeat (first | (with_reducible exact HB.out) | (with_reducible refine bel_alloc ?_ _) | (with_reducible refine bel_drew ?_) | (with_reducible refine bel_drewN ?_ _) | (with_reducible refine bel_set ?_ (by first | omega | (dsimp only; omega)) _)))
        | some z =>
          have hr : rightR (y, z) = decide (y ≤ z) := by
            have h1 := numL_range hn
            have h2 := numL_range hn2
            rw [Bool.eq_iff_iff, rightR_iff]; simp; omega
          have HN : Hid (itemL l = if decide (y ≤ z) = true then some (y, z) else none) := by simp only [Hid, itemL, hc, hn, hn2, decide_eq_true_eq]
          have HU := fun W => Lib.hid (snum_yes hn W (by omega))
          have HV := fun W => Lib.hid (snum_yes hn2 W (by omega))
          have HR := fun W => Lib.hid (sright_any y z W)
          rw [hr] at HR
          clear hc hn hn2 hr
          generalize decide (y ≤ z) = t at HN HR
          go_enter Tryz.func87, Tryz.ntmps87
          go_wp2_with fail
          refine (HC _).out.mono ?_
          rintro e1 w1 ⟨rfl, hb1⟩
          have q1 : w1.cell? ⟨w.heap.size, 0, none⟩ = some (.int .i64 0) := cell_keep hb1 (by simp [go_sem])
          have q2 : w1.cell? ⟨w.heap.size, 1, none⟩ = some (.int .i64 0) := cell_keep hb1 (by simp [go_sem])
          have f1 : w1.frozen? ⟨w.heap.size, 0, none⟩ = false := (hb1.frozen (p := ⟨w.heap.size, 0, none⟩) (by simp)).trans (by simp [go_sem])
          have f2 : w1.frozen? ⟨w.heap.size, 1, none⟩ = false := (hb1.frozen (p := ⟨w.heap.size, 1, none⟩) (by simp)).trans (by simp [go_sem])
          have q3 : w.heap.size < w1.heap.size := World.block_lt_of_cell? w1 ⟨w.heap.size, 0, none⟩ q1
          have HB : Hid (Below w.heap.size w w1) := bel_chain hb1 (by (repeat (first | exact Below.refl _ _ | refine bel_drewN ?_ _ | refine bel_drew ?_ | refine bel_alloc ?_ _ | refine bel_set ?_ (by simp) _)))
          clear HC hb1
          go_wp2_with fail
          refine (HU _).out.mono ?_
          rintro e2 w2 ⟨rfl, rfl⟩
          go_wp2_with fail
          refine (HV _).out.mono ?_
          rintro e3 w3 ⟨rfl, rfl⟩
          go_wp2_with fail
          go_region_with ((first
            | (go_at_call 93; refine (HR _).out.mono ?_; rintro e2 w2 ⟨rfl, rfl⟩)))
          all_goals go_wp2_with fail
          all_goals
            refine bodyPost_ret (by simp [results, Tryz.results87, go_sem, q1, q2, (two_read q1 q2).1, (two_read q1 q2).2.1, (two_read q1 q2).2.2.1, (two_read q1 q2).2.2.2]; try rfl) rfl ?_
            exact parse_yes HN.out (by repeat (first | (with_reducible exact HB.out) | (with_reducible refine bel_alloc ?_ _) | (with_reducible refine bel_drew ?_) | (with_reducible refine bel_drewN ?_ _) | (with_reducible refine bel_set ?_ (by first | omega | (dsimp only; omega)) _)))
end Go.Proofs.YtfpfdgljhcpkpaaGreatDoor
