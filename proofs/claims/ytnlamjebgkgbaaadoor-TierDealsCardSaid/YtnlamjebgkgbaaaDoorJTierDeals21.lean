/- Rows of points, and their sort. -/
import Derived.Test.YtnlamjebgkgbaaaDoorJTierDeals3
import Derived.Test.YtnlamjebgkgbaaaDoorJTierDeals4
import Derived.Test.YtnlamjebgkgbaaaDoorJTierDeals19
import Derived.Deep.RegionHeld3
import Derived.Outline
namespace Go.Proofs.YtnlamjebgkgbaaaDoor
open Go.RowKit Go.Shelf Go.Sort

def encP (x : Pt) : List Value := [.int .u64 (x.1 : Int), .string ⟨x.2.toArray⟩]
def ptCells (L : List Pt) : List Value := L.flatMap encP
theorem ptCells_cons (x : Pt) (r : List Pt) : ptCells (x :: r) = .int .u64 (x.1 : Int) :: .string ⟨x.2.toArray⟩ :: ptCells r := rfl
theorem ptCells_length : ∀ (L : List Pt), (ptCells L).length = L.length * 2
  | [] => rfl
  | x :: r => by rw [ptCells_cons]; simp [ptCells_length r]; omega
theorem ptCells_append (a b : List Pt) : ptCells (a ++ b) = ptCells a ++ ptCells b := by unfold ptCells; simp
theorem ptCells_at : ∀ (L : List Pt) (k : Nat) (x : Pt), L[k]? = some x → (ptCells L)[k * 2]? = some (.int .u64 (x.1 : Int)) ∧ (ptCells L)[k * 2 + 1]? = some (.string ⟨x.2.toArray⟩)
  | [], k, x, h => by simp at h
  | y :: r, 0, x, h => by simp at h; subst h; simp [ptCells_cons]
  | y :: r, k + 1, x, h => by
    have := ptCells_at r k x (by simpa using h)
    rw [ptCells_cons, show (k + 1) * 2 = k * 2 + 2 from by omega]
    simpa using this
/-- A row of points of the call's own. -/
def OwnPt (w : World) (base : Nat) (A : Option Addr) (c : Nat) (L : List Pt) : Prop := w.ownsRow base 92 2 (.slice A L.length c) L.length (ptCells L)
theorem OwnPt.nil (w : World) (base : Nat) : OwnPt w base none 0 [] := World.ownsRow_nil w base _ _
theorem OwnPt.at_ {w : World} {base : Nat} {A : Option Addr} {c : Nat} {L : List Pt} (h : OwnPt w base A c L) (hn : 0 < L.length) : ∃ g, A = some ⟨g, 0, none⟩ ∧ base ≤ g ∧ g < w.heap.size := by
  obtain ⟨g, cap, hv, hb, hlt⟩ := World.ownsRow.form h hn
  injection hv with hA
  exact ⟨g, hA, hb, hlt⟩
theorem OwnPt.alloc {w : World} {base : Nat} {A : Option Addr} {c : Nat} {L : List Pt} (h : OwnPt w base A c L) (o : Obj) : OwnPt (w.alloc o) base A c L := World.ownsRow.alloc h o
theorem OwnPt.drew {w : World} {base : Nat} {A : Option Addr} {c : Nat} {L : List Pt} (h : OwnPt w base A c L) : OwnPt w.drew base A c L := World.ownsRow.drew h
theorem OwnPt.below {w w' : World} {base : Nat} {A : Option Addr} {c : Nat} {L : List Pt} (h : OwnPt w base A c L) (hb : Below w.heap.size w w') : OwnPt w' base A c L :=
  World.ownsRow.kept (row := none) h ⟨hb.os, hb.tape, hb.output, hb.size, fun k hk _ => hb.block k hk⟩ (by cases A <;> simp [Value.ownBlock])
/-- A slice that reads as a list of points. -/
structure SpPt (w : World) (A : Option Addr) (L : List Pt) : Prop where
  at' : ∀ k (h : k < L.length), ∃ b off, A = some ⟨b, off, none⟩ ∧ b < w.heap.size ∧ w.cell? ⟨b, off + k * 2, none⟩ = some (.int .u64 ((L[k]).1 : Int)) ∧ w.cell? ⟨b, off + k * 2 + 1, none⟩ = some (.string ⟨(L[k]).2.toArray⟩)
theorem SpPt.below {w w' : World} {A : Option Addr} {L : List Pt} (h : SpPt w A L) (hb : Below w.heap.size w w') : SpPt w' A L :=
  ⟨fun k hk => by
    obtain ⟨b, off, e, hl, h1, h2⟩ := h.at' k hk
    exact ⟨b, off, e, Nat.lt_of_lt_of_le hl hb.size, cell_keep hb h1, cell_keep hb h2⟩⟩
theorem OwnPt.cells {w : World} {base g c : Nat} {L : List Pt} (h : OwnPt w base (some ⟨g, 0, none⟩) c L) {k : Nat} (hk : k < L.length) : w.cell? ⟨g, k * 2, none⟩ = some (.int .u64 ((L[k]).1 : Int)) ∧ w.cell? ⟨g, k * 2 + 1, none⟩ = some (.string ⟨(L[k]).2.toArray⟩) := by
  have hl := ptCells_length L
  obtain ⟨a, b⟩ := ptCells_at L k L[k] (List.getElem?_eq_getElem hk)
  exact ⟨(World.ownsRow.cellAt h _ (by omega)).trans a, (World.ownsRow.cellAt h _ (by omega)).trans b⟩
theorem OwnPt.spf {w : World} {base : Nat} {A : Option Addr} {c : Nat} {L : List Pt} (h : OwnPt w base A c L) : SpPt w A L :=
  ⟨fun k hk => by
    obtain ⟨g, rfl, _, hg⟩ := h.at_ (by omega)
    obtain ⟨h1, h2⟩ := h.cells hk
    exact ⟨g, 0, rfl, hg, by simpa using h1, by simpa using h2⟩⟩
theorem OwnPt.holdsK {w : World} {base g c : Nat} {L : List Pt} (h : OwnPt w base (some ⟨g, 0, none⟩) c L) : HoldsK encP 2 w g 0 L.toArray := by
  intro j hj
  simp at hj
  refine ⟨?_, World.ownsRow.frozenAt h _ |> fun hf => by simpa using hf⟩
  have hi : j / 2 < L.length := by omega
  rw [Nat.zero_add, get_flatK _ _ _ _ (by simpa using hj)]
  have e1 : (L.toArray)[j / 2]! = L[j / 2] := by simp [hi]
  rw [e1]
  obtain ⟨h1, h2⟩ := h.cells hi
  obtain ⟨x, hx⟩ : ∃ x, L[j / 2] = x := ⟨_, rfl⟩
  rw [hx] at h1 h2 ⊢
  have hm : j % 2 = 0 ∨ j % 2 = 1 := by omega
  rcases hm with hm | hm
  · rw [show j / 2 * 2 = j from by omega] at h1
    rw [hm, h1]; rfl
  · rw [show j / 2 * 2 + 1 = j from by omega] at h2
    rw [hm, h2]; rfl
theorem pt_flat (d : Array Pt) {j : Nat} (hj : j < d.size * 2) : (ptCells d.toList)[j]? = some ((flatK encP 2 d)[j]!) := by
  rw [get_flatK _ _ _ _ hj]
  have hi : j / 2 < d.size := by omega
  have e1 : d[j / 2]! = d[j / 2] := getElem!_pos d (j / 2) hi
  rw [e1]
  obtain ⟨x, hx⟩ : ∃ x, d[j / 2] = x := ⟨_, rfl⟩
  have hx' : d.toList[j / 2]? = some x := by rw [Array.getElem?_toList, Array.getElem?_eq_getElem hi, hx]
  obtain ⟨a, b⟩ := ptCells_at _ _ _ hx'
  rw [hx]
  have hm : j % 2 = 0 ∨ j % 2 = 1 := by omega
  rcases hm with h | h
  · rw [show j / 2 * 2 = j from by omega] at a; rw [a, h]; rfl
  · rw [show j / 2 * 2 + 1 = j from by omega] at b; rw [b, h]; rfl
theorem ownPt_sorted {w : World} {base g c n : Nat} {L : List Pt} {d : Array Pt} {os : Array Obj} (h : OwnPt w base (some ⟨g, 0, none⟩) c L) (hs : d.size = L.length) : OwnPt (sortWorldK encP 2 w g 0 n d os) base (some ⟨g, 0, none⟩) c d.toList := by
  have hln : d.toList.length = L.length := by simpa using hs
  unfold OwnPt at *
  rw [hln]
  refine ⟨by rw [ptCells_length]; omega, ?_⟩
  rcases h.2 with ⟨hv, _⟩ | ⟨g', cap, cur, hv, hb, hg, hnc, hcm, hcs, htake⟩
  · cases hv
  · injection hv with hv1 hv2 hv3
    injection hv1 with hv1
    injection hv1 with hv1
    subst hv1 hv3
    have hgs : g < w.heap.size := (Array.getElem?_eq_some_iff.1 hg).1
    refine .inr ⟨g, c, putCells id 0 (flatK encP 2 d) cur, rfl, hb, ?_, hnc, hcm, by simp [putCells, hcs], ?_⟩
    · unfold sortWorldK putRowK
      rw [heap_grow_old _ _ (by simpa [putRow, mapBlock, Sort.ahead] using hgs)]
      simp [putRow, mapBlock, Sort.ahead, Array.getElem?_modify, hg, onCells]
    · have hfs : (flatK encP 2 d).size = d.size * 2 := by simp [flatK]
      apply List.ext_getElem?
      intro j
      by_cases hj : j < L.length * 2
      · rw [List.getElem?_take_of_lt hj, Array.getElem?_toList, pt_flat d (by omega)]
        have hjc : j < cur.size := by rw [hcs]; omega
        simp [putCells, hjc, hfs]
        intro hh; omega
      · rw [List.getElem?_take_eq_none (by omega), List.getElem?_eq_none (by rw [ptCells_length]; omega)]
theorem grownBy_sortedPt {w : World} {g n : Nat} {os : Array Obj} (d : Array Pt) : w.grownBy (sortWorldK encP 2 w g 0 n d os) (some g) := by
  unfold sortWorldK putRowK
  refine ⟨rfl, rfl, rfl, by simp, fun k hk hne => ?_⟩
  rw [heap_grow_old _ _ (by simpa using hk)]
  have : g ≠ k := fun e => hne (by rw [e])
  simp [putRow, mapBlock, Sort.ahead, Array.getElem?_modify, this]
/-- Texts in order, as numbers. -/
def cmpT (a b : List UInt8) : Int := if a < b then -1 else if b < a then 1 else 0
def cfPt (x y : Pt) : Int := if x.1 < y.1 then -1 else if y.1 < x.1 then 1 else cmpT x.2 y.2
def ltPt (x y : Pt) : Bool := decide (x.1 < y.1) || (decide (x.1 = y.1) && decide (x.2 < y.2))
theorem ltPt_of (x y : Pt) : ltOf cfPt x y = ltPt x y := by
  unfold ltOf cfPt ltPt cmpT
  by_cases h1 : x.1 < y.1
  · simp [h1]
  · by_cases h2 : y.1 < x.1
    · have : ¬ x.1 = y.1 := by omega
      simp [h1, h2, this]
    · have : x.1 = y.1 := by omega
      by_cases h3 : x.2 < y.2
      · simp [this, h3]
      · by_cases h4 : y.2 < x.2 <;> simp [this, h3, h4]
theorem swoPt : SWO (ltOf cfPt) where
  irrefl x := by rw [ltPt_of]; unfold ltPt; simp [List.lt_irrefl]
  trans x y z h1 h2 := by
    rw [ltPt_of] at *
    unfold ltPt at *
    simp only [Bool.or_eq_true, Bool.and_eq_true, decide_eq_true_eq] at *
    rcases h1 with h1 | ⟨h1, h1'⟩ <;> rcases h2 with h2 | ⟨h2, h2'⟩
    · exact .inl (by omega)
    · exact .inl (by omega)
    · exact .inl (by omega)
    · exact .inr ⟨by omega, List.lt_trans h1' h2'⟩
  ntrans x y z h1 h2 := by
    rw [ltPt_of] at *
    unfold ltPt at *
    simp only [Bool.or_eq_false_iff, Bool.and_eq_false_iff, decide_eq_false_iff_not] at *
    obtain ⟨a1, b1⟩ := h1
    obtain ⟨a2, b2⟩ := h2
    refine ⟨by omega, ?_⟩
    by_cases e : x.1 = z.1
    · have e1 : x.1 = y.1 := by omega
      have e2 : y.1 = z.1 := by omega
      exact .inr (List.not_lt.2 (List.le_trans (List.not_lt.1 (b2.resolve_left (by simp [e2]))) (List.not_lt.1 (b1.resolve_left (by simp [e1])))))
    · exact .inl e
theorem isNaNu_any (x : Int) (W : World) : Calls Tryd.prog 48 #[.int .u64 x] W fun e w' => e = .returned (.bool false) ∧ w' = W := by
  have h : (x != x) = false := by simp
  go_enter Tryd.func48, Tryd.ntmps48
  go_wp2_with fail
  go_ret
  exact ⟨rfl, rfl⟩
theorem isNaNs_any (x : ByteArray) (W : World) : Calls Tryd.prog 58 #[.string x] W fun e w' => e = .returned (.bool false) ∧ w' = W := by
  go_enter Tryd.func58, Tryd.ntmps58
  go_wp2_with fail
  go_ret
  exact ⟨by simp, rfl⟩
theorem cmpU_any (x y : Nat) (W : World) : Calls Tryd.prog 36 #[.int .u64 (x : Int), .int .u64 (y : Int)] W fun e w' => e = .returned (.int .i64 (if x < y then -1 else if y < x then 1 else 0)) ∧ w' = W := by
  have hcon := fun z W' => isNaNu_any z W'
  go_enter Tryd.func36, Tryd.ntmps36
  by_cases h1 : x < y
  · have h1' : (x : Int) < (y : Int) := by omega
    go_wp2_with (go_at_call 48; refine (hcon _ _).mono ?_; rintro e w' ⟨rfl, rfl⟩)
    go_ret
    exact ⟨by first | rfl | (simp only [if_pos h1]; rfl), rfl⟩
  · have h1' : ¬ (x : Int) < (y : Int) := by omega
    by_cases h2 : y < x
    · have h2' : (y : Int) < (x : Int) := by omega
      go_wp2_with (go_at_call 48; refine (hcon _ _).mono ?_; rintro e w' ⟨rfl, rfl⟩)
      go_ret
      exact ⟨by first | rfl | (simp only [if_neg h1, if_pos h2]; rfl), rfl⟩
    · have h2' : ¬ (y : Int) < (x : Int) := by omega
      go_wp2_with (go_at_call 48; refine (hcon _ _).mono ?_; rintro e w' ⟨rfl, rfl⟩)
      go_ret
      exact ⟨by first | rfl | (simp only [if_neg h1, if_neg h2]; rfl), rfl⟩
theorem tx_list (l : List UInt8) : (⟨l.toArray⟩ : ByteArray).toList = l := by rw [Lib.toList_data]
theorem cmpS_any (x y : List UInt8) (W : World) : Calls Tryd.prog 47 #[.string ⟨x.toArray⟩, .string ⟨y.toArray⟩] W fun e w' => e = .returned (.int .i64 (cmpT x y)) ∧ w' = W := by
  have hcon := fun z W' => isNaNs_any z W'
  have hl : Op.bytesLess x y = decide (x < y) := less_bytes x y
  have he : (x == y) = decide (x = y) := by rw [Bool.eq_iff_iff]; simp
  go_enter Tryd.func47, Tryd.ntmps47
  by_cases h1 : x < y
  · have d1 : decide (x < y) = true := by simp [h1]
    rw [d1] at hl
    go_wp2_with (go_at_call 58; refine (hcon _ _).mono ?_; rintro e w' ⟨rfl, rfl⟩)
    go_ret
    exact ⟨by unfold cmpT; rw [if_pos h1]; rfl, rfl⟩
  · have d1 : decide (x < y) = false := by simp [h1]
    rw [d1] at hl
    by_cases h2 : y < x
    · have d2 : decide (x = y) = false := by
        rw [decide_eq_false_iff_not]; intro e; subst e; exact List.lt_irrefl x h2
      rw [d2] at he
      go_wp2_with (go_at_call 58; refine (hcon _ _).mono ?_; rintro e w' ⟨rfl, rfl⟩)
      go_ret
      exact ⟨by unfold cmpT; rw [if_neg h1, if_pos h2]; rfl, rfl⟩
    · have d2 : decide (x = y) = true := by
        rw [decide_eq_true_iff]; exact List.le_antisymm (List.not_lt.1 h2) (List.not_lt.1 h1)
      rw [d2] at he
      go_wp2_with (go_at_call 58; refine (hcon _ _).mono ?_; rintro e w' ⟨rfl, rfl⟩)
      go_ret
      exact ⟨by unfold cmpT; rw [if_neg h1, if_neg h2]; rfl, rfl⟩
theorem orInt_any (g : Nat) (a b : Int) (w : World) (h0 : w.cell? ⟨g, 0, none⟩ = some (.int .i64 a)) (h1 : w.cell? ⟨g, 1, none⟩ = some (.int .i64 b)) (c : Nat) :
    Calls Tryd.prog 46 #[.slice (some ⟨g, 0, none⟩) 2 c] w fun e w' => e = .returned (.int .i64 (if a = 0 then b else a)) ∧ w' = w := by
  go_enter Tryd.func46, Tryd.ntmps46
  go_wp2_with fail
  go_loopw [5, 8] (fun _ i wr => (i = .int .i64 0 ∨ (i = .int .i64 1 ∧ a = 0) ∨ (i = .int .i64 2 ∧ a = 0 ∧ b = 0)) ∧ wr = w) (fun _ i _ => 2 - (intOf i).toNat)
  case atStart => exact ⟨.inl rfl, rfl⟩
  case round =>
    obtain ⟨hi, rfl⟩ := hrel
    rcases hi with rfl | ⟨rfl, h2⟩ | ⟨rfl, h2, h3⟩
    · by_cases ha : a = 0
      · have hb : (a != 0) = false := by simp [ha]
        go_wp2_with fail
        go_roundw
        case rel => exact ⟨.inr (.inl ⟨by go_num, ha⟩), by first | trivial | rfl⟩
        case measure => simp [intOf]
      · have hb : (a != 0) = true := by simp [ha]
        go_wp2_with fail
        go_ret
        exact ⟨by first | rfl | simp [ha], rfl⟩
    · by_cases ha : b = 0
      · have hb : (b != 0) = false := by simp [ha]
        go_wp2_with fail
        go_roundw
        case rel => exact ⟨.inr (.inr ⟨by go_num, h2, ha⟩), by first | trivial | rfl⟩
        case measure => simp [intOf]
      · have hb : (b != 0) = true := by simp [ha]
        go_wp2_with fail
        go_ret
        exact ⟨by first | rfl | simp [h2], rfl⟩
    · go_wp2_with fail
      go_ret
      exact ⟨by first | rfl | simp [h2, h3], rfl⟩
theorem or_cf (x y : Pt) : (if (if x.1 < y.1 then (-1 : Int) else if y.1 < x.1 then 1 else 0) = 0 then cmpT x.2 y.2 else (if x.1 < y.1 then (-1 : Int) else if y.1 < x.1 then 1 else 0)) = cfPt x y := by
  unfold cfPt
  by_cases h1 : x.1 < y.1
  · simp [h1]
  · by_cases h2 : y.1 < x.1 <;> simp [h1, h2]
set_option maxHeartbeats 2000000 in
theorem add1_any (x y : Pt) (W : World) : Calls Tryd.prog 45 #[.agg #[.int .u64 (x.1 : Int), .string ⟨x.2.toArray⟩], .agg #[.int .u64 (y.1 : Int), .string ⟨y.2.toArray⟩]] W fun e w' => e = .returned (.int .i64 (cfPt x y)) ∧ ∃ q os', w' = grow (W.drewN q) os' := by
  have HU := fun W' => Lib.hid (cmpU_any x.1 y.1 W')
  have HS := fun W' => Lib.hid (cmpS_any x.2 y.2 W')
  rw [← or_cf]
  generalize (if x.1 < y.1 then (-1 : Int) else if y.1 < x.1 then 1 else 0) = r1 at HU ⊢
  generalize cmpT x.2 y.2 = r2 at HS ⊢
  have HO := fun g w h0 h1 c => Lib.hid (orInt_any g r1 r2 w h0 h1 c)
  generalize (if r1 = 0 then r2 else r1) = r3 at HO ⊢
  go_enter Tryd.func45, Tryd.ntmps45
  go_wp2_with fail
  obtain ⟨V, hV⟩ : ∃ V, World.alloc (World.alloc W (.cells #[.int .u64 (x.1 : Int), .string ⟨x.2.toArray⟩] 92)) (.cells #[.int .u64 (y.1 : Int), .string ⟨y.2.toArray⟩] 92) = V := ⟨_, rfl⟩
  have c1 : V.cell? ⟨W.heap.size, 0, none⟩ = some (.int .u64 (x.1 : Int)) := by rw [← hV]; simp [go_sem]
  have c2 : V.cell? ⟨W.heap.size, 1, none⟩ = some (.string ⟨x.2.toArray⟩) := by rw [← hV]; simp [go_sem]
  have c3 : V.cell? ⟨W.heap.size + 1, 0, none⟩ = some (.int .u64 (y.1 : Int)) := by rw [← hV]; simp [go_sem]
  have c4 : V.cell? ⟨W.heap.size + 1, 1, none⟩ = some (.string ⟨y.2.toArray⟩) := by rw [← hV]; simp [go_sem]
  have hVs : V.heap.size = W.heap.size + 2 := by rw [← hV]; simp
  have hG : ∃ q os', V = grow (W.drewN q) os' := ⟨0, _, by rw [← hV, alloc_eq_grow, alloc_eq_grow, grow_grow]; rfl⟩
  have HG := Lib.hid hG
  rw [hV]
  clear hV hG
  go_region_held3 (fun w' => w'.cell? ⟨W.heap.size, 0, none⟩ = some (.int .u64 (x.1 : Int)) ∧ w'.cell? ⟨W.heap.size, 1, none⟩ = some (.string ⟨x.2.toArray⟩) ∧ w'.cell? ⟨W.heap.size + 1, 0, none⟩ = some (.int .u64 (y.1 : Int)) ∧ w'.cell? ⟨W.heap.size + 1, 1, none⟩ = some (.string ⟨y.2.toArray⟩))
    (first | exact ⟨c1, c2, c3, c4⟩ | exact ⟨cell_keep (W := V) (by (repeat (first | exact Below.refl _ _ | refine bel_drewN ?_ _ | refine bel_drew ?_ | refine bel_alloc ?_ _ | refine bel_set ?_ (by simp) _))) c1, cell_keep (W := V) (by (repeat (first | exact Below.refl _ _ | refine bel_drewN ?_ _ | refine bel_drew ?_ | refine bel_alloc ?_ _ | refine bel_set ?_ (by simp) _))) c2, cell_keep (W := V) (by (repeat (first | exact Below.refl _ _ | refine bel_drewN ?_ _ | refine bel_drew ?_ | refine bel_alloc ?_ _ | refine bel_set ?_ (by simp) _))) c3, cell_keep (W := V) (by (repeat (first | exact Below.refl _ _ | refine bel_drewN ?_ _ | refine bel_drew ?_ | refine bel_alloc ?_ _ | refine bel_set ?_ (by simp) _))) c4⟩ | fail)
    (first
      | (go_at_call 36; refine (HU _).out.mono ?_; rintro e w1 ⟨rfl, rfl⟩)
      | (go_at_call 47; refine (HS _).out.mono ?_; rintro e w1 ⟨rfl, rfl⟩)
      | (go_at_call 46; refine (HO _ _ (by first | (rw [← hVs]; exact cell_new0 _ _ _ _) | simp [go_sem, hVs]) (by first | (rw [← hVs]; exact cell_new1 _ _ _ _) | simp [go_sem, hVs]) _).out.mono ?_; rintro e w1 ⟨rfl, rfl⟩))
  all_goals
    go_wp2_with fail
    go_ret
    refine ⟨rfl, ?_⟩
    obtain ⟨q, os', rfl⟩ := HG.out
    exact ⟨q + 1, _, by rw [alloc_eq_grow, grow_grow]; rfl⟩
theorem cmpLaysPt (blk off size : Nat) (w : World) : CmpLays Tryd.prog 45 #[] encP 2 cfPt blk off size w := fun _ _ _ _ x y => add1_any x y _
theorem perm_ofPt {d' : Array Pt} {L : List Pt} (hp : PermIn 0 L.length L.toArray d') : d'.size = L.length ∧ d'.toList.Perm L := by
  have hsz : d'.size = L.length := by have := hp.1; simpa using this
  have := hp.2.2
  have e1 : (L.toArray).size = L.length := by simp
  have x1 : d'.extract 0 L.length = d' := by rw [← hsz]; simp
  have x2 : (L.toArray).extract 0 L.length = L.toArray := by rw [← e1]; simp
  rw [x1, x2] at this
  exact ⟨hsz, by simpa using this⟩
/-- What the sort leaves of a row of points. -/
def SortPtPost (A : Option Addr) (c : Nat) (L : List Pt) (w w0 : World) (e : Ending) (w' : World) : Prop :=
  e = .returned (.tuple #[]) ∧ ∃ M : List Pt, M.Perm L ∧ M.Pairwise ptLe ∧ OwnPt w' w0.heap.size A c M ∧ w.grownBy w' (Value.slice A L.length c).ownBlock
theorem sortPt_any {w0 w : World} {A : Option Addr} {c : Nat} {L : List Pt} (h : OwnPt w w0.heap.size A c L) (h0 : 0 < L.length) (hl : L.length ≤ 1000000) :
    Calls Tryd.prog 44 #[.slice A L.length c, .func (.func 45) #[] #[]] w (SortPtPost A c L w w0) := by
  obtain ⟨g, rfl, hg1, hg2⟩ := h.at_ h0
  have eg : ∀ args w, (callFunc 45 args).run Tryd.prog w = .ok (.enter 45 args) w := enters_of Tryd.func45 (by kernel_rfl) rfl
  have hS := AnyQ.slices_SortFunc Tryd.sortPt 2 Tryd.isAgg92 Tryd.sizeOf92 encP (fun _ => rfl) (fun x v hv => by simp [encP] at hv; rcases hv with rfl | rfl <;> rfl) cfPt swoPt 45 #[] g 0 c L.toArray w eg (cmpLaysPt g 0 _ w) h.holdsK hg2 (by simp; omega)
  have e1 : (L.toArray).size = L.length := by simp
  rw [e1] at hS
  refine Calls.mono hS ?_
  rintro e w' ⟨rfl, d', n, os, hp, hs, rfl⟩
  obtain ⟨hsz, hperm⟩ := perm_ofPt hp
  refine ⟨rfl, d'.toList, hperm, ?_, ownPt_sorted h hsz, ?_⟩
  · rw [List.pairwise_iff_getElem]
    intro i j hi hj hij
    have := hs i j (Nat.zero_le _) hij (by simp at hj; omega)
    rw [ltPt_of] at this
    simp at hi hj
    rw [getElem!_pos _ j hj, getElem!_pos _ i hi] at this
    unfold ltPt at this
    simp only [Bool.or_eq_false_iff, Bool.and_eq_false_iff, decide_eq_false_iff_not] at this
    simp only [Array.getElem_toList]
    unfold ptLe
    rcases Nat.lt_trichotomy (d'[i]).1 (d'[j]).1 with h' | h' | h'
    · exact .inl h'
    · exact .inr ⟨h', this.2.resolve_left (by rw [h']; simp)⟩
    · exact absurd h' this.1
  · have := grownBy_sortedPt (w := w) (g := g) (n := n) (os := os) d'
    simpa [Value.ownBlock] using this
end Go.Proofs.YtnlamjebgkgbaaaDoor
