/- Rows of folded spans, and their two sorts. -/
import Derived.Test.YtfpfdgljhcpkpaaGreatDoorN2
import Derived.Test.YtfpfdgljhcpkpaaGreatDoorS10
import Derived.Test.YtfpfdgljhcpkpaaGreatDoorLaid3
import Derived.Outline
namespace Go.Proofs.YtfpfdgljhcpkpaaGreatDoor
open Go.RowKit Go.Shelf Go.Sort

abbrev FE := (Int × Int) × Nat
def encF (x : FE) : List Value := [.int .i64 x.1.1, .int .i64 x.1.2, .int .i64 (x.2 : Int)]
def feCells (L : List FE) : List Value := L.flatMap encF
theorem feCells_cons (x : FE) (r : List FE) : feCells (x :: r) = .int .i64 x.1.1 :: .int .i64 x.1.2 :: .int .i64 (x.2 : Int) :: feCells r := rfl
theorem feCells_length : ∀ (L : List FE), (feCells L).length = L.length * 3
  | [] => rfl
  | x :: r => by rw [feCells_cons]; simp [feCells_length r]; omega
theorem feCells_append (a b : List FE) : feCells (a ++ b) = feCells a ++ feCells b := by unfold feCells; simp
theorem feCells_at : ∀ (L : List FE) (k : Nat) (x : FE), L[k]? = some x → (feCells L)[k * 3]? = some (.int .i64 x.1.1) ∧ (feCells L)[k * 3 + 1]? = some (.int .i64 x.1.2) ∧ (feCells L)[k * 3 + 2]? = some (.int .i64 (x.2 : Int))
  | [], k, x, h => by simp at h
  | y :: r, 0, x, h => by simp at h; subst h; simp [feCells_cons]
  | y :: r, k + 1, x, h => by
    have := feCells_at r k x (by simpa using h)
    rw [feCells_cons, show (k + 1) * 3 = k * 3 + 3 from by omega]
    simpa using this
theorem feCells_set : ∀ (L : List FE) (k : Nat) (x : FE), feCells (L.set k x) = (((feCells L).set (k * 3) (.int .i64 x.1.1)).set (k * 3 + 1) (.int .i64 x.1.2)).set (k * 3 + 2) (.int .i64 (x.2 : Int))
  | [], k, x => by simp [feCells]
  | y :: r, 0, x => by simp [feCells_cons]
  | y :: r, k + 1, x => by
    rw [List.set_cons_succ, feCells_cons, feCells_cons, feCells_set r k x, show (k + 1) * 3 = k * 3 + 3 from by omega]
    simp
/-- A row of folded spans of the call's own. -/
def OwnF (w : World) (base : Nat) (A : Option Addr) (c : Nat) (L : List FE) : Prop := w.ownsRow base 169 3 (.slice A L.length c) L.length (feCells L)
theorem OwnF.nil (w : World) (base : Nat) : OwnF w base none 0 [] := World.ownsRow_nil w base _ _
theorem OwnF.at_ {w : World} {base : Nat} {A : Option Addr} {c : Nat} {L : List FE} (h : OwnF w base A c L) (hn : 0 < L.length) : ∃ g, A = some ⟨g, 0, none⟩ ∧ base ≤ g ∧ g < w.heap.size := by
  obtain ⟨g, cap, hv, hb, hlt⟩ := World.ownsRow.form h hn
  injection hv with hA
  exact ⟨g, hA, hb, hlt⟩
theorem OwnF.alloc {w : World} {base : Nat} {A : Option Addr} {c : Nat} {L : List FE} (h : OwnF w base A c L) (o : Obj) : OwnF (w.alloc o) base A c L := World.ownsRow.alloc h o
theorem OwnF.below {w w' : World} {base : Nat} {A : Option Addr} {c : Nat} {L : List FE} (h : OwnF w base A c L) (hb : Below w.heap.size w w') : OwnF w' base A c L :=
  World.ownsRow.kept (row := none) h ⟨hb.os, hb.tape, hb.output, hb.size, fun k hk _ => hb.block k hk⟩ (by cases A <;> simp [Value.ownBlock])
theorem OwnF.put {w : World} {base g c : Nat} {L : List FE} (h : OwnF w base (some ⟨g, 0, none⟩) c L) (k : Nat) (x : FE) : OwnF (((w.setCell ⟨g, k * 3, none⟩ (.int .i64 x.1.1)).setCell ⟨g, k * 3 + 1, none⟩ (.int .i64 x.1.2)).setCell ⟨g, k * 3 + 2, none⟩ (.int .i64 (x.2 : Int))) base (some ⟨g, 0, none⟩) c (L.set k x) := by
  have h3 := (World.ownsRow.stored ((World.ownsRow.stored ((World.ownsRow.stored h (k * 3) (.int .i64 x.1.1)).1) (k * 3 + 1) (.int .i64 x.1.2)).1) (k * 3 + 2) (.int .i64 (x.2 : Int))).1
  unfold OwnF
  rw [feCells_set, List.length_set]
  exact h3
/-- A slice that reads as a list of folded spans. -/
structure SpF (w : World) (A : Option Addr) (L : List FE) : Prop where
  at' : ∀ k (h : k < L.length), ∃ b off, A = some ⟨b, off, none⟩ ∧ b < w.heap.size ∧ w.cell? ⟨b, off + k * 3, none⟩ = some (.int .i64 (L[k]).1.1) ∧ w.cell? ⟨b, off + k * 3 + 1, none⟩ = some (.int .i64 (L[k]).1.2) ∧ w.cell? ⟨b, off + k * 3 + 2, none⟩ = some (.int .i64 ((L[k]).2 : Int))
theorem SpF.below {w w' : World} {A : Option Addr} {L : List FE} (h : SpF w A L) (hb : Below w.heap.size w w') : SpF w' A L :=
  ⟨fun k hk => by
    obtain ⟨b, off, e, hl, h1, h2, h3⟩ := h.at' k hk
    exact ⟨b, off, e, Nat.lt_of_lt_of_le hl hb.size, cell_keep hb h1, cell_keep hb h2, cell_keep hb h3⟩⟩
theorem OwnF.cells {w : World} {base g c : Nat} {L : List FE} (h : OwnF w base (some ⟨g, 0, none⟩) c L) {k : Nat} (hk : k < L.length) : w.cell? ⟨g, k * 3, none⟩ = some (.int .i64 (L[k]).1.1) ∧ w.cell? ⟨g, k * 3 + 1, none⟩ = some (.int .i64 (L[k]).1.2) ∧ w.cell? ⟨g, k * 3 + 2, none⟩ = some (.int .i64 ((L[k]).2 : Int)) := by
  obtain ⟨a, b, d⟩ := feCells_at L k L[k] (List.getElem?_eq_getElem hk)
  exact ⟨(World.ownsRow.cellAt h _ (by omega)).trans a, (World.ownsRow.cellAt h _ (by omega)).trans b, (World.ownsRow.cellAt h _ (by omega)).trans d⟩
theorem OwnF.spf {w : World} {base : Nat} {A : Option Addr} {c : Nat} {L : List FE} (h : OwnF w base A c L) : SpF w A L :=
  ⟨fun k hk => by
    obtain ⟨g, rfl, _, hg⟩ := h.at_ (by omega)
    obtain ⟨h1, h2, h3⟩ := h.cells hk
    exact ⟨g, 0, rfl, hg, by simpa using h1, by simpa using h2, by simpa using h3⟩⟩
theorem OwnF.holdsK {w : World} {base g c : Nat} {L : List FE} (h : OwnF w base (some ⟨g, 0, none⟩) c L) : HoldsK encF 3 w g 0 L.toArray := by
  intro j hj
  simp at hj
  refine ⟨?_, World.ownsRow.frozenAt h _ |> fun hf => by simpa using hf⟩
  have hi : j / 3 < L.length := by omega
  rw [Nat.zero_add, get_flatK _ _ _ _ (by simpa using hj)]
  have e1 : (L.toArray)[j / 3]! = L[j / 3] := by simp [hi]
  rw [e1]
  obtain ⟨h1, h2, h3⟩ := h.cells hi
  obtain ⟨x, hx⟩ : ∃ x, L[j / 3] = x := ⟨_, rfl⟩
  rw [hx] at h1 h2 h3 ⊢
  have hm : j % 3 = 0 ∨ j % 3 = 1 ∨ j % 3 = 2 := by omega
  rcases hm with hm | hm | hm
  · rw [show j / 3 * 3 = j from by omega] at h1
    rw [hm, h1]; rfl
  · rw [show j / 3 * 3 + 1 = j from by omega] at h2
    rw [hm, h2]; rfl
  · rw [show j / 3 * 3 + 2 = j from by omega] at h3
    rw [hm, h3]; rfl
theorem grownBy_sortedF {w : World} {g n : Nat} {os : Array Obj} (d : Array FE) : w.grownBy (sortWorldK encF 3 w g 0 n d os) (some g) := by
  unfold sortWorldK putRowK
  refine ⟨rfl, rfl, rfl, by simp, fun k hk hne => ?_⟩
  rw [heap_grow_old _ _ (by simpa using hk)]
  have : g ≠ k := fun e => hne (by rw [e])
  simp [putRow, mapBlock, Sort.ahead, Array.getElem?_modify, this]
theorem spf_sorted {w : World} {base g c n : Nat} {L : List FE} {d' : Array FE} {os : Array Obj} (h : OwnF w base (some ⟨g, 0, none⟩) c L) (hg : g < w.heap.size) (hs : d'.size = L.length) : SpF (sortWorldK encF 3 w g 0 n d' os) (some ⟨g, 0, none⟩) d'.toList := by
  have hK : HoldsK encF 3 (sortWorldK encF 3 w g 0 n d' os) g 0 d' := by
    unfold sortWorldK
    refine holdsK_grow _ _ _ _ _ _ _ (by simp [putRowK, Sort.ahead]; exact hg) ?_
    exact holdsK_putRowK _ _ (Sort.ahead w n) g 0 L.toArray d' (holdsK_ahead _ _ _ _ _ _ _ h.holdsK) (by simp [hs])
  refine ⟨fun i hi => ⟨g, 0, rfl, ?_, ?_⟩⟩
  · unfold sortWorldK; simp [putRowK, Sort.ahead]; omega
  · have hi' : i < d'.size := by simpa using hi
    have hx' : d'[i]! = d'.toList[i] := by rw [getElem!_pos _ i hi', Array.getElem_toList]
    have a0 := (hK (i * 3) (by simp; omega)).1
    have a1 := (hK (i * 3 + 1) (by simp; omega)).1
    have a2 := (hK (i * 3 + 2) (by simp; omega)).1
    rw [get_flatK _ _ _ _ (by omega)] at a0 a1 a2
    rw [show i * 3 / 3 = i from by omega, show i * 3 % 3 = 0 from by omega, hx'] at a0
    rw [show (i * 3 + 1) / 3 = i from by omega, show (i * 3 + 1) % 3 = 1 from by omega, hx'] at a1
    rw [show (i * 3 + 2) / 3 = i from by omega, show (i * 3 + 2) % 3 = 2 from by omega, hx'] at a2
    exact ⟨a0, a1, a2⟩
def cfF (x y : FE) : Int := Lib.compareInt x.1.1 y.1.1
def cfP (x y : FE) : Int := Lib.compareInt (x.2 : Int) (y.2 : Int)
theorem cmp_lt (a b : Int) : decide (Lib.compareInt a b < 0) = decide (a < b) := by
  unfold Lib.compareInt
  by_cases h1 : a < b
  · simp [h1]
  · by_cases h2 : b < a <;> simp [h1, h2]
theorem ltF (x y : FE) : ltOf cfF x y = decide (x.1.1 < y.1.1) := by unfold ltOf cfF; exact cmp_lt _ _
theorem ltP (x y : FE) : ltOf cfP x y = decide ((x.2 : Int) < y.2) := by unfold ltOf cfP; exact cmp_lt _ _
theorem swoF : SWO (ltOf cfF) where
  irrefl x := by rw [ltF]; simp
  trans x y z h1 h2 := by rw [ltF] at *; simp at *; omega
  ntrans x y z h1 h2 := by rw [ltF] at *; simp at *; omega
theorem swoP : SWO (ltOf cfP) where
  irrefl x := by rw [ltP]; simp
  trans x y z h1 h2 := by rw [ltP] at *; simp at *; omega
  ntrans x y z h1 h2 := by rw [ltP] at *; simp at *; omega
set_option maxHeartbeats 1000000 in
theorem fold1_any (x y : FE) (W : World) : Calls Tryz.prog 89 #[.agg #[.int .i64 x.1.1, .int .i64 x.1.2, .int .i64 (x.2 : Int)], .agg #[.int .i64 y.1.1, .int .i64 y.1.2, .int .i64 (y.2 : Int)]] W fun e w' => e = .returned (.int .i64 (cfF x y)) ∧ ∃ q os', w' = grow (W.drewN q) os' := by
  have hcon := fun W' => Tryz.cmp_Compare_int x.1.1 y.1.1 W'
  unfold cfF
  generalize Lib.compareInt x.1.1 y.1.1 = r at hcon ⊢
  go_enter Tryz.func89, Tryz.ntmps89
  go_wp2_with (go_at_call 52; refine (hcon _).mono ?_; rintro e w' ⟨rfl, rfl⟩)
  go_ret
  exact ⟨rfl, 0, _, by rw [alloc_eq_grow, alloc_eq_grow, grow_grow]; rfl⟩
set_option maxHeartbeats 1000000 in
theorem fold2_any (x y : FE) (W : World) : Calls Tryz.prog 91 #[.agg #[.int .i64 x.1.1, .int .i64 x.1.2, .int .i64 (x.2 : Int)], .agg #[.int .i64 y.1.1, .int .i64 y.1.2, .int .i64 (y.2 : Int)]] W fun e w' => e = .returned (.int .i64 (cfP x y)) ∧ ∃ q os', w' = grow (W.drewN q) os' := by
  have hcon := fun W' => Tryz.cmp_Compare_int_f89 (x.2 : Int) (y.2 : Int) W'
  unfold cfP
  generalize Lib.compareInt (x.2 : Int) (y.2 : Int) = r at hcon ⊢
  go_enter Tryz.func91, Tryz.ntmps91
  go_wp2_with (go_at_call 92; refine (hcon _).mono ?_; rintro e w' ⟨rfl, rfl⟩)
  go_ret
  exact ⟨rfl, 0, _, by rw [alloc_eq_grow, alloc_eq_grow, grow_grow]; rfl⟩
theorem cmpLaysF (blk off size : Nat) (w : World) : CmpLays Tryz.prog 89 #[] encF 3 cfF blk off size w := fun _ _ _ _ x y => fold1_any x y _
theorem cmpLaysP (blk off size : Nat) (w : World) : CmpLays Tryz.prog 91 #[] encF 3 cfP blk off size w := fun _ _ _ _ x y => fold2_any x y _
theorem perm_of {d' : Array FE} {L : List FE} (hp : PermIn 0 L.length L.toArray d') : d'.size = L.length ∧ d'.toList.Perm L := by
  have hsz : d'.size = L.length := by have := hp.1; simpa using this
  have := hp.2.2
  have e1 : (L.toArray).size = L.length := by simp
  have x1 : d'.extract 0 L.length = d' := by rw [← hsz]; simp
  have x2 : (L.toArray).extract 0 L.length = L.toArray := by rw [← e1]; simp
  rw [x1, x2] at this
  exact ⟨hsz, by simpa using this⟩
/-- What a sort of a row of the call's own leaves. -/
def SortFPost (R : FE → FE → Prop) (A : Option Addr) (L : List FE) (w0 : World) (e : Ending) (w' : World) : Prop :=
  e = .returned (.tuple #[]) ∧ ∃ M : List FE, M.Perm L ∧ M.Pairwise R ∧ SpF w' A M ∧ Below w0.heap.size w0 w'
theorem sortP_any {w0 w : World} {A : Option Addr} {c : Nat} {L : List FE} (h : OwnF w w0.heap.size A c L) (hb : Below w0.heap.size w0 w) (hl : L.length ≤ 1000000) :
    Calls Tryz.prog 90 #[.slice A L.length c, .func (.func 91) #[] #[]] w (SortFPost (fun a b => a.2 ≤ b.2) A L w0) := by
  rcases Nat.eq_zero_or_pos L.length with h0 | h0
  · obtain rfl : L = [] := List.eq_nil_of_length_eq_zero h0
    have hS := AnyF.slices_SortFunc_none (P := Tryz.prog) (ρ := Tryz.sortFo_ren) { Tryz.sortFo with } A c (.func (.func 91) #[] #[]) w
    refine Calls.mono hS ?_
    rintro e w' ⟨rfl, rfl⟩
    exact ⟨rfl, [], List.Perm.refl _, List.Pairwise.nil, h.spf, hb⟩
  · obtain ⟨g, rfl, hg1, hg2⟩ := h.at_ h0
    have eg : ∀ args w, (callFunc 91 args).run Tryz.prog w = .ok (.enter 91 args) w := enters_of Tryz.func91 (by kernel_rfl) rfl
    have hS := AnyQ.slices_SortFunc Tryz.sortFo 3 Tryz.isAgg169 Tryz.sizeOf169 encF (fun _ => rfl) (fun x v hv => by simp [encF] at hv; rcases hv with rfl | rfl | rfl <;> rfl) cfP swoP 91 #[] g 0 c L.toArray w eg (cmpLaysP g 0 _ w) h.holdsK hg2 (by simp; omega)
    have e1 : (L.toArray).size = L.length := by simp
    rw [e1] at hS
    refine Calls.mono hS ?_
    rintro e w' ⟨rfl, d', n, os, hp, hs, rfl⟩
    obtain ⟨hsz, hperm⟩ := perm_of hp
    refine ⟨rfl, d'.toList, hperm, ?_, spf_sorted h hg2 hsz, hb.grown (grownBy_sortedF d') hb.size (fun k hk => by injection hk with hk; omega)⟩
    rw [List.pairwise_iff_getElem]
    intro i j hi hj hij
    have := hs i j (Nat.zero_le _) hij (by simp at hj; omega)
    rw [ltP] at this
    simp at hi hj
    rw [getElem!_pos _ j hj, getElem!_pos _ i hi] at this
    simp at this
    simp only [Array.getElem_toList]
    omega
theorem ins_any {w0 w : World} {g c : Nat} {L : List FE} (h : OwnF w w0.heap.size (some ⟨g, 0, none⟩) c L) (hg1 : w0.heap.size ≤ g) (hg2 : g < w.heap.size) (hb : Below w0.heap.size w0 w) (hl : L.length ≤ 1000000) :
    Calls Tryz.prog 166 #[.slice (some ⟨g, 0, none⟩) L.length c, .int .i64 0, .int .i64 L.length, .func (.func 89) #[] #[]] w (SortFPost (fun a b => a.1.1 ≤ b.1.1) (some ⟨g, 0, none⟩) L w0) := by
  have eg : ∀ args w, (callFunc 89 args).run Tryz.prog w = .ok (.enter 89 args) w := enters_of Tryz.func89 (by kernel_rfl) rfl
  have hS := AnyQ.insertionSortCmpFunc (P := Tryz.prog) (ρ := Tryz.sortFo_ren) { Tryz.sortFo with } 3 Tryz.isAgg169 Tryz.sizeOf169 encF (fun _ => rfl) (fun x v hv => by simp [encF] at hv; rcases hv with rfl | rfl | rfl <;> rfl) cfF 89 #[] g 0 c 0 L.toArray.size L.toArray w eg (cmpLaysF g 0 _ w) h.holdsK hg2 (Nat.zero_le _) (Nat.le_refl _) (by simp; omega)
  have e1 : (L.toArray).size = L.length := by simp
  have hI := insertionSort_holds (lt := ltOf cfF) swoF L.toArray 0 L.toArray.size (Nat.zero_le _) (Nat.le_refl _)
  rw [e1] at hS hI
  refine Calls.mono hS ?_
  rintro e w' ⟨rfl, n, os, rfl⟩
  obtain ⟨hsz, hperm⟩ := perm_of hI.1
  refine ⟨rfl, _, hperm, ?_, spf_sorted h hg2 hsz, hb.grown (grownBy_sortedF _) hb.size (fun k hk => by injection hk with hk; omega)⟩
  rw [List.pairwise_iff_getElem]
  intro i j hi hj hij
  have := hI.2 i j (Nat.zero_le _) hij (by simp at hj; omega)
  rw [ltF] at this
  simp at hi hj
  rw [getElem!_pos _ j hj, getElem!_pos _ i hi] at this
  simp at this
  simp only [Array.getElem_toList]
  omega
set_option maxHeartbeats 2000000 in
theorem stable_few {w0 w : World} {g c : Nat} {L : List FE} (h : OwnF w w0.heap.size (some ⟨g, 0, none⟩) c L) (hg1 : w0.heap.size ≤ g) (hg2 : g < w.heap.size) (hb : Below w0.heap.size w0 w) (hl : L.length ≤ 19) :
    Calls Tryz.prog 135 #[.slice (some ⟨g, 0, none⟩) L.length c, .int .i64 L.length, .func (.func 89) #[] #[]] w (SortFPost (fun a b => a.1.1 ≤ b.1.1) (some ⟨g, 0, none⟩) L w0) := by
  have HI := Lib.hid (ins_any h hg1 hg2 hb (by omega))
  clear h hb
  go_enter Tryz.func135, Tryz.ntmps135
  go_wp2_with fail
  go_loopw [7, 8] (fun a b wr => a = .int .i64 0 ∧ b = .int .i64 20 ∧ wr = w) (fun _ _ _ => 0)
  case atStart => exact ⟨rfl, rfl, rfl⟩
  case round =>
    obtain ⟨rfl, rfl, rfl⟩ := hrel
    go_wp2_with fail
    refine HI.out.mono ?_
    rintro e w1 ⟨rfl, M, hp, hs, hsp, hb1⟩
    go_wp2_with fail
    go_loopw [6, 7, 8, 9] (fun b _ _ _ wr => b = .int .i64 20 ∧ wr = w1) (fun _ _ _ _ _ => 0)
    case atStart => exact ⟨rfl, rfl⟩
    case round =>
      obtain ⟨rfl, rfl⟩ := hrel
      go_wp2_with fail
      refine bodyPost_end (v := .tuple #[]) (by simp [results, Tryz.results135, go_sem]) rfl ?_
      exact ⟨rfl, M, hp, hs, hsp, hb1⟩
set_option maxHeartbeats 2000000 in
theorem stableS_few {w0 w : World} {g c : Nat} {L : List FE} (h : OwnF w w0.heap.size (some ⟨g, 0, none⟩) c L) (hg1 : w0.heap.size ≤ g) (hg2 : g < w.heap.size) (hb : Below w0.heap.size w0 w) (hl : L.length ≤ 19) :
    Calls Tryz.prog 88 #[.slice (some ⟨g, 0, none⟩) L.length c, .func (.func 89) #[] #[]] w (SortFPost (fun a b => a.1.1 ≤ b.1.1) (some ⟨g, 0, none⟩) L w0) := by
  have HI := Lib.hid (stable_few h hg1 hg2 hb hl)
  clear h hb
  go_enter Tryz.func88, Tryz.ntmps88
  go_wp2_with fail
  refine HI.out.mono ?_
  rintro e w1 ⟨rfl, M, hp, hs, hsp, hb1⟩
  go_wp2_with fail
  refine bodyPost_end (v := .tuple #[]) (by simp [results, Tryz.results88, go_sem]) rfl ?_
  exact ⟨rfl, M, hp, hs, hsp, hb1⟩
end Go.Proofs.YtfpfdgljhcpkpaaGreatDoor
