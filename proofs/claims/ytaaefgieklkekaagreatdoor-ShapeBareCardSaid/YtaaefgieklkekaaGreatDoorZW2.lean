/- A range over a function whose iterator keeps its place in cells of its own: a law of the walk. What the iterator owes is asked of one pair of invariants, not of all; the round's word on the iterator's cells is a relation of one's own choosing. -/
import Derived.RangeFuncNested
import Derived.RangeFuncBound
import Derived.RangeFuncCalls
import Derived.RangeFuncLeaves
import Derived.Shelf.Abstract
import Derived.Shelf.RegionOpen
import Derived.WalkKit
import Derived.OwnWalkIn
import Derived.TacticsInMore
import Derived.LoopNIn
import Derived.LoopIn
import Derived.Test.YtaaefgieklkekaaGreatDoorZS7
namespace Go.Proofs.YtaaefgieklkekaaGreatDoor
open Go Go.RowKit

/-- The loop's record and the block for the rounds' deferred calls lie where they were laid. -/
structure Books (D l : Nat) (r : Loop) (W : World) : Prop where
  rec_ : W.heap[l]? = some (.loop r)
  def_ : W.heap[D]? = some (.deferred (some []))
theorem Books.keep {D l : Nat} {r : Loop} {W W' : World} (h : Books D l r W) (k : KeepsOthers W W') : Books D l r W' := ⟨k.same _ _ h.rec_ rfl, k.same _ _ h.def_ rfl⟩
theorem Books.turn {D l : Nat} {r : Loop} {W : World} (h : Books D l r W) (hne : D ≠ l) (r' : Loop) : Books D l r' (W.putObj l (.loop r')) :=
  ⟨World.putObj_heap_same (Array.getElem?_eq_some_iff.1 h.rec_).1, (World.putObj_heap_other hne).trans h.def_⟩

/-- How a round's body may be left. -/
def RoundEnd {α : Type} (Kp : World → World → Prop) (I : List α → World → Prop) (Ix : Code → List α → World → Prop) (xs : List α) (W : World) : Exit → Act → World → Prop
  | .normal, _, W' => KeepsOthers W W' ∧ Kp W W' ∧ I xs W'
  | .ret, _, W' => KeepsOthers W W' ∧ Ix .ret xs W'
  | .exit id, _, W' => KeepsOthers W W' ∧ Ix (.exit id) xs W'
  | .goto t, _, W' => KeepsOthers W W' ∧ Ix (.goto t) xs W'
  | .panic _, _, _ => False
  | .outgrown, _, _ => False

/-- What the caller's invariant owes: it stands a turn of a block behind B that holds no cells. -/
def Stands {β : Type} (B : Nat) (I : β → World → Prop) : Prop := ∀ s W l o o', I s W → B ≤ l → W.heap[l]? = some o → o.isCells = false → I s (W.putObj l o')

/-- What the iterator owes the caller, at the caller's invariants: it calls yield, item by item; it returns when all have come, or when a round has said that there is enough. -/
def Serves {α : Type} (F : Fence) (n : Nat) (P : Program) (gf : Nat) (lb : Array Value) (encs : α → Array Value) (Ok : List α → α → Prop) (Kp : World → World → Prop) (I : List α → World → Prop) (Ix : Code → List α → World → Prop) (S : List α → Prop) (W : World) : Prop :=
  ∀ (l : Nat) (B : World → Prop) (Bx : Code → World → Prop), (∀ A A', KeepsOthers A A' → B A → B A') →
    (∀ pre x A, Ok pre x → I pre A → B A → YieldAt F (n - 1) P l (encs x) A fun e A' => (e = .returned (.bool true) ∧ I (pre ++ [x]) A' ∧ B A' ∧ Kp A A') ∨ (e = .returned (.bool false) ∧ ∃ c, Ix c (pre ++ [x]) A' ∧ Bx c A')) →
    I [] W → B W →
    CallsIn F n P gf (#[.func (.yield l) #[] #[]] ++ lb) W fun e A' => (∃ v, e = .returned v) ∧ ((∃ xs, S xs ∧ I xs A' ∧ B A') ∨ (∃ pre c, (∃ suf, S (pre ++ suf)) ∧ Ix c pre A' ∧ Bx c A'))

variable {F : Fence} {n : Nat} {P : Program}
theorem rangeFunc_cells {α : Type} {g : Operand} {ps : Array Tmp} {assign body : Code} {Q : Exit → Act → World → Prop} {a : Act} {w : World}
    (hro : F.round = none) (h1 : 1 ≤ n) {gf : Nat} {lb : Array Value} (hg : a.eval g = .func (.func gf) #[] lb) (hFg : F.fn gf) (eg : ∀ args w, (callFunc gf args).run P w = .ok (.enter gf args) w)
    {encs : α → Array Value} {Ok : List α → α → Prop} {Kp : World → World → Prop} (hps : ∀ x, (encs x).size = ps.size)
    (hKt : ∀ {A B C : World}, Kp A B → Kp B C → Kp A C) (hKb : ∀ (W : World) (l : Nat) (o o' : Obj), w.heap.size ≤ l → W.heap[l]? = some o → o.isCells = false → Kp W (W.putObj l o'))
    (I : List α → World → Prop) (Ix : Code → List α → World → Prop) (hI : Stands w.heap.size I) (hIx : ∀ c, Stands w.heap.size (Ix c)) {S : List α → Prop}
    (h0 : ∀ o o', I [] ((w.alloc o).alloc o')) (hserves : ∀ W, I [] W → Below w.heap.size w W → Serves F (n - 1) P gf lb encs Ok Kp I Ix S W) (a₁ : α → Act)
    (hassign : ∀ (l : Nat) (x : α) (W : World) (K : Act → World → Prop), K (a₁ x) W →
      assign.wpIn (F.inRound l) (n - 1 - 1) P (Exit.then K (fun _ _ _ => False)) { tmps := (ps.zip (encs x)).foldl (fun t (p, v) => t.setIfInBounds p v) a.tmps, defers := [] } W)
    (hbody : ∀ (l : Nat) (pre : List α) (x : α) (W : World), Ok pre x → I pre W → body.wpIn (F.inRound l) (n - 1 - 1) P (RoundEnd Kp I Ix (pre ++ [x]) W) (a₁ x) W)
    (hdone : ∀ (D : Nat) (xs : List α) (W : World), w.heap.size ≤ D → S xs → I xs W → W.heap[D]? = some (.deferred (some [])) → Q .normal { a with defers := { target := .collected D, args := #[] } :: a.defers } W)
    (hstop : ∀ (D : Nat) (c : Code) (pre : List α) (W : World), w.heap.size ≤ D → (∃ suf, S (pre ++ suf)) → Ix c pre W → W.heap[D]? = some (.deferred (some [])) → c.wpIn F n P Q { a with defers := { target := .collected D, args := #[] } :: a.defers } W) :
    (Code.rangeFunc g ps assign body).wpIn F n P Q a w := by
  refine wpIn_rangeFunc fun fn hfn => ?_
  rw [hro]
  obtain ⟨rc, hrc⟩ : ∃ rc : LoopState → Option Code → Loop, rc = fun st pe => { state := st, pending := pe, fn, tmps := a.tmps, params := ps, assign, body, defers := w.heap.size } := ⟨_, rfl⟩
  have hDl : w.heap.size ≠ w.heap.size + 1 := by omega
  obtain ⟨W1, hW1⟩ : ∃ W1, (w.alloc (.deferred (some []))).alloc (.loop (rc .ready none)) = W1 := ⟨_, rfl⟩
  have hB1 : Books w.heap.size (w.heap.size + 1) (rc .ready none) W1 := by
    rw [← hW1]
    refine ⟨?_, (Below.heap_alloc _ _ _ (by simp)).trans (World.alloc_heap_new w _)⟩
    have := World.alloc_heap_new (w.alloc (.deferred (some []))) (.loop (rc .ready none))
    rwa [World.size_alloc] at this
  have hI1 : I [] W1 := by rw [← hW1]; exact h0 _ _
  have hbel1 : Below w.heap.size w W1 := by rw [← hW1]; exact ((Below.refl _ w).alloc (Nat.le_refl _) _).alloc (by simp) _
  refine ⟨w.heap.size + 1, [{ target := .collected w.heap.size, args := #[] }], W1, { target := .fn (.func gf) lb, args := #[.func (.yield (w.heap.size + 1)) #[] #[]] }, W1, gf,
    #[.func (.yield (w.heap.size + 1)) #[] #[]] ++ lb, W1, ?_, ?_, ?_, ?_, fun _ => h1, ?_⟩
  · rw [← hW1, hrc]; exact run_enterLoop_outer _ _ _ _ _
  · simp only [resolve, hg]
    simp [go_sem]
  · intro f' hf'; simp [Target.leads] at hf'; subst hf'; exact hFg
  · simp [invoke, go_sem, eg]
  -- a step at the round's end
  have fin : ∀ (jump : Option Code) (W3 : World), Books w.heap.size (w.heap.size + 1) { rc .ready none with state := .busy } W3 →
      (Instr.endRound (w.heap.size + 1) jump).run P W3 = .ok (.bool jump.isNone) (W3.putObj (w.heap.size + 1) (.loop (rc (if jump.isNone then .ready else .done) jump))) := fun jump W3 hb => by
    have := run_endRound (P := P) jump hb.rec_
    rw [hrc] at this ⊢
    exact this
  refine ((hserves W1 hI1 hbel1) (w.heap.size + 1) (Books w.heap.size (w.heap.size + 1) (rc .ready none)) (fun c => Books w.heap.size (w.heap.size + 1) (rc .done (some c))) (fun A A' hk hb => hb.keep hk) ?_ hI1 hB1).mono ?_
  · -- one round
    rintro pre x W hok hi hb
    have hy := run_yield (P := P) (args := encs x) hb.rec_ (by rw [hrc]; exact hps x)
    rw [hrc] at hy
    refine ⟨fn, _, assign, body, hy, roundIn_of_wpIn hfn (hassign _ x W _ ⟨_, run_beginRound hb.rec_ (by rw [hrc]), ?_⟩)⟩
    have hb2 := hb.turn hDl { rc .ready none with state := .busy }
    refine wpIn_mono (hbody _ pre x _ hok (hI _ _ _ _ _ hi (by omega) hb.rec_ rfl)) ?_
    have hw2 : Kp W (W.putObj (w.heap.size + 1) (.loop { rc .ready none with state := .busy })) := hKb _ _ _ _ (by omega) hb.rec_ rfl
    rintro e a3 W3 hp
    cases e with
    | normal =>
      obtain ⟨hk3, hkp3, hi3⟩ := hp
      have hb3 := hb2.keep hk3
      exact ⟨_, _, fin none W3 hb3, .inl ⟨rfl, hI _ _ _ _ _ hi3 (by omega) hb3.rec_ rfl, hb3.turn hDl _, hKt (hKt hw2 hkp3) (hKb _ _ _ _ (by omega) hb3.rec_ rfl)⟩⟩
    | ret =>
      obtain ⟨hk3, hi3⟩ := hp
      have hb3 := hb2.keep hk3
      exact ⟨_, _, fin (some .ret) W3 hb3, .inr ⟨rfl, .ret, hIx _ _ _ _ _ _ hi3 (by omega) hb3.rec_ rfl, hb3.turn hDl _⟩⟩
    | exit id =>
      obtain ⟨hk3, hi3⟩ := hp
      have hb3 := hb2.keep hk3
      exact ⟨_, _, fin (some (.exit id)) W3 hb3, .inr ⟨rfl, .exit id, hIx _ _ _ _ _ _ hi3 (by omega) hb3.rec_ rfl, hb3.turn hDl _⟩⟩
    | goto t =>
      obtain ⟨hk3, hi3⟩ := hp
      have hb3 := hb2.keep hk3
      exact ⟨_, _, fin (some (.goto t)) W3 hb3, .inr ⟨rfl, .goto t, hIx _ _ _ _ _ _ hi3 (by omega) hb3.rec_ rfl, hb3.turn hDl _⟩⟩
    | panic ch => exact hp.elim
    | outgrown => exact hp.elim
  · -- behind the iterator
    rintro e W2 ⟨⟨v, rfl⟩, (⟨xs, hS, hi, hb⟩ | ⟨pre, c, hsuf, hi, hb⟩)⟩
    · have he := run_endLoop (P := P) hb.rec_ (by rw [hrc]; simp)
      rw [hrc] at he
      exact ⟨none, _, he, hdone _ xs _ (Nat.le_refl _) hS (hI _ _ _ _ _ hi (by omega) hb.rec_ rfl) ((World.putObj_heap_other hDl).trans hb.def_)⟩
    · have he := run_endLoop (P := P) hb.rec_ (by rw [hrc]; simp)
      rw [hrc] at he
      exact ⟨some c, _, he, hstop _ c pre _ (Nat.le_refl _) hsuf (hIx _ _ _ _ _ _ hi (by omega) hb.rec_ rfl) ((World.putObj_heap_other hDl).trans hb.def_)⟩
end Go.Proofs.YtaaefgieklkekaaGreatDoor
/- The iterator of strings.SplitSeq at ",": what it serves. -/
namespace Go.Proofs.YtaaefgieklkekaaGreatDoor
open Go Go.RowKit
attribute [local go_sem] Oper.semAt_some

def restLen (bs : Nat) (W : World) : Nat := match W.cell? ⟨bs, 0, none⟩ with
  | some (Value.string s) => s.size
  | _ => 0
end Go.Proofs.YtaaefgieklkekaaGreatDoor
