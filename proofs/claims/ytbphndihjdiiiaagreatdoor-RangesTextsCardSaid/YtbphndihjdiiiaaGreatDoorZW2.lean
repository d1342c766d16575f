/- A range over a function whose iterator keeps its place in cells of its own: a law of the walk. What the iterator owes is asked of one pair of invariants, not of all; the round's word on the iterator's cells is a relation of one's own choosing. -/
import Derived.RangeFuncNested
import Derived.RangeFuncBound
import Derived.RangeFuncCalls
import Derived.RangeFuncLeaves
import Derived.Shelf.Abstract
import Derived.Shelf.RegionOpen
import Derived.WalkKit
import Derived.OwnWalkIn
import Derived.TacticsInMore
import Derived.LoopNIn
import Derived.LoopIn
import Derived.Test.YtbphndihjdiiiaaGreatDoorZS7
namespace Go.Proofs.YtbphndihjdiiiaaGreatDoor
open Go Go.RowKit

/-- The loop's record and the block for the rounds' deferred calls lie where they were laid. -/
structure Books (D l : Nat) (r : Loop) (W : World) : Prop where
  rec_ : W.heap[l]? = some (.loop r)
  def_ : W.heap[D]? = some (.deferred (some []))
theorem Books.keep {D l : Nat} {r : Loop} {W W' : World} (h : Books D l r W) (k : KeepsOthers W W') : Books D l r W' := ⟨k.same _ _ h.rec_ rfl, k.same _ _ h.def_ rfl⟩
theorem Books.turn {D l : Nat} {r : Loop} {W : World} (h : Books D l r W) (hne : D ≠ l) (r' : Loop) : Books D l r' (W.putObj l (.loop r')) :=
  ⟨World.putObj_heap_same (Array.getElem?_eq_some_iff.1 h.rec_).1, (World.putObj_heap_other hne).trans h.def_⟩

/-- How a round's body may be left. -/
def RoundEnd {α : Type} (Kp : World → World → Prop) (I : List α → World → Prop) (Ix : Code → List α → World → Prop) (xs : List α) (W : World) : Exit → Act → World → Prop
  | .normal, _, W' => KeepsOthers W W' ∧ Kp W W' ∧ I xs W'
  | .ret, _, W' => KeepsOthers W W' ∧ Ix .ret xs W'
  | .exit id, _, W' => KeepsOthers W W' ∧ Ix (.exit id) xs W'
  | .goto t, _, W' => KeepsOthers W W' ∧ Ix (.goto t) xs W'
  | .panic _, _, _ => False
  | .outgrown, _, _ => False

/-- What the caller's invariant owes: it stands a turn of a block behind B that holds no cells. -/
def Stands {β : Type} (B : Nat) (I : β → World → Prop) : Prop := ∀ s W l o o', I s W → B ≤ l → W.heap[l]? = some o → o.isCells = false → I s (W.putObj l o')

/-- What the iterator owes the caller, at the caller's invariants: it calls yield, item by item; it returns when all have come, or when a round has said that there is enough. -/
def Serves {α : Type} (F : Fence) (n : Nat) (P : Program) (gf : Nat) (lb : Array Value) (encs : α → Array Value) (Ok : List α → α → Prop) (Kp : World → World → Prop) (I : List α → World → Prop) (Ix : Code → List α → World → Prop) (S : List α → Prop) (W : World) : Prop :=
  ∀ (l : Nat) (B : World → Prop) (Bx : Code → World → Prop), (∀ A A', KeepsOthers A A' → B A → B A') →
    (∀ pre x A, Ok pre x → I pre A → B A → YieldAt F (n - 1) P l (encs x) A fun e A' => (e = .returned (.bool true) ∧ I (pre ++ [x]) A' ∧ B A' ∧ Kp A A') ∨ (e = .returned (.bool false) ∧ ∃ c, Ix c (pre ++ [x]) A' ∧ Bx c A')) →
    I [] W → B W →
    CallsIn F n P gf (#[.func (.yield l) #[] #[]] ++ lb) W fun e A' => (∃ v, e = .returned v) ∧ ((∃ xs, S xs ∧ I xs A' ∧ B A') ∨ (∃ pre c, (∃ suf, S (pre ++ suf)) ∧ Ix c pre A' ∧ Bx c A'))

variable {F : Fence} {n : Nat} {P : Program}
theorem rangeFunc_cells {α : Type} {g : Operand} {ps : Array Tmp} {assign body : Code} {Q : Exit → Act → World → Prop} {a : Act} {w : World}
    (hro : F.round = none) (h1 : 1 ≤ n) {gf : Nat} {lb : Array Value} (hg : a.eval g = .func (.func gf) #[] lb) (hFg : F.fn gf) (eg : ∀ args w, (callFunc gf args).run P w = .ok (.enter gf args) w)
    {encs : α → Array Value} {Ok : List α → α → Prop} {Kp : World → World → Prop} (hps : ∀ x, (encs x).size = ps.size)
    (hKt : ∀ {A B C : World}, Kp A B → Kp B C → Kp A C) (hKb : ∀ (W : World) (l : Nat) (o o' : Obj), w.heap.size ≤ l → W.heap[l]? = some o → o.isCells = false → Kp W (W.putObj l o'))
    (I : List α → World → Prop) (Ix : Code → List α → World → Prop) (hI : Stands w.heap.size I) (hIx : ∀ c, Stands w.heap.size (Ix c)) {S : List α → Prop}
    (h0 : ∀ o o', I [] ((w.alloc o).alloc o')) (hserves : ∀ W, I [] W → Below w.heap.size w W → Serves F (n - 1) P gf lb encs Ok Kp I Ix S W) (a₁ : α → Act)
    (hassign : ∀ (l : Nat) (x : α) (W : World) (K : Act → World → Prop), K (a₁ x) W →
      assign.wpIn (F.inRound l) (n - 1 - 1) P (Exit.then K (fun _ _ _ => False)) { tmps := (ps.zip (encs x)).foldl (fun t (p, v) => t.setIfInBounds p v) a.tmps, defers := [] } W)
    (hbody : ∀ (l : Nat) (pre : List α) (x : α) (W : World), Ok pre x → I pre W → body.wpIn (F.inRound l) (n - 1 - 1) P (RoundEnd Kp I Ix (pre ++ [x]) W) (a₁ x) W)
    (hdone : ∀ (D : Nat) (xs : List α) (W : World), w.heap.size ≤ D → S xs → I xs W → W.heap[D]? = some (.deferred (some [])) → Q .normal { a with defers := { target := .collected D, args := #[] } :: a.defers } W)
    (hstop : ∀ (D : Nat) (c : Code) (pre : List α) (W : World), w.heap.size ≤ D → (∃ suf, S (pre ++ suf)) → Ix c pre W → W.heap[D]? = some (.deferred (some [])) → c.wpIn F n P Q { a with defers := { target := .collected D, args := #[] } :: a.defers } W) :
    (Code.rangeFunc g ps assign body).wpIn F n P Q a w := by
  refine wpIn_rangeFunc fun fn hfn => ?_
  rw [hro]
  obtain ⟨rc, hrc⟩ : ∃ rc : LoopState → Option Code → Loop, rc = fun st pe => { state := st, pending := pe, fn, tmps := a.tmps, params := ps, assign, body, defers := w.heap.size } := ⟨_, rfl⟩
  have hDl : w.heap.size ≠ w.heap.size + 1 := by omega
  obtain ⟨W1, hW1⟩ : ∃ W1, (w.alloc (.deferred (some []))).alloc (.loop (rc .ready none)) = W1 := ⟨_, rfl⟩
  have hB1 : Books w.heap.size (w.heap.size + 1) (rc .ready none) W1 := by
    rw [← hW1]
    refine ⟨?_, (Below.heap_alloc _ _ _ (by simp)).trans (World.alloc_heap_new w _)⟩
    have := World.alloc_heap_new (w.alloc (.deferred (some []))) (.loop (rc .ready none))
    rwa [World.size_alloc] at this
  have hI1 : I [] W1 := by rw [← hW1]; exact h0 _ _
  have hbel1 : Below w.heap.size w W1 := by rw [← hW1]; exact ((Below.refl _ w).alloc (Nat.le_refl _) _).alloc (by simp) _
  refine ⟨w.heap.size + 1, [{ target := .collected w.heap.size, args := #[] }], W1, { target := .fn (.func gf) lb, args := #[.func (.yield (w.heap.size + 1)) #[] #[]] }, W1, gf,
    #[.func (.yield (w.heap.size + 1)) #[] #[]] ++ lb, W1, ?_, ?_, ?_, ?_, fun _ => h1, ?_⟩
  · rw [← hW1, hrc]; exact run_enterLoop_outer _ _ _ _ _
  · simp only [resolve, hg]
    simp [go_sem]
  · intro f' hf'; simp [Target.leads] at hf'; subst hf'; exact hFg
  · simp [invoke, go_sem, eg]
  -- a step at the round's end
  have fin : ∀ (jump : Option Code) (W3 : World), Books w.heap.size (w.heap.size + 1) { rc .ready none with state := .busy } W3 →
      (Instr.endRound (w.heap.size + 1) jump).run P W3 = .ok (.bool jump.isNone) (W3.putObj (w.heap.size + 1) (.loop (rc (if jump.isNone then .ready else .done) jump))) := fun jump W3 hb => by
    have := run_endRound (P := P) jump hb.rec_
    rw [hrc] at this ⊢
    exact this
  refine ((hserves W1 hI1 hbel1) (w.heap.size + 1) (Books w.heap.size (w.heap.size + 1) (rc .ready none)) (fun c => Books w.heap.size (w.heap.size + 1) (rc .done (some c))) (fun A A' hk hb => hb.keep hk) ?_ hI1 hB1).mono ?_
  · -- one round
    rintro pre x W hok hi hb
    have hy := run_yield (P := P) (args := encs x) hb.rec_ (by rw [hrc]; exact hps x)
    rw [hrc] at hy
    refine ⟨fn, _, assign, body, hy, roundIn_of_wpIn hfn (hassign _ x W _ ⟨_, run_beginRound hb.rec_ (by rw [hrc]), ?_⟩)⟩
    have hb2 := hb.turn hDl { rc .ready none with state := .busy }
    refine wpIn_mono (hbody _ pre x _ hok (hI _ _ _ _ _ hi (by omega) hb.rec_ rfl)) ?_
    have hw2 : Kp W (W.putObj (w.heap.size + 1) (.loop { rc .ready none with state := .busy })) := hKb _ _ _ _ (by omega) hb.rec_ rfl
    rintro e a3 W3 hp
    cases e with
    | normal =>
      obtain ⟨hk3, hkp3, hi3⟩ := hp
      have hb3 := hb2.keep hk3
      exact ⟨_, _, fin none W3 hb3, .inl ⟨rfl, hI _ _ _ _ _ hi3 (by omega) hb3.rec_ rfl, hb3.turn hDl _, hKt (hKt hw2 hkp3) (hKb _ _ _ _ (by omega) hb3.rec_ rfl)⟩⟩
    | ret =>
      obtain ⟨hk3, hi3⟩ := hp
      have hb3 := hb2.keep hk3
      exact ⟨_, _, fin (some .ret) W3 hb3, .inr ⟨rfl, .ret, hIx _ _ _ _ _ _ hi3 (by omega) hb3.rec_ rfl, hb3.turn hDl _⟩⟩
    | exit id =>
      obtain ⟨hk3, hi3⟩ := hp
      have hb3 := hb2.keep hk3
      exact ⟨_, _, fin (some (.exit id)) W3 hb3, .inr ⟨rfl, .exit id, hIx _ _ _ _ _ _ hi3 (by omega) hb3.rec_ rfl, hb3.turn hDl _⟩⟩
    | goto t =>
      obtain ⟨hk3, hi3⟩ := hp
      have hb3 := hb2.keep hk3
      exact ⟨_, _, fin (some (.goto t)) W3 hb3, .inr ⟨rfl, .goto t, hIx _ _ _ _ _ _ hi3 (by omega) hb3.rec_ rfl, hb3.turn hDl _⟩⟩
    | panic ch => exact hp.elim
    | outgrown => exact hp.elim
  · -- behind the iterator
    rintro e W2 ⟨⟨v, rfl⟩, (⟨xs, hS, hi, hb⟩ | ⟨pre, c, hsuf, hi, hb⟩)⟩
    · have he := run_endLoop (P := P) hb.rec_ (by rw [hrc]; simp)
      rw [hrc] at he
      exact ⟨none, _, he, hdone _ xs _ (Nat.le_refl _) hS (hI _ _ _ _ _ hi (by omega) hb.rec_ rfl) ((World.putObj_heap_other hDl).trans hb.def_)⟩
    · have he := run_endLoop (P := P) hb.rec_ (by rw [hrc]; simp)
      rw [hrc] at he
      exact ⟨some c, _, he, hstop _ c pre _ (Nat.le_refl _) hsuf (hIx _ _ _ _ _ _ hi (by omega) hb.rec_ rfl) ((World.putObj_heap_other hDl).trans hb.def_)⟩
end Go.Proofs.YtbphndihjdiiiaaGreatDoor
/- The iterator of strings.SplitSeq at ",": what it serves. -/
namespace Go.Proofs.YtbphndihjdiiiaaGreatDoor
open Go Go.RowKit
attribute [local go_sem] Oper.semAt_some

/-- The three boxes that the iterator has captured lie as they lay. -/
def KeepsBoxes (bs : Nat) (W W' : World) : Prop := ∀ b, bs ≤ b → b < bs + 3 → W'.heap[b]? = W.heap[b]?
theorem KeepsBoxes.refl (bs : Nat) (W : World) : KeepsBoxes bs W W := fun _ _ _ => rfl
theorem KeepsBoxes.trans {bs : Nat} {A B C : World} (h : KeepsBoxes bs A B) (k : KeepsBoxes bs B C) : KeepsBoxes bs A C := fun b h1 h2 => (k b h1 h2).trans (h b h1 h2)
theorem KeepsBoxes.put {bs : Nat} {W : World} {l : Nat} (hl : bs + 3 ≤ l) (o : Obj) : KeepsBoxes bs W (W.putObj l o) := fun b _ h2 => World.putObj_heap_other (by omega)
/-- The boxes: the rest of the text, the comma, how much of the comma is told. -/
structure SplitAt (bs : Nat) (rest : List UInt8) (W : World) : Prop where
  s : W.heap[bs]? = some (.cells #[.string ⟨rest.toArray⟩] 9 (0, 0))
  sep : W.heap[bs + 1]? = some (.cells #[.string ⟨#[44]⟩] 9 (0, 0))
  save : W.heap[bs + 2]? = some (.cells #[.int .i64 0] 3 (0, 0))
theorem SplitAt.keep {bs : Nat} {rest : List UInt8} {W W' : World} (h : SplitAt bs rest W) (k : KeepsBoxes bs W W') : SplitAt bs rest W' :=
  ⟨(k _ (by omega) (by omega)).trans h.s, (k _ (by omega) (by omega)).trans h.sep, (k _ (by omega) (by omega)).trans h.save⟩
theorem SplitAt.next {bs : Nat} {rest : List UInt8} {W : World} (h : SplitAt bs rest W) (r : List UInt8) : SplitAt bs r (W.setCell ⟨bs, 0, none⟩ (.string ⟨r.toArray⟩)) :=
  ⟨by simp [World.setCell, Array.getElem?_modify, h.s], (Below.heap_setCell W _ _ _ (by simp)).trans h.sep, (Below.heap_setCell W _ _ _ (by simp)).trans h.save⟩
theorem splitSeq_any (s : ByteArray) (w : World) :
    Calls Tryz.prog 49 #[.string s, .string ⟨#[44]⟩] w fun e w' => e = .returned (.func (.func 160) #[] #[.pointer (some ⟨w.heap.size + 1, 0, none⟩), .pointer (some ⟨w.heap.size, 0, none⟩), .pointer (some ⟨w.heap.size + 2, 0, none⟩)]) ∧ ((w.alloc (.cells #[.string s] 9)).alloc (.cells #[.string ⟨#[44]⟩] 9)).alloc (.cells #[.int .i64 0] 3) = w' := by
  go_enter Tryz.func49, Tryz.ntmps49
  go_wp2
  go_ret
  exact ⟨rfl, rfl⟩
def restLen (bs : Nat) (W : World) : Nat := match W.cell? ⟨bs, 0, none⟩ with
  | some (Value.string s) => s.size
  | _ => 0
theorem SplitAt.cell {bs : Nat} {rest : List UInt8} {W : World} (h : SplitAt bs rest W) : W.cell? ⟨bs, 0, none⟩ = some (.string ⟨rest.toArray⟩) := Lib.cell_of_heap h.s 0
theorem SplitAt.len {bs : Nat} {rest : List UInt8} {W : World} (h : SplitAt bs rest W) : restLen bs W = rest.length := by
  unfold restLen; rw [h.cell]; exact ba_size rest
set_option maxHeartbeats 2000000 in
set_option maxRecDepth 100000 in
theorem split_serves (n bs : Nat) (l : List UInt8) (hl : l.length ≤ 100000) (I : List (List UInt8) → World → Prop) (Ix : Code → List (List UInt8) → World → Prop)
    (hset : ∀ pre W v, I pre W → I pre (W.setCell ⟨bs, 0, none⟩ v)) (hdr : ∀ pre W, I pre W → I pre W.drew) (W : World) (hb : SplitAt bs l W) :
    Serves Fence.wide n Tryz.prog 160 #[.pointer (some ⟨bs + 1, 0, none⟩), .pointer (some ⟨bs, 0, none⟩), .pointer (some ⟨bs + 2, 0, none⟩)] (fun x : List UInt8 => #[.string ⟨x.toArray⟩]) (fun pre x => x.length ≤ 100000 ∧ pre.length ≤ 100001) (KeepsBoxes bs) I Ix (fun xs => xs = splitC l) W := by
  intro lp B Bx hB hY h0 hB0
  have HB := Lib.hid hb
  clear hb
  refine callsIn_of_wp Tryz.func160 rfl trivial ?_
  simp only [Tryz.ntmps160, List.size_toArray, List.length_cons, List.length_nil, Nat.reduceAdd, Nat.reduceSub, Array.replicate_succ, Array.replicate_zero, List.push_toArray, List.append_toArray, List.nil_append, List.cons_append]
  have c1 : W.cell? ⟨bs + 1, 0, none⟩ = some (.string ⟨#[44]⟩) := Lib.cell_of_heap HB.out.sep 0
  gi_wp2
  clear c1
  gi_loopw [7, 8] (fun _ _ wr => ∃ (pre : List (List UInt8)) (rest : List UInt8), pre ++ splitC rest = splitC l ∧ I pre wr ∧ B wr ∧ SplitAt bs rest wr ∧ rest.length ≤ 100000) (fun _ _ wr => restLen bs wr)
  case atStart => exact ⟨[], l, rfl, h0, hB0, HB.out, hl⟩
  case round =>
    clear h0 hB0 HB
    obtain ⟨pre, rest, hpre, hi, hb, hsp, hrl⟩ := hrel
    have HP := Lib.hid hpre
    have HSP := Lib.hid hsp
    have c0 := hsp.cell
    have c1 : wr.cell? ⟨bs + 1, 0, none⟩ = some (.string ⟨#[44]⟩) := Lib.cell_of_heap hsp.sep 0
    have c2 : wr.cell? ⟨bs + 2, 0, none⟩ = some (.int .i64 0) := Lib.cell_of_heap hsp.save 0
    have hpl : pre.length ≤ 100001 := by
      have h1 := congrArg List.length hpre
      rw [List.length_append] at h1
      have h2 := splitC_length l
      omega
    have HPL := Lib.hid hpl
    clear hpre hsp hpl
    have hI := fun W => Tryz.strings_Index_one ⟨rest.toArray⟩ 44 W
    simp only at hI
    rcases index_cases 44 rest with ⟨h1, h2⟩ | ⟨k, h1, h2, h3, h4⟩
    · rw [h1] at hI
      have HI := fun W => Lib.hid (hI W)
      have HS : Hid (splitC rest = [rest]) := splitC_none h2
      clear h1 h2 hI
      obtain ⟨fn, tmps, assign, body, hy, hR⟩ := hY pre rest wr ⟨hrl, HPL.out⟩ hi hb
      gi_wp2_with fail
      refine ⟨trivial, (fun h => by cases h), ?_⟩
      refine (callsIn_wide.2 (HI _).out).mono ?_
      rintro e w' ⟨rfl, rfl⟩
      gi_wp2_with fail
      refine ⟨(fun h => by cases h), hR.mono ?_⟩
      rintro e W3 (⟨rfl, hI3, hB3, hk3⟩ | ⟨rfl, c, hx3, hbx3⟩)
      · gi_wp2
        refine bodyPost_end (v := .tuple #[]) (by simp [results, Tryz.results160, go_sem]) rfl ?_
        exact ⟨⟨_, rfl⟩, .inl ⟨pre ++ [rest], by rw [← HP.out, HS.out], hI3, hB3⟩⟩
      · gi_wp2
        refine bodyPost_end (v := .tuple #[]) (by simp [results, Tryz.results160, go_sem]) rfl ?_
        exact ⟨⟨_, rfl⟩, .inr ⟨_, c, ⟨[], by rw [← HP.out, HS.out]; simp⟩, hx3, hbx3⟩⟩
    · rw [h1] at hI
      have HI := fun W => Lib.hid (hI W)
      have HS : Hid (splitC rest = rest.take k :: splitC (rest.drop (k + 1))) := by
        have h5 := splitC_some (a := rest.take k) (b := rest.drop (k + 1)) h4
        rw [← h3] at h5
        exact h5
      have hz : (⟨rest.toArray⟩ : ByteArray).size = rest.length := ba_size rest
      have HZ := Lib.hid hz
      obtain ⟨z, hze⟩ : ∃ z, z = (⟨rest.toArray⟩ : ByteArray).size := ⟨_, rfl⟩
      clear h1 h3 h4 hI
      obtain ⟨fn, tmps, assign, body, hy, hR⟩ := hY pre (rest.take k) wr ⟨by simp; omega, HPL.out⟩ hi hb
      have hkz : k < z := by rw [hze]; have := HZ.out; omega
      have hk0 : (0 : Int) ≤ (k : Int) := by omega
      have hk1 : (k : Int) ≤ ((⟨rest.toArray⟩ : ByteArray).size : Int) := by rw [← hze]; omega
      have hk3 : (k : Int) + 1 ≤ ((⟨rest.toArray⟩ : ByteArray).size : Int) := by rw [← hze]; omega
      have et : (⟨rest.toArray⟩ : ByteArray).extract 0 k = ⟨(rest.take k).toArray⟩ := ex_take ⟨rest.toArray⟩ k
      have ed : (⟨rest.toArray⟩ : ByteArray).extract (k + 1) rest.length = ⟨(rest.drop (k + 1)).toArray⟩ := by have := ex_drop ⟨rest.toArray⟩ (k + 1); rwa [ba_size] at this
      have HZE := Lib.hid hze
      clear hze
      gi_wp2_with fail
      refine ⟨trivial, (fun h => by cases h), ?_⟩
      refine (callsIn_wide.2 (HI _).out).mono ?_
      rintro e w' ⟨rfl, rfl⟩
      gi_wp2_with fail
      refine ⟨(fun h => by cases h), hR.mono ?_⟩
      rintro e W3 (⟨rfl, hI3, hB3, hk3'⟩ | ⟨rfl, c, hx3, hbx3⟩)
      · have HSP3 := Lib.hid (HSP.out.keep hk3')
        have d0 := HSP3.out.cell
        have d1 : W3.cell? ⟨bs + 1, 0, none⟩ = some (.string ⟨#[44]⟩) := Lib.cell_of_heap HSP3.out.sep 0
        have df : W3.frozen? ⟨bs, 0, none⟩ = false := Lib.frozen_of_heap HSP3.out.s 0
        clear hk3' c0 c1 c2
        gi_wp2_with fail
        go_roundw
        case rel =>
          have HN := HSP3.out.next (rest.drop (k + 1))
          refine ⟨pre ++ [rest.take k], rest.drop (k + 1), by rw [← HP.out, HS.out]; simp, hset _ _ _ hI3, hB _ _ (KeepsOthers.setCell _ _ _) hB3, HN, by simp; omega⟩
        case measure =>
          rw [(HSP3.out.next (rest.drop (k + 1))).len, HSP.out.len]; simp; omega
      · gi_wp2_with fail
        refine bodyPost_ret (results_none rfl _ _ _) rfl ?_
        exact ⟨⟨_, rfl⟩, .inr ⟨_, c, ⟨splitC (rest.drop (k + 1)), by rw [← HP.out, HS.out]; simp⟩, hx3, hbx3⟩⟩
end Go.Proofs.YtbphndihjdiiiaaGreatDoor
