/- Contracts of the reference's Holds, Near and Same. Plain laws of a fence's states, and small laws on blocks known whole. Rows that lie behind a box, and what a call that appends through the box leaves. -/
import Derived.Test.YtaaefgieklkekaaGreatDoorZB11
import Derived.Test.YtaaefgieklkekaaGreatDoorZD1
import Derived.IntWalk
namespace Go.Proofs.YtaaefgieklkekaaGreatDoor
open Go.RowKit

theorem rlist_b (A : Option Addr) (c : Nat) (L : List (Int × Int)) (A' : Option Addr) (c' : Nat) (L' : List (Int × Int)) (w : World) (h : Sp w A c L) (h' : Sp w A' c' L') (hl : L.length ≤ 1000000) :
    Calls Tryz.prog 14 #[.slice A L.length c, .slice A' L'.length c'] w fun e w' => e = .returned (.bool (decide (L = L'))) ∧ Below w.heap.size w w' :=
  (rlist_any A c L A' c' L' w h h' hl).mono fun _ _ ⟨he, n, hw⟩ => ⟨he, by rw [← hw]; exact bel_drewN (Below.refl _ _) n⟩
theorem rlist_same (A : Option Addr) (c : Nat) (L : List (Int × Int)) (A' : Option Addr) (c' : Nat) (w : World) (h : Sp w A c L) (h' : Sp w A' c' L) (hl : L.length ≤ 1000000) :
    Calls Tryz.prog 14 #[.slice A L.length c, .slice A' L.length c'] w fun e w' => e = .returned (.bool true) ∧ Below w.heap.size w w' :=
  (rlist_b A c L A' c' L w h h' hl).mono fun _ _ ⟨he, hb⟩ => ⟨by rw [he]; simp, hb⟩
set_option maxHeartbeats 2000000 in
theorem rsame_any (A : Option Addr) (c : Nat) (L : List (Int × Int)) (B : Option Addr) (d : Nat) (M : List (Int × Int)) (w : World) (h : Sp w A c L) (h' : Sp w B d M) (hl : L.length ≤ 100000) (hl' : M.length ≤ 100000) :
    Calls Tryz.prog 19 #[.slice A L.length c, .slice B M.length d] w fun e w' => e = .returned (.bool (decide (cano L = cano M))) ∧ Below w.heap.size w w' := by
  have HO1 := Lib.hid (rOf_any A c L w h hl)
  have HO2 := fun W hW => Lib.hid (rOf_any B d M W hW hl')
  have hH' := Lib.hid h'
  have hcl := cano_length L
  have hcm := cano_length M
  clear h h'
  go_enter Tryz.func19, Tryz.ntmps19
  go_wp2_with fail
  refine HO1.out.mono ?_
  rintro e w1 ⟨A1, c1, rfl, ho1, hb1⟩
  have H1 := Lib.hid (Own.sp ho1)
  have HB1 := Lib.hid hb1
  clear ho1 hb1 HO1
  go_wp2_with fail
  refine (HO2 _ (hH'.out.below HB1.out)).out.mono ?_
  rintro e w2 ⟨A2, c2, rfl, ho2, hb2⟩
  have H2 := Lib.hid (Own.sp ho2)
  have H1' := Lib.hid (H1.out.below hb2)
  have HB2 := Lib.hid (bel_chain hb2 HB1.out)
  clear ho2 hb2 HO2 H1 HB1 hH'
  generalize hXX : cano L = X at *
  generalize hYY : cano M = Y at *
  have HXX := Lib.hid hXX
  have HYY := Lib.hid hYY
  clear hXX hYY
  by_cases hll : X.length = Y.length
  · have hbb : ((X.length : Int) != (Y.length : Int)) = false := by simp [hll]
    have hle : X.length ≤ Y.length := by omega
    have hge : Y.length ≤ X.length := by omega
    clear hll
    go_wp2_with fail
    clear hbb
    go_loopw [7] (fun i wr => ∃ k n : Nat, k ≤ X.length ∧ i = .int .i64 k ∧ X.take k = Y.take k ∧ wr = w2.drewN n) (fun i _ => X.length - (intOf i).toNat)
    case atStart => exact ⟨0, 0, Nat.zero_le _, rfl, by simp, rfl⟩
    case round =>
      obtain ⟨k, n, hk, rfl, hin, rfl⟩ := hrel
      have HI := Lib.hid hin
      clear hin
      by_cases hlt : k < X.length
      · have hlt' : k < Y.length := by omega
        obtain ⟨b, off, e, hb, c1, c2⟩ := H1'.out.at_ hlt
        obtain ⟨b', off', e', hb', c1', c2'⟩ := H2.out.at_ hlt'
        obtain ⟨⟨x1, x2⟩, hx⟩ : ∃ x, X[k] = x := ⟨_, rfl⟩
        obtain ⟨⟨y1, y2⟩, hy⟩ : ∃ x, Y[k] = x := ⟨_, rfl⟩
        rw [hx] at c1 c2
        rw [hy] at c1' c2'
        have HX := Lib.hid hx
        have HY := Lib.hid hy
        clear hx hy
        subst e
        subst e'
        by_cases exy : x1 = y1 ∧ x2 = y2
        · obtain ⟨rfl, rfl⟩ := exy
          go_wp2_with fail
          go_quiet (fail)
          go_wp2_with fail
          go_roundw
          case rel => exact ⟨k + 1, _, by omega, by go_num, take_eq_step hlt hlt' HI.out (by rw [HX.out, HY.out]), rfl⟩
          case measure => simp [intOf]; omega
        · have HE : Hid (X[k] ≠ Y[k]) := by
            simp only [Hid]; rw [HX.out, HY.out]; intro h; injection h with h1 h2; exact exy ⟨h1, h2⟩
          have exy' : x1 = y1 → (x2 == y2) = false := fun h => by simpa using fun h2 => exy ⟨h, h2⟩
          clear exy
          by_cases e1 : x1 = y1
          · have e2 := exy' e1
            subst e1
            clear exy'
            go_wp2_with fail
            go_quiet (fail)
            go_wp2_with fail
            go_ret
            exact ⟨ret_bool (by rw [HXX.out, HYY.out]; exact (ne_of_at hlt hlt' HE.out).symm), bel_drewN (bel_drewN HB2.out _) _⟩
          · have e2 : (x1 == y1) = false := by simpa using e1
            clear exy' e1
            go_wp2_with fail
            go_quiet (fail)
            go_wp2_with fail
            go_ret
            exact ⟨ret_bool (by rw [HXX.out, HYY.out]; exact (ne_of_at hlt hlt' HE.out).symm), bel_drewN (bel_drewN HB2.out _) _⟩
      · go_wp2
        go_ret
        refine ⟨ret_bool ?_, bel_drewN HB2.out _⟩
        have h1 := HI.out
        rw [List.take_of_length_le (by omega), List.take_of_length_le (by omega)] at h1
        rw [HXX.out, HYY.out]
        simp [h1]
  · have hbb : ((X.length : Int) != (Y.length : Int)) = true := by rw [bne_iff_ne]; omega
    have H : Hid (decide (X = Y) = false) := by
      simp only [Hid, decide_eq_false_iff_not]; rintro rfl; exact hll rfl
    clear hll
    go_wp2_with fail
    go_ret
    exact ⟨ret_bool (by rw [HXX.out, HYY.out, H.out]), HB2.out⟩
end Go.Proofs.YtaaefgieklkekaaGreatDoor
namespace Go.Proofs.YtaaefgieklkekaaGreatDoor
open Go.RowKit

theorem cell_grown {w w' : World} {po b o : Nat} (h : w.grownBy w' (some po)) (hb : b < w.heap.size) (hne : b ≠ po) : w'.cell? ⟨b, o, none⟩ = w.cell? ⟨b, o, none⟩ :=
  World.cell?_of_block (w := w) (w' := w') (a := ⟨b, o, none⟩) (h.block b hb (by intro e; injection e with e; exact hne e))
theorem Sp.grown {w w' : World} {A : Option Addr} {c : Nat} {L : List (Int × Int)} {po : Nat} (h : Sp w A c L) (hne : OffB A po) (hg : w.grownBy w' (some po)) : Sp w' A c L :=
  ⟨h.le, h.nil_, fun hn => by
    obtain ⟨b, off, e, hb, hc⟩ := h.at' hn
    have hs := hg.size
    have hb' : b ≠ po := hne _ e
    exact ⟨b, off, e, by omega, fun i x hx => by rw [cell_grown hg hb hb', cell_grown hg hb hb']; exact hc i x hx⟩⟩
theorem blk_keep {W w' : World} {g : Nat} {o : Obj} (hb : Below W.heap.size W w') (h : W.heap[g]? = some o) : w'.heap[g]? = some o := (hb.block g (Array.getElem?_eq_some_iff.1 h).1).trans h
theorem blk_cell {w : World} {g i : Nat} {cs : Array Value} {t : TypeId} {f : Nat × Nat} {v : Value} (h : w.heap[g]? = some (.cells cs t f)) (hv : cs[i]? = some v) : w.cell? ⟨g, i, none⟩ = some v := (Lib.cell_of_heap h i).trans hv
theorem blk_frozen {w : World} {g i : Nat} {cs : Array Value} {t : TypeId} (h : w.heap[g]? = some (.cells cs t (0, 0))) : w.frozen? ⟨g, i, none⟩ = false := Lib.frozen_of_heap h i
theorem blk_lt {w : World} {g : Nat} {o : Obj} (h : w.heap[g]? = some o) : g < w.heap.size := (Array.getElem?_eq_some_iff.1 h).1
theorem blk_new {w : World} {o : Obj} {g : Nat} (hg : g = w.heap.size) : (w.alloc o).heap[g]? = some o := by subst hg; exact heap_alloc_new w o
theorem blk_skip {w : World} {o o' : Obj} {g : Nat} (h : w.heap[g]? = some o) : (w.alloc o').heap[g]? = some o := (Below.heap_alloc w o' g (blk_lt h)).trans h
theorem blk_drew {w : World} {o : Obj} {g : Nat} (h : w.heap[g]? = some o) : w.drew.heap[g]? = some o := h
theorem blk_set_ne {w : World} {o : Obj} {g : Nat} {p : Addr} {v : Value} (hne : g ≠ p.block) (h : w.heap[g]? = some o) : (w.setCell p v).heap[g]? = some o := (Below.heap_setCell w p v g hne).trans h
theorem blk_set {w : World} {g i : Nat} {cs : Array Value} {t : TypeId} {f : Nat × Nat} {v : Value} (h : w.heap[g]? = some (.cells cs t f)) : (w.setCell ⟨g, i, none⟩ v).heap[g]? = some (.cells (cs.setIfInBounds i v) t f) := by
  simp [World.setCell, Array.getElem?_modify, h]
end Go.Proofs.YtaaefgieklkekaaGreatDoor
namespace Go.Proofs.YtaaefgieklkekaaGreatDoor
open Go.RowKit

section
variable {γ : Type} {w w' : World} {r i base c n : Nat} {T T' : TypeId} {en : γ → List Value} {A : Option Addr} {L : List γ} {cs : Array Value} {f : Nat × Nat}
theorem grown_set' (W : World) (p : Addr) (v : Value) : W.grownBy (W.setCell p v) (some p.block) := by
  have h := Below.setCell (Below.refl 0 W) (p := p) (Nat.zero_le _) v
  exact ⟨h.os, h.tape, h.output, h.size, fun k _ hne => Below.heap_setCell W p v k (by intro e; exact hne (by rw [e]))⟩
/-- A row's block is of its own type. -/
theorem OwnG.ne_ty (h : OwnG T en n w base A c L) (hr : w.heap[r]? = some (.cells cs T' f)) (hT : T ≠ T') : (Value.slice A L.length c).ownBlock ≠ some r := by
  intro e
  rcases h.2 with ⟨hv, _⟩ | ⟨g, cap, cur, hv, _, hg, _⟩
  · rw [hv] at e; simp [Value.ownBlock] at e
  · rw [hv] at e
    simp [Value.ownBlock] at e
    subst e
    rw [hg] at hr
    injection hr with hr
    injection hr with h1 h2 h3
    exact hT h2
theorem OwnG.set_ty (h : OwnG T en n w base A c L) (hr : w.heap[r]? = some (.cells cs T' f)) (hT : T ≠ T') (v : Value) : OwnG T en n (w.setCell ⟨r, i, none⟩ v) base A c L :=
  World.ownsRow.kept h (grown_set' w ⟨r, i, none⟩ v) (.inr (h.ne_ty hr hT))
theorem blk_keepG {o : Obj} (hr : w.heap[r]? = some o) (hg : w.grownBy w' (Value.slice A L.length c).ownBlock) (hne : (Value.slice A L.length c).ownBlock ≠ some r) : w'.heap[r]? = some o :=
  (hg.block r (blk_lt hr) (fun e => hne e.symm)).trans hr
/-- All blocks but two are kept. -/
def Off (w w' : World) (PO : Nat) (B : Option Nat) : Prop := ∀ (k : Nat) (o : Obj), w.heap[k]? = some o → k ≠ PO → B ≠ some k → w'.heap[k]? = some o
/-- What an append behind a box leaves. -/
def PutPost (T ST : TypeId) (en : γ → List Value) (n : Nat) (w0 w : World) (PO : Nat) (A : Option Addr) (c : Nat) (L X : List γ) (e : Ending) (w' : World) : Prop :=
  e = .returned (.tuple #[]) ∧ ∃ A' c' m, m = (L ++ X).length ∧ w'.heap[PO]? = some (.cells #[.slice A' m c'] ST (0, 0)) ∧ OwnG T en n w' w0.heap.size A' c' (L ++ X) ∧ Below w0.heap.size w0 w' ∧ Off w w' PO (Value.slice A L.length c).ownBlock
theorem Off.block {PO : Nat} {B : Option Nat} (h : Off w w' PO B) {k : Nat} {o : Obj} (hk : w.heap[k]? = some o) (h1 : k ≠ PO) (h2 : B ≠ some k) : w'.heap[k]? = some o := h k o hk h1 h2
/-- Through an alloc, the append, and the store in the box. -/
theorem off_put {PO : Nat} {B : Option Nat} {w1 w2 : World} {v : Value} (h1 : ∀ (k : Nat) (o : Obj), w.heap[k]? = some o → w1.heap[k]? = some o) (h2 : w1.grownBy w2 B) : Off w (w2.setCell ⟨PO, i, none⟩ v) PO B := by
  intro k o hk hp hb
  have e1 := h1 k o hk
  have e2 : w2.heap[k]? = some o := (h2.block k (blk_lt e1) (fun e => hb e.symm)).trans e1
  exact blk_set_ne hp e2
end
end Go.Proofs.YtaaefgieklkekaaGreatDoor
