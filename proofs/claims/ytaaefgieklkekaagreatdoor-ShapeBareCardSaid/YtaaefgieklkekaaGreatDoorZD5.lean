/- Contracts of the reference's Holds, Near and Same. Plain laws of a fence's states, and small laws on blocks known whole. Rows that lie behind a box, and what a call that appends through the box leaves. -/
import Derived.Test.YtaaefgieklkekaaGreatDoorZB11
import Derived.Test.YtaaefgieklkekaaGreatDoorZD1
import Derived.IntWalk
namespace Go.Proofs.YtaaefgieklkekaaGreatDoor
open Go.RowKit

theorem rlist_b (A : Option Addr) (c : Nat) (L : List (Int × Int)) (A' : Option Addr) (c' : Nat) (L' : List (Int × Int)) (w : World) (h : Sp w A c L) (h' : Sp w A' c' L') (hl : L.length ≤ 1000000) :
    Calls Tryz.prog 14 #[.slice A L.length c, .slice A' L'.length c'] w fun e w' => e = .returned (.bool (decide (L = L'))) ∧ Below w.heap.size w w' :=
  (rlist_any A c L A' c' L' w h h' hl).mono fun _ _ ⟨he, n, hw⟩ => ⟨he, by rw [← hw]; exact bel_drewN (Below.refl _ _) n⟩
theorem rlist_same (A : Option Addr) (c : Nat) (L : List (Int × Int)) (A' : Option Addr) (c' : Nat) (w : World) (h : Sp w A c L) (h' : Sp w A' c' L) (hl : L.length ≤ 1000000) :
    Calls Tryz.prog 14 #[.slice A L.length c, .slice A' L.length c'] w fun e w' => e = .returned (.bool true) ∧ Below w.heap.size w w' :=
  (rlist_b A c L A' c' L w h h' hl).mono fun _ _ ⟨he, hb⟩ => ⟨by rw [he]; simp, hb⟩
theorem gap_step {gap : Int} {L T D : List (Int × Int)} {k : Nat} {x y : Int × Int} (hk : k < L.length) (hk1 : k + 1 < L.length) (hx : L[k] = x) (hy : L[k + 1] = y) (h : y.1 - x.2 ≤ gap) (he : D ++ gapsL gap (L.drop k) = T) : (D ++ [(x.2, y.1)]) ++ gapsL gap (L.drop (k + 1)) = T := by
  rw [drop_at hk, drop_at hk1, hx, hy, gapsL_yes h] at he
  rw [drop_at hk1, hy, ← he]; simp
theorem gap_skip {gap : Int} {L T D : List (Int × Int)} {k : Nat} {x y : Int × Int} (hk : k < L.length) (hk1 : k + 1 < L.length) (hx : L[k] = x) (hy : L[k + 1] = y) (h : ¬ y.1 - x.2 ≤ gap) (he : D ++ gapsL gap (L.drop k) = T) : D ++ gapsL gap (L.drop (k + 1)) = T := by
  rw [drop_at hk, drop_at hk1, hx, hy, gapsL_no h] at he
  rw [drop_at hk1, hy, ← he]
theorem gap_end {gap : Int} {L T D : List (Int × Int)} {k : Nat} (hk : ¬ k + 1 < L.length) (he : D ++ gapsL gap (L.drop k) = T) : D = T := by
  by_cases h : k < L.length
  · rw [drop_at h, drop_end hk] at he
    simpa [gapsL] using he
  · rw [drop_end h] at he
    simpa [gapsL] using he

set_option maxHeartbeats 2000000 in
theorem rsame_any (A : Option Addr) (c : Nat) (L : List (Int × Int)) (B : Option Addr) (d : Nat) (M : List (Int × Int)) (w : World) (h : Sp w A c L) (h' : Sp w B d M) (hl : L.length ≤ 100000) (hl' : M.length ≤ 100000) :
    Calls Tryz.prog 19 #[.slice A L.length c, .slice B M.length d] w fun e w' => e = .returned (.bool (decide (cano L = cano M))) ∧ Below w.heap.size w w' := by
  have HO1 := Lib.hid (rOf_any A c L w h hl)
  have HO2 := fun W hW => Lib.hid (rOf_any B d M W hW hl')
  have hH' := Lib.hid h'
  have hcl := cano_length L
  have hcm := cano_length M
  clear h h'
  go_enter Tryz.func19, Tryz.ntmps19
  go_wp2_with fail
  refine HO1.out.mono ?_
  rintro e w1 ⟨A1, c1, rfl, ho1, hb1⟩
  have H1 := Lib.hid (Own.sp ho1)
  have HB1 := Lib.hid hb1
  clear ho1 hb1 HO1
  go_wp2_with fail
  refine (HO2 _ (hH'.out.below HB1.out)).out.mono ?_
  rintro e w2 ⟨A2, c2, rfl, ho2, hb2⟩
  have H2 := Lib.hid (Own.sp ho2)
  have H1' := Lib.hid (H1.out.below hb2)
  have HB2 := Lib.hid (bel_chain hb2 HB1.out)
  clear ho2 hb2 HO2 H1 HB1 hH'
  generalize hXX : cano L = X at *
  generalize hYY : cano M = Y at *
  have HXX := Lib.hid hXX
  have HYY := Lib.hid hYY
  clear hXX hYY
  by_cases hll : X.length = Y.length
  · have hbb : ((X.length : Int) != (Y.length : Int)) = false := by simp [hll]
    have hle : X.length ≤ Y.length := by omega
    have hge : Y.length ≤ X.length := by omega
    clear hll
    go_wp2_with fail
    clear hbb
    go_loopw [7] (fun i wr => ∃ k n : Nat, k ≤ X.length ∧ i = .int .i64 k ∧ X.take k = Y.take k ∧ wr = w2.drewN n) (fun i _ => X.length - (intOf i).toNat)
    case atStart => exact ⟨0, 0, Nat.zero_le _, rfl, by simp, rfl⟩
    case round =>
      obtain ⟨k, n, hk, rfl, hin, rfl⟩ := hrel
      have HI := Lib.hid hin
      clear hin
      by_cases hlt : k < X.length
      · have hlt' : k < Y.length := by omega
        obtain ⟨b, off, e, hb, c1, c2⟩ := H1'.out.at_ hlt
        obtain ⟨b', off', e', hb', c1', c2'⟩ := H2.out.at_ hlt'
        obtain ⟨⟨x1, x2⟩, hx⟩ : ∃ x, X[k] = x := ⟨_, rfl⟩
        obtain ⟨⟨y1, y2⟩, hy⟩ : ∃ x, Y[k] = x := ⟨_, rfl⟩
        rw [hx] at c1 c2
        rw [hy] at c1' c2'
        have HX := Lib.hid hx
        have HY := Lib.hid hy
        clear hx hy
        subst e
        subst e'
        by_cases exy : x1 = y1 ∧ x2 = y2
        · obtain ⟨rfl, rfl⟩ := exy
          go_wp2_with fail
          go_quiet (fail)
          go_wp2_with fail
          go_roundw
          case rel => exact ⟨k + 1, _, by omega, by go_num, take_eq_step hlt hlt' HI.out (by rw [HX.out, HY.out]), rfl⟩
          case measure => simp [intOf]; omega
        · have HE : Hid (X[k] ≠ Y[k]) := by
            simp only [Hid]; rw [HX.out, HY.out]; intro h; injection h with h1 h2; exact exy ⟨h1, h2⟩
          have exy' : x1 = y1 → (x2 == y2) = false := fun h => by simpa using fun h2 => exy ⟨h, h2⟩
          clear exy
          by_cases e1 : x1 = y1
          · have e2 := exy' e1
            subst e1
            clear exy'
            go_wp2_with fail
            go_quiet (fail)
            go_wp2_with fail
            go_ret
            exact ⟨ret_bool (by rw [HXX.out, HYY.out]; exact (ne_of_at hlt hlt' HE.out).symm), bel_drewN (bel_drewN HB2.out _) _⟩
          · have e2 : (x1 == y1) = false := by simpa using e1
            clear exy' e1
            go_wp2_with fail
            go_quiet (fail)
            go_wp2_with fail
            go_ret
            exact ⟨ret_bool (by rw [HXX.out, HYY.out]; exact (ne_of_at hlt hlt' HE.out).symm), bel_drewN (bel_drewN HB2.out _) _⟩
      · go_wp2
        go_ret
        refine ⟨ret_bool ?_, bel_drewN HB2.out _⟩
        have h1 := HI.out
        rw [List.take_of_length_le (by omega), List.take_of_length_le (by omega)] at h1
        rw [HXX.out, HYY.out]
        simp [h1]
  · have hbb : ((X.length : Int) != (Y.length : Int)) = true := by rw [bne_iff_ne]; omega
    have H : Hid (decide (X = Y) = false) := by
      simp only [Hid, decide_eq_false_iff_not]; rintro rfl; exact hll rfl
    clear hll
    go_wp2_with fail
    go_ret
    exact ⟨ret_bool (by rw [HXX.out, HYY.out, H.out]), HB2.out⟩
end Go.Proofs.YtaaefgieklkekaaGreatDoor
namespace Go.Proofs.YtaaefgieklkekaaGreatDoor
open Go.RowKit

theorem cell_grown {w w' : World} {po b o : Nat} (h : w.grownBy w' (some po)) (hb : b < w.heap.size) (hne : b ≠ po) : w'.cell? ⟨b, o, none⟩ = w.cell? ⟨b, o, none⟩ :=
  World.cell?_of_block (w := w) (w' := w') (a := ⟨b, o, none⟩) (h.block b hb (by intro e; injection e with e; exact hne e))
theorem Sp.grown {w w' : World} {A : Option Addr} {c : Nat} {L : List (Int × Int)} {po : Nat} (h : Sp w A c L) (hne : OffB A po) (hg : w.grownBy w' (some po)) : Sp w' A c L :=
  ⟨h.le, h.nil_, fun hn => by
    obtain ⟨b, off, e, hb, hc⟩ := h.at' hn
    have hs := hg.size
    have hb' : b ≠ po := hne _ e
    exact ⟨b, off, e, by omega, fun i x hx => by rw [cell_grown hg hb hb', cell_grown hg hb hb']; exact hc i x hx⟩⟩
theorem grown_alloc {w W : World} {po : Option Nat} (h : w.grownBy W po) (o : Obj) : w.grownBy (W.alloc o) po :=
  ⟨h.os, h.tape, h.output, by have := h.size; simp; omega, fun k hk hne => (Below.heap_alloc W o k (by have := h.size; omega)).trans (h.block k hk hne)⟩
theorem grown_set {w W : World} {p : Addr} (h : w.grownBy W (some p.block)) (u : Value) : w.grownBy (W.setCell p u) (some p.block) :=
  ⟨h.os, h.tape, h.output, by have := h.size; simp [World.setCell]; omega, fun k hk hne => (Below.heap_setCell W p u k (fun e => hne (by rw [e]))).trans (h.block k hk hne)⟩
theorem blk_keep {W w' : World} {g : Nat} {o : Obj} (hb : Below W.heap.size W w') (h : W.heap[g]? = some o) : w'.heap[g]? = some o := (hb.block g (Array.getElem?_eq_some_iff.1 h).1).trans h
theorem blk_cell {w : World} {g i : Nat} {cs : Array Value} {t : TypeId} {f : Nat × Nat} {v : Value} (h : w.heap[g]? = some (.cells cs t f)) (hv : cs[i]? = some v) : w.cell? ⟨g, i, none⟩ = some v := (Lib.cell_of_heap h i).trans hv
theorem blk_frozen {w : World} {g i : Nat} {cs : Array Value} {t : TypeId} (h : w.heap[g]? = some (.cells cs t (0, 0))) : w.frozen? ⟨g, i, none⟩ = false := Lib.frozen_of_heap h i
theorem cells8 {w : World} {g : Nat} {a0 a1 a2 a3 a4 a5 a6 a7 : Value} {t : TypeId} {f : Nat × Nat} (h : w.heap[g]? = some (.cells #[a0, a1, a2, a3, a4, a5, a6, a7] t f)) :
    w.cell? ⟨g, 0, none⟩ = some a0 ∧ w.cell? ⟨g, 1, none⟩ = some a1 ∧ w.cell? ⟨g, 2, none⟩ = some a2 ∧ w.cell? ⟨g, 3, none⟩ = some a3 ∧ w.cell? ⟨g, 4, none⟩ = some a4 ∧ w.cell? ⟨g, 5, none⟩ = some a5 ∧ w.cell? ⟨g, 6, none⟩ = some a6 ∧ w.cell? ⟨g, 7, none⟩ = some a7 :=
  ⟨blk_cell h rfl, blk_cell h rfl, blk_cell h rfl, blk_cell h rfl, blk_cell h rfl, blk_cell h rfl, blk_cell h rfl, blk_cell h rfl⟩
theorem cells123 {w : World} {g : Nat} {a0 a1 a2 a3 a4 a5 a6 a7 : Value} {t : TypeId} {f : Nat × Nat} (h : w.heap[g]? = some (.cells #[a0, a1, a2, a3, a4, a5, a6, a7] t f)) :
    w.cell? ⟨g, 1, none⟩ = some a1 ∧ w.cell? ⟨g, 2, none⟩ = some a2 ∧ w.cell? ⟨g, 3, none⟩ = some a3 :=
  ⟨blk_cell h rfl, blk_cell h rfl, blk_cell h rfl⟩
theorem cells1 {w : World} {g : Nat} {a0 : Value} {t : TypeId} {f : Nat × Nat} (h : w.heap[g]? = some (.cells #[a0] t f)) : w.cell? ⟨g, 0, none⟩ = some a0 := blk_cell h rfl
theorem blk_lt {w : World} {g : Nat} {o : Obj} (h : w.heap[g]? = some o) : g < w.heap.size := (Array.getElem?_eq_some_iff.1 h).1
theorem blk_new {w : World} {o : Obj} {g : Nat} (hg : g = w.heap.size) : (w.alloc o).heap[g]? = some o := by subst hg; exact heap_alloc_new w o
theorem blk_skip {w : World} {o o' : Obj} {g : Nat} (h : w.heap[g]? = some o) : (w.alloc o').heap[g]? = some o := (Below.heap_alloc w o' g (blk_lt h)).trans h
theorem blk_drew {w : World} {o : Obj} {g : Nat} (h : w.heap[g]? = some o) : w.drew.heap[g]? = some o := h
theorem blk_drewN {w : World} {o : Obj} {g n : Nat} (h : w.heap[g]? = some o) : (w.drewN n).heap[g]? = some o := h

theorem blk_set_ne {w : World} {o : Obj} {g : Nat} {p : Addr} {v : Value} (hne : g ≠ p.block) (h : w.heap[g]? = some o) : (w.setCell p v).heap[g]? = some o := (Below.heap_setCell w p v g hne).trans h
theorem blk_set {w : World} {g i : Nat} {cs : Array Value} {t : TypeId} {f : Nat × Nat} {v : Value} (h : w.heap[g]? = some (.cells cs t f)) : (w.setCell ⟨g, i, none⟩ v).heap[g]? = some (.cells (cs.setIfInBounds i v) t f) := by
  simp [World.setCell, Array.getElem?_modify, h]
theorem Sp.grown' {w w' : World} {A : Option Addr} {c : Nat} {L : List (Int × Int)} {po : Nat} (h : Sp w A c L) (hne : 0 < L.length → OffB A po) (hg : w.grownBy w' (some po)) : Sp w' A c L :=
  ⟨h.le, h.nil_, fun hn => (h.grown (hne hn) hg).at' hn⟩
theorem Sp.setOff {w : World} {A : Option Addr} {c : Nat} {L : List (Int × Int)} {p : Addr} (h : Sp w A c L) (hne : 0 < L.length → OffB A p.block) (v : Value) : Sp (w.setCell p v) A c L :=
  h.grown' hne (grown_set (World.grownBy.refl _ _) v)
/-- A block without two numbers one behind the other is no block of spans. -/
structure NoPair (cs : Array Value) : Prop where
  out : ∀ o a b, cs[o]? = some (.int .i64 a) → cs[o + 1]? = some (.int .i64 b) → False
theorem Sp.off_blk {w : World} {A : Option Addr} {c : Nat} {L : List (Int × Int)} {g : Nat} {cs : Array Value} {t : TypeId} {f : Nat × Nat} (h : Sp w A c L) (hl : 0 < L.length) (hb : w.heap[g]? = some (.cells cs t f)) (hno : NoPair cs) : OffB A g := by
  obtain ⟨b, off, e, _, hc⟩ := h.at' hl
  intro a ha
  rw [e] at ha
  injection ha with ha
  subst ha
  rintro rfl
  have := hc 0 L[0] (List.getElem?_eq_getElem hl)
  rw [Lib.cell_of_heap hb, Lib.cell_of_heap hb] at this
  exact hno.out _ _ _ this.1 this.2
theorem noPair8 (b0 : Bool) (A1 : Option Addr) (n1 c1 : Nat) (A2 : Option Addr) (n2 c2 : Nat) (A3 : Option Addr) (n3 c3 : Nat) (b4 b5 : Bool) (k6 : Int) (b7 : Bool) : NoPair #[.bool b0, .slice A1 n1 c1, .slice A2 n2 c2, .slice A3 n3 c3, .bool b4, .bool b5, .int .i64 k6, .bool b7] := by
  refine ⟨fun o a b h1 h2 => ?_⟩
  match o, h1, h2 with
  | 0, h1, _ => simp at h1
  | 1, h1, _ => simp at h1
  | 2, h1, _ => simp at h1
  | 3, h1, _ => simp at h1
  | 4, h1, _ => simp at h1
  | 5, h1, _ => simp at h1
  | 6, _, h2 => simp at h2
  | 7, h1, _ => simp at h1
  | o + 8, h1, _ => simp at h1
theorem noPair1 (v : Value) : NoPair #[v] := by
  refine ⟨fun o a b h1 h2 => ?_⟩
  simp at h2

/-- What is neither kept nor to come. -/
def wantL (R H F : List (Int × Int)) : List (Int × Int) := ofOp (ofOp R H 3) F 3
def lostL (tu fa jo : Bool) (R H F : List (Int × Int)) : List (Int × Int) := if (!tu && !fa && jo) = true then [] else wantL R H F
theorem ofOp_canon (a b : List (Int × Int)) (op : Int) : Canon (ofOp a b op) := (ofOp_inv a b op).1
theorem wantL_canon (R H F : List (Int × Int)) : Canon (wantL R H F) := ofOp_canon _ _ _
theorem lostL_canon (tu fa jo : Bool) (R H F : List (Int × Int)) : Canon (lostL tu fa jo R H F) := by
  unfold lostL; split
  · exact Canon.nil
  · exact wantL_canon R H F
theorem wantL_length (R H F : List (Int × Int)) : (wantL R H F).length ≤ 2 * (2 * (R.length + H.length) + F.length) := by
  have h1 := ofOp_length (ofOp R H 3) F 3
  have h2 := ofOp_length R H 3
  unfold wantL; omega
theorem lostL_length (tu fa jo : Bool) (R H F : List (Int × Int)) : (lostL tu fa jo R H F).length ≤ 2 * (2 * (R.length + H.length) + F.length) := by
  unfold lostL; split
  · simp
  · exact wantL_length R H F
theorem inB_want (R H F : List (Int × Int)) (p : Int) : inB (wantL R H F) p = (inB R p && !inB H p && !inB F p) := by
  unfold wantL
  rw [inB_ofOp, inB_ofOp]
  cases inB R p <;> cases inB H p <;> cases inB F p <;> rfl
theorem lostL_no {tu fa jo : Bool} {R H F : List (Int × Int)} (h : (!tu && !fa && jo) = true) : lostL tu fa jo R H F = [] := if_pos h
theorem lostL_yes {tu fa jo : Bool} {R H F : List (Int × Int)} (h : (!tu && !fa && jo) = false) : lostL tu fa jo R H F = wantL R H F := if_neg (by rw [h]; simp)

/-- What becomes of an answer. -/
def decideL (he tu fa jo : Bool) (ag : Int) (R H F : List (Int × Int)) : Int :=
  match R with
  | [] => 6
  | x :: _ =>
    if (!(lostL tu fa jo R H F).isEmpty && !he) = true then (if 0 < ag then 4 else 5)
    else if inB H x.1 = true then 1
    else if inB F x.1 = true then 2
    else if (lostL tu fa jo R H F).isEmpty = true then 3 else 5
/-- A first byte that is neither kept nor to come is lost, if anything is. -/
theorem lost_first {tu fa jo : Bool} {x : Int × Int} {R H F : List (Int × Int)} (hc : Canon (x :: R)) (h1 : inB H x.1 = false) (h2 : inB F x.1 = false) : inB (lostL tu fa jo (x :: R) H F) x.1 = !(lostL tu fa jo (x :: R) H F).isEmpty := by
  have hx := hc.head
  have hin : inB (x :: R) x.1 = true := by rw [inB_iff, hc.in_cons]; exact .inl (by omega)
  cases hl : (!tu && !fa && jo)
  · rw [lostL_yes hl, inB_want, hin, h1, h2]
    have hw : inB (wantL (x :: R) H F) x.1 = true := by rw [inB_want, hin, h1, h2]; rfl
    cases hY : wantL (x :: R) H F with
    | nil => rw [hY] at hw; cases hw
    | cons y r => rfl
  · rw [lostL_no hl]; rfl
theorem firstL_zero {L : List (Int × Int)} (hc : Canon L) : firstL L 0 = L.head? := by
  cases L with
  | nil => rfl
  | cons x r =>
    have hx := hc.head
    have := firstL_at (L := x :: r) (p := 0) (k := 0) (by simp) (by simp) (by simp; omega)
    rw [this]
    have e : max 0 x.1 = x.1 := by omega
    simp [e]
/-- The first span of a set. -/
def FirstP0 (f t : Int) (b : Bool) (w : World) (e : Ending) (w' : World) : Prop :=
  e = .returned (.tuple #[.agg #[.int .i64 f, .int .i64 t], .bool b]) ∧ Below w.heap.size w w'
/-- It hands back a state. -/
def RetSt (he : Bool) (R H F : List (Int × Int)) (tu fa : Bool) (ag : Int) (jo : Bool) (w : World) (e : Ending) (w' : World) : Prop :=
  ∃ A1 c1 A2 c2 A3 c3, e = .returned (.agg #[.bool he, .slice A1 R.length c1, .slice A2 H.length c2, .slice A3 F.length c3, .bool tu, .bool fa, .int .i64 ag, .bool jo]) ∧ Sp w' A1 c1 R ∧ Sp w' A2 c2 H ∧ Sp w' A3 c3 F ∧ Below w.heap.size w w'
end Go.Proofs.YtaaefgieklkekaaGreatDoor
namespace Go.Proofs.YtaaefgieklkekaaGreatDoor
open Go.RowKit

section
variable {γ : Type} {w w' : World} {r i base c n : Nat} {T T' : TypeId} {en : γ → List Value} {A : Option Addr} {L : List γ} {cs : Array Value} {f : Nat × Nat}
theorem grown_set' (W : World) (p : Addr) (v : Value) : W.grownBy (W.setCell p v) (some p.block) := by
  have h := Below.setCell (Below.refl 0 W) (p := p) (Nat.zero_le _) v
  exact ⟨h.os, h.tape, h.output, h.size, fun k _ hne => Below.heap_setCell W p v k (by intro e; exact hne (by rw [e]))⟩
/-- A row's block is of its own type. -/
theorem OwnG.ne_ty (h : OwnG T en n w base A c L) (hr : w.heap[r]? = some (.cells cs T' f)) (hT : T ≠ T') : (Value.slice A L.length c).ownBlock ≠ some r := by
  intro e
  rcases h.2 with ⟨hv, _⟩ | ⟨g, cap, cur, hv, _, hg, _⟩
  · rw [hv] at e; simp [Value.ownBlock] at e
  · rw [hv] at e
    simp [Value.ownBlock] at e
    subst e
    rw [hg] at hr
    injection hr with hr
    injection hr with h1 h2 h3
    exact hT h2
theorem OwnG.set_ty (h : OwnG T en n w base A c L) (hr : w.heap[r]? = some (.cells cs T' f)) (hT : T ≠ T') (v : Value) : OwnG T en n (w.setCell ⟨r, i, none⟩ v) base A c L :=
  World.ownsRow.kept h (grown_set' w ⟨r, i, none⟩ v) (.inr (h.ne_ty hr hT))
theorem blk_keepG {o : Obj} (hr : w.heap[r]? = some o) (hg : w.grownBy w' (Value.slice A L.length c).ownBlock) (hne : (Value.slice A L.length c).ownBlock ≠ some r) : w'.heap[r]? = some o :=
  (hg.block r (blk_lt hr) (fun e => hne e.symm)).trans hr
/-- All blocks but two are kept. -/
def Off (w w' : World) (PO : Nat) (B : Option Nat) : Prop := ∀ (k : Nat) (o : Obj), w.heap[k]? = some o → k ≠ PO → B ≠ some k → w'.heap[k]? = some o
/-- What an append behind a box leaves. -/
def PutPost (T ST : TypeId) (en : γ → List Value) (n : Nat) (w0 w : World) (PO : Nat) (A : Option Addr) (c : Nat) (L X : List γ) (e : Ending) (w' : World) : Prop :=
  e = .returned (.tuple #[]) ∧ ∃ A' c' m, m = (L ++ X).length ∧ w'.heap[PO]? = some (.cells #[.slice A' m c'] ST (0, 0)) ∧ OwnG T en n w' w0.heap.size A' c' (L ++ X) ∧ Below w0.heap.size w0 w' ∧ Off w w' PO (Value.slice A L.length c).ownBlock
theorem Off.block {PO : Nat} {B : Option Nat} (h : Off w w' PO B) {k : Nat} {o : Obj} (hk : w.heap[k]? = some o) (h1 : k ≠ PO) (h2 : B ≠ some k) : w'.heap[k]? = some o := h k o hk h1 h2
/-- Through an alloc, the append, and the store in the box. -/
theorem off_put {PO : Nat} {B : Option Nat} {w1 w2 : World} {v : Value} (h1 : ∀ (k : Nat) (o : Obj), w.heap[k]? = some o → w1.heap[k]? = some o) (h2 : w1.grownBy w2 B) : Off w (w2.setCell ⟨PO, i, none⟩ v) PO B := by
  intro k o hk hp hb
  have e1 := h1 k o hk
  have e2 : w2.heap[k]? = some o := (h2.block k (blk_lt e1) (fun e => hb e.symm)).trans e1
  exact blk_set_ne hp e2
end
end Go.Proofs.YtaaefgieklkekaaGreatDoor
