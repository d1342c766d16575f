/- What the walk of FenceEnds asks: steps in memory, the state at each round. -/
import Derived.Test.YtfpfdgljhcpkpaaDoorF10
namespace Go.Proofs.YtfpfdgljhcpkpaaDoor
open Go.RowKit

/-- A slice that reads as a list of steps. -/
structure SpU (w : World) (A : Option Addr) (L : List (Int × Int)) : Prop where
  at' : ∀ k (h : k < L.length), ∃ b off, A = some ⟨b, off, none⟩ ∧ b < w.heap.size ∧ w.cell? ⟨b, off + k * 2, none⟩ = some (.int .i64 (L[k]).1) ∧ w.cell? ⟨b, off + k * 2 + 1, none⟩ = some (.int .u8 (L[k]).2)
  u8 : ∀ x ∈ L, 0 ≤ x.2 ∧ x.2 ≤ 255
theorem SpU.below {w w' : World} {A : Option Addr} {L : List (Int × Int)} (h : SpU w A L) (hb : Below w.heap.size w w') : SpU w' A L :=
  ⟨fun k hk => by
    obtain ⟨b, off, e, hl, h1, h2⟩ := h.at' k hk
    exact ⟨b, off, e, Nat.lt_of_lt_of_le hl hb.size, cell_keep hb h1, cell_keep hb h2⟩, h.u8⟩
/-- What stands at each round: the state in a block of its own. -/
structure EndsAt (w wr : World) (g : Nat) (he : Bool) (A1 : Option Addr) (c1 : Nat) (R : List (Int × Int)) (A2 : Option Addr) (c2 : Nat) (H : List (Int × Int)) (A3 : Option Addr) (c3 : Nat) (F : List (Int × Int)) (tu fa : Bool) (ag : Int) (jo : Bool) : Prop where
  st : wr.heap[g]? = some (.cells #[.bool he, .slice A1 R.length c1, .slice A2 H.length c2, .slice A3 F.length c3, .bool tu, .bool fa, .int .i64 ag, .bool jo] 31 (0, 0))
  s1 : Sp wr A1 c1 R
  s2 : Sp wr A2 c2 H
  s3 : Sp wr A3 c3 F
  bel : Below w.heap.size w wr
section
variable {w wr wr' : World} {g : Nat} {he : Bool} {A1 : Option Addr} {c1 : Nat} {R : List (Int × Int)} {A2 : Option Addr} {c2 : Nat} {H : List (Int × Int)} {A3 : Option Addr} {c3 : Nat} {F : List (Int × Int)} {tu fa : Bool} {ag : Int} {jo : Bool}
theorem EndsAt.below (h : EndsAt w wr g he A1 c1 R A2 c2 H A3 c3 F tu fa ag jo) (hb : Below wr.heap.size wr wr') : EndsAt w wr' g he A1 c1 R A2 c2 H A3 c3 F tu fa ag jo :=
  ⟨blk_keep hb h.st, h.s1.below hb, h.s2.below hb, h.s3.below hb, bel_chain hb h.bel⟩
theorem EndsAt.sp (h : EndsAt w wr g he A1 c1 R A2 c2 H A3 c3 F tu fa ag jo) {A : Option Addr} {c i : Nat} {L : List (Int × Int)} (s : Sp wr A c L) (v : Value) : Sp (wr.setCell ⟨g, i, none⟩ v) A c L :=
  s.setOff (fun h0 => s.off_blk h0 h.st (noPair8 ..)) v
theorem EndsAt.set0 (h : EndsAt w wr g he A1 c1 R A2 c2 H A3 c3 F tu fa ag jo) (hg : w.heap.size ≤ g) (t : Bool) : EndsAt w (wr.setCell ⟨g, 0, none⟩ (.bool t)) g t A1 c1 R A2 c2 H A3 c3 F tu fa ag jo :=
  ⟨blk_set h.st, h.sp h.s1 _, h.sp h.s2 _, h.sp h.s3 _, bel_set h.bel hg _⟩
theorem EndsAt.set4 (h : EndsAt w wr g he A1 c1 R A2 c2 H A3 c3 F tu fa ag jo) (hg : w.heap.size ≤ g) (t : Bool) : EndsAt w (wr.setCell ⟨g, 4, none⟩ (.bool t)) g he A1 c1 R A2 c2 H A3 c3 F t fa ag jo :=
  ⟨blk_set h.st, h.sp h.s1 _, h.sp h.s2 _, h.sp h.s3 _, bel_set h.bel hg _⟩
theorem EndsAt.set5 (h : EndsAt w wr g he A1 c1 R A2 c2 H A3 c3 F tu fa ag jo) (hg : w.heap.size ≤ g) (t : Bool) : EndsAt w (wr.setCell ⟨g, 5, none⟩ (.bool t)) g he A1 c1 R A2 c2 H A3 c3 F tu t ag jo :=
  ⟨blk_set h.st, h.sp h.s1 _, h.sp h.s2 _, h.sp h.s3 _, bel_set h.bel hg _⟩
theorem EndsAt.set1 (h : EndsAt w wr g he A1 c1 R A2 c2 H A3 c3 F tu fa ag jo) (hg : w.heap.size ≤ g) {A : Option Addr} {c : Nat} {L : List (Int × Int)} (hs : Sp wr A c L) : EndsAt w (wr.setCell ⟨g, 1, none⟩ (.slice A L.length c)) g he A c L A2 c2 H A3 c3 F tu fa ag jo :=
  ⟨blk_set h.st, h.sp hs _, h.sp h.s2 _, h.sp h.s3 _, bel_set h.bel hg _⟩
theorem EndsAt.set2 (h : EndsAt w wr g he A1 c1 R A2 c2 H A3 c3 F tu fa ag jo) (hg : w.heap.size ≤ g) {A : Option Addr} {c : Nat} {L : List (Int × Int)} (hs : Sp wr A c L) : EndsAt w (wr.setCell ⟨g, 2, none⟩ (.slice A L.length c)) g he A1 c1 R A c L A3 c3 F tu fa ag jo :=
  ⟨blk_set h.st, h.sp h.s1 _, h.sp hs _, h.sp h.s3 _, bel_set h.bel hg _⟩
theorem EndsAt.set3 (h : EndsAt w wr g he A1 c1 R A2 c2 H A3 c3 F tu fa ag jo) (hg : w.heap.size ≤ g) {A : Option Addr} {c : Nat} {L : List (Int × Int)} (hs : Sp wr A c L) : EndsAt w (wr.setCell ⟨g, 3, none⟩ (.slice A L.length c)) g he A1 c1 R A2 c2 H A c L tu fa ag jo :=
  ⟨blk_set h.st, h.sp h.s1 _, h.sp h.s2 _, h.sp hs _, bel_set h.bel hg _⟩
theorem EndsAt.noU (h : EndsAt w wr g he A1 c1 R A2 c2 H A3 c3 F tu fa ag jo) {b o : Nat} {x : Int} (e : b = g) (hc : wr.cell? ⟨b, o, none⟩ = some (.int .u8 x)) : False := by
  subst e
  rw [Lib.cell_of_heap h.st] at hc
  match o, hc with
  | 0, hc => simp at hc
  | 1, hc => simp at hc
  | 2, hc => simp at hc
  | 3, hc => simp at hc
  | 4, hc => simp at hc
  | 5, hc => simp at hc
  | 6, hc => simp at hc
  | 7, hc => simp at hc
  | o + 8, hc => simp at hc
theorem EndsAt.setOther (h : EndsAt w wr g he A1 c1 R A2 c2 H A3 c3 F tu fa ag jo) {b : Nat} {v : Value} {T : TypeId} (hne : g ≠ b) (hcs : wr.heap[b]? = some (.cells #[v] T (0, 0))) (hw : w.heap.size ≤ b) (u : Value) : EndsAt w (wr.setCell ⟨b, 0, none⟩ u) g he A1 c1 R A2 c2 H A3 c3 F tu fa ag jo :=
  ⟨blk_set_ne hne h.st, h.s1.setOff (fun h0 => h.s1.off_blk h0 hcs (noPair1 _)) _, h.s2.setOff (fun h0 => h.s2.off_blk h0 hcs (noPair1 _)) _, h.s3.setOff (fun h0 => h.s3.off_blk h0 hcs (noPair1 _)) _, bel_set h.bel hw _⟩
end
theorem cell_setOther {w : World} {g i b : Nat} {v : Value} (h : b ≠ g) : (w.setCell ⟨g, i, none⟩ v).cell? ⟨b, 0, none⟩ = w.cell? ⟨b, 0, none⟩ := by
  have hh := Below.heap_setCell w ⟨g, i, none⟩ v b (by simpa using h)
  unfold World.cell?
  simp only [hh]
/-- What holds ahead of each round, of the counter and the world. -/
def EndsRel (w : World) (g N : Nat) (sb : Bool) (ag : Int) (jo : Bool) (s8 : Value) (wr : World) : Prop :=
  ∃ (i : Nat) (he : Bool) (A1 : Option Addr) (c1 : Nat) (R : List (Int × Int)) (A2 : Option Addr) (c2 : Nat) (H : List (Int × Int)) (A3 : Option Addr) (c3 : Nat) (F : List (Int × Int)) (tu fa : Bool), s8 = .int .i64 i ∧ EndsInv N i sb R H F ∧ EndsAt w wr g he A1 c1 R A2 c2 H A3 c3 F tu fa ag jo
/-- What a round leaves that goes on. -/
def EndsNext (w : World) (g N i : Nat) (sb : Bool) (ag : Int) (jo : Bool) (wr : World) : Prop :=
  ∃ (tu fa he : Bool) (A1 : Option Addr) (c1 : Nat) (R : List (Int × Int)) (A2 : Option Addr) (c2 : Nat) (H : List (Int × Int)) (A3 : Option Addr) (c3 : Nat) (F : List (Int × Int)), EndsInv N (i + 1) sb R H F ∧ EndsAt w wr g he A1 c1 R A2 c2 H A3 c3 F tu fa ag jo
/-- What a decision says of the state. -/
def EndsCase (tu fa jo : Bool) (R H F : List (Int × Int)) (v : Int) : Prop :=
  (v = 6 ∧ lenL R = 0) ∨ (v = 1 ∧ ∃ x1 x2 r, R = (x1, x2) :: r ∧ inB H x1 = true) ∨ (v = 2 ∧ ∃ x1 x2 r, R = (x1, x2) :: r ∧ inB H x1 = false ∧ inB F x1 = true) ∨ (v = 3 ∧ tu = false ∧ fa = false ∧ (wantL R H F).isEmpty = false) ∨ ((v = 4 ∨ v = 5) ∧ (lenL (lostL tu fa jo R H F) != 0) = true ∧ (wantL R H F).isEmpty = false)
theorem lost_want {tu fa jo : Bool} {R H F : List (Int × Int)} (h : (lostL tu fa jo R H F).isEmpty = false) : (lenL (lostL tu fa jo R H F) != 0) = true ∧ (wantL R H F).isEmpty = false := by
  refine ⟨by rw [bne, lenL_pos (lostL_canon ..) h]; rfl, ?_⟩
  cases hl : (!tu && !fa && jo)
  · rw [lostL_yes hl] at h; exact h
  · rw [lostL_no hl] at h; cases h
theorem ends_cases (he tu fa jo : Bool) (ag : Int) {R : List (Int × Int)} (H F : List (Int × Int)) (hc : Canon R) : EndsCase tu fa jo R H F (decideL he tu fa jo ag R H F) := by
  unfold EndsCase
  rcases nil_or R with hR | ⟨x1, x2, r, hR⟩
  · rw [decideL_nil hR]; exact .inl ⟨rfl, lenL_nil' hR⟩
  · rw [decideL_cons hR]
    cases hl : (lostL tu fa jo R H F).isEmpty
    · have hw := lost_want hl
      cases he
      · by_cases hag : 0 < ag
        · simp only [hag]; exact .inr (.inr (.inr (.inr ⟨.inl rfl, hw⟩)))
        · simp only [hag]; exact .inr (.inr (.inr (.inr ⟨.inr rfl, hw⟩)))
      · cases h1 : inB H x1
        · cases h2 : inB F x1
          · exact .inr (.inr (.inr (.inr ⟨.inr rfl, hw⟩)))
          · exact .inr (.inr (.inl ⟨rfl, x1, x2, r, hR, h1, h2⟩))
        · exact .inr (.inl ⟨rfl, x1, x2, r, hR, h1⟩)
    · cases h1 : inB H x1
      · cases h2 : inB F x1
        · refine .inr (.inr (.inr (.inl ⟨by simp, ?_⟩)))
          have hw := want_first hR hc h1 h2
          cases hj : (!tu && !fa && jo)
          · rw [lostL_yes hj, hw] at hl; cases hl
          · simp at hj; exact ⟨hj.1.1, hj.1.2, hw⟩
        · exact .inr (.inr (.inl ⟨by simp, x1, x2, r, hR, h1, h2⟩))
      · exact .inr (.inl ⟨by simp, x1, x2, r, hR, h1⟩)
theorem sure_no {N i : Nat} {sb : Bool} {R H F : List (Int × Int)} (h : EndsInv N i sb R H F) (hw : (wantL R H F).isEmpty = false) : sb = false := by
  cases sb
  · rfl
  · rw [h.sur rfl] at hw; cases hw
theorem told_pos {R r H : List (Int × Int)} {x1 x2 n : Int} (e : R = (x1, x2) :: r) (hc : Canon R) (hn : 1 ≤ n) (h : inB H x1 = true) : (lenL (ofOp (firstN R n) H 2) == 0) = false := by
  refine lenL_pos (ofOp_canon _ _ _) (isEmpty_false (p := x1) ?_)
  have hx := hc.head_lt e
  rw [inB_ofOp, firstN_in e hc hn, h]
  simp [opB]; exact ⟨hx, by omega⟩
end Go.Proofs.YtfpfdgljhcpkpaaDoor
