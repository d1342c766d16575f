/- Contracts of the reference's Of, Or, And, Less; of Spans; of great. -/
import Derived.Test.YtfpfdgljhcpkpaaGreatDoorB12
namespace Go.Proofs.YtfpfdgljhcpkpaaGreatDoor
open Go.RowKit

theorem RetSp.of {L : List (Int × Int)} {w : World} {A : Option Addr} {c : Nat} {w' : World} (h : Own w' w.heap.size A c L) (hb : Below w.heap.size w w') : RetSp L w (.returned (.slice A L.length c)) w' := ⟨A, c, rfl, h, hb⟩

set_option maxHeartbeats 400000 in
theorem rOf_any (A : Option Addr) (c : Nat) (L : List (Int × Int)) (w : World) (h : Sp w A c L) (hl : L.length ≤ 100000) :
    Calls Tryz.prog 22 #[.slice A L.length c] w (RetSp (cano L) w) := by
  have hE := Lib.hid (rof_any A c L none 0 [] 1 w h (Sp.nil w) hl (by simp) (.inl rfl))
  clear h
  go_enter Tryz.func22, Tryz.ntmps22
  go_wp2_with fail
  refine hE.out.mono ?_
  rintro e w1 ⟨A1, c1, rfl, ho, hb⟩
  have HO := Lib.hid ho
  have HB := Lib.hid hb
  clear ho hb hE
  go_wp2_with fail
  go_ret
  exact RetSp.of HO.out HB.out

set_option maxHeartbeats 400000 in
theorem rAnd_any (A : Option Addr) (c : Nat) (L : List (Int × Int)) (B : Option Addr) (d : Nat) (M : List (Int × Int)) (w : World) (h : Sp w A c L) (h' : Sp w B d M) (hl : L.length ≤ 100000) (hl' : M.length ≤ 100000) :
    Calls Tryz.prog 20 #[.slice A L.length c, .slice B M.length d] w (RetSp (ofOp L M 2) w) := by
  have hE := Lib.hid (rof_any A c L B d M 2 w h h' hl hl' (.inr (.inl rfl)))
  clear h h'
  go_enter Tryz.func20, Tryz.ntmps20
  go_wp2_with fail
  refine hE.out.mono ?_
  rintro e w1 ⟨A1, c1, rfl, ho, hb⟩
  have HO := Lib.hid ho
  have HB := Lib.hid hb
  clear ho hb hE
  go_wp2_with fail
  go_ret
  exact RetSp.of HO.out HB.out

set_option maxHeartbeats 400000 in
theorem spans_any (A : Option Addr) (c : Nat) (L : List (Int × Int)) (w : World) (h : Sp w A c L) (hl : L.length ≤ 1000000) :
    Calls Tryz.prog 18 #[.agg #[.slice A L.length c]] w (RetSp L w) := by
  have hH := Lib.hid h
  clear h
  go_enter Tryz.func18, Tryz.ntmps18
  go_wp2_with (at_builtin; refine wpl_appendS (w0 := w) rfl (.const (.slice none 0 0)) (.tmp 4) rfl none 0 [] rfl (Own.nil _ _) A c L rfl (hH.out.alloc _) (by simp; omega) (bel_alloc (Below.refl _ _) _) ?_; intro A2 c2 w2 hown hbw _)
  have HO := Lib.hid hown
  have HB := Lib.hid hbw
  clear hown hbw
  go_ret
  simp only [List.length_nil, Nat.zero_add]
  exact RetSp.of HO.out HB.out

/-- The slices of a list in a row. -/
def RowSl (w : World) (g : Nat) (S : List (Option Addr × Nat × Nat)) : Prop := ∀ i x, S[i]? = some x → w.cell? ⟨g, i, none⟩ = some (.slice x.1 x.2.1 x.2.2)
def greatL (S : List (Option Addr × Nat × Nat)) : Bool := S.any fun x => decide (20 < x.2.1)

set_option maxHeartbeats 1000000 in
theorem great_any (g : Nat) (S : List (Option Addr × Nat × Nat)) (w : World) (h : RowSl w g S) (hl : S.length ≤ 1000) (hlen : ∀ x ∈ S, x.2.1 ≤ 9223372036854775807) :
    Calls Tryz.prog 24 #[.slice (some ⟨g, 0, none⟩) S.length S.length] w fun e w' => e = .returned (.bool (greatL S)) ∧ w' = w := by
  have hH := Lib.hid h
  have HL := Lib.hid hlen
  clear h hlen
  go_enter Tryz.func24, Tryz.ntmps24
  go_wp2
  go_loop [4, 7] (fun _ i => ∃ (k : Nat), k ≤ S.length ∧ i = .int .i64 k ∧ greatL (S.take k) = false) (fun _ i => S.length - (intOf i).toNat)
  case atStart => exact ⟨0, Nat.zero_le _, rfl, rfl⟩
  case round =>
    obtain ⟨k, hk, rfl, hg⟩ := hrel
    have HG := Lib.hid hg
    clear hg
    by_cases hlt : k < S.length
    · have HTK : Hid (S.take (k + 1) = S.take k ++ [S[k]]) := by simp only [Hid]; rw [List.take_add_one, List.getElem?_eq_getElem hlt]; rfl
      have HM : Hid (S[k] ∈ S) := List.getElem_mem hlt
      have c1 := hH.out k S[k] (List.getElem?_eq_getElem hlt)
      have hn := HL.out _ HM.out
      obtain ⟨⟨xa, xn, xc⟩, hx⟩ : ∃ x, S[k] = x := ⟨_, rfl⟩
      rw [hx] at c1 HTK HM hn
      simp only at c1 hn
      clear hx
      by_cases hq : 20 < xn
      · go_wp2_with fail
        go_ret
        refine ⟨ret_bool ?_, rfl⟩
        unfold greatL
        symm
        rw [List.any_eq_true]
        exact ⟨_, HM.out, by simpa using hq⟩
      · go_wp2_with fail
        go_round
        case rel =>
          refine ⟨k + 1, by omega, by go_num, ?_⟩
          rw [HTK.out]
          have := HG.out
          unfold greatL at this ⊢
          rw [List.any_append, this]
          simpa using hq
        case measure => simp [intOf]; omega
    · go_wp2_with fail
      go_ret
      refine ⟨ret_bool ?_, rfl⟩
      have := HG.out
      rw [List.take_of_length_le (by omega)] at this
      exact this.symm
end Go.Proofs.YtfpfdgljhcpkpaaGreatDoor
