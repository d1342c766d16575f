/- The walk of mandolinelaw48.TierAsks: whatever the fetch, it answers true. -/
import Derived.Test.YtmbcnfgeobbldaaW4A
import Derived.Test.YtmbcnfgeobbldaaW4B
import Derived.Test.YtmbcnfgeobbldaaW4C
import Derived.Test.YtmbcnfgeobbldaaW5
import Derived.Test.YtmbcnfgeobbldaaW6
import Derived.Test.YtmbcnfgeobbldaaW7
namespace Go.Proofs.Ytmbcnfgeobbldaa
open Go.RowKit

theorem tag_cases {m : ByteArray} {mw : Bool} (h : (zeroB m mw || tagB m.data.toList) = true) : m.toList = [] ∧ mw = false ∨ ¬ m.toList = [] ∧ tagB m.data.toList = true := by
  by_cases hz : zeroB m mw = true
  · left; simpa [zeroB] using hz
  · right
    have ht : tagB m.data.toList = true := by simpa [hz] using h
    refine ⟨fun he => ?_, ht⟩
    rw [ByteArray.toList_eq] at he
    rw [he] at ht
    simp [tagB] at ht

theorem span_cases {o m n : ByteArray} {f t : Int} {mw nw : Bool} (h : askB o m n f t mw nw = true) :
    objB o.data.toList = true ∧ rightB f t = true ∧ (f == t) = false ∧ f < 1000000000000000000 ∧ 0 ≤ f ∧
    (t = 4611686018427387904 ∧ f = 0 ∨ t = 4611686018427387904 ∧ 0 < f ∨ ¬ t = 4611686018427387904 ∧ t ≤ 1000000000000000000 ∧ (t != 4611686018427387904) = true ∧ (t == 4611686018427387904) = false ∧ 0 ≤ t) ∧
    (m.toList = [] ∧ mw = false ∨ ¬ m.toList = [] ∧ tagB m.data.toList = true) ∧ (n.toList = [] ∧ nw = false ∨ ¬ n.toList = [] ∧ tagB n.data.toList = true) := by
  unfold askB at h
  simp only [Bool.and_eq_true, decide_eq_true_eq] at h
  obtain ⟨⟨⟨⟨⟨⟨h1, h2⟩, h3⟩, h4⟩, h5⟩, h6⟩, h7⟩ := h
  have h5' : t ≤ 1000000000000000000 ∨ t = 4611686018427387904 := by simpa using h5
  refine ⟨h1, ?_, ?_, h4, h2, ?_, tag_cases h6, tag_cases h7⟩
  · unfold rightB; simp; omega
  · rw [beq_eq_false_iff_ne]; omega
  · by_cases ht : t = 4611686018427387904
    · by_cases hf : f = 0
      · exact .inl ⟨ht, hf⟩
      · exact .inr (.inl ⟨ht, by omega⟩)
    · exact .inr (.inr ⟨ht, by omega, by rw [bne_iff_ne]; exact ht, by rw [beq_eq_false_iff_ne]; exact ht, by omega⟩)

theorem ask_yes (o m n : ByteArray) (f t : Int) (mw nw : Bool) (w : World) (h : askB o m n f t mw nw = true) :
    Calls Try.prog 6 #[.agg #[.string o, .int .i64 f, .int .i64 t, .string m, .bool mw, .string n, .bool nw]] w (AskPost o m n f t mw nw w) := by
  obtain ⟨h1, h2, h3, h4, h5, h6, h7, h8⟩ := span_cases h
  rcases h6 with ⟨a, b⟩ | ⟨a, b⟩ | ⟨a, b, c, d, e⟩
  · exact ask_yesA o m n f t mw nw w h1 h2 h3 h4 h5 a b h7 h8
  · exact ask_yesB o m n f t mw nw w h1 h2 h3 h4 h5 a b h7 h8
  · exact ask_yesC o m n f t mw nw w h1 h2 h3 h4 h5 a b c d e h7 h8

theorem ref_yes (o m n : ByteArray) (f t : Int) (mw nw : Bool) (w : World) (h : askB o m n f t mw nw = true) :
    Calls Try.prog 9 #[.agg #[.string o, .int .i64 f, .int .i64 t, .string m, .bool mw, .string n, .bool nw]] w (RefPost o m n f t mw nw w) := by
  obtain ⟨h1, h2, h3, h4, h5, h6, h7, h8⟩ := span_cases h
  refine refAsk o m n f t mw nw w h5 ?_ h7 h8
  rcases h6 with ⟨a, b⟩ | ⟨a, b⟩ | ⟨a, b, c, d, e⟩
  · exact .inl ⟨a, b⟩
  · exact .inr (.inl ⟨a, b⟩)
  · exact .inr (.inr ⟨c, d, e, by omega⟩)

theorem SL2.below {w w' : World} {v : Value} {o : Option (Value × Value)} (h : SL2 w v o) (hb : Below w.heap.size w w') : SL2 w' v o := by
  cases o with
  | none => exact h
  | some x =>
    obtain ⟨b, hv, hlt, h0, h1⟩ := h
    exact ⟨b, hv, Nat.lt_of_lt_of_le hlt hb.size, (hb.cell (p := ⟨b, 0, none⟩) hlt).trans h0, (hb.cell (p := ⟨b, 1, none⟩) hlt).trans h1⟩

/-- A block's cells, by their places. -/
def CellsAt (w : World) (g : Nat) (cs : Array Value) : Prop := g < w.heap.size ∧ ∀ i, w.cell? ⟨g, i, none⟩ = cs[i]?
theorem CellsAt.keep {W w' : World} {g : Nat} {cs : Array Value} (h : CellsAt W g cs) (hb : Below W.heap.size W w') : CellsAt w' g cs :=
  ⟨Nat.lt_of_lt_of_le h.1 hb.size, fun i => (hb.cell (p := ⟨g, i, none⟩) h.1).trans (h.2 i)⟩

set_option maxHeartbeats 4000000 in
set_option maxRecDepth 100000 in
theorem awake_any (w : World) : Calls Try.prog 5 #[] w fun e w' => e = .returned (.bool true) ∧ Below w.heap.size w w' := by
  have hy : askB ⟨#[47, 97]⟩ ⟨#[118]⟩ ⟨#[]⟩ 4 8 false false = true := by
    unfold askB zeroB; simp only [ByteArray.toList_eq]; decide
  have HA := fun W => Lib.hid (ask_yes ⟨#[47, 97]⟩ ⟨#[118]⟩ ⟨#[]⟩ 4 8 false false W hy)
  clear hy
  go_enter Try.func5, Try.ntmps5
  go_wp2_with fail
  refine (HA _).out.mono ?_
  intro e w1 h
  obtain ⟨S, M, N, rfl, hS, hM, hN, hb⟩ := h
  have eS : specO 4 8 = some (.int .i64 4, .int .i64 7) := rfl
  have eM : tagO ⟨#[118]⟩ false = some (.string ⟨#[118]⟩, .bool false) := by unfold tagO; rw [ByteArray.toList_eq]; rfl
  rw [eS] at hS
  rw [eM] at hM
  obtain ⟨bS, rfl, pS, qS, rS⟩ := hS
  obtain ⟨bM, rfl, pM, qM, rM⟩ := hM
  have eN : tagO ⟨#[]⟩ false = none := by unfold tagO; rw [ByteArray.toList_eq]; rfl
  rw [eN] at hN
  obtain rfl : N = .slice none 0 0 := hN
  clear eS eM eN HA
  go_wp2_with fail
  go_ret
  refine ⟨rfl, ?_⟩
  repeat (first | exact Below.refl _ _ | exact hb | refine bel_drewN ?_ _ | refine bel_drew ?_ | refine bel_alloc ?_ _)

theorem SL2.shape {w : World} {v : Value} {o : Option (Value × Value)} (h : SL2 w v o) : ∃ A n c, v = .slice A n c := by
  cases o with
  | none => exact ⟨_, _, _, h⟩
  | some x => obtain ⟨b, hv, _⟩ := h; exact ⟨_, _, _, hv⟩

set_option maxHeartbeats 4000000 in
set_option maxRecDepth 100000 in
theorem law_any (o m n : ByteArray) (f t : Int) (mw nw : Bool) (w : World) :
    Calls Try.prog 3 #[.agg #[.string o, .int .i64 f, .int .i64 t, .string m, .bool mw, .string n, .bool nw]] w fun e w' => e = .returned (.bool true) ∧ Below w.heap.size w w' := by
  cases hfew : decide (o.size ≤ 300) && decide (m.size ≤ 200) && decide (n.size ≤ 200)
  · have hF := fun W => Lib.hid (few_any o m n f t mw nw W)
    rw [hfew] at hF
    clear hfew
    go_enter Try.func3, Try.ntmps3
    go_wp2_with fail
    refine (hF _).out.mono ?_
    rintro e w1 ⟨rfl, rfl⟩
    clear hF
    go_wp2_with fail
    refine (awake_any _).mono ?_
    rintro e w2 ⟨rfl, hb⟩
    go_wp2_with fail
    go_ret
    refine ⟨rfl, bel_chain hb ?_⟩
    repeat (first | exact Below.refl _ _ | refine bel_alloc ?_ _)
  · have hF := fun W => Lib.hid (few_any o m n f t mw nw W)
    rw [hfew] at hF
    clear hfew
    cases hask : askB o m n f t mw nw
    · have hA := fun W => Lib.hid (ask_no o m n f t mw nw W hask)
      have hR := fun W => Lib.hid (refRight o m n f t mw nw W)
      unfold askB at hask
      rw [hask] at hR
      clear hask
      go_enter Try.func3, Try.ntmps3
      go_wp2_with fail
      refine (hF _).out.mono ?_
      rintro e w1 ⟨rfl, rfl⟩
      go_wp2_with fail
      refine (hA _).out.mono ?_
      rintro e w2 ⟨rfl, hb2⟩
      obtain ⟨c2, f2, z2⟩ := bcell hb2
      have y2 : w.heap.size < w2.heap.size := by have h := hb2.size; simp at h; omega
      go_wp2_with fail
      refine (hR _).out.mono ?_
      rintro e w3 ⟨rfl, hb3⟩
      obtain ⟨c3, f3, z3⟩ := bcell hb3
      go_wp2_with fail
      refine (sameEmpty _).mono ?_
      rintro e w4 ⟨rfl, hb4⟩
      clear c2 f2 z2 c3 f3 z3 hF hA hR
      go_wp2_with fail
      refine (awake_any _).mono ?_
      rintro e w5 ⟨rfl, hb5⟩
      go_wp2_with fail
      go_ret
      refine ⟨rfl, bel_chain hb5 (bel_chain hb4 (bel_chain hb3 ?_))⟩
      repeat (first | exact Below.refl _ _ | refine bel_alloc ?_ _ | refine bel_chain hb2 ?_)
    · have hA := fun W => Lib.hid (ask_yes o m n f t mw nw W hask)
      have hK := fun W => Lib.hid (ref_yes o m n f t mw nw W hask)
      have hR := fun W => Lib.hid (refRight o m n f t mw nw W)
      unfold askB at hask
      rw [hask] at hR
      clear hask
      go_enter Try.func3, Try.ntmps3
      go_wp2_with fail
      refine (hF _).out.mono ?_
      rintro e w1 ⟨rfl, rfl⟩
      go_wp2_with fail
      refine (hA _).out.mono ?_
      rintro e w2 ⟨S, M, N, rfl, hS, hM, hN, hb2⟩
      obtain ⟨S1, S2, S3, rfl⟩ := hS.shape
      obtain ⟨M1, M2, M3, rfl⟩ := hM.shape
      obtain ⟨N1, N2, N3, rfl⟩ := hN.shape
      obtain ⟨c2, f2, z2⟩ := bcell hb2
      have y2 : w.heap.size < w2.heap.size := by have h := hb2.size; simp at h; omega
      go_wp2_with fail
      refine (hR _).out.mono ?_
      rintro e w3 ⟨rfl, hb3⟩
      have a1 : CellsAt w3 w.heap.size #[.string o, .int .i64 f, .int .i64 t, .string m, .bool mw, .string n, .bool nw] :=
        CellsAt.keep ⟨by simp; omega, fun i => by simp [go_sem, c2, y2, Nat.ne_of_lt y2]⟩ hb3
      have a2 : CellsAt w3 w2.heap.size #[.bool false, .string o, .slice S1 S2 S3, .slice M1 M2 M3, .slice N1 N2 N3, .bool false, .bool false, .int .i64 (-1), .int .i64 (-1), .string ⟨#[]⟩, .bool false] :=
        CellsAt.keep ⟨by simp, fun i => by simp [go_sem]⟩ hb3
      have hbw3 : Below w.heap.size w w3 := by
        refine bel_chain hb3 ?_
        repeat (first | exact Below.refl _ _ | refine bel_alloc ?_ _ | refine bel_chain hb2 ?_)
      have hS3 := hS.below (bel_chain hb3 (bel_alloc (Below.refl _ _) _))
      have hM3 := hM.below (bel_chain hb3 (bel_alloc (Below.refl _ _) _))
      have hN3 := hN.below (bel_chain hb3 (bel_alloc (Below.refl _ _) _))
      clear c2 f2 z2 y2 hF hA hR hb3 hS hM hN hb2
      go_wp2_with fail
      go_region_held3 (fun w' => (∀ i, w'.cell? ⟨w.heap.size, i, none⟩ = (#[.string o, .int .i64 f, .int .i64 t, .string m, .bool mw, .string n, .bool nw] : Array Value)[i]?) ∧ (∀ i, w'.cell? ⟨w2.heap.size, i, none⟩ = (#[.bool false, .string o, .slice S1 S2 S3, .slice M1 M2 M3, .slice N1 N2 N3, .bool false, .bool false, .int .i64 (-1), .int .i64 (-1), .string ⟨#[]⟩, .bool false] : Array Value)[i]?))
        (first | exact ⟨a1c.2, a2c.2⟩ | exact ⟨a1b.2, a2b.2⟩ | exact ⟨a1a.2, a2a.2⟩ | exact ⟨a1.2, a2.2⟩)
        (first
          | (go_at_call 9
             refine (hK _).out.mono ?_
             rintro e w4 ⟨T, U, V, rfl, hT, hU, hV, hb4⟩
             obtain ⟨T1, T2, T3, rfl⟩ := hT.shape
             obtain ⟨U1, U2, U3, rfl⟩ := hU.shape
             obtain ⟨V1, V2, V3, rfl⟩ := hV.shape
             have a1a := CellsAt.keep (show CellsAt w3.drew _ _ from a1) hb4
             have a2a := CellsAt.keep (show CellsAt w3.drew _ _ from a2) hb4
             have hS4 := SL2.below (show SL2 w3.drew _ _ from hS3) hb4
             have hM4 := SL2.below (show SL2 w3.drew _ _ from hM3) hb4
             have hN4 := SL2.below (show SL2 w3.drew _ _ from hN3) hb4
             have hbw4 := bel_chain hb4 (bel_drew hbw3))
          | (go_at_call 8
             refine (sameReq o m n f t mw nw _ _ _ _ _ _ _ hS4 hM4 hN4 hT hU hV).mono ?_
             rintro e w5 ⟨rfl, hb5⟩
             have a1b := CellsAt.keep a1a hb5
             have a2b := CellsAt.keep a2a hb5
             have hbw5 := bel_chain hb5 hbw4)
          | (go_at_call 5
             refine (awake_any _).mono ?_
             rintro e w6 ⟨rfl, hb6⟩
             have a1c := CellsAt.keep a1b hb6
             have a2c := CellsAt.keep a2b hb6
             have hbw6 := bel_chain hb6 hbw5))
      go_goals
      all_goals
        go_wp2_with fail
        go_ret
        exact ⟨rfl, hbw6⟩
end Go.Proofs.Ytmbcnfgeobbldaa
