/- Contracts of the two functions that tell what ranges cover; the walks of SpecCovers and SpecWithin. -/
import Derived.Test.YtfpfdgljhcpkpaaGreatDoorT4
import Derived.Test.YtfpfdgljhcpkpaaGreatDoorF0
namespace Go.Proofs.YtfpfdgljhcpkpaaGreatDoor
open Go.RowKit

def covR (L : List (Int × Int)) : List (Int × Int) := if covB L = true then [] else cano (L.map covOf)
def covOk (L : List (Int × Int)) : Bool := !covB L && decide (0 < L.length)
theorem covB_at {L : List (Int × Int)} {k : Nat} (hk : k < L.length) (h : (L[k]).1 < 0) : covB L = true := List.any_eq_true.2 ⟨_, List.getElem_mem hk, by simpa using h⟩
theorem covB_no {L : List (Int × Int)} (h : ∀ x ∈ L, ¬ x.1 < 0) : covB L = false := by
  unfold covB
  rw [List.any_eq_false]
  intro x hx
  simpa using h x hx
theorem take_pos {L : List (Int × Int)} {k : Nat} (hk : k < L.length) (h : ∀ x ∈ L.take k, ¬ x.1 < 0) (h2 : ¬ (L[k]).1 < 0) : ∀ x ∈ L.take (k + 1), ¬ x.1 < 0 := by
  intro x hx
  rw [List.take_succ_eq_append_getElem hk] at hx
  rcases List.mem_append.1 hx with hx | hx
  · exact h x hx
  · simp at hx; rw [hx]; exact h2
theorem covOf_to {x1 x2 : Int} (h : 0 ≤ x2) : covOf (x1, x2) = (x1, x2 + 1) := by simp only [covOf]; rw [if_pos h]
theorem covOf_open {x1 x2 : Int} (h : ¬ 0 ≤ x2) : covOf (x1, x2) = (x1, 4611686018427387904) := by simp only [covOf]; rw [if_neg h]
/-- A set and whether it can be told. -/
def RetCov (R : List (Int × Int)) (b : Bool) (w : World) (e : Ending) (w' : World) : Prop := ∃ A c, e = .returned (.tuple #[.agg #[.slice A R.length c], .bool b]) ∧ Sp w' A c R ∧ Below w.heap.size w w'
def RetCovS (R : List (Int × Int)) (b : Bool) (w : World) (e : Ending) (w' : World) : Prop := ∃ A c, e = .returned (.tuple #[.slice A R.length c, .bool b]) ∧ Sp w' A c R ∧ Below w.heap.size w w'
set_option maxHeartbeats 4000000 in
set_option maxRecDepth 100000 in
theorem scover_any (A : Option Addr) (c : Nat) (L : List (Int × Int)) (w : World) (h : Sp w A c L) (hl : L.length ≤ 100000) (hR : allR L = true) :
    Calls Tryz.prog 15 #[.slice A L.length c] w (RetCov (covR L) (covOk L) w) := by
  have HR := Lib.hid hR
  obtain ⟨w1, hw1⟩ : ∃ w1, w.alloc (.cells #[.slice none 0 0] 46) = w1 := ⟨_, rfl⟩
  have H1 : Hid (Sp w1 A c L) := by simp only [Hid]; rw [← hw1]; exact h.alloc _
  have Q1 : Hid (w1.heap[w.heap.size]? = some (.cells #[.slice none 0 0] 46 (0, 0))) := by simp only [Hid]; rw [← hw1]; exact blk_new rfl
  have B1 : Hid (Below w.heap.size w w1) := by simp only [Hid]; rw [← hw1]; exact bel_alloc (Below.refl _ _) _
  clear h hR
  go_enter Tryz.func15, Tryz.ntmps15
  go_wp2_with fail
  (first | rw [hw1] | skip)
  clear hw1
  go_loopw [4, 6, 7, 10] (fun v _ _ i wr => ∃ (k : Nat) (A' : Option Addr) (c' : Nat), k ≤ L.length ∧ i = .int .i64 k ∧ v = .slice A' k c' ∧ (∀ x ∈ L.take k, ¬ x.1 < 0) ∧ Own wr w1.heap.size A' c' ((L.take k).map covOf) ∧ Below w1.heap.size w1 wr) (fun _ _ _ i _ => L.length - (intOf i).toNat)
  case atStart => exact ⟨0, none, 0, Nat.zero_le _, rfl, rfl, by simp, Own.nil _ _, Below.refl _ _⟩
  case round =>
    obtain ⟨k, A', c', hk, rfl, rfl, hno, hown, hbw⟩ := hrel
    have HO := Lib.hid hown
    have HB := Lib.hid hbw
    have HNO := Lib.hid hno
    clear hown hbw hno
    by_cases hlt : k < L.length
    · obtain ⟨b, off, e, hb, c1, c2⟩ := (H1.out.below HB.out).at_ hlt
      have hra := allR_at HR.out hlt
      have HCN := Lib.hid (fun h => covB_at hlt h)
      have HTP := Lib.hid (fun h => take_pos hlt HNO.out h)
      have HTK : Hid ((L.take (k + 1)).map covOf = (L.take k).map covOf ++ [covOf L[k]]) := by simp only [Hid]; rw [List.take_succ_eq_append_getElem hlt, List.map_append]; rfl
      have hgl : ((L.take k).map covOf).length = k := by simp; omega
      obtain ⟨G, hG⟩ : ∃ G, (L.take k).map covOf = G := ⟨_, rfl⟩
      rw [hG] at HO HTK hgl
      obtain ⟨⟨x1, x2⟩, hx⟩ : ∃ x, L[k] = x := ⟨_, rfl⟩
      rw [hx] at c1 c2 HCN HTP HTK hra
      rw [rightR_iff] at hra
      simp only at hra c1 c2
      have HGL := Lib.hid hgl
      have HRA := Lib.hid hra
      clear hx hG hgl hra HNO
      rw [e]
      by_cases hf : x1 < 0
      · have HC : Hid (covR L = [] ∧ covOk L = false) := by
          have := HCN.out hf
          simp only [Hid]
          exact ⟨by unfold covR; rw [if_pos this], by unfold covOk; rw [this]; rfl⟩
        have hq := blk_keep HB.out Q1.out
        have q0 : wr.cell? ⟨w.heap.size, 0, none⟩ = some (.slice none 0 0) := blk_cell hq rfl
        have qf : wr.frozen? ⟨w.heap.size, 0, none⟩ = false := blk_frozen hq
        have qz : w.heap.size < wr.heap.size := blk_lt hq
        have BF : Hid (Below w.heap.size w wr) := B1.out.trans (HB.out.mono B1.out.size)
        clear hq HCN HTP HTK
        go_wp2_with fail
        refine bodyPost_ret (by simp [results, Tryz.results15, go_sem, q0, qz]; try rfl) rfl ?_
        rw [HC.out.1, HC.out.2]
        exact ⟨none, 0, rfl, Sp.nil _, bel_alloc (bel_set BF.out (Nat.le_refl _) _) _⟩
      · have hf0 : 0 ≤ x1 := by omega
        have hx2 : x2 ≤ 999999999999999999 := HRA.out.2.1
        have HNX := Lib.hid (HTP.out hf)
        by_cases ht : 0 ≤ x2
        · have HTK' : Hid ((L.take (k + 1)).map covOf = G ++ [(x1, x2 + 1)]) := by simp only [Hid]; rw [HTK.out, covOf_to ht]
          have hmn : min x2 999999999999999999 = x2 := by omega
          clear HTK HCN HTP HRA
          go_wp2_with (at_builtin; refine wpl_append (w0 := w1) rfl (.tmp 29) (.tmp 31) rfl A' c' G (by rw [HGL.out]; rfl) (by repeat (first | exact HO.out | refine Own.alloc ?_ _ | refine Own.drewN ?_ _ | refine Own.drew ?_)) _ x1 (x2 + 1) rfl (by first | exact cell_new0 _ _ _ _ | simp [go_sem]) (by first | exact cell_new1 _ _ _ _ | simp [go_sem]) (by rw [HGL.out]; omega) (by repeat (first | exact HB.out | refine bel_alloc ?_ _ | refine bel_drewN ?_ _ | refine bel_drew ?_)) ?_; intro A5 c5 w5 hown5 hbw5 _)
          go_roundw
          case rel => exact ⟨k + 1, A5, c5, by omega, by go_num, by rw [HGL.out], HNX.out, by rw [HTK'.out]; exact hown5, hbw5⟩
          case measure => simp [intOf]; omega
        · have HTK' : Hid ((L.take (k + 1)).map covOf = G ++ [(x1, 4611686018427387904)]) := by simp only [Hid]; rw [HTK.out, covOf_open ht]
          clear HTK HCN HTP HRA
          go_wp2_with (at_builtin; refine wpl_append (w0 := w1) rfl (.tmp 29) (.tmp 31) rfl A' c' G (by rw [HGL.out]; rfl) (by repeat (first | exact HO.out | refine Own.alloc ?_ _ | refine Own.drewN ?_ _ | refine Own.drew ?_)) _ x1 4611686018427387904 rfl (by first | exact cell_new0 _ _ _ _ | simp [go_sem]) (by first | exact cell_new1 _ _ _ _ | simp [go_sem]) (by rw [HGL.out]; omega) (by repeat (first | exact HB.out | refine bel_alloc ?_ _ | refine bel_drewN ?_ _ | refine bel_drew ?_)) ?_; intro A5 c5 w5 hown5 hbw5 _)
          go_roundw
          case rel => exact ⟨k + 1, A5, c5, by omega, by go_num, by rw [HGL.out], HNX.out, by rw [HTK'.out]; exact hown5, hbw5⟩
          case measure => simp [intOf]; omega
    · obtain rfl : k = L.length := by omega
      have hno := HNO.out
      have hO := HO.out
      rw [List.take_length] at hno hO
      have HCB : Hid (covR L = cano (L.map covOf) ∧ covOk L = decide (0 < L.length)) := by
        have := covB_no hno
        simp only [Hid]
        exact ⟨by unfold covR; rw [this]; rfl, by unfold covOk; rw [this]; simp⟩
      have lG : (L.map covOf).length = L.length := by simp
      have HOF := Lib.hid (of_any A' c' (L.map covOf) wr hO.sp (by omega))
      rw [lG] at HOF
      have BF : Hid (Below w.heap.size w wr) := B1.out.trans (HB.out.mono B1.out.size)
      have hq := Lib.hid (blk_keep HB.out Q1.out)
      clear hno hO HNO HO
      generalize cano (L.map covOf) = G at *
      go_wp2_with fail
      refine HOF.out.mono ?_
      rintro e2 w2 ⟨A2, c2, rfl, hs2, hb2⟩
      have hq2 := blk_keep hb2 hq.out
      have q0 : w2.cell? ⟨w.heap.size, 0, none⟩ = some (.slice none 0 0) := blk_cell hq2 rfl
      have qf : w2.frozen? ⟨w.heap.size, 0, none⟩ = false := blk_frozen hq2
      have qz : w.heap.size < w2.heap.size := blk_lt hq2
      have HQ2 := Lib.hid hq2
      have HS2 := Lib.hid hs2
      have BF2 := Lib.hid (bel_chain hb2 BF.out)
      clear hs2 hb2 HOF hq hq2 BF HB B1 Q1 H1
      go_wp2_with fail
      refine bodyPost_ret (by simp [results, Tryz.results15, go_sem, q0]; try rfl) rfl ?_
      rw [HCB.out.1, HCB.out.2]
      exact ⟨A2, c2, by simp, HS2.out.setOff (fun h0 => HS2.out.off_blk h0 HQ2.out (noPair1 _)) _, bel_set BF2.out (Nat.le_refl _) _⟩
theorem covB_eq {L : List (Int × Int)} {k : Nat} (hk : k < L.length) (h : (L[k]).1 = -1) : covB L = true := covB_at hk (by omega)
set_option maxHeartbeats 4000000 in
set_option maxRecDepth 100000 in
theorem r4cover_any (A : Option Addr) (c : Nat) (L : List (Int × Int)) (w : World) (h : Sp w A c L) (hl : L.length ≤ 100000) (hR : allR L = true) :
    Calls Tryz.prog 16 #[.slice A L.length c] w (RetCovS (covR L) (covOk L) w) := by
  have HR := Lib.hid hR
  have H1 := Lib.hid h
  clear h hR
  go_enter Tryz.func16, Tryz.ntmps16
  go_wp2_with fail
  go_loopw [4, 6, 7, 10] (fun v _ _ i wr => ∃ (k : Nat) (A' : Option Addr) (c' : Nat), k ≤ L.length ∧ i = .int .i64 k ∧ v = .slice A' k c' ∧ (∀ x ∈ L.take k, ¬ x.1 < 0) ∧ Own wr w.heap.size A' c' ((L.take k).map covOf) ∧ Below w.heap.size w wr) (fun _ _ _ i _ => L.length - (intOf i).toNat)
  case atStart => exact ⟨0, none, 0, Nat.zero_le _, rfl, rfl, by simp, Own.nil _ _, Below.refl _ _⟩
  case round =>
    obtain ⟨k, A', c', hk, rfl, rfl, hno, hown, hbw⟩ := hrel
    have HO := Lib.hid hown
    have HB := Lib.hid hbw
    have HNO := Lib.hid hno
    clear hown hbw hno
    by_cases hlt : k < L.length
    · obtain ⟨b, off, e, hb, c1, c2⟩ := (H1.out.below HB.out).at_ hlt
      have hra := allR_at HR.out hlt
      have HCN := Lib.hid (fun h => covB_at hlt h)
      have HTP := Lib.hid (fun h => take_pos hlt HNO.out h)
      have HTK : Hid ((L.take (k + 1)).map covOf = (L.take k).map covOf ++ [covOf L[k]]) := by simp only [Hid]; rw [List.take_succ_eq_append_getElem hlt, List.map_append]; rfl
      have hgl : ((L.take k).map covOf).length = k := by simp; omega
      obtain ⟨G, hG⟩ : ∃ G, (L.take k).map covOf = G := ⟨_, rfl⟩
      rw [hG] at HO HTK hgl
      obtain ⟨⟨x1, x2⟩, hx⟩ : ∃ x, L[k] = x := ⟨_, rfl⟩
      rw [hx] at c1 c2 HCN HTP HTK hra
      rw [rightR_iff] at hra
      simp only at hra c1 c2
      have HGL := Lib.hid hgl
      have HRA := Lib.hid hra
      clear hx hG hgl hra HNO
      rw [e]
      by_cases hf : x1 < 0
      · have hf1 : x1 = -1 := by have := HRA.out; omega
        have hf2 : (x1 == -1) = true := by simpa using hf1
        have HC : Hid (covR L = [] ∧ covOk L = false) := by
          have := HCN.out hf
          simp only [Hid]
          exact ⟨by unfold covR; rw [if_pos this], by unfold covOk; rw [this]; rfl⟩
        clear HCN HTP HTK hf1
        go_wp2_with fail
        refine bodyPost_ret (by simp [results, Tryz.results16, go_sem]; try rfl) rfl ?_
        rw [HC.out.1, HC.out.2]
        exact ⟨none, 0, rfl, Sp.nil _, bel_alloc HB.out _⟩
      · have hf0 : 0 ≤ x1 := by omega
        have hf2 : (x1 == -1) = false := by rw [beq_eq_false_iff_ne]; omega
        have hx2 : x2 ≤ 999999999999999999 := HRA.out.2.1
        have HNX := Lib.hid (HTP.out hf)
        by_cases ht : 0 ≤ x2
        · have HTK' : Hid ((L.take (k + 1)).map covOf = G ++ [(x1, x2 + 1)]) := by simp only [Hid]; rw [HTK.out, covOf_to ht]
          clear HTK HCN HTP HRA
          go_wp2_with (at_builtin; refine wpl_append (w0 := w) rfl (.tmp 27) (.tmp 29) rfl A' c' G (by rw [HGL.out]; rfl) (by repeat (first | exact HO.out | refine Own.alloc ?_ _ | refine Own.drewN ?_ _ | refine Own.drew ?_)) _ x1 (x2 + 1) rfl (by first | exact cell_new0 _ _ _ _ | simp [go_sem]) (by first | exact cell_new1 _ _ _ _ | simp [go_sem]) (by rw [HGL.out]; omega) (by repeat (first | exact HB.out | refine bel_alloc ?_ _ | refine bel_drewN ?_ _ | refine bel_drew ?_)) ?_; intro A5 c5 w5 hown5 hbw5 _)
          go_roundw
          case rel => exact ⟨k + 1, A5, c5, by omega, by go_num, by rw [HGL.out], HNX.out, by rw [HTK'.out]; exact hown5, hbw5⟩
          case measure => simp [intOf]; omega
        · have HTK' : Hid ((L.take (k + 1)).map covOf = G ++ [(x1, 4611686018427387904)]) := by simp only [Hid]; rw [HTK.out, covOf_open ht]
          clear HTK HCN HTP HRA
          go_wp2_with (at_builtin; refine wpl_append (w0 := w) rfl (.tmp 27) (.tmp 29) rfl A' c' G (by rw [HGL.out]; rfl) (by repeat (first | exact HO.out | refine Own.alloc ?_ _ | refine Own.drewN ?_ _ | refine Own.drew ?_)) _ x1 4611686018427387904 rfl (by first | exact cell_new0 _ _ _ _ | simp [go_sem]) (by first | exact cell_new1 _ _ _ _ | simp [go_sem]) (by rw [HGL.out]; omega) (by repeat (first | exact HB.out | refine bel_alloc ?_ _ | refine bel_drewN ?_ _ | refine bel_drew ?_)) ?_; intro A5 c5 w5 hown5 hbw5 _)
          go_roundw
          case rel => exact ⟨k + 1, A5, c5, by omega, by go_num, by rw [HGL.out], HNX.out, by rw [HTK'.out]; exact hown5, hbw5⟩
          case measure => simp [intOf]; omega
    · obtain rfl : k = L.length := by omega
      have hno := HNO.out
      have hO := HO.out
      rw [List.take_length] at hno hO
      have HCB : Hid (covR L = cano (L.map covOf) ∧ covOk L = decide (0 < L.length)) := by
        have := covB_no hno
        simp only [Hid]
        exact ⟨by unfold covR; rw [this]; rfl, by unfold covOk; rw [this]; simp⟩
      have lG : (L.map covOf).length = L.length := by simp
      have HOF := Lib.hid (rOf_any A' c' (L.map covOf) wr hO.sp (by omega))
      rw [lG] at HOF
      have BF : Hid (Below w.heap.size w wr) := HB.out
      clear hno hO HNO HO
      generalize cano (L.map covOf) = G at *
      go_wp2_with fail
      refine HOF.out.mono ?_
      rintro e2 w2 ⟨A2, c2, rfl, ho2, hb2⟩
      have HS2 := Lib.hid ho2.sp
      have BF2 := Lib.hid (bel_chain hb2 BF.out)
      clear ho2 hb2 HOF BF HB H1
      go_wp2_with fail
      refine bodyPost_ret (by simp [results, Tryz.results16, go_sem]; try rfl) rfl ?_
      rw [HCB.out.1, HCB.out.2]
      exact ⟨A2, c2, by simp, HS2.out, BF2.out⟩
theorem covR_length (L : List (Int × Int)) : (covR L).length ≤ 2 * L.length := by
  unfold covR
  split
  · simp
  · have := cano_length (L.map covOf); simpa using this
set_option maxHeartbeats 4000000 in
set_option maxRecDepth 100000 in
theorem specCovers_any (A : Option Addr) (c : Nat) (L : List (Int × Int)) (w : World) (h : Sp w A c L) (hl : L.length ≤ 9223372036854775807) :
    Calls Tryz.prog 4 #[.slice A L.length c] w fun e w' => e = .returned (.bool true) ∧ Below w.heap.size w w' := by
  have H0 := Lib.hid h
  clear h
  go_enter Tryz.func4, Tryz.ntmps4
  by_cases hbig : 30 < L.length
  · have hb : decide ((30 : Int) < (L.length : Int)) = true := by simp; omega
    go_wp2_with fail
    refine (aw04_end w _ (Below.refl _ _)).mono ?_
    rintro e1 w1 ⟨rfl, hb1⟩
    go_wp2_with fail
    go_ret
    exact ⟨rfl, hb1⟩
  · have hb : decide ((30 : Int) < (L.length : Int)) = false := by simp; omega
    go_wp2_with fail
    refine (r4all_any A c L _ H0.out (by omega)).mono ?_
    rintro e1 w1 ⟨rfl, hb1⟩
    have HB1 := Lib.hid hb1
    have S1 := Lib.hid (H0.out.below hb1)
    clear hb1 H0
    cases hR : allR L
    · go_wp2_with fail
      refine (aw04_end w _ HB1.out).mono ?_
      rintro e1 w1 ⟨rfl, hb1⟩
      go_wp2_with fail
      go_ret
      exact ⟨rfl, hb1⟩
    · have hrl := covR_length L
      have HRR := Lib.hid hR
      clear hR
      go_wp2_with fail
      refine (scover_any A c L _ S1.out (by omega) HRR.out).mono ?_
      rintro e2 w2 ⟨A2, c2, rfl, hs2, hb2⟩
      have HB2 := Lib.hid (bel_chain hb2 HB1.out)
      have S2 := Lib.hid (S1.out.below hb2)
      have R2 := Lib.hid hs2
      clear hb2 hs2 HB1 S1
      go_wp2_with fail
      obtain ⟨W2, hW2⟩ : ∃ W2, World.alloc w2 (.cells #[.slice A2 (covR L).length c2] 46) = W2 := ⟨_, rfl⟩
      rw [hW2]
      have hb : Below w2.heap.size w2 W2 := by rw [← hW2]; exact bel_alloc (Below.refl _ _) _
      have k2 : Hid (W2.cell? ⟨w2.heap.size, 0, none⟩ = some (.slice A2 (covR L).length c2)) := by simp only [Hid]; rw [← hW2]; simp [go_sem]
      have HB3 := Lib.hid (bel_chain hb HB2.out)
      have S3 := Lib.hid (S2.out.below hb)
      have R3 := Lib.hid (R2.out.below hb)
      clear hb hW2 HB2 S2 R2
      refine (r4cover_any A c L _ S3.out (by omega) HRR.out).mono ?_
      rintro e3 w3 ⟨A3, c3, rfl, hs3, hb3⟩
      have k3 := cell_keep hb3 k2.out
      have HB4 := Lib.hid (bel_chain hb3 HB3.out)
      have R4 := Lib.hid (R3.out.below hb3)
      have Q4 := Lib.hid hs3
      obtain ⟨ok, hok⟩ : ∃ ok, covOk L = ok := ⟨_, rfl⟩
      rw [hok]
      have hbb : (ok == ok) = true := by simp
      clear hb3 hs3 HB3 R3 S3 k2 hok
      generalize covR L = R at *
      go_wp2_with fail
      refine (spans_any A2 c2 R _ R4.out (by omega)).mono ?_
      rintro e4 w4 ⟨A4, c4, rfl, ho4, hb4⟩
      have HB5 := Lib.hid (bel_chain hb4 HB4.out)
      have Q5 := Lib.hid (Q4.out.below hb4)
      have P5 := Lib.hid ho4.sp
      clear hb4 ho4 HB4 R4 Q4
      go_wp2_with fail
      refine (r4spans_any A4 c4 R A3 c3 R _ P5.out Q5.out (by omega)).mono ?_
      rintro e5 w5 ⟨rfl, n5, rfl⟩
      rw [decide_eq_true (rfl : R = R)]
      have HB6 : Hid (Below w.heap.size w (w4.drewN n5)) := bel_drewN HB5.out _
      clear HB5 Q5 P5
      generalize w4.drewN n5 = w6 at *
      go_wp2_with fail
      refine (aw04_end w _ HB6.out).mono ?_
      rintro e7 w7 ⟨rfl, hb7⟩
      go_wp2_with fail
      go_ret
      exact ⟨rfl, hb7⟩
/-- What is asked, as far as there is any. -/
theorem within_law {n : Int} (h0 : 0 ≤ n) (h1 : n ≤ 4611686018427387904) {L : List (Int × Int)} (hL : allR L = true) (hc : covOk L = true) : ofOp (covR L) [(0, n)] 2 = cano (resL n L) := by
  have hcb : covB L = false := by
    unfold covOk at hc
    cases h : covB L with
    | false => rfl
    | true => rw [h] at hc; simp at hc
  refine canon_ext (ofOp_inv _ _ _).1 (cano_canon _) fun p => ?_
  have hz : okS (0, n) = true := (okS_iff _).2 ⟨by simp, h0, h1⟩
  unfold covR
  rw [if_neg (by rw [hcb]; simp), inB_ofOp, inB_cano, inB_cano, ← cov_in h0 h1 hL hcb p]
  simp [opB, inB, hz]
set_option maxHeartbeats 4000000 in
set_option maxRecDepth 100000 in
theorem specWithin_any (A : Option Addr) (c : Nat) (L : List (Int × Int)) (n : Int) (w : World) (h : Sp w A c L) (hl : L.length ≤ 9223372036854775807) (_hn : (Lit.int .i64 n).wf = true) :
    Calls Tryz.prog 5 #[.slice A L.length c, .int .i64 n] w fun e w' => e = .returned (.bool true) ∧ Below w.heap.size w w' := by
  have H0 := Lib.hid h
  clear h
  go_enter Tryz.func5, Tryz.ntmps5
  by_cases hbig : 30 < L.length
  · have hb : decide ((30 : Int) < (L.length : Int)) = true := by simp; omega
    go_wp2_with fail
    refine (aw04_end w _ (Below.refl _ _)).mono ?_
    rintro e1 w1 ⟨rfl, hb1⟩
    go_wp2_with fail
    go_ret
    exact ⟨rfl, hb1⟩
  · have hb : decide ((30 : Int) < (L.length : Int)) = false := by simp; omega
    go_wp2_with fail
    refine (r4all_any A c L _ H0.out (by omega)).mono ?_
    rintro e1 w1 ⟨rfl, hb1⟩
    have HB1 := Lib.hid hb1
    have S1 := Lib.hid (H0.out.below hb1)
    clear hb1 H0
    cases hR : allR L
    · go_wp2_with fail
      refine (aw04_end w _ HB1.out).mono ?_
      rintro e1 w1 ⟨rfl, hb1⟩
      go_wp2_with fail
      go_ret
      exact ⟨rfl, hb1⟩
    · by_cases h0 : n < 0
      · go_wp2_with fail
        refine (aw04_end w _ HB1.out).mono ?_
        rintro e1 w1 ⟨rfl, hb1⟩
        go_wp2_with fail
        go_ret
        exact ⟨rfl, hb1⟩
      · by_cases h1 : 1099511627776 < n
        · go_wp2_with fail
          refine (aw04_end w _ HB1.out).mono ?_
          rintro e1 w1 ⟨rfl, hb1⟩
          go_wp2_with fail
          go_ret
          exact ⟨rfl, hb1⟩
        · have h0' : 0 ≤ n := by omega
          have h1' : n ≤ 1099511627776 := by omega
          have hrl := covR_length L
          have lR := resL_length n L
          have HRR := Lib.hid hR
          have HWI := Lib.hid (fun h => within_law (n := n) h0' (by omega) hR h)
          clear hR
          go_wp2_with fail
          refine (scover_any A c L _ S1.out (by omega) HRR.out).mono ?_
          rintro e2 w2 ⟨A2, c2, rfl, hs2, hb2⟩
          have HB2 := Lib.hid (bel_chain hb2 HB1.out)
          have S2 := Lib.hid (S1.out.below hb2)
          have R2 := Lib.hid hs2
          clear hb2 hs2 HB1 S1
          cases hok : covOk L
          · go_wp2_with fail
            refine (aw04_end w _ (by repeat (first | exact HB2.out | refine bel_alloc ?_ _ | refine bel_set ?_ (by first | exact HB2.out.size | simp) _))).mono ?_
            rintro e1 w1 ⟨rfl, hb1⟩
            go_wp2_with fail
            go_ret
            exact ⟨rfl, hb1⟩
          · have HW := Lib.hid (HWI.out hok)
            clear HWI hok
            go_wp2_with fail
            obtain ⟨W2, hW2⟩ : ∃ W2, World.alloc w2 (.cells #[.slice A2 (covR L).length c2] 46) = W2 := ⟨_, rfl⟩
            rw [hW2]
            have hb : Below w2.heap.size w2 W2 := by rw [← hW2]; exact bel_alloc (Below.refl _ _) _
            have k2 : Hid (W2.cell? ⟨w2.heap.size, 0, none⟩ = some (.slice A2 (covR L).length c2)) := by simp only [Hid]; rw [← hW2]; simp [go_sem]
            have HB3 := Lib.hid (bel_chain hb HB2.out)
            have S3 := Lib.hid (S2.out.below hb)
            have R3 := Lib.hid (R2.out.below hb)
            clear hb hW2 HB2 S2 R2
            refine (sresolve_any A c L n _ S3.out (by omega) HRR.out h0' (by omega)).mono ?_
            rintro e3 w3 ⟨A3, c3, rfl, ho3, hb3⟩
            have k3 := cell_keep hb3 k2.out
            have HB4 := Lib.hid (bel_chain hb3 HB3.out)
            have R4 := Lib.hid (R3.out.below hb3)
            have Q4 := Lib.hid ho3.sp
            clear hb3 ho3 HB3 R3 S3 k2 HRR
            generalize covR L = R at *
            generalize resL n L = M at *
            go_wp2_with fail
            refine (spans_any A2 c2 R _ R4.out (by omega)).mono ?_
            rintro e4 w4 ⟨A4, c4, rfl, ho4, hb4⟩
            have HB5 := Lib.hid (bel_chain hb4 HB4.out)
            have Q5 := Lib.hid (Q4.out.below hb4)
            have P5 := Lib.hid ho4.sp
            clear hb4 ho4 HB4 R4 Q4 k3
            go_wp2_with fail
            refine (rAnd_any A4 c4 R (some ⟨w4.heap.size, 0, none⟩) 1 [(0, n)] _ (P5.out.alloc _) (Sp.built w4 [(0, n)] _) (by omega) (by simp)).mono ?_
            rintro e5 w5 ⟨A5, c5, rfl, ho5, hb5⟩
            rw [HW.out]
            rw [HW.out] at ho5
            have HB6 := Lib.hid (bel_chain hb5 (bel_alloc HB5.out _))
            have Q6 := Lib.hid ((Q5.out.alloc _).below hb5)
            have N6 := Lib.hid ho5.sp
            clear hb5 ho5 HB5 Q5 P5
            have lc := cano_length M
            go_wp2_with fail
            refine (rOf_any A3 c3 M _ Q6.out (by omega)).mono ?_
            rintro e6 w6 ⟨A6, c6, rfl, ho6, hb6⟩
            have HB7 := Lib.hid (bel_chain hb6 HB6.out)
            have N7 := Lib.hid (N6.out.below hb6)
            have M7 := Lib.hid ho6.sp
            clear hb6 ho6 HB6 Q6 N6
            go_wp2_with fail
            refine (rsame_any A5 c5 (cano M) A6 c6 (cano M) _ N7.out M7.out (by omega) (by omega)).mono ?_
            rintro e7 w7 ⟨he7, hb7⟩
            obtain rfl : e7 = .returned (.bool true) := by rw [he7]; simp
            have HB8 := Lib.hid (bel_chain hb7 HB7.out)
            clear hb7 HB7 N7 M7
            go_wp2_with fail
            refine (aw04_end w _ HB8.out).mono ?_
            rintro e8 w8 ⟨rfl, hb8⟩
            go_wp2_with fail
            go_ret
            exact ⟨rfl, hb8⟩
end Go.Proofs.YtfpfdgljhcpkpaaGreatDoor
