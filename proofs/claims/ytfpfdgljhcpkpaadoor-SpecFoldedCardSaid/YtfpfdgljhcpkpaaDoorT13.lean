/- The walks of SpecFolds and SpecFolded. -/
import Derived.Test.YtfpfdgljhcpkpaaDoorT11B
import Derived.Test.YtfpfdgljhcpkpaaDoorT9
import Derived.Test.YtfpfdgljhcpkpaaDoorT4
import Derived.Test.YtfpfdgljhcpkpaaDoorD5
import Derived.Deep.RegionHeld3
namespace Go.Proofs.YtfpfdgljhcpkpaaDoor
open Go.RowKit

def wideB (x : Int × Int) : Bool := decide (0 ≤ x.1) && decide (x.1 < x.2) && decide (x.2 ≤ 4611686018427387904)
theorem wideB_iff (x : Int × Int) : wideB x = true ↔ WideS x := by simp [wideB, WideS, and_assoc]
def goodB (L : List (Int × Int)) : Bool := L.all wideB && decide (L.length ≤ 30)
theorem goodB_no {L : List (Int × Int)} {k : Nat} (hk : k < L.length) (h : ¬ WideS L[k]) : goodB L = false := by
  unfold goodB
  have : L.all wideB = false := by
    rw [Bool.eq_false_iff]
    intro hh
    exact h ((wideB_iff _).1 (List.all_eq_true.1 hh _ (List.getElem_mem hk)))
  rw [this]; rfl
theorem goodB_yes {L : List (Int × Int)} (h : ∀ k (hk : k < L.length), WideS L[k]) : goodB L = decide (L.length ≤ 30) := by
  unfold goodB
  have : L.all wideB = true := List.all_eq_true.2 fun x hx => by
    obtain ⟨k, hk, rfl⟩ := List.getElem_of_mem hx
    exact (wideB_iff _).2 (h k hk)
  rw [this]; simp
theorem goodB_wide {L : List (Int × Int)} (h : goodB L = true) : (∀ x ∈ L, WideS x) ∧ L.length ≤ 30 := by
  unfold goodB at h
  simp only [Bool.and_eq_true, List.all_eq_true, decide_eq_true_eq] at h
  exact ⟨fun x hx => (wideB_iff _).1 (h.1 x hx), h.2⟩
set_option maxHeartbeats 4000000 in
set_option maxRecDepth 100000 in
theorem good_any (A : Option Addr) (c : Nat) (L : List (Int × Int)) (w : World) (h : Sp w A c L) (hl : L.length ≤ 9223372036854775807) :
    Calls Tryd.prog 20 #[.slice A L.length c] w fun e w' => e = .returned (.bool (goodB L)) ∧ Below w.heap.size w w' := by
  have hH := Lib.hid h
  clear h
  go_enter Tryd.func20, Tryd.ntmps20
  go_wp2_with fail
  go_loopw [4, 7] (fun _ i wr => ∃ k : Nat, k ≤ L.length ∧ i = .int .i64 k ∧ (∀ j (hj : j < L.length), j < k → WideS L[j]) ∧ Below w.heap.size w wr) (fun _ i _ => L.length - (intOf i).toNat)
  case atStart => exact ⟨0, Nat.zero_le _, rfl, fun j hj h => by omega, Below.refl _ _⟩
  case round =>
    obtain ⟨k, hk, rfl, hin, hbw⟩ := hrel
    have HI := Lib.hid hin
    have HB := Lib.hid hbw
    clear hin hbw
    by_cases hlt : k < L.length
    · obtain ⟨b, off, e, hb, c1, c2⟩ := (hH.out.below HB.out).at_ hlt
      have HN := Lib.hid (fun h => goodB_no hlt h)
      have HS : Hid (WideS L[k] → ∀ j (hj : j < L.length), j < k + 1 → WideS L[j]) := by
        intro h j hj hjk
        by_cases e : j = k
        · subst e; exact h
        · exact HI.out j hj (by omega)
      obtain ⟨⟨x1, x2⟩, hx⟩ : ∃ x, L[k] = x := ⟨_, rfl⟩
      rw [hx] at c1 c2 HN HS
      simp only at c1 c2
      clear hx HI
      rw [e]
      by_cases h1 : x1 < 0
      · have HF : Hid (goodB L = false) := HN.out (fun h => by have := h.1; simp only at this; omega)
        clear HN HS
        go_wp2_with fail
        go_ret
        exact ⟨ret_bool HF.out.symm, bel_alloc HB.out _⟩
      · by_cases h2 : x1 < x2
        · by_cases h3 : x2 ≤ 4611686018427387904
          · have HF := Lib.hid (HS.out ⟨by simp only; omega, h2, h3⟩)
            clear HN HS
            go_wp2_with fail
            go_roundw
            case rel => exact ⟨k + 1, by omega, by go_num, HF.out, bel_alloc HB.out _⟩
            case measure => simp [intOf]; omega
          · have HF : Hid (goodB L = false) := HN.out (fun h => by have := h.2.2; simp only at this; omega)
            clear HN HS
            go_wp2_with fail
            go_ret
            exact ⟨ret_bool HF.out.symm, bel_alloc HB.out _⟩
        · have HF : Hid (goodB L = false) := HN.out (fun h => by have := h.2.1; simp only at this; omega)
          clear HN HS
          go_wp2_with fail
          go_ret
          exact ⟨ret_bool HF.out.symm, bel_alloc HB.out _⟩
    · have HF : Hid (goodB L = decide (L.length ≤ 30)) := goodB_yes fun j hj => HI.out j hj (by omega)
      have hd : decide ((L.length : Int) ≤ 30) = decide (L.length ≤ 30) := by rw [Bool.eq_iff_iff]; simp; omega
      clear HI
      go_wp2_with fail
      go_ret
      exact ⟨ret_bool (by rw [HF.out] <;> first | exact hd | rfl), HB.out⟩
set_option maxHeartbeats 4000000 in
set_option maxRecDepth 100000 in
theorem specFolds_any (A : Option Addr) (c : Nat) (L : List (Int × Int)) (gap : Int) (w : World) (h : Sp w A c L) (hl : L.length ≤ 9223372036854775807) (_hg : (Lit.int .i64 gap).wf = true) :
    Calls Tryd.prog 4 #[.slice A L.length c, .int .i64 gap] w fun e w' => e = .returned (.bool true) ∧ Below w.heap.size w w' := by
  have H0 := Lib.hid h
  clear h
  go_enter Tryd.func4, Tryd.ntmps4
  go_wp2_with fail
  refine (good_any A c L _ H0.out hl).mono ?_
  rintro e1 w1 ⟨rfl, hb1⟩
  have HB1 := Lib.hid hb1
  have S1 := Lib.hid (H0.out.below hb1)
  clear hb1 H0
  cases hG : goodB L
  · go_wp2_with fail
    refine (aw04_end w _ HB1.out).mono ?_
    rintro e1 w1 ⟨rfl, hb1⟩
    go_wp2_with fail
    go_ret
    exact ⟨rfl, hb1⟩
  · obtain ⟨hW, h30⟩ := goodB_wide hG
    have HW := Lib.hid hW
    have HLT : Hid (∀ x ∈ L, x.1 < x.2) := fun x hx => (hW x hx).2.1
    have h0 : 0 ≤ max gap 0 := by omega
    clear hG hW
    go_wp2_with (at_builtin; refine wpl_appendS (w0 := w1) rfl (.tmp 10) (.tmp 11) rfl none 0 [] rfl (Own.nil _ _) A c L rfl S1.out (by simp; omega) (Below.refl _ _) ?_; intro A2 c2 w2 hown2 hbw2 _)
    simp only [List.nil_append] at hown2 ⊢
    have HB2 : Hid (Below w.heap.size w w2) := bel_chain hbw2 HB1.out
    have S2 := Lib.hid (S1.out.below hbw2)
    have T2 := Lib.hid hown2.sp
    clear hown2 hbw2 HB1 S1
    go_wp2_with fail
    refine (sFold_any A c L gap _ S2.out HW.out (by omega) (sortsF_more (by omega))).mono ?_
    rintro e3 w3 ⟨O, hO, A3, c3, rfl, ho3, hb3⟩
    have HO := Lib.hid hO
    have hfew := hO.few
    have hml0 : (O.map Prod.fst).length = O.length := List.length_map ..
    obtain ⟨R, hR⟩ : ∃ R, O.map Prod.fst = R := ⟨_, rfl⟩
    rw [hR] at ho3 hml0
    rw [hR]
    have HR := Lib.hid hR
    have hml : R.length ≤ 30 := by omega
    clear hR hml0 hfew
    have HB3 := Lib.hid (bel_chain hb3 HB2.out)
    have S3 := Lib.hid (S2.out.below hb3)
    have T3 := Lib.hid (T2.out.below hb3)
    have U3 := Lib.hid ho3.sp
    clear hO ho3 hb3 HB2 S2 T2
    go_wp2_with fail
    refine (r4fold_any A2 c2 L gap _ T3.out HW.out (by omega)).mono ?_
    rintro e4 w4 ⟨O', hO', A4, c4, rfl, ho4, hb4⟩
    have hoo : O' = O := hO'.eq HLT.out h0 HO.out
    subst hoo
    rw [HR.out] at ho4
    rw [HR.out]
    have HB4 := Lib.hid (bel_chain hb4 HB3.out)
    have S4 := Lib.hid (S3.out.below hb4)
    have T4 := Lib.hid (T3.out.below hb4)
    have U4 := Lib.hid (U3.out.below hb4)
    have V4 := Lib.hid ho4.sp
    clear hO' ho4 hb4 HB3 S3 T3 U3 HO HR
    go_wp2_with fail
    refine (r4spans_any A3 c3 R A4 c4 R _ U4.out V4.out (by omega)).mono ?_
    rintro e5 w5 ⟨rfl, n5, rfl⟩
    rw [decide_eq_true (rfl : R = R)]
    have HB5 : Hid (Below w.heap.size w (w4.drewN n5)) := bel_drewN HB4.out _
    have S5 : Hid (Sp (w4.drewN n5) A c L) := S4.out.drewN _
    have T5 : Hid (Sp (w4.drewN n5) A2 c2 L) := T4.out.drewN _
    clear HB4 S4 T4 U4 V4
    generalize w4.drewN n5 = w5 at *
    go_wp2_with fail
    refine (r4spans_any A c L A2 c2 L _ S5.out T5.out (by omega)).mono ?_
    rintro e6 w6 ⟨rfl, n6, rfl⟩
    rw [decide_eq_true (rfl : L = L)]
    have HB6 : Hid (Below w.heap.size w (w5.drewN n6)) := bel_drewN HB5.out _
    clear HB5 S5 T5
    generalize w5.drewN n6 = w6 at *
    go_wp2_with fail
    refine (aw04_end w _ HB6.out).mono ?_
    rintro e7 w7 ⟨rfl, hb7⟩
    go_wp2_with fail
    go_ret
    exact ⟨rfl, hb7⟩
set_option maxHeartbeats 8000000 in
set_option maxRecDepth 100000 in
theorem specFolded_any (A : Option Addr) (c : Nat) (L : List (Int × Int)) (gap : Int) (w : World) (h : Sp w A c L) (hl : L.length ≤ 9223372036854775807) (_hg : (Lit.int .i64 gap).wf = true) :
    Calls Tryd.prog 5 #[.slice A L.length c, .int .i64 gap] w fun e w' => e = .returned (.bool true) ∧ Below w.heap.size w w' := by
  have H0 := Lib.hid h
  clear h
  go_enter Tryd.func5, Tryd.ntmps5
  go_wp2_with fail
  refine (good_any A c L _ H0.out hl).mono ?_
  rintro e1 w1 ⟨rfl, hb1⟩
  have HB1 := Lib.hid hb1
  have S1 := Lib.hid (H0.out.below hb1)
  clear hb1 H0
  cases hG : goodB L
  · go_wp2_with fail
    refine (aw04_end w _ HB1.out).mono ?_
    rintro e1 w1 ⟨rfl, hb1⟩
    go_wp2_with fail
    go_ret
    exact ⟨rfl, hb1⟩
  · obtain ⟨hW, h30⟩ := goodB_wide hG
    have HW := Lib.hid hW
    have HLT : Hid (∀ x ∈ L, x.1 < x.2) := fun x hx => (hW x hx).2.1
    have h0 : 0 ≤ max gap 0 := by omega
    clear hG hW
    go_wp2_with fail
    refine (sFold_any A c L gap _ S1.out HW.out (by omega) (sortsF_more (by omega))).mono ?_
    rintro e2 w2 ⟨O, hO, A2, c2, rfl, ho2, hb2⟩
    have hfew := hO.few
    have HBD : Hid (∀ x ∈ O.map Prod.fst, WideS x) := hO.bound HW.out
    have HAP : Hid (∀ (i k : Nat) (x y : Int × Int), (O.map Prod.fst)[i]? = some x → (O.map Prod.fst)[k]? = some y → i ≠ k → nearB (max gap 0) x y = false) := by
      intro i k x y hx hy hne
      obtain ⟨hi, rfl⟩ := List.getElem?_eq_some_iff.1 hx
      obtain ⟨hk, rfl⟩ := List.getElem?_eq_some_iff.1 hy
      exact nearB_not.2 (hO.apart hi hk hne)
    have HNR := Lib.hid (hO.near gap HW.out)
    have HLS := Lib.hid (hO.less _ HW.out)
    have HAG : Hid (∀ O', Folded (max gap 0) (O.map Prod.fst) O' → O'.map Prod.fst = O.map Prod.fst) := fun O' h' => hO.again h0 HLT.out h'
    have hml : (O.map Prod.fst).length ≤ 30 := by simp; omega
    have HB2 := Lib.hid (bel_chain hb2 HB1.out)
    have S2 := Lib.hid (S1.out.below hb2)
    have U2 := Lib.hid ho2.sp
    clear hO ho2 hb2 HB1 S1 hfew
    generalize O.map Prod.fst = R at *
    have hz0 : (cano L).length ≤ 2 * L.length := cano_length L
    have hz1 : (cano R).length ≤ 2 * R.length := cano_length R
    have hz2 : (nearP gap (cano L)).length ≤ (cano L).length := nearP_length gap _
    have HCN : Hid (cano (cano R) = cano (nearP gap (cano L))) := by
      simp only [Hid]; rw [HNR.out]
    go_wp2_with fail
    go_loopw [6, 7, 19, 24] (fun _ _ si _ wr => ∃ i : Nat, i ≤ R.length ∧ si = .int .i64 i ∧ Below w2.heap.size w2 wr) (fun _ _ si _ _ => R.length - (intOf si).toNat)
    case atStart => exact ⟨0, Nat.zero_le _, rfl, Below.refl _ _⟩
    case round =>
      obtain ⟨i, hi, rfl, hbw⟩ := hrel
      have HBW := Lib.hid hbw
      clear hbw
      by_cases hlt : i < R.length
      · go_wp2_with fail
        go_loopw [7, 24] (fun _ sk wr => ∃ k : Nat, k ≤ R.length ∧ sk = .int .i64 k ∧ Below w2.heap.size w2 wr) (fun _ sk _ => R.length - (intOf sk).toNat)
        case atStart => exact ⟨0, Nat.zero_le _, rfl, HBW.out⟩
        case round =>
          clear HBW
          obtain ⟨k, hk, rfl, hbw⟩ := hrel
          have HBW := Lib.hid hbw
          clear hbw
          by_cases hkt : k < R.length
          · by_cases hne : i = k
            · have hne' : ((i : Int) != (k : Int)) = false := by simp; omega
              go_wp2_with fail
              go_quiet (fail)
              go_wp2_with fail
              go_roundw
              case rel => exact ⟨k + 1, by omega, by go_num, by repeat (first | exact HBW.out | refine bel_drewN ?_ _ | refine bel_drew ?_)⟩
              case measure => simp [intOf]; omega
            · have hne' : ((i : Int) != (k : Int)) = true := by rw [bne_iff_ne]; omega
              obtain ⟨b, off, e, hb', k1, k2⟩ := (U2.out.below HBW.out).at_ hlt
              obtain ⟨b2, off2, e2, hb2', j1, j2⟩ := (U2.out.below HBW.out).at_ hkt
              have HNB := Lib.hid (HAP.out i k _ _ (List.getElem?_eq_getElem hlt) (List.getElem?_eq_getElem hkt) hne)
              have hwx := HBD.out _ (List.getElem_mem hlt)
              have hwy := HBD.out _ (List.getElem_mem hkt)
              obtain ⟨⟨x1, x2⟩, hx⟩ : ∃ x, R[i] = x := ⟨_, rfl⟩
              obtain ⟨⟨y1, y2⟩, hy⟩ : ∃ x, R[k] = x := ⟨_, rfl⟩
              rw [hx] at k1 k2 HNB hwx
              rw [hy] at j1 j2 HNB hwy
              have HN := fun W => Lib.hid (r4near_any x1 x2 y1 y2 gap W hwx hwy)
              rw [HNB.out] at HN
              clear hx hy HNB hwx hwy
              rw [e] at e2
              injection e2 with e2
              injection e2 with e2a e2b _
              subst e2a
              subst e2b
              rw [e]
              go_wp2_with fail
              go_region_held3 (fun w' => w'.cell? ⟨b, off + i * 2, none⟩ = some (.int .i64 x1) ∧ w'.cell? ⟨b, off + i * 2 + 1, none⟩ = some (.int .i64 x2) ∧ w'.cell? ⟨b, off + k * 2, none⟩ = some (.int .i64 y1) ∧ w'.cell? ⟨b, off + k * 2 + 1, none⟩ = some (.int .i64 y2))
                (first | exact ⟨k1, k2, j1, j2⟩ | exact ⟨cell_keep hb5 k1, cell_keep hb5 k2, cell_keep hb5 j1, cell_keep hb5 j2⟩ | fail)
                ((first | (go_at_call 25; refine (HN _).out.mono ?_; rintro e5 w5 ⟨rfl, hb5⟩)))
              all_goals
                go_wp2_with fail
                go_roundw
                case rel => exact ⟨k + 1, by omega, by go_num, by first | exact bel_chain hb5 (bel_drew HBW.out) | exact bel_chain hb5 HBW.out | exact bel_drew (bel_chain hb5 HBW.out)⟩
                case measure => simp [intOf]; omega
          · go_wp2_with fail
            go_roundw
            case rel => exact ⟨i + 1, by omega, by go_num, HBW.out⟩
            case measure => simp [intOf]; omega
      · have HB3 := Lib.hid (bel_chain HBW.out HB2.out)
        have S3 := Lib.hid (S2.out.below HBW.out)
        have U3 := Lib.hid (U2.out.below HBW.out)
        clear HBW HB2 S2 U2 HAP hi
        go_wp2_with fail
        refine (rOf_any A c L _ S3.out (by omega)).mono ?_
        rintro e4 w4 ⟨A4, c4, rfl, ho4, hb4⟩
        have HB4 := Lib.hid (bel_chain hb4 HB3.out)
        have S4 := Lib.hid (S3.out.below hb4)
        have U4 := Lib.hid (U3.out.below hb4)
        have P4 := Lib.hid ho4.sp
        clear hb4 ho4 HB3 S3 U3
        go_wp2_with fail
        refine (rOf_any A2 c2 R _ U4.out (by omega)).mono ?_
        rintro e5 w5 ⟨A5, c5, rfl, ho5, hb5⟩
        have HB5 := Lib.hid (bel_chain hb5 HB4.out)
        have U5 := Lib.hid (U4.out.below hb5)
        have P5 := Lib.hid (P4.out.below hb5)
        have Q5 := Lib.hid ho5.sp
        clear hb5 ho5 HB4 S4 U4 P4
        go_wp2_with fail
        refine (rLess_any A4 c4 (cano L) A5 c5 (cano R) _ P5.out Q5.out (by omega) (by omega)).mono ?_
        rintro e6 w6 ⟨A6, c6, rfl, ho6, hb6⟩
        rw [HLS.out]
        have HB6 := Lib.hid (bel_chain hb6 HB5.out)
        have U6 := Lib.hid (U5.out.below hb6)
        have P6 := Lib.hid (P5.out.below hb6)
        have Q6 := Lib.hid (Q5.out.below hb6)
        clear hb6 ho6 HB5 U5 P5 Q5 HLS
        go_wp2_with fail
        refine (rnear_any A4 c4 (cano L) gap _ P6.out (cano_canon L) (by omega)).mono ?_
        rintro e7 w7 ⟨A7, c7, rfl, ho7, hb7⟩
        have HB7 := Lib.hid (bel_chain hb7 HB6.out)
        have U7 := Lib.hid (U6.out.below hb7)
        have Q7 := Lib.hid (Q6.out.below hb7)
        have N7 := Lib.hid ho7.sp
        clear hb7 ho7 HB6 U6 P6 Q6
        go_wp2_with fail
        refine (rsame_any A5 c5 (cano R) A7 c7 (nearP gap (cano L)) _ Q7.out N7.out (by omega) (by omega)).mono ?_
        rintro e8 w8 ⟨rfl, hb8⟩
        rw [decide_eq_true HCN.out]
        have HB8 := Lib.hid (bel_chain hb8 HB7.out)
        have U8 := Lib.hid (U7.out.below hb8)
        clear hb8 HB7 U7 Q7 N7
        go_wp2_with fail
        refine (sFold_any A2 c2 R gap _ U8.out HBD.out (by omega) (sortsF_more (by omega))).mono ?_
        rintro e9 w9 ⟨O', hO', A9, c9, rfl, ho9, hb9⟩
        have heq := HAG.out O' hO'
        rw [heq] at ho9 ⊢
        have HB9 := Lib.hid (bel_chain hb9 HB8.out)
        have U9 := Lib.hid (U8.out.below hb9)
        have V9 := Lib.hid ho9.sp
        clear hb9 ho9 HB8 U8 heq hO'
        go_wp2_with fail
        refine (r4spans_any A9 c9 R A2 c2 R _ V9.out U9.out (by omega)).mono ?_
        rintro e5 w10 ⟨rfl, n5, rfl⟩
        rw [decide_eq_true (rfl : R = R)]
        have HB10 : Hid (Below w.heap.size w (w9.drewN n5)) := bel_drewN HB9.out _
        clear HB9 U9 V9
        generalize w9.drewN n5 = w10 at *
        go_wp2_with fail
        refine (aw04_end w _ HB10.out).mono ?_
        rintro e7 w11 ⟨rfl, hb7⟩
        go_wp2_with fail
        go_ret
        exact ⟨rfl, hb7⟩
end Go.Proofs.YtfpfdgljhcpkpaaDoor
