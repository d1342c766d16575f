/- Walk of ShapeHolds. -/
import Derived.Test.YtaaefgieklkekaaGreatDoorZL23
import Derived.Test.YtaaefgieklkekaaGreatDoorZJ8
import Derived.Test.YtaaefgieklkekaaGreatDoorZI27
import Derived.Test.YtaaefgieklkekaaGreatDoorZD5
import Derived.Test.YtaaefgieklkekaaGreatDoorZB11
import Derived.BigQuiet
namespace Go.Proofs.YtaaefgieklkekaaGreatDoor
open Go.RowKit Go.Sort

theorem pw_at {α : Type} {R : α → α → Prop} {S : List α} (h : S.Pairwise R) {i k : Nat} (hi : i < k) (hk : k < S.length) : R (S[i]'(Nat.lt_trans hi hk)) S[k] := List.pairwise_iff_getElem.1 h i k _ hk hi
set_option maxHeartbeats 16000000 in
set_option maxRecDepth 100000 in
theorem shapeHolds_any (r : ReqL) (m : MetaL) (KA : Option Addr) (kc : Nat) (o : Int) (g : CfgL) (seed : Int) (w : World) (hsp : Sp w r.A r.c r.L) (hks : SpG encT 1 w KA kc m.keys) (hcs : (Lit.int .i64 g.cs).wf = true) (hseed : -9223372036854775808 ≤ seed ∧ seed ≤ 9223372036854775807) (henv : EnvR w) :
    Calls Tryz.prog 6 #[.agg (askC r m KA kc o g seed)] w fun e w' => e = .returned (.bool true) ∧ Below w.heap.size w w' := by
  have HA := fun W (e : EnvR W) => Lib.hid (alive_any W e.env)
  have HFI := fun W a b => Lib.hid (fineC_any r m KA kc o g seed W a b)
  have HT1 := fun W a b hf (e : EnvR W) => Lib.hid (toldC_any r m KA kc o g seed W a b hf hcs hseed e.env)
  have HS := Lib.hid hsp
  have HK := Lib.hid hks
  have HE := Lib.hid henv
  obtain ⟨C1, hC1⟩ : ∃ C, askC r m KA kc o g seed = C := ⟨_, rfl⟩
  have H1S : Hid (C1.size = 34) := by simp only [Hid]; rw [← hC1]; rfl
  have I0 : Hid (C1[0]? = some (.bool r.hd)) := by simp only [Hid]; rw [← hC1]; rfl
  have I2 : Hid (C1[2]? = some (.slice r.A r.L.length r.c)) := by simp only [Hid]; rw [← hC1]; rfl
  have I14 : Hid (C1[14]? = some (.int .i64 m.len)) := by simp only [Hid]; rw [← hC1]; rfl
  have I15 : Hid (C1[15]? = some (.int .i64 m.hv)) := by simp only [Hid]; rw [← hC1]; rfl
  rw [hC1] at HFI HT1 ⊢
  clear hsp hks hcs hseed henv hC1
  go_enter Tryz.func6, Tryz.ntmps6
  go_upto_region 3 with (go_at_call 9; refine (HA _ (HE.out.below (bel_alloc (Below.refl _ _) _))).out.mono ?_; rintro e w1 ⟨rfl, hb1⟩)
  have HX1 : Hid (w1.heap[w.heap.size]? = some (.cells C1 36 (0, 0))) := blk_keep hb1 (blk_new rfl)
  have HB1 := Lib.hid (bel_chain hb1 (bel_alloc (Below.refl _ _) _))
  clear hb1
  refine wp_region_lit ?_
  refine wpList_load_blk rfl 36 (.tmp 1) rfl rfl HX1.out _ Tryz.underlying36 rfl (by rw [H1S.out]; exact askSize) ?_
  simp only [Act.put, List.setIfInBounds_toArray, List.set_cons_zero, List.set_cons_succ]
  go_upto_if 17 with (go_at_call 10; refine (HFI _ (HS.out.below HB1.out) (HK.out.below HB1.out)).out.mono ?_; rintro e w2 ⟨b, rfl, hq, hb2⟩)
  have HX2 := Lib.hid (blk_keep hb2 HX1.out)
  have HB2 := Lib.hid (bel_chain hb2 HB1.out)
  clear hb2 HX1 HB1 HFI HA
  cases b with
  | false =>
    clear hq
    go_wp2_with fail
    go_ret
    exact ⟨rfl, HB2.out⟩
  | true =>
  have HF := Lib.hid (hq rfl)
  clear hq
  go_upto_region 5 with fail
  --M1
  refine wp_region_lit ?_
  refine wpList_load_blk rfl 36 (.tmp 1) rfl rfl HX2.out _ Tryz.underlying36 rfl (by rw [H1S.out]; exact askSize) ?_
  simp only [Act.put, List.setIfInBounds_toArray, List.set_cons_zero, List.set_cons_succ]
  go_upto_region 6 with (go_at_call 12; refine (HT1 _ (HS.out.below HB2.out) (HK.out.below HB2.out) HF.out (HE.out.below HB2.out)).out.mono ?_; rintro e w3 ⟨v, rfl, ⟨a, A0, c0, B0, d0, hP0, rfl, hft, hpt⟩, hb3⟩)
  --M2
  have HHD := Lib.hid (hP0.hold ⟨HF.out.few, HF.out.all_, HF.out.ok⟩)
  obtain ⟨st, F, P, sz⟩ := a
  obtain ⟨W3, hW3⟩ : ∃ W3, w3.alloc (.cells #[.int .i64 st, .slice A0 F.length c0, .slice B0 P.length d0, .int .i64 sz] 43) = W3 := ⟨_, rfl⟩
  have HX3 : Hid (W3.heap[w.heap.size]? = some (.cells C1 36 (0, 0))) := by simp only [Hid]; rw [← hW3]; exact blk_skip (blk_keep hb3 HX2.out)
  have HY3 : Hid (W3.heap[w3.heap.size]? = some (.cells #[.int .i64 st, .slice A0 F.length c0, .slice B0 P.length d0, .int .i64 sz] 43 (0, 0))) := by simp only [Hid]; rw [← hW3]; exact blk_new rfl
  have HB3 : Hid (Below w.heap.size w W3) := by simp only [Hid]; rw [← hW3]; exact bel_alloc (bel_chain hb3 HB2.out) _
  have HFT : Hid (SpG encFd 2 W3 A0 c0 F) := by simp only [Hid]; rw [← hW3]; exact SpG.alloc hft.sp _
  have HPT : Hid (SpG encPt 3 W3 B0 d0 P) := by simp only [Hid]; rw [← hW3]; exact SpG.alloc hpt.sp _
  have HE3 := Lib.hid (HE.out.below HB3.out)
  have HS3 := Lib.hid (HS.out.below HB3.out)
  try simp only
  rw [hW3]
  clear hW3 hb3 HX2 HB2 HT1 hft hpt hP0
  have y0 := blk_cell (i := 0) HY3.out rfl
  have y1 := blk_cell (i := 1) HY3.out rfl
  have y2 := blk_cell (i := 2) HY3.out rfl
  have y3 := blk_cell (i := 3) HY3.out rfl
  have HRT := fun W hp hf hE => Lib.hid (shapeRight_any st sz A0 F.length c0 F B0 d0 P.length P W rfl rfl hp hf HHD.out.pl HHD.out.fl HHD.out.fx HHD.out.px hE)
  have HRY := Lib.hid HHD.out.right
  have hpl := HHD.out.pl
  have HSP := fun W hp => Lib.hid (spans_any st sz A0 F.length c0 B0 d0 P.length P W rfl hp (by have := HHD.out.pl; simp only at this; omega))
  have HSS := Lib.hid HHD.out.spans
  have HAP := Lib.hid HHD.out.apart
  have H206 := Lib.hid HHD.out.st206
  have H416 := Lib.hid HHD.out.st416
  have H200 := Lib.hid HHD.out.st200
  simp only at HRT HRY HSP HSS HAP H206 H416 H200 hpl
  have hsl : (spansL P).length ≤ 200 := by have := spansL_len P; omega
  generalize RightP st sz F P = QR at HRT HRY
  obtain ⟨S, hS⟩ : ∃ S, spansL P = S := ⟨_, rfl⟩
  rw [hS] at HSS HAP H206 H200 hsl
  simp only [hS] at HSP
  unfold RetSp at HSP
  have hrl : (resL m.hv r.L).length ≤ 70 := by have := resL_length m.hv r.L; have := HF.out.few; omega
  have HRS := fun W hs => Lib.hid (r4resolve_any r.A r.c r.L m.hv W hs (by have := HF.out.few; omega) HF.out.all_ HF.out.ok.hv.1 (by have := HF.out.ok.hv.2; omega))
  unfold RetRes at HRS
  obtain ⟨R, hR⟩ : ∃ R, resL m.hv r.L = R := ⟨_, rfl⟩
  rw [hR] at H206 H416 H200 hrl
  simp only [hR] at HRS
  have hcl : (cano R).length ≤ 140 := by have := cano_length R; omega
  have HOF := fun A c W hs => Lib.hid (rOf_any A c R W hs (by omega))
  unfold RetSp at HOF
  have HSM := fun A c B d W hs hs' => Lib.hid (rsame_any A c (cano R) B d S W hs hs' (by omega) (by omega))
  have HLS := fun A c B d W hs hs' => Lib.hid (rLess_any A c (cano R) B d S W hs hs' (by omega) (by omega))
  unfold RetSp at HLS
  obtain ⟨CR, hCR⟩ : ∃ C, cano R = C := ⟨_, rfl⟩
  rw [hCR] at H206 H416 H200 hcl
  simp only [hCR] at HOF HSM HLS
  have HHV := Lib.hid HF.out.ok.hv
  obtain ⟨hv, hhv⟩ : ∃ x, m.hv = x := ⟨_, rfl⟩
  rw [hhv] at HSS I15
  simp only [hhv] at HRS
  obtain ⟨ln, hln⟩ : ∃ x, m.len = x := ⟨_, rfl⟩
  rw [hln] at HSS I14
  clear hS hR hCR HHD hhv HHV HF hln hpl
  go_upto_region 8 with (go_at_call 16; refine (HRT _ HPT.out HFT.out HE3.out).out.mono ?_; rintro e w4 ⟨⟨b4, rfl, hb4⟩, hl4⟩; obtain rfl : b4 = true := hb4.2 HRY.out; clear hb4)
  have HX4 := Lib.hid (blk_keep hl4 HX3.out)
  have HY4 := Lib.hid (blk_keep hl4 HY3.out)
  have HB4 := Lib.hid (bel_chain hl4 HB3.out)
  have HP4 := Lib.hid (HPT.out.below hl4)
  have HS4 := Lib.hid (HS3.out.below hl4)
  clear y0 y1 y2 y3 HX3 HY3 HB3 HPT HFT HE3 HS3 HRT HRY hl4
  have y0 := blk_cell (i := 0) HY4.out rfl
  have y1 := blk_cell (i := 1) HY4.out rfl
  have y2 := blk_cell (i := 2) HY4.out rfl
  have y3 := blk_cell (i := 3) HY4.out rfl
  go_upto_region 12 with (first
    | (go_at_call 18; refine (HOF _ _ _ hs6.sp).out.mono ?_; rintro e w7 ⟨A7, c7, rfl, hs7, hl7⟩)
    | (go_at_call 17; refine (HRS _ (HS4.out.below hl5)).out.mono ?_; rintro e w6 ⟨A6, c6, rfl, hs6, hl6⟩)
    | (go_at_call 15; refine (HSP _ HP4.out).out.mono ?_; rintro e w5 ⟨A5, c5, rfl, hs5, hl5⟩
       have x2 := blk_cell (i := 2) (blk_keep hl5 HX4.out) I2.out
       have x15 := blk_cell (i := 15) (blk_keep hl5 HX4.out) I15.out))
  have HX7 := Lib.hid (blk_keep hl7 (blk_keep hl6 (blk_keep hl5 HX4.out)))
  have HY7 := Lib.hid (blk_keep hl7 (blk_keep hl6 (blk_keep hl5 HY4.out)))
  have HB7 := Lib.hid (bel_chain hl7 (bel_chain hl6 (bel_chain hl5 HB4.out)))
  have HS7 := Lib.hid ((hs5.sp.below hl6).below hl7)
  have HC7 := Lib.hid hs7.sp
  have hle : S.length ≤ c5 := HS7.out.le
  clear x2 x15 y0 y1 y2 y3 hs5 hs6 hs7 hl5 hl6 hl7 HX4 HY4 HB4 HP4 HS4 HOF HRS HSP hrl
  go_wp2_with fail
  --M3
  go_loopw [9, 10, 12, 40, 71] (fun _ _ _ i _ wr => ∃ k : Nat, k ≤ S.length ∧ i = .int .i64 (k : Int) ∧ Below w7.heap.size w7 wr) (fun _ _ _ i _ _ => S.length - (intOf i).toNat)
  case atStart => exact ⟨0, Nat.zero_le _, rfl, Below.refl _ _⟩
  case round =>
    obtain ⟨k, hk, rfl, hbw⟩ := hrel
    have HBW := Lib.hid hbw
    have HBA := Lib.hid (bel_chain hbw HB7.out)
    have HXr := Lib.hid (blk_keep hbw HX7.out)
    have HYr := Lib.hid (blk_keep hbw HY7.out)
    clear hbw
    have x0 := blk_cell (i := 0) HXr.out I0.out
    have x2 := blk_cell (i := 2) HXr.out I2.out
    have x14 := blk_cell (i := 14) HXr.out I14.out
    have y0 := blk_cell (i := 0) HYr.out rfl
    have xz := blk_lt HXr.out
    have yz := blk_lt HYr.out
    by_cases hlt : k < S.length
    · obtain ⟨b, off, e, hb, c1, c2⟩ := (HS7.out.below HBW.out).at_ hlt
      have h1 := (HSS.out _ (List.getElem_mem hlt)).1
      have h2 := (HSS.out _ (List.getElem_mem hlt)).2
      have HAK : Hid (∀ j (hj : j < k), ¬ (S[k].1 < (S[j]'(Nat.lt_trans hj hlt)).2 ∧ (S[j]'(Nat.lt_trans hj hlt)).1 < S[k].2)) := fun j hj => pw_at HAP.out hj hlt
      obtain ⟨⟨s1, s2⟩, hx⟩ : ∃ x, S[k] = x := ⟨_, rfl⟩
      rw [hx] at c1 c2 h1 h2 HAK
      simp only at c1 c2 h1 h2 HAK
      have h1' : ¬ s1 ≥ s2 := by omega
      have h1n : ¬ s2 ≤ s1 := by omega
      have hkc : (k : Int) ≤ (c5 : Int) := by omega
      have hk0 : (0 : Int) ≤ (k : Int) := by omega
      have hltI : (k : Int) < (S.length : Int) := by omega
      clear hx
      subst e
      by_cases hA : s2 ≤ hv
      · have hA1 : ¬ s2 > hv := by omega
        have hA2 : ¬ hv < s2 := by omega
        clear h2 hA
        clear x0 x2
        go_wp2_with fail
        go_loopw [12, 71] (fun _ q wr' => ∃ j : Nat, j ≤ k ∧ q = .int .i64 (j : Int) ∧ Below w7.heap.size w7 wr' ∧ Below wr.heap.size wr wr' ∧ wr'.cell? ⟨wr.heap.size, 0, none⟩ = some (.int .i64 s1) ∧ wr'.cell? ⟨wr.heap.size, 1, none⟩ = some (.int .i64 s2)) (fun _ q _ => k - (intOf q).toNat)
        case atStart => exact ⟨0, Nat.zero_le _, rfl, bel_alloc HBW.out _, bel_alloc (Below.refl _ _) _, cell_new0 _ _ _ _, cell_new1 _ _ _ _⟩
        case round =>
          obtain ⟨j, hj, rfl, hbv, hbr, t1, t2⟩ := hrel
          have HBV := Lib.hid hbv
          have HBR := Lib.hid hbr
          have HBVA := Lib.hid (bel_chain hbv HB7.out)
          have tz := World.block_lt_of_cell? _ _ t1
          try simp only at tz
          clear hbv hbr
          by_cases hjk : j < k
          · obtain ⟨b', off', e', hb', d1, d2⟩ := (HS7.out.below HBV.out).at_ (Nat.lt_trans hjk hlt)
            have hna := HAK.out j hjk
            obtain ⟨⟨u1, u2⟩, hy⟩ : ∃ x, S[j]'(Nat.lt_trans hjk hlt) = x := ⟨_, rfl⟩
            rw [hy] at d1 d2 hna
            simp only at d1 d2 hna
            injection e' with e'
            injection e' with e1 e2
            subst e1 e2
            clear hy
            by_cases ha : s1 < u2
            · have ha2 : ¬ u1 < s2 := fun h => hna ⟨ha, h⟩
              clear hna
              go_wp2_with fail
              go_roundw
              case rel => exact ⟨j + 1, by omega, by go_num, bel_alloc HBV.out _, bel_alloc HBR.out _, by first | exact cell_keep (bel_alloc (Below.refl _ _) _) t1 | exact t1, by first | exact cell_keep (bel_alloc (Below.refl _ _) _) t2 | exact t2⟩
              case measure => simp [intOf]; omega
            · clear hna
              go_wp2_with fail
              go_roundw
              case rel => exact ⟨j + 1, by omega, by go_num, bel_alloc HBV.out _, bel_alloc HBR.out _, by first | exact cell_keep (bel_alloc (Below.refl _ _) _) t1 | exact t1, by first | exact cell_keep (bel_alloc (Below.refl _ _) _) t2 | exact t2⟩
              case measure => simp [intOf]; omega
          · have hjn : ¬ (j : Int) < (k : Int) := by omega
            go_wp2_with fail
            go_roundw
            case rel => exact ⟨k + 1, by omega, by go_num, HBV.out⟩
            case measure => simp [intOf]; omega
      · have hA2 : hv < s2 := by omega
        obtain ⟨hl0, hs6⟩ := h2.resolve_left hA
        have hl1 : ¬ 0 ≤ ln := by omega
        have hs7 : (st == 206) = false := beq_eq_false_iff_ne.2 hs6
        clear h2 hA hl0 hs6
        clear x0 x2
        go_wp2_with fail
        go_loopw [12, 71] (fun _ q wr' => ∃ j : Nat, j ≤ k ∧ q = .int .i64 (j : Int) ∧ Below w7.heap.size w7 wr' ∧ Below wr.heap.size wr wr' ∧ wr'.cell? ⟨wr.heap.size, 0, none⟩ = some (.int .i64 s1) ∧ wr'.cell? ⟨wr.heap.size, 1, none⟩ = some (.int .i64 s2)) (fun _ q _ => k - (intOf q).toNat)
        case atStart => exact ⟨0, Nat.zero_le _, rfl, bel_alloc HBW.out _, bel_alloc (Below.refl _ _) _, cell_new0 _ _ _ _, cell_new1 _ _ _ _⟩
        case round =>
          obtain ⟨j, hj, rfl, hbv, hbr, t1, t2⟩ := hrel
          have HBV := Lib.hid hbv
          have HBR := Lib.hid hbr
          have HBVA := Lib.hid (bel_chain hbv HB7.out)
          have tz := World.block_lt_of_cell? _ _ t1
          try simp only at tz
          clear hbv hbr
          by_cases hjk : j < k
          · obtain ⟨b', off', e', hb', d1, d2⟩ := (HS7.out.below HBV.out).at_ (Nat.lt_trans hjk hlt)
            have hna := HAK.out j hjk
            obtain ⟨⟨u1, u2⟩, hy⟩ : ∃ x, S[j]'(Nat.lt_trans hjk hlt) = x := ⟨_, rfl⟩
            rw [hy] at d1 d2 hna
            simp only at d1 d2 hna
            injection e' with e'
            injection e' with e1 e2
            subst e1 e2
            clear hy
            by_cases ha : s1 < u2
            · have ha2 : ¬ u1 < s2 := fun h => hna ⟨ha, h⟩
              clear hna
              go_wp2_with fail
              go_roundw
              case rel => exact ⟨j + 1, by omega, by go_num, bel_alloc HBV.out _, bel_alloc HBR.out _, by first | exact cell_keep (bel_alloc (Below.refl _ _) _) t1 | exact t1, by first | exact cell_keep (bel_alloc (Below.refl _ _) _) t2 | exact t2⟩
              case measure => simp [intOf]; omega
            · clear hna
              go_wp2_with fail
              go_roundw
              case rel => exact ⟨j + 1, by omega, by go_num, bel_alloc HBV.out _, bel_alloc HBR.out _, by first | exact cell_keep (bel_alloc (Below.refl _ _) _) t1 | exact t1, by first | exact cell_keep (bel_alloc (Below.refl _ _) _) t2 | exact t2⟩
              case measure => simp [intOf]; omega
          · have hjn : ¬ (j : Int) < (k : Int) := by omega
            go_wp2_with fail
            go_roundw
            case rel => exact ⟨k + 1, by omega, by go_num, HBV.out⟩
            case measure => simp [intOf]; omega
    · have hnI : ¬ (k : Int) < (S.length : Int) := by omega
      clear x14
      by_cases h206 : st = 206
      · subst h206
        have hsame := H206.out rfl
        have HSM2 : ∀ W, Sp W A7 c7 CR → Sp W A5 c5 S → Hid (Calls Tryz.prog 19 #[.slice A7 CR.length c7, .slice A5 S.length c5] W fun e w' => e = .returned (.bool true) ∧ Below W.heap.size W w') := fun W a b => by
          have := (HSM A7 c7 A5 c5 W a b).out
          rw [decide_eq_true hsame] at this
          exact Lib.hid this
        clear HSM HLS H206 H416 H200 hsame
        go_wp2_with (go_at_call 19; refine (HSM2 _ (HC7.out.below HBW.out) (HS7.out.below HBW.out)).out.mono ?_; rintro e w8 ⟨rfl, hb8⟩)
        go_ret
        exact ⟨rfl, bel_chain hb8 HBA.out⟩
      by_cases h416 : st = 416
      · subst h416
        obtain ⟨hc0, hrn⟩ := H416.out rfl
        have hc1 : ((CR.length : Int) == 0) = true := by rw [hc0]; rfl
        have hr1 : (0 : Int) < (r.L.length : Int) := by have := List.length_pos_iff.2 hrn; omega
        have hr3 : 0 < r.L.length := by omega
        clear HSM HLS H206 H416 H200 hc0 hrn h206
        go_wp2_with fail
        go_ret
        exact ⟨by first | exact congrArg (fun b => Ending.returned (.bool b)) (decide_eq_true hr3) | exact congrArg (fun b => Ending.returned (.bool b)) (decide_eq_true hr1) | (simp [go_sem, hr3]; done) | (simp [go_sem, hr1]; done) | simp [go_sem, hr3, hr1], HBA.out⟩
      have b206 : (st == 206) = false := beq_eq_false_iff_ne.2 h206
      have b416 : (st == 416) = false := beq_eq_false_iff_ne.2 h416
      clear HSM H206 H416 h206 h416
      by_cases h200 : st = 200
      · subst h200
        cases hhd : r.hd with
        | true =>
          rw [hhd] at x0
          clear HLS H200
          go_wp2_with fail
          go_ret
          exact ⟨rfl, HBA.out⟩
        | false =>
          rw [hhd] at x0
          have he := H200.out rfl hhd
          simp only [he, List.length_nil] at HLS
          clear H200 he
          go_wp2_with (go_at_call 20; refine (HLS A7 c7 A5 c5 _ (HC7.out.below HBW.out) (HS7.out.below HBW.out)).out.mono ?_; rintro e w8 ⟨A8, c8, rfl, hs8, hb8⟩)
          go_ret
          exact ⟨rfl, bel_chain hb8 HBA.out⟩
      · have b200 : (st != 200) = true := bne_iff_ne.2 h200
        clear HLS H200 h200
        go_wp2_with fail
        go_ret
        exact ⟨rfl, HBA.out⟩
end Go.Proofs.YtaaefgieklkekaaGreatDoor
