/- The walk of ShapeSeeds. The walk of ShapeBare. -/
import Derived.Test.YtaaefgieklkekaaGreatDoorZJ8
import Derived.Test.YtaaefgieklkekaaGreatDoorZI27
import Derived.Deep.RegionHeld3
import Derived.BigQuiet
import Derived.Lib.QuietBelow
import Derived.Test.YtaaefgieklkekaaGreatDoorZQ3
namespace Go.Proofs.YtaaefgieklkekaaGreatDoor
open Go.RowKit Go.Sort

theorem SpT.stored {α : Type} {T T' : TypeId} {en : α → List Value} {n : Nat} {w w' : World} {A : Option Addr} {c : Nat} {L : List α} {b : Nat} {cs old : Array Value} {f : Nat × Nat} (h : SpT T en n w A c L) (hs : Stored w b cs T' w') (hb : w.heap[b]? = some (.cells old T' f)) (hT : T ≠ T') : SpT T en n w' A c L := by
  have hne : ∀ a, A = some a → a.block ≠ b := fun a ha => by
    obtain ⟨cs', f', hc⟩ := h.ty a ha
    exact blk_ne hc hb hT
  refine ⟨⟨h.sp.le, h.sp.nil_, fun k hk => ?_⟩, fun a ha => ?_⟩
  · obtain ⟨b', off, e, hl, h1⟩ := h.sp.at' k hk
    have hn := hne _ e
    have hh : w'.heap[b']? = w.heap[b']? := hs.ne _ hn
    refine ⟨b', off, e, ?_, fun j u hj => (cell_heap hh).trans (h1 j u hj)⟩
    rcases Nat.lt_or_ge b' w'.heap.size with h2 | h2
    · exact h2
    · rw [Array.getElem?_eq_none h2, Array.getElem?_eq_getElem hl] at hh; cases hh
  · obtain ⟨cs', f', hc⟩ := h.ty a ha
    exact ⟨cs', f', (hs.ne _ (hne a ha)).trans hc⟩
theorem SpT.stored2 {α : Type} {T T' : TypeId} {en : α → List Value} {n : Nat} {w w' : World} {A : Option Addr} {c : Nat} {L : List α} {b : Nat} {cs old : Array Value} {f : Nat × Nat} (h : SpT T en n w A c L) (hs : Stored w b cs T' w') (hb : w.heap[b]? = some (.cells old T' f)) (hT : T ≠ T') : SpG en n w' A c L := (h.stored hs hb hT).sp
set_option maxHeartbeats 32000000 in
set_option maxRecDepth 100000 in
theorem shapeSeeds_any (r : ReqL) (m : MetaL) (KA : Option Addr) (kc : Nat) (o : Int) (g : CfgL) (seed s2 : Int) (w : World) (hsp : Sp w r.A r.c r.L) (hks : SpG encT 1 w KA kc m.keys) (hcs : (Lit.int .i64 g.cs).wf = true) (hseed : -9223372036854775808 ≤ seed ∧ seed ≤ 9223372036854775807) (hs2 : -9223372036854775808 ≤ s2 ∧ s2 ≤ 9223372036854775807) (henv : Env w) :
    Calls Tryz.prog 5 #[.agg (askC r m KA kc o g seed), .int .i64 s2] w fun e w' => e = .returned (.bool true) ∧ Below w.heap.size w w' := by
  have HA := fun W e => Lib.hid (alive_any W e)
  have HFI := fun W a b => Lib.hid (fineC_any r m KA kc o g seed W a b)
  have HT1 := fun W a b hf e => Lib.hid (toldC_any r m KA kc o g seed W a b hf hcs hseed e)
  have HT2 := fun W a b hf e => Lib.hid (toldC_any r m KA kc o g s2 W a b hf hcs hs2 e)
  have HS := Lib.hid hsp
  have HK := Lib.hid hks
  have HE := Lib.hid henv
  have HSD := Lib.hid hseed
  have HS2 := Lib.hid hs2
  obtain ⟨C1, hC1⟩ : ∃ C, askC r m KA kc o g seed = C := ⟨_, rfl⟩
  obtain ⟨C2, hC2⟩ : ∃ C, askC r m KA kc o g s2 = C := ⟨_, rfl⟩
  have h1s : C1.size = 34 := by rw [← hC1]; rfl
  have h1o : C1.all (·.oneCell') = true := by rw [← hC1]; exact askC_one r m KA kc o g seed
  have h1d : C1[33]? = some (.int .i64 seed) := by rw [← hC1]; rfl
  have h12 : C1.setIfInBounds 33 (.int .i64 s2) = C2 := by rw [← hC1, ← hC2]; rfl
  have H1S := Lib.hid h1s
  have H1O := Lib.hid h1o
  have H1D := Lib.hid h1d
  have H12 := Lib.hid h12
  rw [hC1] at HFI HT1 ⊢
  rw [hC2] at HT2
  clear hsp hks hcs hseed hs2 henv h1s h1o h1d h12 hC1 hC2
  go_enter Tryz.func5, Tryz.ntmps5
  --M0
  go_upto_region 3 with (go_at_call 9; refine (HA _ (HE.out.below (bel_alloc (Below.refl _ _) _))).out.mono ?_; rintro e w1 ⟨rfl, hb1⟩)
  have HX1 : Hid (w1.heap[w.heap.size]? = some (.cells C1 36 (0, 0))) := blk_keep hb1 (blk_new rfl)
  have HB1 := Lib.hid (bel_chain hb1 (bel_alloc (Below.refl _ _) _))
  clear hb1
  refine wp_region_lit ?_
  refine wpList_load_blk rfl 36 (.tmp 2) rfl rfl HX1.out _ Tryz.underlying36 rfl (by rw [H1S.out]; exact askSize) ?_
  simp only [Act.put, List.setIfInBounds_toArray, List.set_cons_zero, List.set_cons_succ]
  go_upto_if 12 with (go_at_call 10; refine (HFI _ (HS.out.below HB1.out) (HK.out.below HB1.out)).out.mono ?_; rintro e w2 ⟨b, rfl, hq, hb2⟩)
  have HX2 := Lib.hid (blk_keep hb2 HX1.out)
  have HB2 := Lib.hid (bel_chain hb2 HB1.out)
  clear hb2 HX1 HB1 HFI
  cases b with
  | false =>
    clear hq
    go_wp2_with fail
    go_ret
    exact ⟨rfl, HB2.out⟩
  | true =>
  have HF := Lib.hid (hq rfl)
  clear hq
  go_upto_region 5 with fail
  --M1
  refine wp_region_lit ?_
  refine wpList_load_blk rfl 36 (.tmp 2) rfl rfl HX2.out _ Tryz.underlying36 rfl (by rw [H1S.out]; exact askSize) ?_
  refine wpList_alloc_ask rfl rfl ?_
  obtain ⟨W3, hW3⟩ : ∃ W3, w2.alloc (.cells zeroAsk 36) = W3 := ⟨_, rfl⟩
  have HX3 : Hid (W3.heap[w.heap.size]? = some (.cells C1 36 (0, 0))) := by simp only [Hid]; rw [← hW3]; exact blk_skip HX2.out
  have HY3 : Hid (W3.heap[w2.heap.size]? = some (.cells zeroAsk 36 (0, 0))) := by simp only [Hid]; rw [← hW3]; exact blk_new rfl
  have HB3 : Hid (Below w.heap.size w W3) := by simp only [Hid]; rw [← hW3]; exact bel_alloc HB2.out _
  have hxy : w.heap.size < w2.heap.size := blk_lt HX2.out
  have HXY := Lib.hid hxy
  have hle : w.heap.size ≤ w2.heap.size := by omega
  have HLE := Lib.hid hle
  clear hxy hle
  rw [hW3]
  clear hW3
  simp only [Act.put, List.setIfInBounds_toArray, List.set_cons_zero, List.set_cons_succ]
  refine wpList_store_blk rfl 36 (.tmp 5) (.tmp 13) rfl rfl rfl HY3.out (by rw [H1S.out]; rfl) (by rw [H1S.out]; exact askSize) H1O.out ?_
  intro w4 hst
  have HY4 := Lib.hid hst.blk
  have HX4 : Hid (w4.heap[w.heap.size]? = some (.cells C1 36 (0, 0))) := by simp only [Hid]; rw [hst.ne _ (by have := HXY.out; omega)]; exact HX3.out
  have HB4 := Lib.hid (hst.bel w HB3.out HLE.out)
  clear hst HX3 HY3 HB3 HX2 HB2
  have y33 : w4.cell? ⟨w2.heap.size, 33, none⟩ = some (.int .i64 seed) := blk_cell HY4.out H1D.out
  have yf33 : w4.frozen? ⟨w2.heap.size, 33, none⟩ = false := blk_frozen HY4.out
  have yz : w2.heap.size < w4.heap.size := blk_lt HY4.out
  simp only [Act.put, List.setIfInBounds_toArray, List.set_cons_zero, List.set_cons_succ]
  --M2
  go_upto_region 7 with fail
  obtain ⟨W5, hW5⟩ : ∃ W5, w4.setCell ⟨w2.heap.size, 33, none⟩ (.int .i64 s2) = W5 := ⟨_, rfl⟩
  have HX5 : Hid (W5.heap[w.heap.size]? = some (.cells C1 36 (0, 0))) := by simp only [Hid]; rw [← hW5]; exact blk_set_ne (by have := HXY.out; simp only; omega) HX4.out
  have HY5 : Hid (W5.heap[w2.heap.size]? = some (.cells C2 36 (0, 0))) := by simp only [Hid]; rw [← hW5, ← H12.out]; exact blk_set HY4.out
  have HB5 : Hid (Below w.heap.size w W5) := by simp only [Hid]; rw [← hW5]; exact bel_set HB4.out HLE.out _
  rw [hW5]
  clear hW5 HX4 HY4 HB4 y33 yf33 yz
  have h2s : C2.size = 34 := by rw [← H12.out, Array.size_setIfInBounds]; exact H1S.out
  have H2S := Lib.hid h2s
  clear h2s
  --M4
  refine wp_region_inv (vs0 := fun _ => undef) 6 rfl (by kernel_rfl) [16, 17, 18, 19, 6, 7] (by decide) rfl (RInv W5 (FG [fun v _ => v = .agg C1, GA r m o g.cs seed, fun v _ => v = .agg C2, GA r m o g.cs s2] W5.heap.size 43 zeroAns) (fun j => decide (4 ≤ j))) rfl (RInv.start 6 (bel_drew (Below.refl _ _))) ?_ ?_
  · intro i oo li vs wx ho hi hdep hI K hK
    have hmono : ∀ j v w w', FG [fun v _ => v = .agg C1, GA r m o g.cs seed, fun v _ => v = .agg C2, GA r m o g.cs s2] W5.heap.size 43 zeroAns j v w → Below w.heap.size w w' → FG [fun v _ => v = .agg C1, GA r m o g.cs seed, fun v _ => v = .agg C2, GA r m o g.cs s2] W5.heap.size 43 zeroAns j v w' := FG.mono (by
      intro g hg
      simp only [List.mem_cons, List.not_mem_nil, or_false] at hg
      rcases hg with rfl | rfl | rfl | rfl
      · exact fun _ _ _ h _ => h
      · exact GA.mono
      · exact fun _ _ _ h _ => h
      · exact GA.mono)
    rcases i with _ | _ | _ | _ | _ | _ | i
    · have ho := Option.some.inj ho
      subst ho
      simp only [puts, Act.put, List.setIfInBounds_toArray, List.set_cons_zero, List.set_cons_succ] at hK ⊢
      refine wp_load_blk 36 (.tmp 2) rfl rfl (blk_keep hI.bel HX5.out) _ Tryz.underlying36 rfl (by rw [H1S.out]; exact askSize) ?_
      exact hK.out _ _ (hI.step hmono (Below.refl _ _) rfl rfl)
    · have ho := Option.some.inj ho
      have e0 : vs 0 = .agg C1 := hI.facts 0 (hdep ⟨0, .data⟩ (by rw [← ho]; simp) rfl)
      have hbb := bel_chain hI.bel HB5.out
      have HC : Hid (Calls Tryz.prog 12 #[vs 0] wx fun e w' => ∃ v, e = .returned v ∧ GA r m o g.cs seed v w' ∧ Below wx.heap.size wx w') := by
        simp only [Hid]; rw [e0]; exact (HT1 _ (HS.out.below hbb) (HK.out.below hbb) HF.out (HE.out.below hbb)).out
      have HI := Lib.hid hI
      have HM := Lib.hid hmono
      clear e0 hbb hI hmono hdep
      subst ho
      simp only [puts, Act.put, List.setIfInBounds_toArray, List.set_cons_zero, List.set_cons_succ] at hK ⊢
      go_simp
      refine HC.out.mono ?_
      rintro e wy ⟨v, rfl, hg, hb⟩
      exact hK.out _ _ (HI.out.step HM.out hb rfl hg)
    · have ho := Option.some.inj ho
      subst ho
      simp only [puts, Act.put, List.setIfInBounds_toArray, List.set_cons_zero, List.set_cons_succ] at hK ⊢
      refine wp_load_blk 36 (.tmp 5) rfl rfl (blk_keep hI.bel HY5.out) _ Tryz.underlying36 rfl (by rw [H2S.out]; exact askSize) ?_
      exact hK.out _ _ (hI.step hmono (Below.refl _ _) rfl rfl)
    · have ho := Option.some.inj ho
      have e0 : vs 2 = .agg C2 := hI.facts 2 (hdep ⟨2, .data⟩ (by rw [← ho]; simp) rfl)
      have hbb := bel_chain hI.bel HB5.out
      have HC : Hid (Calls Tryz.prog 12 #[vs 2] wx fun e w' => ∃ v, e = .returned v ∧ GA r m o g.cs s2 v w' ∧ Below wx.heap.size wx w') := by
        simp only [Hid]; rw [e0]; exact (HT2 _ (HS.out.below hbb) (HK.out.below hbb) HF.out (HE.out.below hbb)).out
      have HI := Lib.hid hI
      have HM := Lib.hid hmono
      clear e0 hbb hI hmono hdep
      subst ho
      simp only [puts, Act.put, List.setIfInBounds_toArray, List.set_cons_zero, List.set_cons_succ] at hK ⊢
      go_simp
      refine HC.out.mono ?_
      rintro e wy ⟨v, rfl, hg, hb⟩
      exact hK.out _ _ (HI.out.step HM.out hb rfl hg)
    · have ho := Option.some.inj ho
      subst ho
      simp only [puts, Act.put, List.setIfInBounds_toArray, List.set_cons_zero, List.set_cons_succ] at hK ⊢
      refine wp_alloc_ans rfl ?_
      exact hK.out _ _ (hI.new hmono (fun k v w hk h => FG.lt (gs := [fun v _ => v = .agg C1, GA r m o g.cs seed, fun v _ => v = .agg C2, GA r m o g.cs s2]) k v w hk h) _ (FG.new rfl hI.bel.size))
    · have ho := Option.some.inj ho
      subst ho
      simp only [puts, Act.put, List.setIfInBounds_toArray, List.set_cons_zero, List.set_cons_succ] at hK ⊢
      refine wp_alloc_ans rfl ?_
      exact hK.out _ _ (hI.new hmono (fun k v w hk h => FG.lt (gs := [fun v _ => v = .agg C1, GA r m o g.cs seed, fun v _ => v = .agg C2, GA r m o g.cs s2]) k v w hk h) _ (FG.new rfl hI.bel.size))
    · omega
  intro li vs w6 hall hI
  have e17 : GA r m o g.cs seed (vs 1) w6 := hI.facts 1 (hall 1 (by decide))
  have e19 : GA r m o g.cs s2 (vs 3) w6 := hI.facts 3 (hall 3 (by decide))
  obtain ⟨b6, hb6, e6, hz6⟩ : ∃ b, W5.heap.size ≤ b ∧ vs 4 = .pointer (some ⟨b, 0, none⟩) ∧ w6.heap[b]? = some (.cells zeroAns 43 (0, 0)) := hI.facts 4 (hall 4 (by decide))
  obtain ⟨b7, hb7, e7, hz7⟩ : ∃ b, W5.heap.size ≤ b ∧ vs 5 = .pointer (some ⟨b, 0, none⟩) ∧ w6.heap[b]? = some (.cells zeroAns 43 (0, 0)) := hI.facts 5 (hall 5 (by decide))
  have hne : b6 ≠ b7 := fun e => hI.apart 4 5 rfl rfl (by decide) (hall 4 (by decide)) (hall 5 (by decide)) (by rw [e6, e7, e])
  have hb5 := hI.bel
  clear hall hI
  obtain ⟨a1, A1, c1, B1, d1, hP1, e1, hf1, hp1⟩ := e17
  obtain ⟨a2, A2, c2, B2, d2, hP2, e3, hf2, hp2⟩ := e19
  simp only [puts, Act.put, List.setIfInBounds_toArray, List.set_cons_zero, List.set_cons_succ, List.drop_succ_cons, List.drop_zero]
  rw [e1, e3, e6, e7]
  generalize vs 0 = x0
  generalize vs 2 = x2
  clear e1 e3 e6 e7
  --M5
  have HLN := Lib.hid (hP1.len HF.out.few)
  have HLN2 := Lib.hid (hP2.len HF.out.few)
  have HSEED := Lib.hid (AnsP.seeds (fun x hx => (resL_in HF.out.ok.hv.1 HF.out.all_ hx).2.1) HSD.out HS2.out hP1 hP2)
  have HF1 := Lib.hid hf1
  have HF2 := Lib.hid hf2
  have HP1 := Lib.hid hp1
  have HP2 := Lib.hid hp2
  have hx5 := blk_lt HX5.out
  have HB6 := Lib.hid (bel_chain hb5 HB5.out)
  have HX6 := Lib.hid (blk_keep hb5 HX5.out)
  clear hP1 hP2 hf1 hf2 hp1 hp2 hb5
  refine wpList_store_blk rfl 43 (.tmp 6) (.tmp 17) rfl rfl rfl hz6 rfl ansSize (by simp [Value.oneCell']) ?_
  intro w7 hst7
  simp only [Act.put]
  refine wpList_store_blk rfl 43 (.tmp 7) (.tmp 19) rfl rfl rfl ((hst7.ne _ (Ne.symm hne)).trans hz7) rfl ansSize (by simp [Value.oneCell']) ?_
  intro w8 hst8
  simp only [Act.put]
  have HA8 : Hid (w8.heap[b6]? = some (.cells #[.int .i64 a1.st, .slice A1 a1.fs.length c1, .slice B1 a1.ps.length d1, .int .i64 a1.sz] 43 (0, 0))) := (hst8.ne _ hne).trans hst7.blk
  have HC8 : Hid (w8.heap[b7]? = some (.cells #[.int .i64 a2.st, .slice A2 a2.fs.length c2, .slice B2 a2.ps.length d2, .int .i64 a2.sz] 43 (0, 0))) := hst8.blk
  have HX8 : Hid (w8.heap[w.heap.size]? = some (.cells C1 36 (0, 0))) := (hst8.ne _ (by omega)).trans ((hst7.ne _ (by omega)).trans HX6.out)
  have hs5 := HB5.out.size
  have HB8 : Hid (Below w.heap.size w w8) := hst8.bel w (hst7.bel w HB6.out (by omega)) (by omega)
  have HF18 : Hid (SpG encFd 2 w8 A1 c1 a1.fs) := (HF1.out.stored hst7 hz6 (by decide)).stored2 hst8 ((hst7.ne _ (Ne.symm hne)).trans hz7) (by decide)
  have HF28 : Hid (SpG encFd 2 w8 A2 c2 a2.fs) := (HF2.out.stored hst7 hz6 (by decide)).stored2 hst8 ((hst7.ne _ (Ne.symm hne)).trans hz7) (by decide)
  have HP18 : Hid (SpG encPt 3 w8 B1 d1 a1.ps) := (HP1.out.stored hst7 hz6 (by decide)).stored2 hst8 ((hst7.ne _ (Ne.symm hne)).trans hz7) (by decide)
  have HP28 : Hid (SpG encPt 3 w8 B2 d2 a2.ps) := (HP2.out.stored hst7 hz6 (by decide)).stored2 hst8 ((hst7.ne _ (Ne.symm hne)).trans hz7) (by decide)
  clear hst7 hst8 hz6 hz7 hb6 hb7 hne hx5 hs5 HF1 HF2 HP1 HP2 HB6 HX6 HX5 HY5 HB5 HT1 HT2
  obtain ⟨st, F1, P1, sz⟩ := a1
  obtain ⟨st2, F2, P2, sz2⟩ := a2
  dsimp only at HA8 HC8 HF18 HF28 HP18 HP28 HLN HLN2 HSEED
  obtain ⟨e1, e2, e3, e4, e5⟩ := HSEED.out
  subst e1 e2
  have H5 := Lib.hid e5
  have H3 := Lib.hid e3
  clear e5 e3 HSEED
  have hl1 := HLN.out
  have hl2 := HLN2.out
  --M6
  rw [← e4] at HC8
  obtain ⟨SL, hSL⟩ : ∃ SL, spansL P1 = SL := ⟨_, rfl⟩
  have hsl : SL.length ≤ 1000000 := by rw [← hSL]; have := spansL_len P1; omega
  have HSP1 : ∀ W, SpG encPt 3 W B1 d1 P1 → Hid (Calls Tryz.prog 15 #[.agg #[.int .i64 st, .slice A1 F1.length c1, .slice B1 P1.length d1, .int .i64 sz]] W fun e w' => ∃ A c, e = .returned (.slice A SL.length c) ∧ Sp w' A c SL ∧ Below W.heap.size W w') := fun W h => by
    refine Lib.hid ((spans_any st sz A1 F1.length c1 B1 d1 P1.length P1 W rfl h hl1.2).mono ?_)
    rintro e w' ⟨A, c, rfl, ho, hb⟩
    rw [hSL] at ho ⊢
    exact ⟨A, c, rfl, ho.sp, hb⟩
  have HSP2 : ∀ W, SpG encPt 3 W B2 d2 P2 → Hid (Calls Tryz.prog 15 #[.agg #[.int .i64 st, .slice A2 F2.length c2, .slice B2 P1.length d2, .int .i64 sz]] W fun e w' => ∃ A c, e = .returned (.slice A SL.length c) ∧ Sp w' A c SL ∧ Below W.heap.size W w') := fun W h => by
    refine Lib.hid ((spans_any st sz A2 F2.length c2 B2 d2 P1.length P2 W e4 h hl2.2).mono ?_)
    rintro e w' ⟨A, c, rfl, ho, hb⟩
    rw [← H3.out, hSL] at ho ⊢
    exact ⟨A, c, rfl, ho.sp, hb⟩
  have HLI : ∀ A c A' c' W, Sp W A c SL → Sp W A' c' SL → Hid (Calls Tryz.prog 14 #[.slice A SL.length c, .slice A' SL.length c'] W fun e w' => e = .returned (.bool true) ∧ Below W.heap.size W w') := fun A c A' c' W h h' => Lib.hid (rlist_same A c SL A' c' W h h' hsl)
  have HSA : ∀ W, SpG encFd 2 W A1 c1 F1 → SpG encFd 2 W A2 c2 F2 → SpG encPt 3 W B1 d1 P1 → SpG encPt 3 W B2 d2 P2 → Hid (Calls Tryz.prog 11 #[.agg #[.int .i64 st, .slice A1 F1.length c1, .slice B1 P1.length d1, .int .i64 sz], .agg #[.int .i64 st, .slice A2 F2.length c2, .slice B2 P1.length d2, .int .i64 sz]] W fun e w' => e = .returned (.bool (decide (P1.length < 2 ∨ seed = s2))) ∧ Below W.heap.size W w') := fun W a b c d => by
    refine Lib.hid ((same15_any st sz st sz A1 F1.length c1 B1 P1.length d1 A2 F2.length c2 B2 P1.length d2 F1 F2 P1 P2 W rfl rfl rfl e4 a b c d hl1.1 hl2.1 hl1.2).mono ?_)
    rintro e w' ⟨⟨v, rfl, hv⟩, hb⟩
    refine ⟨?_, hb⟩
    have h := hv.trans H5.out
    cases v with
    | true => rw [decide_eq_true (h.1 rfl)]
    | false => rw [decide_eq_false (fun x => by have := h.2 x; cases this)]
  have HPX1 : ∀ W, Below w8.heap.size w8 W → SpG encPt 3 W B1 d1 P1 := fun W hb => HP18.out.below hb
  have HPX1 := Lib.hid HPX1
  have HPX2 : Hid (∀ W, Below w8.heap.size w8 W → SpG encPt 3 W B2 d2 P2) := fun W hb => HP28.out.below hb
  have HFX1 : Hid (∀ W, Below w8.heap.size w8 W → SpG encFd 2 W A1 c1 F1) := fun W hb => HF18.out.below hb
  have HFX2 : Hid (∀ W, Below w8.heap.size w8 W → SpG encFd 2 W A2 c2 F2) := fun W hb => HF28.out.below hb
  clear hSL hsl e4 hl1 hl2 H3 H5 HP18 HP28 HF18 HF28 HLN HLN2
  go_upto_region 8 with fail
  have v0 := blk_cell (i := 0) HA8.out rfl
  have v1 := blk_cell (i := 1) HA8.out rfl
  have v2 := blk_cell (i := 2) HA8.out rfl
  have v3 := blk_cell (i := 3) HA8.out rfl
  have v4 := blk_cell (i := 0) HC8.out rfl
  have v5 := blk_cell (i := 1) HC8.out rfl
  have v6 := blk_cell (i := 2) HC8.out rfl
  have v7 := blk_cell (i := 3) HC8.out rfl
  have vz1 := blk_lt HA8.out
  have vz2 := blk_lt HC8.out
  --M7
  go_region_held3 (fun w' => w'.cell? ⟨b6, 0, none⟩ = some (.int .i64 st) ∧ w'.cell? ⟨b6, 1, none⟩ = some (.slice A1 F1.length c1) ∧ w'.cell? ⟨b6, 2, none⟩ = some (.slice B1 P1.length d1) ∧ w'.cell? ⟨b6, 3, none⟩ = some (.int .i64 sz) ∧ w'.cell? ⟨b7, 0, none⟩ = some (.int .i64 st) ∧ w'.cell? ⟨b7, 1, none⟩ = some (.slice A2 F2.length c2) ∧ w'.cell? ⟨b7, 2, none⟩ = some (.slice B2 P1.length d2) ∧ w'.cell? ⟨b7, 3, none⟩ = some (.int .i64 sz))
    (first | exact ⟨q0, q1, q2, q3, q4, q5, q6, q7⟩ | exact ⟨u0, u1, u2, u3, u4, u5, u6, u7⟩ | exact ⟨z0, z1, z2, z3, z4, z5, z6, z7⟩ | exact ⟨v0, v1, v2, v3, v4, v5, v6, v7⟩ | fail)
    (first
      | (go_at_call 14; refine (HLI A9 c9 A10 c10 _ (HS9.out.below hb10) HS10.out).out.mono ?_; rintro e w11 ⟨rfl, hb11⟩; have q0 := cell_keep hb11 u0; have q1 := cell_keep hb11 u1; have q2 := cell_keep hb11 u2; have q3 := cell_keep hb11 u3; have q4 := cell_keep hb11 u4; have q5 := cell_keep hb11 u5; have q6 := cell_keep hb11 u6; have q7 := cell_keep hb11 u7)
      | (go_at_call 15; refine (HSP2 _ (HPX2.out _ HW9.out)).out.mono ?_; rintro e w10 ⟨A10, c10, rfl, hs10, hb10⟩; have HS10 := Lib.hid hs10; have u0 := cell_keep hb10 z0; have u1 := cell_keep hb10 z1; have u2 := cell_keep hb10 z2; have u3 := cell_keep hb10 z3; have u4 := cell_keep hb10 z4; have u5 := cell_keep hb10 z5; have u6 := cell_keep hb10 z6; have u7 := cell_keep hb10 z7)
      | (go_at_call 15; refine (HSP1 _ (HPX1.out _ (by first | exact bel_drew (Below.refl _ _) | exact bel_drewN (Below.refl _ _) _))).out.mono ?_; rintro e w9 ⟨A9, c9, rfl, hs9, hb9⟩; have HW9 : Hid (Below w8.heap.size w8 w9) := bel_chain hb9 (by first | exact bel_drew (Below.refl _ _) | exact bel_drewN (Below.refl _ _) _); have HS9 := Lib.hid hs9; have z0 := cell_keep hb9 v0; have z1 := cell_keep hb9 v1; have z2 := cell_keep hb9 v2; have z3 := cell_keep hb9 v3; have z4 := cell_keep hb9 v4; have z5 := cell_keep hb9 v5; have z6 := cell_keep hb9 v6; have z7 := cell_keep hb9 v7))
  have HW11 : Hid (Below w8.heap.size w8 w11) := bel_chain hb11 (bel_chain hb10 HW9.out)
  have HA11 := Lib.hid (blk_keep HW11.out HA8.out)
  have HC11 := Lib.hid (blk_keep HW11.out HC8.out)
  have HX11 := Lib.hid (blk_keep HW11.out HX8.out)
  clear hb9 hb10 hb11 HW9 HS9 HS10 hs9 hs10 HSP1 HSP2 HLI HA8 HC8 HX8 v0 v1 v2 v3 v4 v5 v6 v7 z0 z1 z2 z3 z4 z5 z6 z7 u0 u1 u2 u3 u4 u5 u6 u7 q0 q1 q2 q3 q4 q5 q6 q7 vz1 vz2
  go_upto_region 10 with fail
  have v0 := blk_cell (i := 0) HA11.out rfl
  have v1 := blk_cell (i := 1) HA11.out rfl
  have v2 := blk_cell (i := 2) HA11.out rfl
  have v3 := blk_cell (i := 3) HA11.out rfl
  have v4 := blk_cell (i := 0) HC11.out rfl
  have v5 := blk_cell (i := 1) HC11.out rfl
  have v6 := blk_cell (i := 2) HC11.out rfl
  have v7 := blk_cell (i := 3) HC11.out rfl
  have v8 := blk_cell (i := 33) HX11.out H1D.out
  by_cases hn2 : P1.length < 2
  · have hd : decide (P1.length < 2 ∨ seed = s2) = true := decide_eq_true (.inl hn2)
    rw [hd] at HSA
    have hlt : (P1.length : Int) < 2 := by omega
    clear hd hn2
    have k0 := cell_regrown v0
    have k1 := cell_regrown v1
    have k2 := cell_regrown v2
    have k3 := cell_regrown v3
    have k4 := cell_regrown v4
    have k5 := cell_regrown v5
    have k6 := cell_regrown v6
    have k7 := cell_regrown v7
    have k8 := cell_regrown v8
    have cS : ∀ d os, Calls Tryz.prog 11 #[.agg #[.int .i64 st, .slice A1 F1.length c1, .slice B1 P1.length d1, .int .i64 sz], .agg #[.int .i64 st, .slice A2 F2.length c2, .slice B2 P1.length d2, .int .i64 sz]] (grow (redrawn w11 d) os) fun e w'' => e = .returned (.bool true) ∧ ∃ p : Regrown, w'' = grow (redrawn w11 p.d) p.os := fun d os => by
      have hb := bel_chain (below_regrown w11 d os) HW11.out
      exact Calls.regrown_of (HSA _ (HFX1.out _ hb) (HFX2.out _ hb) (HPX1.out _ hb) (HPX2.out _ hb)).out
    refine wp_region_quiet_below (by kernel_rfl) (by kernel_rfl) ?_
    repeat (quiet_step (first | exact cS _ _))
    refine wpQuiet_nil ?_
    intro _ hw'
    obtain ⟨⟨dq, osq⟩, hw''⟩ := hw'
    subst hw''
    go_wp2_with fail
    go_ret
    exact ⟨rfl, bel_chain (below_regrown w11 dq osq) (bel_chain HW11.out HB8.out)⟩
  have hlt : decide ((P1.length : Int) < 2) = false := decide_eq_false (by omega)
  by_cases hss : seed = s2
  · have hd : decide (P1.length < 2 ∨ seed = s2) = true := decide_eq_true (.inr hss)
    rw [hd] at HSA
    have hse : (seed == s2) = true := beq_iff_eq.2 hss
    clear hd hn2 hss
    go_region_held3 (fun w' => w'.cell? ⟨b6, 0, none⟩ = some (.int .i64 st) ∧ w'.cell? ⟨b6, 1, none⟩ = some (.slice A1 F1.length c1) ∧ w'.cell? ⟨b6, 2, none⟩ = some (.slice B1 P1.length d1) ∧ w'.cell? ⟨b6, 3, none⟩ = some (.int .i64 sz) ∧ w'.cell? ⟨b7, 0, none⟩ = some (.int .i64 st) ∧ w'.cell? ⟨b7, 1, none⟩ = some (.slice A2 F2.length c2) ∧ w'.cell? ⟨b7, 2, none⟩ = some (.slice B2 P1.length d2) ∧ w'.cell? ⟨b7, 3, none⟩ = some (.int .i64 sz) ∧ w'.cell? ⟨w.heap.size, 33, none⟩ = some (.int .i64 seed))
      (first | exact ⟨z0, z1, z2, z3, z4, z5, z6, z7, z8⟩ | exact ⟨v0, v1, v2, v3, v4, v5, v6, v7, v8⟩ | fail)
      (first
        | (go_at_call 11; refine (HSA _ (HFX1.out _ (by first | exact bel_drew HW11.out | exact bel_drewN HW11.out _)) (HFX2.out _ (by first | exact bel_drew HW11.out | exact bel_drewN HW11.out _)) (HPX1.out _ (by first | exact bel_drew HW11.out | exact bel_drewN HW11.out _)) (HPX2.out _ (by first | exact bel_drew HW11.out | exact bel_drewN HW11.out _))).out.mono ?_; rintro e w12 ⟨rfl, hb12⟩; have z0 := cell_keep hb12 v0; have z1 := cell_keep hb12 v1; have z2 := cell_keep hb12 v2; have z3 := cell_keep hb12 v3; have z4 := cell_keep hb12 v4; have z5 := cell_keep hb12 v5; have z6 := cell_keep hb12 v6; have z7 := cell_keep hb12 v7; have z8 := cell_keep hb12 v8))
    go_wp2_with fail
    go_ret
    exact ⟨rfl, bel_chain hb12 (by first | exact bel_drew (bel_chain HW11.out HB8.out) | exact bel_drewN (bel_chain HW11.out HB8.out) _)⟩
  have hd : decide (P1.length < 2 ∨ seed = s2) = false := decide_eq_false (by omega)
  rw [hd] at HSA
  have hse : (seed == s2) = false := by rw [beq_eq_false_iff_ne]; exact hss
  clear hd hn2 hss
  go_region_held3 (fun w' => w'.cell? ⟨b6, 0, none⟩ = some (.int .i64 st) ∧ w'.cell? ⟨b6, 1, none⟩ = some (.slice A1 F1.length c1) ∧ w'.cell? ⟨b6, 2, none⟩ = some (.slice B1 P1.length d1) ∧ w'.cell? ⟨b6, 3, none⟩ = some (.int .i64 sz) ∧ w'.cell? ⟨b7, 0, none⟩ = some (.int .i64 st) ∧ w'.cell? ⟨b7, 1, none⟩ = some (.slice A2 F2.length c2) ∧ w'.cell? ⟨b7, 2, none⟩ = some (.slice B2 P1.length d2) ∧ w'.cell? ⟨b7, 3, none⟩ = some (.int .i64 sz) ∧ w'.cell? ⟨w.heap.size, 33, none⟩ = some (.int .i64 seed))
    (first | exact ⟨z0, z1, z2, z3, z4, z5, z6, z7, z8⟩ | exact ⟨v0, v1, v2, v3, v4, v5, v6, v7, v8⟩ | fail)
    (first
      | (go_at_call 11; refine (HSA _ (HFX1.out _ (by first | exact bel_drew HW11.out | exact bel_drewN HW11.out _)) (HFX2.out _ (by first | exact bel_drew HW11.out | exact bel_drewN HW11.out _)) (HPX1.out _ (by first | exact bel_drew HW11.out | exact bel_drewN HW11.out _)) (HPX2.out _ (by first | exact bel_drew HW11.out | exact bel_drewN HW11.out _))).out.mono ?_; rintro e w12 ⟨rfl, hb12⟩; have z0 := cell_keep hb12 v0; have z1 := cell_keep hb12 v1; have z2 := cell_keep hb12 v2; have z3 := cell_keep hb12 v3; have z4 := cell_keep hb12 v4; have z5 := cell_keep hb12 v5; have z6 := cell_keep hb12 v6; have z7 := cell_keep hb12 v7; have z8 := cell_keep hb12 v8))
  go_wp2_with fail
  go_ret
  exact ⟨rfl, bel_chain hb12 (by first | exact bel_drew (bel_chain HW11.out HB8.out) | exact bel_drewN (bel_chain HW11.out HB8.out) _)⟩
end Go.Proofs.YtaaefgieklkekaaGreatDoor
namespace Go.Proofs.YtaaefgieklkekaaGreatDoor
open Go.RowKit Go.Sort

theorem FineP.more {r r' : ReqL} {m : MetaL} {o : Int} (h : FineP r m o) (hL : r'.L = r.L) : FineP r' m o := ⟨by rw [hL]; exact h.few, by rw [hL]; exact h.all_, h.ok, h.out⟩
theorem FineP.none {r r' : ReqL} {m : MetaL} {o : Int} (h : FineP r m o) (hL : r'.L = []) : FineP r' m o := ⟨by rw [hL]; decide, by rw [hL]; rfl, h.ok, h.out⟩
theorem wf_few {n : Nat} (h : n ≤ 70) : (Lit.int .i64 ((n : Int) - 1)).wf = true := by
  have h1 : IntKind.i64.min ≤ (n : Int) - 1 ∧ (n : Int) - 1 ≤ IntKind.i64.max := ⟨by show (-9223372036854775808 : Int) ≤ _; omega, by show _ ≤ (9223372036854775807 : Int); omega⟩
  simpa [Lit.wf] using h1
section
variable {gs : List (Value → World → Prop)} {base : Nat} {T : TypeId} {Z : Array Value} {j : Nat} {g : Value → World → Prop} {v : Value} {w : World}
theorem FG.have (hj : gs[j]? = some g) (h : g v w) : FG gs base T Z j v w := by unfold FG; rw [hj]; exact h
theorem FG.get (hj : gs[j]? = some g) (h : FG gs base T Z j v w) : g v w := by unfold FG at h; rw [hj] at h; exact h
theorem FG.blk (hj : gs[j]? = none) (h : FG gs base T Z j v w) : ∃ b, base ≤ b ∧ v = .pointer (some ⟨b, 0, none⟩) ∧ w.heap[b]? = some (.cells Z T (0, 0)) := by unfold FG at h; rw [hj] at h; exact h
end
/-- The head alone; no ranges. -/
def headR (r : ReqL) : ReqL := { r with hd := true }
def noR (r : ReqL) : ReqL := { r with A := none, c := 0, L := [] }
def fewG (g : CfgL) (n : Int) : CfgL := { g with cs := n }
set_option maxHeartbeats 32000000 in
set_option maxRecDepth 100000 in
theorem shapeBare_any (r : ReqL) (m : MetaL) (KA : Option Addr) (kc : Nat) (o : Int) (g : CfgL) (seed : Int) (w : World) (hsp : Sp w r.A r.c r.L) (hks : SpG encT 1 w KA kc m.keys) (hcs : (Lit.int .i64 g.cs).wf = true) (hseed : -9223372036854775808 ≤ seed ∧ seed ≤ 9223372036854775807) (henv : Env w) :
    Calls Tryz.prog 4 #[.agg (askC r m KA kc o g seed)] w fun e w' => e = .returned (.bool true) ∧ Below w.heap.size w w' := by
  have HA := fun W e => Lib.hid (alive_any W e)
  have HFI := fun W a b => Lib.hid (fineC_any r m KA kc o g seed W a b)
  have HT1 := fun W a b hf e => Lib.hid (toldC_any r m KA kc o g seed W a b hf hcs hseed e)
  have HTB := fun W a b hf e => Lib.hid (toldC_any (headR r) m KA kc o g seed W a b hf hcs hseed e)
  have HTC := fun W a b hf e => Lib.hid (toldC_any (noR r) m KA kc o g seed W a b hf hcs hseed e)
  have HTD := fun W a b hf e hn => Lib.hid (toldC_any r m KA kc o (fewG g ((r.L.length : Int) - 1)) seed W a b hf (wf_few hn) hseed e)
  have HS := Lib.hid hsp
  have HK := Lib.hid hks
  have HE := Lib.hid henv
  obtain ⟨C1, hC1⟩ : ∃ C, askC r m KA kc o g seed = C := ⟨_, rfl⟩
  obtain ⟨CB, hCB⟩ : ∃ C, askC (headR r) m KA kc o g seed = C := ⟨_, rfl⟩
  obtain ⟨CC, hCC⟩ : ∃ C, askC (noR r) m KA kc o g seed = C := ⟨_, rfl⟩
  obtain ⟨CD, hCD⟩ : ∃ C, askC r m KA kc o (fewG g ((r.L.length : Int) - 1)) seed = C := ⟨_, rfl⟩
  have H1S : Hid (C1.size = 34) := by simp only [Hid]; rw [← hC1]; rfl
  have H1O : Hid (C1.all (·.oneCell') = true) := by simp only [Hid]; rw [← hC1]; exact askC_one r m KA kc o g seed
  have I0 : Hid (C1[0]? = some (.bool r.hd)) := by simp only [Hid]; rw [← hC1]; rfl
  have I2 : Hid (C1[2]? = some (.slice r.A r.L.length r.c)) := by simp only [Hid]; rw [← hC1]; rfl
  have I14 : Hid (C1[14]? = some (.int .i64 m.len)) := by simp only [Hid]; rw [← hC1]; rfl
  have I22 : Hid (C1[22]? = some (.int .i64 o)) := by simp only [Hid]; rw [← hC1]; rfl
  have I26 : Hid (C1[26]? = some (.int .i64 g.cs)) := by simp only [Hid]; rw [← hC1]; rfl
  have E1B : Hid (C1.setIfInBounds 0 (.bool true) = CB) := by simp only [Hid]; rw [← hC1, ← hCB]; rfl
  have E1C : Hid (C1.setIfInBounds 2 (.slice none 0 0) = CC) := by simp only [Hid]; rw [← hC1, ← hCC]; rfl
  have E1D : Hid (C1.setIfInBounds 26 (.int .i64 ((r.L.length : Int) - 1)) = CD) := by simp only [Hid]; rw [← hC1, ← hCD]; rfl
  have HIS : Hid (∀ b : Bool, (if b = true then C1 else zeroAsk).size = 34) := fun b => by cases b; exact rfl; exact H1S.out
  have HBS : Hid (CB.size = 34) := by simp only [Hid]; rw [← E1B.out, Array.size_setIfInBounds]; exact H1S.out
  have HCS : Hid (CC.size = 34) := by simp only [Hid]; rw [← E1C.out, Array.size_setIfInBounds]; exact H1S.out
  have HDS : Hid (CD.size = 34) := by simp only [Hid]; rw [← E1D.out, Array.size_setIfInBounds]; exact H1S.out
  rw [hC1] at HFI HT1 ⊢
  rw [hCB] at HTB
  rw [hCC] at HTC
  rw [hCD] at HTD
  clear hsp hks hcs hseed henv hC1 hCB hCC hCD
  go_enter Tryz.func4, Tryz.ntmps4
  --M0
  go_upto_region 3 with (go_at_call 9; refine (HA _ (HE.out.below (bel_alloc (Below.refl _ _) _))).out.mono ?_; rintro e w1 ⟨rfl, hb1⟩)
  have HX1 : Hid (w1.heap[w.heap.size]? = some (.cells C1 36 (0, 0))) := blk_keep hb1 (blk_new rfl)
  have HB1 := Lib.hid (bel_chain hb1 (bel_alloc (Below.refl _ _) _))
  clear hb1
  refine wp_region_lit ?_
  refine wpList_load_blk rfl 36 (.tmp 1) rfl rfl HX1.out _ Tryz.underlying36 rfl (by rw [H1S.out]; exact askSize) ?_
  simp only [Act.put, List.setIfInBounds_toArray, List.set_cons_zero, List.set_cons_succ]
  go_upto_if 14 with (go_at_call 10; refine (HFI _ (HS.out.below HB1.out) (HK.out.below HB1.out)).out.mono ?_; rintro e w2 ⟨b, rfl, hq, hb2⟩)
  have HX2 := Lib.hid (blk_keep hb2 HX1.out)
  have HB2 := Lib.hid (bel_chain hb2 HB1.out)
  clear hb2 HX1 HB1 HFI
  cases b with
  | false =>
    clear hq
    go_wp2_with fail
    go_ret
    exact ⟨rfl, HB2.out⟩
  | true =>
  have HF := Lib.hid (hq rfl)
  clear hq
  go_upto_region 5 with fail
  --M1
  refine wp_region_lit ?_
  refine wpList_load_blk rfl 36 (.tmp 1) rfl rfl HX2.out _ Tryz.underlying36 rfl (by rw [H1S.out]; exact askSize) ?_
  simp only [Act.put, List.setIfInBounds_toArray, List.set_cons_zero, List.set_cons_succ]
  go_upto_region 6 with (go_at_call 12; refine (HT1 _ (HS.out.below HB2.out) (HK.out.below HB2.out) HF.out (HE.out.below HB2.out)).out.mono ?_; rintro e w3 ⟨v, rfl, ⟨a, A0, c0, B0, d0, hP0, rfl, _, _⟩, hb3⟩)
  --M2
  obtain ⟨W3, hW3⟩ : ∃ W3, w3.alloc (.cells #[.int .i64 a.st, .slice A0 a.fs.length c0, .slice B0 a.ps.length d0, .int .i64 a.sz] 43) = W3 := ⟨_, rfl⟩
  have HX3 : Hid (W3.heap[w.heap.size]? = some (.cells C1 36 (0, 0))) := by simp only [Hid]; rw [← hW3]; exact blk_skip (blk_keep hb3 HX2.out)
  have HY3 : Hid (W3.heap[w3.heap.size]? = some (.cells #[.int .i64 a.st, .slice A0 a.fs.length c0, .slice B0 a.ps.length d0, .int .i64 a.sz] 43 (0, 0))) := by simp only [Hid]; rw [← hW3]; exact blk_new rfl
  have HB3 : Hid (Below w.heap.size w W3) := by simp only [Hid]; rw [← hW3]; exact bel_alloc (bel_chain hb3 HB2.out) _
  rw [hW3]
  clear hW3 hb3 HX2 HB2 HT1
  obtain ⟨q1, q2, q3⟩ := hP0.bare
  have Q3 := Lib.hid q3
  clear hP0 q3
  have v22 := blk_cell HX3.out I22.out
  have y0 := blk_cell (i := 0) HY3.out rfl
  have y2 := blk_cell (i := 2) HY3.out rfl
  have y3 := blk_cell (i := 3) HY3.out rfl
  go_cut [53] (fun s53 wx => s53 = .bool false ∧ wx = W3)
  case first =>
    obtain ⟨st, F0, P0, sz⟩ := a
    simp only at q1 q2 Q3 y0 y2 y3 HY3
    obtain ⟨b3, hb3⟩ : ∃ b, (o == 3) = b := ⟨_, rfl⟩
    obtain ⟨b4, hb4⟩ : ∃ b, (o == 4) = b := ⟨_, rfl⟩
    rw [hb3] at q1
    rw [hb4] at q2
    by_cases h200 : st = 200
    · subst h200
      clear Q3
      obtain rfl : false = b3 := q1
      obtain rfl : false = b4 := q2
      go_wp2_with fail
      go_meet
      exact ⟨rfl, rfl⟩
    by_cases h206 : st = 206
    · subst h206
      clear Q3 h200
      obtain rfl : false = b3 := q1
      obtain rfl : false = b4 := q2
      go_wp2_with fail
      go_meet
      exact ⟨rfl, rfl⟩
    obtain ⟨e1, e2⟩ := Q3.out h200 h206
    subst e1 e2
    have g0 : (st != 200) = true := bne_iff_ne.2 h200
    have g1 : (st != 206) = true := bne_iff_ne.2 h206
    cases b3 <;> cases b4
    all_goals
      go_wp2_with fail
      go_meet
      exact ⟨rfl, rfl⟩
  case rest =>
  obtain ⟨rfl, rfl⟩ := hcut
  clear q1 q2 Q3 y0 y2 y3 v22 HY3
  go_upto_region 8 with fail
  --M3
  refine wp_region_invO (vs0 := fun i => match i with | 0 => u54 | 1 => u55 | 2 => u56 | _ => undef) 8 rfl (by kernel_rfl) [some 54, some 55, some 56, some 4, some 5, some 6, none, none] (by decide) rfl (CopyInv wc 3 C1 zeroAsk 36) rfl (CopyInv.start (bel_drew (Below.refl _ _))) ?_ ?_
  · intro i oo li vs wx ho hi hu hdep hI K hK
    clear HTB HTC HTD HA
    rcases i with _ | _ | _ | _ | _ | _ | _ | _ | i
    · have ho := Option.some.inj ho
      subst ho
      simp only [putsO, Act.put, List.setIfInBounds_toArray, List.set_cons_zero, List.set_cons_succ] at hK ⊢
      refine wp_load_blk 36 (.tmp 1) rfl rfl (blk_keep hI.bel HX3.out) _ Tryz.underlying36 rfl (by rw [H1S.out]; exact askSize) ?_
      exact hK.out _ _ (hI.load (j := 0) (by decide))
    · have ho := Option.some.inj ho
      subst ho
      simp only [putsO, Act.put, List.setIfInBounds_toArray, List.set_cons_zero, List.set_cons_succ] at hK ⊢
      refine wp_load_blk 36 (.tmp 1) rfl rfl (blk_keep hI.bel HX3.out) _ Tryz.underlying36 rfl (by rw [H1S.out]; exact askSize) ?_
      exact hK.out _ _ (hI.load (j := 1) (by decide))
    · have ho := Option.some.inj ho
      subst ho
      simp only [putsO, Act.put, List.setIfInBounds_toArray, List.set_cons_zero, List.set_cons_succ] at hK ⊢
      refine wp_load_blk 36 (.tmp 1) rfl rfl (blk_keep hI.bel HX3.out) _ Tryz.underlying36 rfl (by rw [H1S.out]; exact askSize) ?_
      exact hK.out _ _ (hI.load (j := 2) (by decide))
    · have ho := Option.some.inj ho
      subst ho
      simp only [putsO, Act.put, List.setIfInBounds_toArray, List.set_cons_zero, List.set_cons_succ] at hK ⊢
      refine wp_alloc_ask rfl ?_
      exact hK.out _ _ (hI.alloc (j := 0) (by decide) hu)
    · have ho := Option.some.inj ho
      subst ho
      simp only [putsO, Act.put, List.setIfInBounds_toArray, List.set_cons_zero, List.set_cons_succ] at hK ⊢
      refine wp_alloc_ask rfl ?_
      exact hK.out _ _ (hI.alloc (j := 1) (by decide) hu)
    · have ho := Option.some.inj ho
      subst ho
      simp only [putsO, Act.put, List.setIfInBounds_toArray, List.set_cons_zero, List.set_cons_succ] at hK ⊢
      refine wp_alloc_ask rfl ?_
      exact hK.out _ _ (hI.alloc (j := 2) (by decide) hu)
    · have ho := Option.some.inj ho
      have hal : li.getD 3 false = true := hdep ⟨3, .data⟩ (by rw [← ho]; simp) rfl
      have e0 : vs 0 = .agg C1 := hI.ld 0 (by decide) (hdep ⟨0, .data⟩ (by rw [← ho]; simp) rfl)
      obtain ⟨b, hWb, hv, hbk⟩ := hI.al 0 (by decide) hal
      have hsz : 6 < li.size := by
        rcases Nat.lt_or_ge 6 li.size with h | h
        · exact h
        · simp [h] at hu
      clear hdep
      subst ho
      simp only [putsO, Act.put, List.setIfInBounds_toArray, List.set_cons_zero, List.set_cons_succ] at hK ⊢
      refine wp_store_blk 36 (.tmp 4) (.tmp 54) rfl (by exact hv) (by exact e0) hbk (by rw [H1S.out]; exact HIS.out _) (by rw [H1S.out]; exact askSize) H1O.out ?_
      intro w' hst
      exact hK.out undef _ (hI.store (j := 0) (by decide) hal hsz hv hWb hst undef)
    · have ho := Option.some.inj ho
      have hal : li.getD 4 false = true := hdep ⟨4, .data⟩ (by rw [← ho]; simp) rfl
      have e0 : vs 1 = .agg C1 := hI.ld 1 (by decide) (hdep ⟨1, .data⟩ (by rw [← ho]; simp) rfl)
      obtain ⟨b, hWb, hv, hbk⟩ := hI.al 1 (by decide) hal
      have hsz : 7 < li.size := by
        rcases Nat.lt_or_ge 7 li.size with h | h
        · exact h
        · simp [h] at hu
      clear hdep
      subst ho
      simp only [putsO, Act.put, List.setIfInBounds_toArray, List.set_cons_zero, List.set_cons_succ] at hK ⊢
      refine wp_store_blk 36 (.tmp 5) (.tmp 55) rfl (by exact hv) (by exact e0) hbk (by rw [H1S.out]; exact HIS.out _) (by rw [H1S.out]; exact askSize) H1O.out ?_
      intro w' hst
      exact hK.out undef _ (hI.store (j := 1) (by decide) hal hsz hv hWb hst undef)
    · omega
  intro li vs w6 hall hI
  have e0 : vs 0 = .agg C1 := hI.ld 0 (by decide) (hall 0 (by decide))
  have e1 : vs 1 = .agg C1 := hI.ld 1 (by decide) (hall 1 (by decide))
  have e2 : vs 2 = .agg C1 := hI.ld 2 (by decide) (hall 2 (by decide))
  obtain ⟨b4, hb4, e4, hz4⟩ := hI.al 0 (by decide) (hall 3 (by decide))
  obtain ⟨b5, hb5, e5, hz5⟩ := hI.al 1 (by decide) (hall 4 (by decide))
  obtain ⟨b6, hb6, e6, hz6⟩ := hI.al 2 (by decide) (hall 5 (by decide))
  rw [if_pos (hall 6 (by decide))] at hz4
  rw [if_pos (hall 7 (by decide))] at hz5
  have n45 : b4 ≠ b5 := fun e => hI.apart 0 1 (by decide) (by decide) (by decide) (hall 3 (by decide)) (hall 4 (by decide)) (by rw [e4, e5, e])
  have n46 : b4 ≠ b6 := fun e => hI.apart 0 2 (by decide) (by decide) (by decide) (hall 3 (by decide)) (hall 5 (by decide)) (by rw [e4, e6, e])
  have n56 : b5 ≠ b6 := fun e => hI.apart 1 2 (by decide) (by decide) (by decide) (hall 4 (by decide)) (hall 5 (by decide)) (by rw [e5, e6, e])
  have e4' : vs 3 = .pointer (some ⟨b4, 0, none⟩) := e4
  have e5' : vs 4 = .pointer (some ⟨b5, 0, none⟩) := e5
  have e6' : vs 5 = .pointer (some ⟨b6, 0, none⟩) := e6
  have hbz := hI.bel
  obtain ⟨Z6, hZ6⟩ : ∃ Z, (if li.getD (2 * 3 + 2) false = true then C1 else zeroAsk) = Z := ⟨_, rfl⟩
  have hZs : Z6.size = 34 := by rw [← hZ6]; exact HIS.out _
  rw [hZ6] at hz6
  clear hall hI e4 e5 e6 hZ6
  simp only [putsO, Act.put, List.setIfInBounds_toArray, List.set_cons_zero, List.set_cons_succ, List.drop_succ_cons, List.drop_zero]
  rw [e0, e1, e2, e4', e5', e6']
  clear e0 e1 e2 e4' e5' e6'
  generalize vs 6 = x6
  generalize vs 7 = x7
  --M4
  have hx6 := blk_keep hbz HX3.out
  have HB6 := Lib.hid (bel_chain hbz HB3.out)
  have hxl := blk_lt HX3.out
  refine wpList_store_blk rfl 36 (.tmp 6) (.tmp 56) rfl rfl rfl hz6 (by rw [hZs, H1S.out]) (by rw [H1S.out]; exact askSize) H1O.out ?_
  intro w9 hst9
  simp only [Act.put]
  have hs3 := HB3.out.size
  have HB9 : Hid (Below w.heap.size w w9) := hst9.bel w HB6.out (by omega)
  have HX9 : Hid (w9.heap[w.heap.size]? = some (.cells C1 36 (0, 0))) := (hst9.ne _ (by omega)).trans hx6
  have K4 : Hid (w9.heap[b4]? = some (.cells C1 36 (0, 0))) := (hst9.ne _ n46).trans hz4
  have K5 : Hid (w9.heap[b5]? = some (.cells C1 36 (0, 0))) := (hst9.ne _ n56).trans hz5
  have K6 : Hid (w9.heap[b6]? = some (.cells C1 36 (0, 0))) := hst9.blk
  have L4 : Hid (w.heap.size < b4) := by simp only [Hid]; omega
  have L5 : Hid (w.heap.size < b5) := by simp only [Hid]; omega
  have L6 : Hid (w.heap.size < b6) := by simp only [Hid]; omega
  have N45 := Lib.hid n45
  have N46 := Lib.hid n46
  have N56 := Lib.hid n56
  clear hst9 hz4 hz5 hz6 hb4 hb5 hb6 hx6 hbz hxl hs3 hZs HB6 HB3 HX3 n45 n46 n56
  have y := blk_cell K4.out I0.out
  have yf : w9.frozen? ⟨b4, 0, none⟩ = false := blk_frozen K4.out
  have yz := blk_lt K4.out
  go_upto_region 10 with fail
  obtain ⟨Wa, hW⟩ : ∃ W, w9.setCell ⟨b4, 0, none⟩ (.bool true) = W := ⟨_, rfl⟩
  have HX9b : Hid (Wa.heap[w.heap.size]? = some (.cells C1 36 (0, 0))) := by simp only [Hid]; rw [← hW]; exact blk_set_ne (Nat.ne_of_lt L4.out) HX9.out
  have K5b : Hid (Wa.heap[b5]? = some (.cells C1 36 (0, 0))) := by simp only [Hid]; rw [← hW]; exact blk_set_ne (Ne.symm N45.out) K5.out
  have K6b : Hid (Wa.heap[b6]? = some (.cells C1 36 (0, 0))) := by simp only [Hid]; rw [← hW]; exact blk_set_ne (Ne.symm N46.out) K6.out
  have K4b : Hid (Wa.heap[b4]? = some (.cells CB 36 (0, 0))) := by simp only [Hid]; rw [← hW, ← E1B.out]; exact blk_set K4.out
  have HB9b : Hid (Below w.heap.size w Wa) := by simp only [Hid]; rw [← hW]; exact bel_set HB9.out (Nat.le_of_lt L4.out) _
  rw [hW]
  clear hW y yf yz K4 K5 K6 HX9 HB9
  have y := blk_cell K5b.out I2.out
  have yf : Wa.frozen? ⟨b5, 2, none⟩ = false := blk_frozen K5b.out
  have yz := blk_lt K5b.out
  go_upto_region 11 with fail
  obtain ⟨Wb, hW⟩ : ∃ W, Wa.setCell ⟨b5, 2, none⟩ (.slice none 0 0) = W := ⟨_, rfl⟩
  have HX9c : Hid (Wb.heap[w.heap.size]? = some (.cells C1 36 (0, 0))) := by simp only [Hid]; rw [← hW]; exact blk_set_ne (Nat.ne_of_lt L5.out) HX9b.out
  have K4c : Hid (Wb.heap[b4]? = some (.cells CB 36 (0, 0))) := by simp only [Hid]; rw [← hW]; exact blk_set_ne (N45.out) K4b.out
  have K6c : Hid (Wb.heap[b6]? = some (.cells C1 36 (0, 0))) := by simp only [Hid]; rw [← hW]; exact blk_set_ne (Ne.symm N56.out) K6b.out
  have K5c : Hid (Wb.heap[b5]? = some (.cells CC 36 (0, 0))) := by simp only [Hid]; rw [← hW, ← E1C.out]; exact blk_set K5b.out
  have HB9c : Hid (Below w.heap.size w Wb) := by simp only [Hid]; rw [← hW]; exact bel_set HB9b.out (Nat.le_of_lt L5.out) _
  rw [hW]
  clear hW y yf yz K4b K5b K6b HX9b HB9b
  have y := blk_cell K6c.out I26.out
  have yf : Wb.frozen? ⟨b6, 26, none⟩ = false := blk_frozen K6c.out
  have yz := blk_lt K6c.out
  have x2 := blk_cell HX9c.out I2.out
  have hwr : IntKind.i64.wrap ((r.L.length : Int) - 1) = (r.L.length : Int) - 1 := IntWalk.i64_in _ (by have := HF.out.few; omega)
  go_upto_region 12 with fail
  obtain ⟨Wd, hW⟩ : ∃ W, Wb.setCell ⟨b6, 26, none⟩ (.int .i64 ((r.L.length : Int) - 1)) = W := ⟨_, rfl⟩
  have HX5 : Hid (Wd.heap[w.heap.size]? = some (.cells C1 36 (0, 0))) := by simp only [Hid]; rw [← hW]; exact blk_set_ne (Nat.ne_of_lt L6.out) HX9c.out
  have K4d : Hid (Wd.heap[b4]? = some (.cells CB 36 (0, 0))) := by simp only [Hid]; rw [← hW]; exact blk_set_ne (N46.out) K4c.out
  have K5d : Hid (Wd.heap[b5]? = some (.cells CC 36 (0, 0))) := by simp only [Hid]; rw [← hW]; exact blk_set_ne (N56.out) K5c.out
  have K6d : Hid (Wd.heap[b6]? = some (.cells CD 36 (0, 0))) := by simp only [Hid]; rw [← hW, ← E1D.out]; exact blk_set K6c.out
  have HB5 : Hid (Below w.heap.size w Wd) := by simp only [Hid]; rw [← hW]; exact bel_set HB9c.out (Nat.le_of_lt L6.out) _
  rw [hW]
  clear hW y yf yz x2 hwr K4c K5c K6c HX9c HB9c L4 L5 L6 N45 N46 N56 E1B E1C E1D
  --M5
  obtain ⟨GS, hGS⟩ : ∃ G, G = [fun v _ => v = .agg CB, GA (headR r) m o g.cs seed, fun v _ => v = .agg CC, GA (noR r) m o g.cs seed, fun v _ => v = .agg CD, GA r m o ((r.L.length : Int) - 1) seed] := ⟨_, rfl⟩
  have G0 : Hid (GS[0]? = some (fun v _ => v = .agg CB)) := by simp only [Hid]; rw [hGS]; rfl
  have G1 : Hid (GS[1]? = some (GA (headR r) m o g.cs seed)) := by simp only [Hid]; rw [hGS]; rfl
  have G2 : Hid (GS[2]? = some (fun v _ => v = .agg CC)) := by simp only [Hid]; rw [hGS]; rfl
  have G3 : Hid (GS[3]? = some (GA (noR r) m o g.cs seed)) := by simp only [Hid]; rw [hGS]; rfl
  have G4 : Hid (GS[4]? = some (fun v _ => v = .agg CD)) := by simp only [Hid]; rw [hGS]; rfl
  have G5 : Hid (GS[5]? = some (GA r m o ((r.L.length : Int) - 1) seed)) := by simp only [Hid]; rw [hGS]; rfl
  have GL : Hid (GS.length = 6) := by simp only [Hid]; rw [hGS]; rfl
  have HM : Hid (∀ j v w w', FG GS Wd.heap.size 43 zeroAns j v w → Below w.heap.size w w' → FG GS Wd.heap.size 43 zeroAns j v w') := FG.mono (by
    rw [hGS]
    intro g hg
    simp only [List.mem_cons, List.not_mem_nil, or_false] at hg
    rcases hg with rfl | rfl | rfl | rfl | rfl | rfl
    · exact fun _ _ _ h _ => h
    · exact GA.mono
    · exact fun _ _ _ h _ => h
    · exact GA.mono
    · exact fun _ _ _ h _ => h
    · exact GA.mono)
  clear hGS
  refine wp_region_inv (vs0 := fun i => match i with | 0 => u68 | 1 => u69 | 2 => u70 | 3 => u71 | 4 => u72 | 5 => u73 | _ => undef) 9 rfl (by kernel_rfl) [68, 69, 70, 71, 72, 73, 7, 8, 9] (by decide) rfl (RInv Wd (FG GS Wd.heap.size 43 zeroAns) (fun j => decide (6 ≤ j))) (by simp only [puts, Act.put, List.setIfInBounds_toArray, List.set_cons_zero, List.set_cons_succ]) (RInv.start 9 (bel_drew (Below.refl _ _))) ?_ ?_
  · intro i oo li vs wx ho hi hdep hI K hK
    rcases i with _ | _ | _ | _ | _ | _ | _ | _ | _ | i
    · have ho := Option.some.inj ho
      subst ho
      simp only [puts, Act.put, List.setIfInBounds_toArray, List.set_cons_zero, List.set_cons_succ] at hK ⊢
      refine wp_load_blk 36 (.tmp 4) rfl rfl (blk_keep hI.bel K4d.out) _ Tryz.underlying36 rfl (by rw [HBS.out]; exact askSize) ?_
      exact hK.out _ _ (hI.step HM.out (Below.refl _ _) rfl (FG.have G0.out rfl))
    · have ho := Option.some.inj ho
      have e0 : vs 0 = .agg CB := FG.get G0.out (hI.facts 0 (hdep ⟨0, .data⟩ (by rw [← ho]; simp) rfl))
      have hbb := bel_chain hI.bel HB5.out
      have HC : Hid (Calls Tryz.prog 12 #[vs 0] wx fun e w' => ∃ v, e = .returned v ∧ GA (headR r) m o g.cs seed v w' ∧ Below wx.heap.size wx w') := by
        simp only [Hid]; rw [e0]; exact (HTB _ (HS.out.below hbb) (HK.out.below hbb) (HF.out.more rfl) (HE.out.below hbb)).out
      have HI := Lib.hid hI
      clear e0 hbb hI hdep HTB HTC HTD
      subst ho
      simp only [puts, Act.put, List.setIfInBounds_toArray, List.set_cons_zero, List.set_cons_succ] at hK ⊢
      go_simp
      refine HC.out.mono ?_
      rintro e wy ⟨v, rfl, hg, hb⟩
      exact hK.out _ _ (HI.out.step HM.out hb rfl (FG.have G1.out hg))
    · have ho := Option.some.inj ho
      subst ho
      simp only [puts, Act.put, List.setIfInBounds_toArray, List.set_cons_zero, List.set_cons_succ] at hK ⊢
      refine wp_load_blk 36 (.tmp 5) rfl rfl (blk_keep hI.bel K5d.out) _ Tryz.underlying36 rfl (by rw [HCS.out]; exact askSize) ?_
      exact hK.out _ _ (hI.step HM.out (Below.refl _ _) rfl (FG.have G2.out rfl))
    · have ho := Option.some.inj ho
      have e0 : vs 2 = .agg CC := FG.get G2.out (hI.facts 2 (hdep ⟨2, .data⟩ (by rw [← ho]; simp) rfl))
      have hbb := bel_chain hI.bel HB5.out
      have HC : Hid (Calls Tryz.prog 12 #[vs 2] wx fun e w' => ∃ v, e = .returned v ∧ GA (noR r) m o g.cs seed v w' ∧ Below wx.heap.size wx w') := by
        simp only [Hid]; rw [e0]; exact (HTC _ (Sp.nil _) (HK.out.below hbb) (HF.out.none rfl) (HE.out.below hbb)).out
      have HI := Lib.hid hI
      clear e0 hbb hI hdep HTB HTC HTD
      subst ho
      simp only [puts, Act.put, List.setIfInBounds_toArray, List.set_cons_zero, List.set_cons_succ] at hK ⊢
      go_simp
      refine HC.out.mono ?_
      rintro e wy ⟨v, rfl, hg, hb⟩
      exact hK.out _ _ (HI.out.step HM.out hb rfl (FG.have G3.out hg))
    · have ho := Option.some.inj ho
      subst ho
      simp only [puts, Act.put, List.setIfInBounds_toArray, List.set_cons_zero, List.set_cons_succ] at hK ⊢
      refine wp_load_blk 36 (.tmp 6) rfl rfl (blk_keep hI.bel K6d.out) _ Tryz.underlying36 rfl (by rw [HDS.out]; exact askSize) ?_
      exact hK.out _ _ (hI.step HM.out (Below.refl _ _) rfl (FG.have G4.out rfl))
    · have ho := Option.some.inj ho
      have e0 : vs 4 = .agg CD := FG.get G4.out (hI.facts 4 (hdep ⟨4, .data⟩ (by rw [← ho]; simp) rfl))
      have hbb := bel_chain hI.bel HB5.out
      have HC : Hid (Calls Tryz.prog 12 #[vs 4] wx fun e w' => ∃ v, e = .returned v ∧ GA r m o ((r.L.length : Int) - 1) seed v w' ∧ Below wx.heap.size wx w') := by
        simp only [Hid]; rw [e0]; exact (HTD _ (HS.out.below hbb) (HK.out.below hbb) HF.out (HE.out.below hbb) HF.out.few).out
      have HI := Lib.hid hI
      clear e0 hbb hI hdep HTB HTC HTD
      subst ho
      simp only [puts, Act.put, List.setIfInBounds_toArray, List.set_cons_zero, List.set_cons_succ] at hK ⊢
      go_simp
      refine HC.out.mono ?_
      rintro e wy ⟨v, rfl, hg, hb⟩
      exact hK.out _ _ (HI.out.step HM.out hb rfl (FG.have G5.out hg))
    · have ho := Option.some.inj ho
      subst ho
      simp only [puts, Act.put, List.setIfInBounds_toArray, List.set_cons_zero, List.set_cons_succ] at hK ⊢
      refine wp_alloc_ans rfl ?_
      exact hK.out _ _ (hI.new HM.out (fun k v w hk h => FG.lt (gs := GS) k v w (by rw [GL.out]; exact hk) h) _ (FG.new (List.getElem?_eq_none_iff.2 (by rw [GL.out]; decide)) hI.bel.size))
    · have ho := Option.some.inj ho
      subst ho
      simp only [puts, Act.put, List.setIfInBounds_toArray, List.set_cons_zero, List.set_cons_succ] at hK ⊢
      refine wp_alloc_ans rfl ?_
      exact hK.out _ _ (hI.new HM.out (fun k v w hk h => FG.lt (gs := GS) k v w (by rw [GL.out]; exact hk) h) _ (FG.new (List.getElem?_eq_none_iff.2 (by rw [GL.out]; decide)) hI.bel.size))
    · have ho := Option.some.inj ho
      subst ho
      simp only [puts, Act.put, List.setIfInBounds_toArray, List.set_cons_zero, List.set_cons_succ] at hK ⊢
      refine wp_alloc_ans rfl ?_
      exact hK.out _ _ (hI.new HM.out (fun k v w hk h => FG.lt (gs := GS) k v w (by rw [GL.out]; exact hk) h) _ (FG.new (List.getElem?_eq_none_iff.2 (by rw [GL.out]; decide)) hI.bel.size))
    · omega
  intro li vs w6 hall hI
  have e69 : GA (headR r) m o g.cs seed (vs 1) w6 := FG.get G1.out (hI.facts 1 (hall 1 (by decide)))
  have e71 : GA (noR r) m o g.cs seed (vs 3) w6 := FG.get G3.out (hI.facts 3 (hall 3 (by decide)))
  have e73 : GA r m o ((r.L.length : Int) - 1) seed (vs 5) w6 := FG.get G5.out (hI.facts 5 (hall 5 (by decide)))
  obtain ⟨b7, hb7, e7, hz7⟩ : ∃ b, Wd.heap.size ≤ b ∧ vs 6 = .pointer (some ⟨b, 0, none⟩) ∧ w6.heap[b]? = some (.cells zeroAns 43 (0, 0)) := FG.blk (List.getElem?_eq_none_iff.2 (by rw [GL.out]; decide)) (hI.facts 6 (hall 6 (by decide)))
  obtain ⟨b8, hb8, e8, hz8⟩ : ∃ b, Wd.heap.size ≤ b ∧ vs 7 = .pointer (some ⟨b, 0, none⟩) ∧ w6.heap[b]? = some (.cells zeroAns 43 (0, 0)) := FG.blk (List.getElem?_eq_none_iff.2 (by rw [GL.out]; decide)) (hI.facts 7 (hall 7 (by decide)))
  obtain ⟨b9, hb9, e9, hz9⟩ : ∃ b, Wd.heap.size ≤ b ∧ vs 8 = .pointer (some ⟨b, 0, none⟩) ∧ w6.heap[b]? = some (.cells zeroAns 43 (0, 0)) := FG.blk (List.getElem?_eq_none_iff.2 (by rw [GL.out]; decide)) (hI.facts 8 (hall 8 (by decide)))
  have n78 : b7 ≠ b8 := fun e => hI.apart 6 7 rfl rfl (by decide) (hall 6 (by decide)) (hall 7 (by decide)) (by rw [e7, e8, e])
  have n79 : b7 ≠ b9 := fun e => hI.apart 6 8 rfl rfl (by decide) (hall 6 (by decide)) (hall 8 (by decide)) (by rw [e7, e9, e])
  have n89 : b8 ≠ b9 := fun e => hI.apart 7 8 rfl rfl (by decide) (hall 7 (by decide)) (hall 8 (by decide)) (by rw [e8, e9, e])
  have hb5 := hI.bel
  clear hall hI G0 G1 G2 G3 G4 G5 GL HM
  obtain ⟨a1, A1, c1, B1, d1, hP1, e1, hf1, hp1⟩ := e69
  obtain ⟨a2, A2, c2, B2, d2, hP2, e2, hf2, hp2⟩ := e71
  obtain ⟨a3, A3, c3, B3, d3, hP3, e3, hf3, hp3⟩ := e73
  simp only [puts, Act.put, List.setIfInBounds_toArray, List.set_cons_zero, List.set_cons_succ, List.drop_succ_cons, List.drop_zero]
  rw [e1, e2, e3, e7, e8, e9]
  generalize vs 0 = x0
  generalize vs 2 = x2
  generalize vs 4 = x4
  clear e1 e2 e3 e7 e8 e9
  --M6
  obtain ⟨HH1, HH2⟩ := AnsP.head rfl hP1
  have HN := AnsP.norange rfl hP2
  have H23 : a2 = a3 := AnsP.many (r := noR r) (r' := r) rfl rfl (by omega) hP2 hP3
  have HLN := Lib.hid (hP2.len (by simp [noR]))
  subst H23
  have hx5 := blk_lt HX5.out
  have HB6 := Lib.hid (bel_chain hb5 HB5.out)
  have HX6 := Lib.hid (blk_keep hb5 HX5.out)
  clear hP1 hP2 hP3 hb5
  refine wpList_store_blk rfl 43 (.tmp 7) (.tmp 69) rfl rfl rfl hz7 rfl ansSize (by simp [Value.oneCell']) ?_
  intro w7 hst7
  simp only [Act.put]
  refine wpList_store_blk rfl 43 (.tmp 8) (.tmp 71) rfl rfl rfl ((hst7.ne _ (Ne.symm n78)).trans hz8) rfl ansSize (by simp [Value.oneCell']) ?_
  intro w8 hst8
  simp only [Act.put]
  refine wpList_store_blk rfl 43 (.tmp 9) (.tmp 73) rfl rfl rfl ((hst8.ne _ (Ne.symm n89)).trans ((hst7.ne _ (Ne.symm n79)).trans hz9)) rfl ansSize (by simp [Value.oneCell']) ?_
  intro w9 hst9
  simp only [Act.put]
  have HA7 : Hid (w9.heap[b7]? = some (.cells #[.int .i64 a1.st, .slice A1 a1.fs.length c1, .slice B1 a1.ps.length d1, .int .i64 a1.sz] 43 (0, 0))) := (hst9.ne _ n79).trans ((hst8.ne _ n78).trans hst7.blk)
  have HA8 : Hid (w9.heap[b8]? = some (.cells #[.int .i64 a2.st, .slice A2 a2.fs.length c2, .slice B2 a2.ps.length d2, .int .i64 a2.sz] 43 (0, 0))) := (hst9.ne _ n89).trans hst8.blk
  have HA9 : Hid (w9.heap[b9]? = some (.cells #[.int .i64 a2.st, .slice A3 a2.fs.length c3, .slice B3 a2.ps.length d3, .int .i64 a2.sz] 43 (0, 0))) := hst9.blk
  have hs5 := HB5.out.size
  have HB9 : Hid (Below w.heap.size w w9) := hst9.bel w (hst8.bel w (hst7.bel w HB6.out (by omega)) (by omega)) (by omega)
  have HX9 : Hid (w9.heap[w.heap.size]? = some (.cells C1 36 (0, 0))) := (hst9.ne _ (by omega)).trans ((hst8.ne _ (by omega)).trans ((hst7.ne _ (by omega)).trans HX6.out))
  have HF2 : Hid (SpG encFd 2 w9 A2 c2 a2.fs) := ((hf2.stored hst7 hz7 (by decide)).stored hst8 ((hst7.ne _ (Ne.symm n78)).trans hz8) (by decide)).stored2 hst9 ((hst8.ne _ (Ne.symm n89)).trans ((hst7.ne _ (Ne.symm n79)).trans hz9)) (by decide)
  have HF3 : Hid (SpG encFd 2 w9 A3 c3 a2.fs) := ((hf3.stored hst7 hz7 (by decide)).stored hst8 ((hst7.ne _ (Ne.symm n78)).trans hz8) (by decide)).stored2 hst9 ((hst8.ne _ (Ne.symm n89)).trans ((hst7.ne _ (Ne.symm n79)).trans hz9)) (by decide)
  have HP2 : Hid (SpG encPt 3 w9 B2 d2 a2.ps) := ((hp2.stored hst7 hz7 (by decide)).stored hst8 ((hst7.ne _ (Ne.symm n78)).trans hz8) (by decide)).stored2 hst9 ((hst8.ne _ (Ne.symm n89)).trans ((hst7.ne _ (Ne.symm n79)).trans hz9)) (by decide)
  have HP3 : Hid (SpG encPt 3 w9 B3 d3 a2.ps) := ((hp3.stored hst7 hz7 (by decide)).stored hst8 ((hst7.ne _ (Ne.symm n78)).trans hz8) (by decide)).stored2 hst9 ((hst8.ne _ (Ne.symm n89)).trans ((hst7.ne _ (Ne.symm n79)).trans hz9)) (by decide)
  clear hst7 hst8 hst9 hz7 hz8 hz9 hb7 hb8 hb9 n78 n79 n89 hx5 hs5 hf1 hf2 hf3 hp1 hp2 hp3 HB6 HX6 HX5 HB5 HTB HTC HTD K4d K5d K6d HA
  obtain ⟨st1, F1, P1, sz1⟩ := a1
  obtain ⟨st, F2, P2, sz⟩ := a2
  dsimp only at HA7 HA8 HA9 HF2 HF3 HP2 HP3 HLN HH1 HH2 HN
  subst HH1
  have hl2 := HLN.out
  have HSA : ∀ W, SpG encFd 2 W A3 c3 F2 → SpG encFd 2 W A2 c2 F2 → SpG encPt 3 W B3 d3 P2 → SpG encPt 3 W B2 d2 P2 → Hid (Calls Tryz.prog 11 #[.agg #[.int .i64 st, .slice A3 F2.length c3, .slice B3 P2.length d3, .int .i64 sz], .agg #[.int .i64 st, .slice A2 F2.length c2, .slice B2 P2.length d2, .int .i64 sz]] W fun e w' => e = .returned (.bool true) ∧ Below W.heap.size W w') := fun W a b c d => by
    refine Lib.hid ((same15_any st sz st sz A3 F2.length c3 B3 P2.length d3 A2 F2.length c2 B2 P2.length d2 F2 F2 P2 P2 W rfl rfl rfl rfl a b c d hl2.1 hl2.1 hl2.2).mono ?_)
    rintro e w' ⟨⟨v, rfl, hv⟩, hb⟩
    obtain rfl : v = true := hv.2 ⟨rfl, rfl, rfl, rfl⟩
    exact ⟨rfl, hb⟩
  clear hl2 HLN
  have v0 := blk_cell (i := 2) HA7.out rfl
  have v1 := blk_cell (i := 0) HA8.out rfl
  have v2 := blk_cell (i := 1) HA8.out rfl
  have v3 := blk_cell (i := 2) HA8.out rfl
  have v4 := blk_cell (i := 3) HA8.out rfl
  have v5 := blk_cell (i := 0) HA9.out rfl
  have v6 := blk_cell (i := 1) HA9.out rfl
  have v7 := blk_cell (i := 2) HA9.out rfl
  have v8 := blk_cell (i := 3) HA9.out rfl
  have v9 := blk_cell HX9.out I2.out
  --M7
  go_upto_region 13 with fail
  go_cut [90] (fun s90 wx => s90 = .bool false ∧ Below w9.heap.size w9 wx)
  case first =>
    by_cases h0 : 0 < r.L.length
    · have h0' : (0 : Int) < (r.L.length : Int) := by omega
      clear h0
      go_wp2_with (go_at_call 11; refine (HSA _ HF3.out HF2.out HP3.out HP2.out).out.mono ?_; rintro e w10 ⟨rfl, hb10⟩)
      go_meet
      exact ⟨rfl, hb10⟩
    · have h0' : ¬ (0 : Int) < (r.L.length : Int) := by omega
      clear h0
      go_wp2_with fail
      go_meet
      exact ⟨rfl, Below.refl _ _⟩
  case rest =>
  obtain ⟨rfl, hbc⟩ := hcut
  have HBC := Lib.hid hbc
  have z7 := blk_keep hbc HA7.out
  have z8 := blk_keep hbc HA8.out
  have zx := blk_keep hbc HX9.out
  have HBW := Lib.hid (bel_chain hbc HB9.out)
  clear v0 v1 v2 v3 v4 v5 v6 v7 v8 v9 hbc
  have v0 := blk_cell (i := 0) z7 rfl
  have v1 := blk_cell (i := 3) z7 rfl
  have v2 := blk_cell (i := 0) z8 rfl
  have v3 := blk_cell (i := 3) z8 rfl
  have v4 := blk_cell zx I14.out
  have v5 := blk_cell zx I22.out
  clear z7 z8 zx HA7 HA8 HA9 HX9 HSA HF2 HF3 HP2 HP3
  by_cases ho2 : (2 : Int) < o
  · clear HH2 HN
    go_wp2_with fail
    go_ret
    exact ⟨rfl, HBW.out⟩
  · obtain ⟨q1, q2⟩ := HH2 (by omega)
    obtain ⟨q3, q4⟩ := HN (by omega)
    subst q1 q2 q3 q4
    go_wp2_with fail
    go_ret
    exact ⟨rfl, HBW.out⟩
end Go.Proofs.YtaaefgieklkekaaGreatDoor
