/- A set stays as it was: RangesKept. -/
import Derived.Test.YtdomakklbcpnjaaDoorC2
import Derived.Test.YtdomakklbcpnjaaDoorF0
import Derived.Test.YtdomakklbcpnjaaDoorB9N
namespace Go.Proofs.YtdomakklbcpnjaaDoor
open Go.RowKit

theorem cell_grownO {w w' : World} {row : Option Nat} {b o : Nat} (h : w.grownBy w' row) (hb : b < w.heap.size) (hne : some b ≠ row) : w'.cell? ⟨b, o, none⟩ = w.cell? ⟨b, o, none⟩ :=
  World.cell?_of_block (w := w) (w' := w') (a := ⟨b, o, none⟩) (h.block b hb hne)
theorem Sp.grownO {w w' : World} {A : Option Addr} {c : Nat} {L : List (Int × Int)} {row : Option Nat} (h : Sp w A c L) (hne : ∀ k, row = some k → 0 < L.length → OffB A k) (hg : w.grownBy w' row) : Sp w' A c L :=
  ⟨h.le, h.nil_, fun hn => by
    obtain ⟨b, off, e, hb, hc⟩ := h.at' hn
    have hs := hg.size
    have hb' : some b ≠ row := fun e' => hne b e'.symm hn _ e rfl
    exact ⟨b, off, e, by omega, fun i x hx => by rw [cell_grownO hg hb hb', cell_grownO hg hb hb']; exact hc i x hx⟩⟩
theorem grown_setO {w W : World} {p : Addr} {row : Option Nat} (h : w.grownBy W row) (hp : row = some p.block) (u : Value) : w.grownBy (W.setCell p u) row := by
  subst hp; exact grown_set h u
/-- One span of a row of the call's own, written anew. -/
theorem spCells_set2 (L : List (Int × Int)) (i : Nat) (hi : i < L.length) (x : Int × Int) : ((spCells L).set (i * 2) (.int .i64 x.1)).set (i * 2 + 1) (.int .i64 x.2) = spCells (L.set i x) := by
  induction L generalizing i with
  | nil => simp at hi
  | cons y L ih =>
    cases i with
    | zero => rfl
    | succ i =>
      have := ih i (by simpa using hi)
      rw [spCells_cons, List.set_cons_succ, spCells_cons, ← this]
      rw [show (i + 1) * 2 = i * 2 + 1 + 1 from by omega]
      rfl
theorem Own.setSpan {w : World} {base g c : Nat} {L : List (Int × Int)} (h : Own w base (some ⟨g, 0, none⟩) c L) {i : Nat} (hi : i < L.length) (x : Int × Int) :
    Own ((w.setCell ⟨g, i * 2, none⟩ (.int .i64 x.1)).setCell ⟨g, i * 2 + 1, none⟩ (.int .i64 x.2)) base (some ⟨g, 0, none⟩) c (L.set i x) := by
  have h1 := (World.ownsRow.stored h (i * 2) (.int .i64 x.1)).1
  have h2 := (World.ownsRow.stored h1 (i * 2 + 1) (.int .i64 x.2)).1
  rw [spCells_set2 L i hi] at h2
  unfold Own
  rw [List.length_set]
  exact h2
theorem Own.cellsAt {w : World} {base g c : Nat} {L : List (Int × Int)} (h : Own w base (some ⟨g, 0, none⟩) c L) {k : Nat} (hk : k < L.length) :
    w.cell? ⟨g, k * 2, none⟩ = some (.int .i64 (L[k]).1) ∧ w.cell? ⟨g, k * 2 + 1, none⟩ = some (.int .i64 (L[k]).2) ∧ w.frozen? ⟨g, k * 2, none⟩ = false ∧ w.frozen? ⟨g, k * 2 + 1, none⟩ = false := by
  obtain ⟨b, off, e, hb, c1, c2⟩ := h.sp.at_ hk
  injection e with e
  injection e with e1 e2 _
  subst e1 e2
  rw [Nat.zero_add] at c1 c2
  exact ⟨c1, c2, World.ownsRow.frozenAt h _, World.ownsRow.frozenAt h _⟩
theorem Sp.pair' {w : World} {g : Nat} (a b : Int) (T : TypeId) (hg : g = w.heap.size) : Sp (w.alloc (.cells #[.int .i64 a, .int .i64 b] T)) (some ⟨g, 0, none⟩) 1 [(a, b)] := Sp.built' [(a, b)] T hg
theorem u8_range' {q : Int} (h : (Lit.int .u8 q).wf = true) : 0 ≤ q ∧ q ≤ 255 := by
  have h1 : IntKind.u8.min ≤ q ∧ q ≤ IntKind.u8.max := by simpa [Lit.wf] using h
  exact ⟨h1.1, h1.2⟩
theorem kept_has {q : Int} (h0 : 0 ≤ q) (h1 : q ≤ 255) (X : List (Int × Int)) : inB (ofOp X (cano [(q, q + 5)]) 1) q = true := by
  rw [inB_ofOp, inB_cano]
  have : inB [(q, q + 5)] q = true := by
    rw [inB_iff]
    exact ⟨(q, q + 5), by simp, (okS_iff _).2 ⟨h0, by simp only; omega, by simp only; omega⟩, by simp only; omega, by simp only; omega⟩
  rw [this]; simp [opB]
set_option maxHeartbeats 8000000 in
set_option maxRecDepth 100000 in
theorem rangesKept_any (A : Option Addr) (c : Nat) (L : List (Int × Int)) (q : Int) (w : World) (h : Sp w A c L) (hn : L.length ≤ 9223372036854775807) (hw : (Lit.int .u8 q).wf = true) :
    Calls Tryd.prog 3 #[.slice A L.length c, .int .u8 q] w fun e w' => e = .returned (.bool true) ∧ Below w.heap.size w w' := by
  have Sa_0 := Lib.hid (h)
  have S0 := Lib.hid h
  clear h
  obtain ⟨hk0, hk1⟩ := u8_range' hw
  clear hw
  go_enter Tryd.func3, Tryd.ntmps3
  go_wp2_with fail
  refine (wakes_any _).mono ?_
  rintro e1 w1 ⟨rfl, hb1⟩
  have HB_1 : Hid (Below w.heap.size w w1) := bel_chain hb1 (by repeat (first | exact Below.refl _ _ | refine bel_drewN ?_ _ | refine bel_drew ?_ | refine bel_alloc ?_ _))
  have Sa_1 : Hid (Sp w1 A c (L)) := Sp.below (by repeat (first | exact Sa_0.out | refine Sp.alloc ?_ _ | refine Sp.drewN ?_ _ | refine Sp.drew ?_)) hb1
  clear Sa_0 hb1
  go_wp2_with fail
  refine (great1_b A L.length c _ _ (by simp [go_sem]) hn).mono ?_
  rintro e2 w2 ⟨rfl, hb2⟩
  have HB_2 : Hid (Below w.heap.size w w2) := bel_chain hb2 (by repeat (first | exact HB_1.out | refine bel_drewN ?_ _ | refine bel_drew ?_ | refine bel_alloc ?_ _))
  have Sa_2 : Hid (Sp w2 A c (L)) := Sp.below (by repeat (first | exact Sa_1.out | refine Sp.alloc ?_ _ | refine Sp.drewN ?_ _ | refine Sp.drew ?_)) hb2
  clear Sa_1 HB_1 hb2
  by_cases hg : 20 < L.length
  · have hgd : decide (20 < L.length) = true := by simpa using hg
    rw [hgd]
    go_wp2_with fail
    go_ret
    exact ⟨rfl, HB_2.out⟩
  · have hgd : decide (20 < L.length) = false := by simpa using hg
    rw [hgd]
    have hl : L.length ≤ 20 := by omega
    have hcl := cano_length L
    clear hgd hg
    go_wp2_with (at_builtin; refine wpl_appendS (w0 := w) rfl (.tmp 16) (.tmp 17) rfl (some ⟨w2.heap.size, 0, none⟩) 0 [] rfl (by exact World.ownsRow_made _ _ _ HB_2.out.size (by simp [maxLen]) rfl) A c L rfl (by exact Sa_2.out.alloc _) (by simp; omega) (by repeat (first | exact HB_2.out | refine bel_alloc ?_ _)) ?_; intro Ao co w3 hown3 hbw3 _; have HO_3 := Lib.hid hown3; have HB_3 := Lib.hid hbw3; clear hown3 hbw3)
    have HO_3' : Hid (Own w3 w.heap.size Ao co L) := by have := HO_3.out; simp only [Hid]; simpa using this
    clear HO_3 Sa_2 HB_2
    refine (ofN_any Ao co L _ (by exact HO_3'.out.sp) (by omega)).mono ?_
    rintro e4 w4 ⟨As, cs, rfl, hs4, hnew4, hb4⟩
    have HB_4 := Lib.hid (bel_chain hb4 HB_3.out)
    have HO_4 := Lib.hid (HO_3'.out.below hb4)
    have SS_4 := Lib.hid hs4
    have HNW := Lib.hid hnew4
    have hz34 : w3.heap.size ≤ w4.heap.size := hb4.size
    have HRO : Hid (∀ k, (Value.slice Ao L.length co).ownBlock = some k → w.heap.size ≤ k ∧ k < w3.heap.size) := fun k hk => World.ownsRow.lt HO_3'.out k hk
    clear hs4 hnew4 hb4 HO_3' HB_3
    go_wp2_with fail
    obtain ⟨W1, hW1⟩ : ∃ W1, World.alloc w4 (.cells #[.slice As (cano L).length cs] 26) = W1 := ⟨_, rfl⟩
    rw [hW1]
    have bs_5 : W1.cell? ⟨w4.heap.size, 0, none⟩ = some (.slice As (cano L).length cs) := by rw [← hW1]; simp [go_sem]
    have hzW : w4.heap.size < W1.heap.size := World.block_lt_of_cell? W1 ⟨w4.heap.size, 0, none⟩ bs_5
    have HO_5 : Hid (Own W1 w.heap.size Ao co L) := by simp only [Hid]; rw [← hW1]; exact HO_4.out.alloc _
    have SS_5 : Hid (Sp W1 As cs (cano L)) := by simp only [Hid]; rw [← hW1]; exact SS_4.out.alloc _
    have HB_5 : Hid (Below w.heap.size w W1) := by simp only [Hid]; rw [← hW1]; exact bel_alloc HB_4.out _
    clear hW1 HO_4 SS_4 HB_4
    go_loopw [7, 23] (fun _ i wr => ∃ (k : Nat) (D : List (Int × Int)), k ≤ L.length ∧ D.length = L.length ∧ i = .int .i64 k ∧ Own wr w.heap.size Ao co D ∧ W1.grownBy wr (Value.slice Ao L.length co).ownBlock) (fun _ i _ => L.length - (intOf i).toNat)
    case atStart => exact ⟨0, L, Nat.zero_le _, rfl, rfl, HO_5.out, World.grownBy.refl _ _⟩
    case round =>
      obtain ⟨k, D, hk, hD, rfl, hown, hgr⟩ := hrel
      have HD := Lib.hid hD
      have HO := Lib.hid hown
      have HG := Lib.hid hgr
      clear hD hown hgr
      by_cases hlt : k < L.length
      · obtain ⟨g, e, hg1, hg2⟩ := HO.out.at_ (by have := HD.out; omega)
        subst e
        obtain ⟨c1, c2, f1, f2⟩ := HO.out.cellsAt (k := k) (by have := HD.out; omega)
        go_wp2_with fail
        go_roundw
        case rel => exact ⟨k + 1, D.set k (1, q + 2), by omega, by simp [HD.out], by go_num, HO.out.setSpan (by have := HD.out; omega) (1, q + 2), grown_setO (p := ⟨g, k * 2 + 1, none⟩) (grown_setO (p := ⟨g, k * 2, none⟩) HG.out rfl _) rfl _⟩
        case measure => simp [intOf]; omega
      · have hzW2 := HG.out.size
        have HB_6 : Hid (Below w.heap.size w wr) := HB_5.out.grown HG.out HB_5.out.size (fun j hj => (HRO.out j hj).1)
        have SS_6 : Hid (Sp wr As cs (cano L)) := SS_5.out.grownO (fun j hj _ a ha => by have := HNW.out a ha; have := (HRO.out j hj).2; omega) HG.out
        have bs_6 : wr.cell? ⟨w4.heap.size, 0, none⟩ = some (.slice As (cano L).length cs) := (cell_grownO HG.out hzW (fun e => by have := (HRO.out _ e.symm).2; omega)).trans bs_5
        have zb6 : w4.heap.size < wr.heap.size := by omega
        clear HO HG HD HO_5 SS_5 bs_5 HNW HRO HB_5 hzW hzW2
        obtain ⟨w6, rfl⟩ : ∃ w6, w6 = wr := ⟨_, rfl⟩
        go_wp2_with fail
        refine (spans_any As cs (cano L) _ (by exact SS_6.out) (by omega)).mono ?_
        rintro e7 w7 ⟨At, ct, rfl, hs7, hb7⟩
        have HO_7 := Lib.hid hs7
        have Q7 := Lib.hid hb7
        have HRT : Hid (∀ k, (Value.slice At (cano L).length ct).ownBlock = some k → w6.heap.size ≤ k) := fun k hk => (World.ownsRow.lt hs7 k hk).1
        clear hs7 hb7
        go_wp2_with fail
        go_loopw [9, 38] (fun _ i wr => ∃ (k : Nat) (D : List (Int × Int)), k ≤ (cano L).length ∧ D.length = (cano L).length ∧ i = .int .i64 k ∧ Own wr w6.heap.size At ct D ∧ w7.grownBy wr (Value.slice At (cano L).length ct).ownBlock) (fun _ i _ => (cano L).length - (intOf i).toNat)
        case atStart => exact ⟨0, cano L, Nat.zero_le _, rfl, rfl, HO_7.out, World.grownBy.refl _ _⟩
        case round =>
          obtain ⟨k, D, hk, hD, rfl, hown, hgr⟩ := hrel
          have HD := Lib.hid hD
          have HO := Lib.hid hown
          have HG := Lib.hid hgr
          clear hD hown hgr
          by_cases hlt : k < (cano L).length
          · obtain ⟨g, e, hg1, hg2⟩ := HO.out.at_ (by have := HD.out; omega)
            subst e
            obtain ⟨c1, c2, f1, f2⟩ := HO.out.cellsAt (k := k) (by have := HD.out; omega)
            go_wp2_with fail
            go_roundw
            case rel => exact ⟨k + 1, D.set k (3, 4), by omega, by simp [HD.out], by go_num, HO.out.setSpan (by have := HD.out; omega) (3, 4), grown_setO (p := ⟨g, k * 2 + 1, none⟩) (grown_setO (p := ⟨g, k * 2, none⟩) HG.out rfl _) rfl _⟩
            case measure => simp [intOf]; omega
          · have Q8 : Hid (Below w6.heap.size w6 wr) := Q7.out.grown HG.out Q7.out.size (fun j hj => HRT.out j hj)
            have HB_8 := Lib.hid (bel_chain Q8.out HB_6.out)
            have SS_8 := Lib.hid (SS_6.out.below Q8.out)
            have bs_8 := cell_keep Q8.out bs_6
            have S0_8 := Lib.hid (S0.out.below HB_8.out)
            clear HO HG HD HO_7 HRT Q7 Q8 SS_6 bs_6 HB_6 S0
            obtain ⟨w8, rfl⟩ : ∃ w8, w8 = wr := ⟨_, rfl⟩
            have zb8 : w4.heap.size < w8.heap.size := World.block_lt_of_cell? w8 ⟨w4.heap.size, 0, none⟩ bs_8
            have hcn : (cano [(q, q + 5)]).length ≤ 2 := cano_length [(q, q + 5)]
            have HKL := Lib.hid (cano_canon L)
            have HKM := Lib.hid (cano_canon [(q, q + 5)])
            have HHB := Lib.hid (kept_has hk0 hk1 (cano L))
            have le1 : (cano L).length ≤ 100000 := by omega
            have le2 : (cano [(q, q + 5)]).length ≤ 100000 := by omega
            have wq0 : IntKind.i64.wrap q = q := IntWalk.i64_in _ (by omega)
            have wq : IntKind.i64.wrap (q + 5) = q + 5 := IntWalk.i64_in _ (by omega)
            go_upto_region 18 with fail
            go_cut [10] (fun s10 wx => ∃ (b : Nat) (Az : Option Addr) (cz : Nat), s10 = .pointer (some ⟨b, 0, none⟩) ∧ wx.cell? ⟨b, 0, none⟩ = some (.slice Az (ofOp (cano L) (cano [(q, q + 5)]) 1).length cz) ∧ Sp wx Az cz (ofOp (cano L) (cano [(q, q + 5)]) 1) ∧ Sp wx As cs (cano L) ∧ Sp wx A c L ∧ wx.cell? ⟨w4.heap.size, 0, none⟩ = some (.slice As (cano L).length cs) ∧ Below w.heap.size w wx)
            case first =>
              first
                | (go_region_with ((first
                    | (go_at_call 16
                       refine (of_any (some ⟨_, 0, none⟩) 1 [(q, q + 5)] _ (by repeat (first | (with_reducible refine Sp.drew ?_) | (with_reducible exact Sp.pair' _ _ _ (by simp)) | (with_reducible refine Sp.alloc ?_ _))) (by simp)).mono ?_
                       rintro e9 w9 ⟨Af, cf, rfl, hs9, hb9⟩
                       have hq9 : Below w8.heap.size w8 w9 := bel_chain hb9 (by repeat (first | (with_reducible exact Below.refl _ _) | (with_reducible refine bel_alloc ?_ _) | (with_reducible refine bel_drew ?_)))
                       have Q9 := Lib.hid hq9
                       have SF_9 := Lib.hid hs9
                       have bs_9 := cell_keep hq9 bs_8
                       have zb_9 : w4.heap.size < w9.heap.size := World.block_lt_of_cell? w9 ⟨w4.heap.size, 0, none⟩ bs_9
                       (first
                         | (have xb_9 : Hid (w9.heap[w8.heap.size]? = some (.cells #[.slice none 0 0] 26 (0, 0))) := blk_keep hb9 (blk_drew (blk_skip (blk_new rfl))))
                         | (have xb_9 : Hid (w9.heap[w8.heap.size + 1]? = some (.cells #[.slice none 0 0] 26 (0, 0))) := blk_keep hb9 (blk_drew (blk_new (World.size_alloc ..).symm)))
                         | skip)
                       clear hs9 hb9 hq9)
                    | (go_at_call 18
                       refine (or_any As cs (cano L) Af cf (cano [(q, q + 5)]) _ (by repeat (first | (with_reducible refine Sp.drew ?_) | (with_reducible exact SS_8.out.below Q9.out) | (with_reducible refine Sp.alloc ?_ _))) (by repeat (first | (with_reducible refine Sp.drew ?_) | (with_reducible exact SF_9.out) | (with_reducible refine Sp.alloc ?_ _))) HKL.out HKM.out le1 le2).mono ?_
                       rintro e10 w10 ⟨Az, cz, rfl, hs10, hb10⟩
                       have hq10 : Below w9.heap.size w9 w10 := bel_chain hb10 (by repeat (first | (with_reducible exact Below.refl _ _) | (with_reducible refine bel_alloc ?_ _) | (with_reducible refine bel_drew ?_)))
                       have Q10 := Lib.hid (bel_chain hq10 Q9.out)
                       have SZ_10 := Lib.hid hs10
                       have bs_10 := cell_keep hq10 bs_9
                       (first
                         | (have xb_10 := Lib.hid (blk_keep hq10 xb_9.out); have xc_10 := cells1 xb_10.out; have xf_10 := blk_frozen (i := 0) xb_10.out; have xz_10 := blk_lt xb_10.out)
                         | (have xb_10 : Hid (w10.heap[w9.heap.size]? = some (.cells #[.slice none 0 0] 26 (0, 0))) := blk_keep hb10 (blk_new rfl); have xc_10 := cells1 xb_10.out; have xf_10 := blk_frozen (i := 0) xb_10.out; have xz_10 := blk_lt xb_10.out)
                         | skip)
                       clear hs10 hb10 hq10))))
                | fail
              all_goals go_wp2_with fail
              all_goals go_meet
              all_goals clear wq wq0
              all_goals have h9 := Q9.out.size
              all_goals have h10 := Q10.out.size
              all_goals have zb10 := World.block_lt_of_cell? w10 ⟨w4.heap.size, 0, none⟩ bs_10
              all_goals have hz8 := HB_8.out.size
              all_goals (first
                | exact ⟨_, Az, cz, rfl, blk_cell (blk_set xb_10.out) rfl, SZ_10.out.setOff (fun h0 => SZ_10.out.off_blk h0 xb_10.out (noPair1 _)) _, (SS_8.out.below Q10.out).setOff (fun h0 => (SS_8.out.below Q10.out).off_blk h0 xb_10.out (noPair1 _)) _, (S0_8.out.below Q10.out).setOff (fun h0 => (S0_8.out.below Q10.out).off_blk h0 xb_10.out (noPair1 _)) _, (cell_grown (grown_set (p := ⟨_, 0, none⟩) (World.grownBy.refl _ _) _) (by first | omega | (dsimp only; omega)) (by first | omega | (dsimp only; omega))).trans bs_10, bel_set (bel_chain Q10.out HB_8.out) (by have := HB_8.out.size; first | omega | (dsimp only; omega)) _⟩
                | exact ⟨_, Az, cz, rfl, by simp [go_sem], SZ_10.out.alloc _, (SS_8.out.below Q10.out).alloc _, (S0_8.out.below Q10.out).alloc _, cell_keep (bel_alloc (Below.refl _ _) _) bs_10, bel_alloc (bel_chain Q10.out HB_8.out) _⟩)
            case rest =>
              obtain ⟨b, Az, cz, rfl, hcz, hSz, hSs, hSa, hcs, hbx⟩ := hcut
              obtain ⟨w11, rfl⟩ : ∃ w11, w11 = wc := ⟨_, rfl⟩
              have HB_11 := Lib.hid hbx
              have Sz_11 := Lib.hid hSz
              have Ss_11 := Lib.hid hSs
              have Sa_11 := Lib.hid hSa
              have bz_11 := hcz
              have bs_11 := hcs
              have lO := ofOp_length (cano L) (cano [(q, q + 5)]) 1
              clear hbx hSz hSs hSa hcz hcs bs_8 SS_8 HB_8 S0_8 zb8 wq wq0 HKM le1 le2
              have HKZ0 : Canon (ofOp (cano L) (cano [(q, q + 5)]) 1) := ofOp_canon _ _ _
              generalize ofOp (cano L) (cano [(q, q + 5)]) 1 = Z at *
              have HKZ : Hid (Canon Z) := HKZ0
              go_wp2_with fail
              refine (spans_any As cs (cano L) _ (by repeat (first | exact Ss_11.out | refine Sp.alloc ?_ _ | refine Sp.drewN ?_ _ | refine Sp.drew ?_)) (by omega)).mono ?_
              rintro e12 w12 ⟨Ap, cp, rfl, hs12, hb12⟩
              have HB_12 : Hid (Below w.heap.size w w12) := bel_chain hb12 (by repeat (first | exact HB_11.out | refine bel_drewN ?_ _ | refine bel_drew ?_ | refine bel_alloc ?_ _))
              have bz_12 : w12.cell? ⟨b, 0, none⟩ = some (.slice Az Z.length cz) := cell_keep hb12 (cell_keep (W := w11) (by (repeat (first | exact Below.refl _ _ | refine bel_drewN ?_ _ | refine bel_drew ?_ | refine bel_alloc ?_ _ | refine bel_set ?_ (by simp) _))) bz_11)
              have bs_12 : w12.cell? ⟨w4.heap.size, 0, none⟩ = some (.slice As (cano L).length cs) := cell_keep hb12 (cell_keep (W := w11) (by (repeat (first | exact Below.refl _ _ | refine bel_drewN ?_ _ | refine bel_drew ?_ | refine bel_alloc ?_ _ | refine bel_set ?_ (by simp) _))) bs_11)
              have Sz_12 : Hid (Sp w12 Az cz (Z)) := Sp.below (by repeat (first | exact Sz_11.out | refine Sp.alloc ?_ _ | refine Sp.drewN ?_ _ | refine Sp.drew ?_)) hb12
              have Ss_12 : Hid (Sp w12 As cs (cano L)) := Sp.below (by repeat (first | exact Ss_11.out | refine Sp.alloc ?_ _ | refine Sp.drewN ?_ _ | refine Sp.drew ?_)) hb12
              have Sa_12 : Hid (Sp w12 A c (L)) := Sp.below (by repeat (first | exact Sa_11.out | refine Sp.alloc ?_ _ | refine Sp.drewN ?_ _ | refine Sp.drew ?_)) hb12
              have zbz_12 : b < w12.heap.size := World.block_lt_of_cell? w12 ⟨b, 0, none⟩ bz_12
              have zbs_12 : w4.heap.size < w12.heap.size := World.block_lt_of_cell? w12 ⟨w4.heap.size, 0, none⟩ bs_12
              have Sp_12 : Hid (Sp w12 Ap cp (cano L)) := Own.sp hs12
              clear bz_11 bs_11 Sz_11 Ss_11 Sa_11 hs12 HB_11 hb12
              go_wp2_with fail
              refine (rOf_any A c L _ (by repeat (first | exact Sa_12.out | refine Sp.alloc ?_ _ | refine Sp.drewN ?_ _ | refine Sp.drew ?_)) (by omega)).mono ?_
              rintro e13 w13 ⟨Ar, cr, rfl, hs13, hb13⟩
              have HB_13 : Hid (Below w.heap.size w w13) := bel_chain hb13 (by repeat (first | exact HB_12.out | refine bel_drewN ?_ _ | refine bel_drew ?_ | refine bel_alloc ?_ _))
              have bz_13 : w13.cell? ⟨b, 0, none⟩ = some (.slice Az Z.length cz) := cell_keep hb13 (cell_keep (W := w12) (by (repeat (first | exact Below.refl _ _ | refine bel_drewN ?_ _ | refine bel_drew ?_ | refine bel_alloc ?_ _ | refine bel_set ?_ (by simp) _))) bz_12)
              have bs_13 : w13.cell? ⟨w4.heap.size, 0, none⟩ = some (.slice As (cano L).length cs) := cell_keep hb13 (cell_keep (W := w12) (by (repeat (first | exact Below.refl _ _ | refine bel_drewN ?_ _ | refine bel_drew ?_ | refine bel_alloc ?_ _ | refine bel_set ?_ (by simp) _))) bs_12)
              have Sz_13 : Hid (Sp w13 Az cz (Z)) := Sp.below (by repeat (first | exact Sz_12.out | refine Sp.alloc ?_ _ | refine Sp.drewN ?_ _ | refine Sp.drew ?_)) hb13
              have Ss_13 : Hid (Sp w13 As cs (cano L)) := Sp.below (by repeat (first | exact Ss_12.out | refine Sp.alloc ?_ _ | refine Sp.drewN ?_ _ | refine Sp.drew ?_)) hb13
              have Sa_13 : Hid (Sp w13 A c (L)) := Sp.below (by repeat (first | exact Sa_12.out | refine Sp.alloc ?_ _ | refine Sp.drewN ?_ _ | refine Sp.drew ?_)) hb13
              have Sp_13 : Hid (Sp w13 Ap cp (cano L)) := Sp.below (by repeat (first | exact Sp_12.out | refine Sp.alloc ?_ _ | refine Sp.drewN ?_ _ | refine Sp.drew ?_)) hb13
              have zbz_13 : b < w13.heap.size := World.block_lt_of_cell? w13 ⟨b, 0, none⟩ bz_13
              have zbs_13 : w4.heap.size < w13.heap.size := World.block_lt_of_cell? w13 ⟨w4.heap.size, 0, none⟩ bs_13
              have Sr_13 : Hid (Sp w13 Ar cr (cano L)) := Own.sp hs13
              clear bz_12 bs_12 Sz_12 Ss_12 Sa_12 Sp_12 hs13 HB_12 zbz_12 zbs_12 hb13
              go_wp2_with fail
              refine (rlist_same Ap cp (cano L) Ar cr _ (by repeat (first | exact Sp_13.out | refine Sp.alloc ?_ _ | refine Sp.drewN ?_ _ | refine Sp.drew ?_)) (by repeat (first | exact Sr_13.out | refine Sp.alloc ?_ _ | refine Sp.drewN ?_ _ | refine Sp.drew ?_)) (by omega)).mono ?_
              rintro e14 w14 ⟨rfl, hb14⟩
              have HB_14 : Hid (Below w.heap.size w w14) := bel_chain hb14 (by repeat (first | exact HB_13.out | refine bel_drewN ?_ _ | refine bel_drew ?_ | refine bel_alloc ?_ _))
              have bz_14 : w14.cell? ⟨b, 0, none⟩ = some (.slice Az Z.length cz) := cell_keep hb14 (cell_keep (W := w13) (by (repeat (first | exact Below.refl _ _ | refine bel_drewN ?_ _ | refine bel_drew ?_ | refine bel_alloc ?_ _ | refine bel_set ?_ (by simp) _))) bz_13)
              have bs_14 : w14.cell? ⟨w4.heap.size, 0, none⟩ = some (.slice As (cano L).length cs) := cell_keep hb14 (cell_keep (W := w13) (by (repeat (first | exact Below.refl _ _ | refine bel_drewN ?_ _ | refine bel_drew ?_ | refine bel_alloc ?_ _ | refine bel_set ?_ (by simp) _))) bs_13)
              have Sz_14 : Hid (Sp w14 Az cz (Z)) := Sp.below (by repeat (first | exact Sz_13.out | refine Sp.alloc ?_ _ | refine Sp.drewN ?_ _ | refine Sp.drew ?_)) hb14
              have Ss_14 : Hid (Sp w14 As cs (cano L)) := Sp.below (by repeat (first | exact Ss_13.out | refine Sp.alloc ?_ _ | refine Sp.drewN ?_ _ | refine Sp.drew ?_)) hb14
              have Sa_14 : Hid (Sp w14 A c (L)) := Sp.below (by repeat (first | exact Sa_13.out | refine Sp.alloc ?_ _ | refine Sp.drewN ?_ _ | refine Sp.drew ?_)) hb14
              have Sp_14 : Hid (Sp w14 Ap cp (cano L)) := Sp.below (by repeat (first | exact Sp_13.out | refine Sp.alloc ?_ _ | refine Sp.drewN ?_ _ | refine Sp.drew ?_)) hb14
              have Sr_14 : Hid (Sp w14 Ar cr (cano L)) := Sp.below (by repeat (first | exact Sr_13.out | refine Sp.alloc ?_ _ | refine Sp.drewN ?_ _ | refine Sp.drew ?_)) hb14
              have zbz_14 : b < w14.heap.size := World.block_lt_of_cell? w14 ⟨b, 0, none⟩ bz_14
              have zbs_14 : w4.heap.size < w14.heap.size := World.block_lt_of_cell? w14 ⟨w4.heap.size, 0, none⟩ bs_14
              clear bz_13 bs_13 Sz_13 Ss_13 Sa_13 Sp_13 Sr_13 HB_13 zbz_13 zbs_13 hb14
              go_wp2_with fail
              refine (has_any Az cz Z q _ (by repeat (first | exact Sz_14.out | refine Sp.alloc ?_ _ | refine Sp.drewN ?_ _ | refine Sp.drew ?_)) HKZ.out (by omega)).mono ?_
              rintro e15 w15 ⟨rfl, hb15⟩
              have HB_15 : Hid (Below w.heap.size w w15) := bel_chain hb15 (by repeat (first | exact HB_14.out | refine bel_drewN ?_ _ | refine bel_drew ?_ | refine bel_alloc ?_ _))
              have bz_15 : w15.cell? ⟨b, 0, none⟩ = some (.slice Az Z.length cz) := cell_keep hb15 (cell_keep (W := w14) (by (repeat (first | exact Below.refl _ _ | refine bel_drewN ?_ _ | refine bel_drew ?_ | refine bel_alloc ?_ _ | refine bel_set ?_ (by simp) _))) bz_14)
              have bs_15 : w15.cell? ⟨w4.heap.size, 0, none⟩ = some (.slice As (cano L).length cs) := cell_keep hb15 (cell_keep (W := w14) (by (repeat (first | exact Below.refl _ _ | refine bel_drewN ?_ _ | refine bel_drew ?_ | refine bel_alloc ?_ _ | refine bel_set ?_ (by simp) _))) bs_14)
              have Sz_15 : Hid (Sp w15 Az cz (Z)) := Sp.below (by repeat (first | exact Sz_14.out | refine Sp.alloc ?_ _ | refine Sp.drewN ?_ _ | refine Sp.drew ?_)) hb15
              have Ss_15 : Hid (Sp w15 As cs (cano L)) := Sp.below (by repeat (first | exact Ss_14.out | refine Sp.alloc ?_ _ | refine Sp.drewN ?_ _ | refine Sp.drew ?_)) hb15
              have Sa_15 : Hid (Sp w15 A c (L)) := Sp.below (by repeat (first | exact Sa_14.out | refine Sp.alloc ?_ _ | refine Sp.drewN ?_ _ | refine Sp.drew ?_)) hb15
              have Sp_15 : Hid (Sp w15 Ap cp (cano L)) := Sp.below (by repeat (first | exact Sp_14.out | refine Sp.alloc ?_ _ | refine Sp.drewN ?_ _ | refine Sp.drew ?_)) hb15
              have Sr_15 : Hid (Sp w15 Ar cr (cano L)) := Sp.below (by repeat (first | exact Sr_14.out | refine Sp.alloc ?_ _ | refine Sp.drewN ?_ _ | refine Sp.drew ?_)) hb15
              have zbz_15 : b < w15.heap.size := World.block_lt_of_cell? w15 ⟨b, 0, none⟩ bz_15
              have zbs_15 : w4.heap.size < w15.heap.size := World.block_lt_of_cell? w15 ⟨w4.heap.size, 0, none⟩ bs_15
              rw [HHB.out]
              clear bz_14 bs_14 Sz_14 Ss_14 Sa_14 Sp_14 Sr_14 HB_14 zbz_14 zbs_14 hb15
              go_wp2_with fail
              go_ret
              exact ⟨ret_bool (by simp), HB_15.out⟩
end Go.Proofs.YtdomakklbcpnjaaDoor
