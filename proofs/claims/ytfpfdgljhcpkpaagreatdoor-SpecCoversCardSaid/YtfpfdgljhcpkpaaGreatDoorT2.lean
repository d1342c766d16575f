/- Contract of spec's Fold. -/
import Derived.Test.YtfpfdgljhcpkpaaGreatDoorT1
namespace Go.Proofs.YtfpfdgljhcpkpaaGreatDoor
open Go.RowKit Go.Shelf Go.Sort

theorem Tryz.foldInfo : (Tryz.prog.info? 169).map (fun i => (i.zero, i.size, i.bytes)) = some (some (.agg #[.int .i64 0, .int .i64 0, .int .i64 0]), 3, 24) := by kernel_rfl
theorem made_fe (n : Nat) : (madeCells (Value.agg #[.int .i64 0, .int .i64 0, .int .i64 0]).cells (n * 3)).toList = feCells (List.replicate n ((0, 0), 0)) := by
  refine List.ext_getElem? fun j => ?_
  by_cases hj : j < n * 3
  · have hk : (List.replicate n (((0, 0), 0) : FE))[j / 3]? = some ((0, 0), 0) := by
      rw [List.getElem?_replicate, if_pos (by omega)]
    obtain ⟨a, b, c⟩ := feCells_at _ _ _ hk
    have hm : j % 3 = 0 ∨ j % 3 = 1 ∨ j % 3 = 2 := by omega
    have e : (madeCells (Value.agg #[.int .i64 0, .int .i64 0, .int .i64 0]).cells (n * 3)).toList[j]? = some (.int .i64 0) := by
      have hc : (Value.agg #[.int .i64 0, .int .i64 0, .int .i64 0]).cells = #[.int .i64 0, .int .i64 0, .int .i64 0] := rfl
      rw [hc]
      simp [madeCells, hj]
      rcases hm with h | h | h <;> rw [h] <;> rfl
    rw [e]
    rcases hm with h | h | h
    · rw [show j / 3 * 3 = j from by omega] at a; exact a.symm
    · rw [show j / 3 * 3 + 1 = j from by omega] at b; exact b.symm
    · rw [show j / 3 * 3 + 2 = j from by omega] at c; exact c.symm
  · rw [List.getElem?_eq_none (by simp [madeCells]; omega), List.getElem?_eq_none (by rw [feCells_length]; simp; omega)]
theorem wplF_append {w0 w : World} {ops : Array Oper} {rest : List Oper} {o : Oper} {a : Act} {Q : Exit → Act → World → Prop} (hgd : o.guard = none) (s x : Operand)
    (ho : o.op = .call { callee := .builtin .append, args := #[s, x], argTypes := #[167, 167] })
    (A : Option Addr) (c : Nat) (L : List FE) (hs : a.eval s = .slice A L.length c) (hown : OwnF w w0.heap.size A c L)
    (g : Nat) (y : FE) (hx : a.eval x = .slice (some ⟨g, 0, none⟩) 1 1) (hc : w.cell? ⟨g, 0, none⟩ = some (.int .i64 y.1.1)) (hc' : w.cell? ⟨g, 1, none⟩ = some (.int .i64 y.1.2)) (hc2 : w.cell? ⟨g, 2, none⟩ = some (.int .i64 (y.2 : Int)))
    (hl : L.length ≤ 2000000) (hbel : Below w0.heap.size w0 w)
    (h : ∀ A' c' w', OwnF w' w0.heap.size A' c' (L ++ [y]) → Below w0.heap.size w0 w' → wpList Tryz.prog ops Q rest (a.put o.dst (.slice A' (L.length + 1) c')) w') : wpList Tryz.prog ops Q (o :: rest) a w := by
  obtain ⟨i0, hi, hz0, hz1, hz2⟩ := info_parts Tryz.foldInfo
  refine wpList_append_own w hgd s x _ ho w0.heap.size 169 i0 _ 3 24 Tryz.underlying167 hi hz0 hz1 hz2 rfl (by decide) _ _ _ hs hown ⟨g, 0, none⟩ 1 1 (encF y) hx rfl ?_ ?_ (by simp only [maxLen]; omega) (by omega) hbel.size ?_
  · intro j u hj
    have hadd : ∀ j, (⟨g, 0, none⟩ : Addr).add j = ⟨g, j, none⟩ := fun j => by unfold Addr.add; split <;> simp_all
    rw [hadd]
    match j, hj with
    | 0, hj => simp [encF] at hj; rw [← hj]; exact hc
    | 1, hj => simp [encF] at hj; rw [← hj]; exact hc'
    | 2, hj => simp [encF] at hj; rw [← hj]; exact hc2
    | j + 3, hj => simp [encF] at hj
  · intro u hu
    simp [encF] at hu
    rcases hu with rfl | rfl | rfl <;> rfl
  · intro v' w' h1 h2 _
    have hlt := World.ownsRow.lt hown
    have hbel' : Below w0.heap.size w0 w' := hbel.grown h2 hbel.size (fun k hk => (hlt k hk).1)
    have hlen : (L ++ [y]).length = L.length + 1 := by simp
    have hsp : feCells L ++ encF y = feCells (L ++ [y]) := by rw [feCells_append]; simp [feCells]
    rw [hsp] at h1
    have hform : ∃ A' c', v' = .slice A' (L.length + 1) c' := by
      rcases h1.2 with ⟨_, hn⟩ | ⟨g', cap, cur, hv, _⟩
      · omega
      · exact ⟨_, _, hv⟩
    obtain ⟨A', c', rfl⟩ := hform
    exact h A' c' w' (by unfold OwnF; rw [hlen]; exact h1) hbel'
/-- The first k spans with their places, and nothing yet behind. -/
def upTo (L : List (Int × Int)) (k : Nat) : List FE := L.zipIdx.take k ++ List.replicate (L.length - k) ((0, 0), 0)
theorem upTo_length (L : List (Int × Int)) {k : Nat} (h : k ≤ L.length) : (upTo L k).length = L.length := by unfold upTo; simp; omega
theorem upTo_zero (L : List (Int × Int)) : upTo L 0 = List.replicate L.length ((0, 0), 0) := by simp [upTo]
theorem upTo_all (L : List (Int × Int)) : upTo L L.length = L.zipIdx := by simp [upTo]; exact List.take_of_length_le (by simp)
theorem upTo_step (L : List (Int × Int)) {k : Nat} (h : k < L.length) : (upTo L k).set k (L[k], k) = upTo L (k + 1) := by
  refine List.ext_getElem? fun j => ?_
  unfold upTo
  rw [List.getElem?_set]
  by_cases hj : k = j
  · subst hj
    have : k < (List.take k L.zipIdx ++ List.replicate (L.length - k) (((0, 0), 0) : FE)).length := by simp; omega
    rw [if_pos rfl, if_pos this, List.getElem?_append_left (by simp; omega), List.getElem?_take_of_lt (by omega)]
    simp [h]
  · rw [if_neg hj]
    by_cases hl : j < k
    · rw [List.getElem?_append_left (by simp; omega), List.getElem?_append_left (by simp; omega), List.getElem?_take_of_lt hl, List.getElem?_take_of_lt (by omega)]
    · rw [List.getElem?_append_right (by simp; omega), List.getElem?_append_right (by simp; omega)]
      simp [List.getElem?_replicate]
      split <;> split <;> first | rfl | omega
theorem OwnF.drew {w : World} {base : Nat} {A : Option Addr} {c : Nat} {L : List FE} (h : OwnF w base A c L) : OwnF w.drew base A c L := World.ownsRow.drew h
theorem OwnF.drewN {w : World} {base : Nat} {A : Option Addr} {c : Nat} {L : List FE} (h : OwnF w base A c L) (n : Nat) : OwnF (w.drewN n) base A c L := h
theorem OwnF.last2 {w : World} {base g c : Nat} {init : List FE} {l : FE} (h : OwnF w base (some ⟨g, 0, none⟩) c (init ++ [l])) (a : Int) (b : Nat) : OwnF ((w.setCell ⟨g, init.length * 3 + 1, none⟩ (.int .i64 a)).setCell ⟨g, init.length * 3 + 2, none⟩ (.int .i64 (b : Int))) base (some ⟨g, 0, none⟩) c (init ++ [((l.1.1, a), b)]) := by
  have h3 := (World.ownsRow.stored ((World.ownsRow.stored h (init.length * 3 + 1) (.int .i64 a)).1) (init.length * 3 + 2) (.int .i64 (b : Int))).1
  unfold OwnF
  have e : feCells (init ++ [((l.1.1, a), b)]) = ((feCells (init ++ [l])).set (init.length * 3 + 1) (.int .i64 a)).set (init.length * 3 + 2) (.int .i64 (b : Int)) := by
    rw [feCells_append, feCells_append, List.set_append_right _ _ (by rw [feCells_length]; omega), List.set_append_right _ _ (by rw [feCells_length]; omega), feCells_length]
    rw [show init.length * 3 + 1 - init.length * 3 = 1 from by omega, show init.length * 3 + 2 - init.length * 3 = 2 from by omega]
    rfl
  have e2 : (init ++ [((l.1.1, a), b)]).length = (init ++ [l]).length := by simp
  rw [e, e2]
  exact h3
theorem nil_or_snocF (L : List FE) : L = [] ∨ ∃ init l, L = init ++ [l] := by
  rcases List.eq_nil_or_concat L with h | ⟨i, l, h⟩
  · exact .inl h
  · exact .inr ⟨i, l, by rw [h, List.concat_eq_append]⟩
/-- What is asked of the first sort. -/
def SortsF (n : Nat) : Prop := ∀ (w0 w : World) (g c : Nat) (M : List FE), OwnF w w0.heap.size (some ⟨g, 0, none⟩) c M → w0.heap.size ≤ g → g < w.heap.size → Below w0.heap.size w0 w → M.length = n →
    Calls Tryz.prog 88 #[.slice (some ⟨g, 0, none⟩) M.length c, .func (.func 89) #[] #[]] w (SortFPost (fun a b => a.1.1 ≤ b.1.1) (some ⟨g, 0, none⟩) M w0)
theorem sortsF_few {n : Nat} (h : n ≤ 19) : SortsF n := fun _ _ _ _ _ h1 h2 h3 h4 h5 => stableS_few h1 h2 h3 h4 (by omega)
/-- The folded spans of a list. -/
def FoldPost (g : Int) (L : List (Int × Int)) (w : World) (e : Ending) (w' : World) : Prop := ∃ O, Folded g L O ∧ RetSp (O.map Prod.fst) w e w'
set_option maxHeartbeats 8000000 in
set_option maxRecDepth 100000 in
theorem sFold_any (A : Option Addr) (c : Nat) (L : List (Int × Int)) (gap : Int) (w : World) (h : Sp w A c L) (hL : ∀ x ∈ L, 0 ≤ x.1 ∧ x.1 < x.2 ∧ x.2 ≤ 4611686018427387904) (hl : L.length ≤ 1000) (hS : SortsF L.length) :
    Calls Tryz.prog 45 #[.slice A L.length c, .int .i64 gap] w (FoldPost (max gap 0) L w) := by
  have H := Lib.hid h
  have HL := Lib.hid hL
  have HS := Lib.hid hS
  clear h hL hS
  obtain ⟨i0, hi, hz0, hz1, hz2⟩ := info_parts Tryz.foldInfo
  go_enter Tryz.func45, Tryz.ntmps45
  go_wp2_with (at_make; refine wpList_make_full w rfl (.tmp 18) (.tmp 18) 167 rfl w.heap.size 169 i0 _ 3 Tryz.underlying167 hi hz0 hz1 .i64 .i64 _ _ L.length rfl rfl rfl rfl (by rw [hz2]; omega) (by simp only [maxLen]; omega) (Nat.le_refl _) ?_; intro w2 hown2 hg2)
  have h0 : OwnF w2 w.heap.size (some ⟨w.heap.size, 0, none⟩) L.length (upTo L 0) := by
    unfold OwnF
    rw [upTo_zero, List.length_replicate, ← made_fe]
    exact hown2
  have HO0 := Lib.hid h0
  have HB0 : Hid (Below w.heap.size w w2) := (Below.refl _ w).grown hg2 (Nat.le_refl _) (fun k hk => by cases hk)
  clear hown2 hg2 h0 hi hz0 hz1 hz2
  go_loopw [6, 7, 22] (fun _ _ i wr => ∃ k : Nat, k ≤ L.length ∧ i = .int .i64 k ∧ OwnF wr w.heap.size (some ⟨w.heap.size, 0, none⟩) L.length (upTo L k) ∧ Below w.heap.size w wr) (fun _ _ i _ => L.length - (intOf i).toNat)
  case atStart => exact ⟨0, Nat.zero_le _, rfl, HO0.out, HB0.out⟩
  case round =>
    clear HO0 HB0
    obtain ⟨k, hk, rfl, ho, hbw⟩ := hrel
    have HO := Lib.hid ho
    have HB := Lib.hid hbw
    clear ho hbw
    by_cases hlt : k < L.length
    · obtain ⟨b, off, e, hb, c1, c2⟩ := (H.out.below HB.out).at_ hlt
      have hul := upTo_length L hk
      obtain ⟨d1, d2, d3⟩ := HO.out.cells (k := k) (by omega)
      generalize (upTo L k)[k]'(by omega) = y at d1 d2 d3
      have f1 : wr.frozen? ⟨w.heap.size, k * 3, none⟩ = false := World.ownsRow.frozenAt HO.out _
      have f2 : wr.frozen? ⟨w.heap.size, k * 3 + 1, none⟩ = false := World.ownsRow.frozenAt HO.out _
      have f3 : wr.frozen? ⟨w.heap.size, k * 3 + 2, none⟩ = false := World.ownsRow.frozenAt HO.out _
      have hz : w.heap.size < wr.heap.size := World.block_lt_of_cell? wr ⟨w.heap.size, k * 3, none⟩ d1
      have hst := HO.out.put k (L[k], k)
      rw [upTo_step L hlt] at hst
      have HST := Lib.hid hst
      obtain ⟨⟨x1, x2⟩, hx⟩ : ∃ x, L[k] = x := ⟨_, rfl⟩
      rw [hx] at c1 c2 HST
      clear hx hst hul
      rw [e]
      go_wp2_with fail
      go_roundw
      case rel => exact ⟨k + 1, by omega, by go_num, HST.out.alloc _, bel_alloc (bel_set (bel_set (bel_set HB.out (by simp) _) (by simp) _) (by simp) _) _⟩
      case measure => simp [intOf]; omega
    · obtain rfl : k = L.length := by omega
      have ho := HO.out
      rw [upTo_all] at ho
      have hs := HS.out w wr w.heap.size L.length L.zipIdx ho (Nat.le_refl _) (World.ownsRow.lt ho _ rfl).2 HB.out (by simp)
      rw [List.length_zipIdx] at hs
      have HSC := Lib.hid hs
      clear hs ho HO hk hlt
      go_wp2_with fail
      refine HSC.out.mono ?_
      rintro e w1 ⟨rfl, M, hp, hs, hsp, hb1⟩
      have hml : M.length = L.length := by rw [hp.length_eq, List.length_zipIdx]
      have HSW : Hid (Sweeps (max gap 0) L [] M) := Sweeps.start (fun x hx => (HL.out x hx).2.1) (by omega) hp hs
      have HSP := Lib.hid hsp
      have HB1 := Lib.hid hb1
      clear hp hs hsp hb1 HSC HB
      go_wp2_with fail
      go_loopw [8, 10, 11, 38] (fun v _ _ i wr => ∃ (k : Nat) (A' : Option Addr) (c' : Nat) (one : List FE), k ≤ M.length ∧ i = .int .i64 k ∧ v = .slice A' one.length c' ∧ OwnF wr w1.heap.size A' c' one ∧ Below w1.heap.size w1 wr ∧ Sweeps (max gap 0) L one (M.drop k) ∧ one.length ≤ k) (fun _ _ _ i _ => M.length - (intOf i).toNat)
      case atStart => exact ⟨0, none, 0, [], Nat.zero_le _, rfl, rfl, OwnF.nil _ _, Below.refl _ _, by simpa using HSW.out, Nat.le_refl _⟩
      case round =>
        clear HSW
        obtain ⟨k, A', c', one, hk, rfl, rfl, ho, hbw, hsw, hol⟩ := hrel
        have HO := Lib.hid ho
        have HB := Lib.hid hbw
        have HSW := Lib.hid hsw
        clear ho hbw hsw
        by_cases hlt : k < M.length
        · obtain ⟨b, off, e, hb, c1, c2, c3⟩ := (HSP.out.below HB.out).at' k hlt
          have hsw := HSW.out
          rw [List.drop_eq_getElem_cons hlt] at hsw
          have hfm : M[k] ∈ one ++ M[k] :: M.drop (k + 1) := List.mem_append_right _ (List.mem_cons_self ..)
          have hfb : 0 ≤ (M[k]).1.1 ∧ (M[k]).1.2 ≤ 4611686018427387904 ∧ (M[k]).1.1 < (M[k]).1.2 := by
            have h0 := hsw.folds.wide (fun x hx => (HL.out x hx).2.1) hfm
            obtain ⟨x, hx, _, e1⟩ := hsw.folds.lo _ hfm
            obtain ⟨y, hy, _, e2⟩ := hsw.folds.hi _ hfm
            have := HL.out x hx; have := HL.out y hy; omega
          obtain ⟨⟨⟨x1, x2⟩, xp⟩, hx⟩ : ∃ x, M[k] = x := ⟨_, rfl⟩
          rw [hx] at c1 c2 c3 hsw hfb
          have HSW' := Lib.hid hsw
          clear hx hsw hfm HSW
          injection e with e
          injection e with eb eo _
          subst eb
          subst eo
          rw [Nat.zero_add] at c1 c2 c3
          rcases nil_or_snocF one with rfl | ⟨init, l, rfl⟩
          · go_wp2_with fail
            go_quiet (fail)
            go_wp2_with (at_builtin; refine wplF_append (w0 := w1) rfl (.tmp 92) (.tmp 94) rfl A' c' [] rfl (by repeat (first | exact HO.out | refine OwnF.alloc ?_ _ | refine OwnF.drewN ?_ _ | refine OwnF.drew ?_)) _ ((x1, x2), xp) rfl (by simp [go_sem]) (by simp [go_sem]) (by simp [go_sem]) (by simp) (by repeat (first | exact HB.out | refine bel_alloc ?_ _ | refine bel_drewN ?_ _ | refine bel_drew ?_)) ?_; intro A2 c2' w4 hown4 hb4)
            go_roundw
            case rel => exact ⟨k + 1, A2, c2', [((x1, x2), xp)], by omega, by go_num, by simp, hown4, hb4, HSW'.out.first, by simp⟩
            case measure => simp [intOf]; omega
          · obtain ⟨g1, rfl, hg1, hg2⟩ := HO.out.at_ (by simp)
            obtain ⟨d1, d2, d3⟩ := HO.out.cells (k := init.length) (by simp)
            have el : (init ++ [l])[init.length]'(by simp) = l := by simp
            rw [el] at d1 d2 d3
            have f2 : wr.frozen? ⟨g1, init.length * 3 + 1, none⟩ = false := World.ownsRow.frozenAt HO.out _
            have f3 : wr.frozen? ⟨g1, init.length * 3 + 2, none⟩ = false := World.ownsRow.frozenAt HO.out _
            have hlm : l ∈ (init ++ [l]) ++ ((x1, x2), xp) :: M.drop (k + 1) := by simp
            have hlb : 0 ≤ l.1.1 ∧ l.1.1 < l.1.2 ∧ l.1.2 ≤ 4611686018427387904 := by
              have h0 := HSW'.out.folds.wide (fun x hx => (HL.out x hx).2.1) hlm
              obtain ⟨x, hx, _, e1⟩ := HSW'.out.folds.lo _ hlm
              obtain ⟨y, hy, _, e2⟩ := HSW'.out.folds.hi _ hlm
              have := HL.out x hx; have := HL.out y hy; omega
            have hj := HSW'.out.join (fun x hx => (HL.out x hx).2.1) (by omega)
            have hp := HSW'.out.push (fun x hx => (HL.out x hx).2.1) (by omega)
            have HJ := Lib.hid hj
            have HP := Lib.hid hp
            have hl2 := HO.out.last2 (max l.1.2 x2) (min l.2 xp)
            have HL2 := Lib.hid hl2
            simp only at hfb
            obtain ⟨⟨⟨l1, l2⟩, lp⟩, hle⟩ : ∃ y, l = y := ⟨_, rfl⟩
            subst hle
            have elen : ((init ++ [((l1, l2), lp)]).length : Nat) = init.length + 1 := by simp
            have HO' := Lib.hid HO.out
            obtain ⟨m, hm⟩ : ∃ m, init.length = m := ⟨_, rfl⟩
            rw [hm] at d1 d2 d3 f2 f3 HL2 elen
            simp only at d1 d2 d3 hlb HL2 HJ HP
            rw [elen] at hol ⊢
            obtain ⟨hlb1, hlb2, hlb3⟩ := hlb
            obtain ⟨hfb1, hfb2, hfb3⟩ := hfb
            have hfb4 : x1 ≤ 4611686018427387904 := by omega
            have HM := Lib.hid hm
            have HLEN := Lib.hid elen
            clear hj hp hl2 hlm el hm elen HO HSW'
            by_cases hn : x1 - l2 ≤ max gap 0
            · have hnb : decide (x1 - l2 ≤ max gap 0) = true := by simpa using hn
              have HJ' := Lib.hid (HJ.out hn)
              clear HJ HP
              go_wp2_with fail
              go_quiet (fail)
              go_wp2_with fail
              go_region
              go_wp2_with fail
              go_region
              go_wp2_with fail
              go_roundw
              case rel =>
                refine ⟨k + 1, some ⟨g1, 0, none⟩, c', init ++ [((l1, max l2 x2), min lp xp)], by omega, by go_num, by simp [HM.out], ?_, ?_, HJ'.out, by simp [HM.out]; omega⟩
                · have h1 := OwnF.last2 ((HO'.out.alloc (.cells #[.int .i64 x1, .int .i64 x2, .int .i64 (xp : Int)] 169)).drewN (nq + 1)) (max l2 x2) (min lp xp)
                  rw [HM.out, show ((min lp xp : Nat) : Int) = min (lp : Int) (xp : Int) by omega] at h1
                  exact h1.drew
                · exact bel_drew (bel_set (bel_set (bel_drewN (bel_alloc HB.out _) _) hg1 _) hg1 _)
              case measure => simp [intOf]; omega
            · have hnb : decide (x1 - l2 ≤ max gap 0) = false := by simpa using hn
              have HP' := Lib.hid (HP.out hn)
              clear HJ HP
              go_wp2_with fail
              go_quiet (fail)
              go_wp2_with (at_builtin; refine wplF_append (w0 := w1) rfl (.tmp 92) (.tmp 94) rfl (some ⟨g1, 0, none⟩) c' (init ++ [((l1, l2), lp)]) (by rw [HLEN.out]; rfl) (by repeat (first | exact HO'.out | refine OwnF.alloc ?_ _ | refine OwnF.drewN ?_ _ | refine OwnF.drew ?_)) _ ((x1, x2), xp) rfl (by simp [go_sem]) (by simp [go_sem]) (by simp [go_sem]) (by rw [HLEN.out]; omega) (by repeat (first | exact HB.out | refine bel_alloc ?_ _ | refine bel_drewN ?_ _ | refine bel_drew ?_)) ?_; intro A2 c2' w4 hown4 hb4)
              go_roundw
              case rel => exact ⟨k + 1, A2, c2', (init ++ [((l1, l2), lp)]) ++ [((x1, x2), xp)], by omega, by go_num, by simp, hown4, hb4, HP'.out, by have := HM.out; simp; omega⟩
              case measure => simp [intOf]; omega
        · obtain rfl : k = M.length := by omega
          have hsw := HSW.out
          rw [List.drop_length] at hsw
          have HSW' := Lib.hid hsw
          have HSP2 := Lib.hid (sortP_any HO.out HB.out (by omega))
          clear HSW hsw hlt hk HB HO
          go_wp2_with fail
          refine HSP2.out.mono ?_
          rintro e w3 ⟨rfl, M2, hp2, hs2, hsp2, hb3⟩
          have hml2 : M2.length = one.length := hp2.length_eq
          have HF : Hid (Folded (max gap 0) L M2) := HSW'.out.done (fun x hx => (HL.out x hx).2.1) (by omega) hp2 hs2
          have HSP3 := Lib.hid hsp2
          have HB3 := Lib.hid (hb3.mono HB1.out.size)
          have HBW : Hid (Below w.heap.size w w3) := HB1.out.trans HB3.out
          clear hp2 hs2 hsp2 hb3 HSP2 HSW' HSP
          go_wp2_with fail
          go_loopw [12, 14, 101] (fun v _ i wr => ∃ (k : Nat) (A2 : Option Addr) (c2 : Nat), k ≤ M2.length ∧ i = .int .i64 k ∧ v = .slice A2 k c2 ∧ Own wr w3.heap.size A2 c2 ((M2.take k).map Prod.fst) ∧ Below w3.heap.size w3 wr) (fun _ _ i _ => M2.length - (intOf i).toNat)
          case atStart => exact ⟨0, none, 0, Nat.zero_le _, rfl, rfl, Own.nil _ _, Below.refl _ _⟩
          case round =>
            obtain ⟨k, A2, c2, hk, rfl, rfl, ho, hbw⟩ := hrel
            have HO := Lib.hid ho
            have HB := Lib.hid hbw
            clear ho hbw
            by_cases hlt : k < M2.length
            · obtain ⟨b, off, e, hb, d1, d2, d3⟩ := (HSP3.out.below HB.out).at' k hlt
              have HN : Hid ((M2.take (k + 1)).map Prod.fst = (M2.take k).map Prod.fst ++ [(M2[k]).1]) := by
                simp only [Hid]; rw [List.take_succ_eq_append_getElem hlt, List.map_append]; rfl
              have hgl : ((M2.take k).map Prod.fst).length = k := by simp; omega
              obtain ⟨G, hG⟩ : ∃ G, (M2.take k).map Prod.fst = G := ⟨_, rfl⟩
              rw [hG] at HO HN hgl
              obtain ⟨⟨⟨x1, x2⟩, xp⟩, hx⟩ : ∃ x, M2[k] = x := ⟨_, rfl⟩
              rw [hx] at d1 d2 d3 HN
              clear hx hG
              have HO' := HO
              have HGL := Lib.hid hgl
              clear HO hgl
              rw [e]
              go_wp2_with (at_builtin; refine wpl_append (w0 := w3) rfl (.tmp 105) (.tmp 108) rfl A2 c2 G (by rw [HGL.out]; rfl) (by exact (HO'.out.alloc _).alloc _) _ x1 x2 rfl (by first | exact cell_new0 _ _ _ _ | simp [go_sem]) (by first | exact cell_new1 _ _ _ _ | simp [go_sem]) (by rw [HGL.out]; omega) (by exact bel_alloc (bel_alloc HB.out _) _) ?_; intro A5 c5 w5 hown5 hbw5 _)
              go_roundw
              case rel => exact ⟨k + 1, A5, c5, by omega, by go_num, by rw [HGL.out], by rw [HN.out]; exact hown5, hbw5⟩
              case measure => simp [intOf]; omega
            · obtain rfl : k = M2.length := by omega
              have hO := HO.out
              rw [List.take_length] at hO
              have HO' := Lib.hid hO
              clear hO HO
              go_wp2
              go_ret
              exact ⟨M2, HF.out, A2, c2, by simp, HO'.out.base_le HBW.out.size, bel_chain HB.out HBW.out⟩
end Go.Proofs.YtfpfdgljhcpkpaaGreatDoor
