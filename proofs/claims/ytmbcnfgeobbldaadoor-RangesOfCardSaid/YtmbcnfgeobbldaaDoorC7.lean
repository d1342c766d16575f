/- All spans of a set, one by one, gathered: RangesOf. -/
import Derived.Test.YtmbcnfgeobbldaaDoorC6
namespace Go.Proofs.YtmbcnfgeobbldaaDoor
open Go.RowKit

theorem Sp.grownC {w w' : World} {A : Option Addr} {c : Nat} {L : List (Int × Int)} {po : Nat} (h : Sp w A c L) (hne : 0 < L.length → OffB A po) (hg : w.grownBy w' (some po)) : Sp w' A c L :=
  ⟨h.le, h.nil_, fun hn => (h.grown (hne hn) hg).at' hn⟩
/-- A slice lies in blocks that are there. -/
theorem Sp.off_ge {w : World} {A : Option Addr} {c : Nat} {L : List (Int × Int)} {X : Nat} (h : Sp w A c L) (hX : w.heap.size ≤ X) (hl : 0 < L.length) : OffB A X := by
  obtain ⟨b, off, e, hb, _⟩ := h.at' hl
  intro a ha
  rw [e] at ha
  injection ha with ha
  subst ha
  show b ≠ X
  omega

/-- append of one span to a row of the call's own, blocks below B left alone. -/
theorem wpl_appendG {B : Nat} {w : World} {ops : Array Oper} {rest : List Oper} {o : Oper} {a : Act} {Q : Exit → Act → World → Prop} (hgd : o.guard = none) (s x : Operand)
    (ho : o.op = .call { callee := .builtin .append, args := #[s, x], argTypes := #[22, 22] })
    (A : Option Addr) (c : Nat) (L : List (Int × Int)) (hs : a.eval s = .slice A L.length c) (hown : Own w B A c L)
    (g : Nat) (x1 x2 : Int) (hx : a.eval x = .slice (some ⟨g, 0, none⟩) 1 1) (hc : w.cell? ⟨g, 0, none⟩ = some (.int .i64 x1)) (hc' : w.cell? ⟨g, 1, none⟩ = some (.int .i64 x2))
    (hl : L.length ≤ 2000000) (hB : B ≤ w.heap.size)
    (h : ∀ A' c' w', Own w' B A' c' (L ++ [(x1, x2)]) → w.heap.size ≤ w'.heap.size → (∀ k, k < B → w'.heap[k]? = w.heap[k]?) → w'.os = w.os → w'.tape = w.tape → w'.output = w.output → wpList Tryd.prog ops Q rest (a.put o.dst (.slice A' (L.length + 1) c')) w') : wpList Tryd.prog ops Q (o :: rest) a w := by
  obtain ⟨i0, hi, hz0, hz1, hz2⟩ := info_parts Tryd.spanInfo
  refine wpList_append_own w hgd s x _ ho B 29 i0 _ 2 16 Tryd.underlying22 hi hz0 hz1 hz2 rfl (by decide) _ _ _ hs hown ⟨g, 0, none⟩ 1 1 [.int .i64 x1, .int .i64 x2] hx rfl ?_ ?_ (by simp only [maxLen]; omega) (by omega) hB ?_
  · intro j u hj
    have hadd : ∀ j, (⟨g, 0, none⟩ : Addr).add j = ⟨g, j, none⟩ := fun j => by unfold Addr.add; split <;> simp_all
    rw [hadd]
    match j, hj with
    | 0, hj => simp at hj; rw [← hj]; exact hc
    | 1, hj => simp at hj; rw [← hj]; exact hc'
    | j + 2, hj => simp at hj
  · intro u hu
    simp at hu
    rcases hu with rfl | rfl <;> rfl
  · intro v' w' h1 h2 _
    have hlt := World.ownsRow.lt hown
    have hlen : (L ++ [(x1, x2)]).length = L.length + 1 := by simp
    have hsp : spCells L ++ [.int .i64 x1, .int .i64 x2] = spCells (L ++ [(x1, x2)]) := by rw [spCells_append]; rfl
    rw [hsp] at h1
    have hform : ∃ A' c', v' = .slice A' (L.length + 1) c' := by
      rcases h1.2 with ⟨_, hn⟩ | ⟨g', cap, cur, hv, _⟩
      · omega
      · exact ⟨_, _, hv⟩
    obtain ⟨A', c', rfl⟩ := hform
    exact h A' c' w' (by unfold Own; rw [hlen]; exact h1) h2.size (fun k hk => h2.block k (by omega) (fun e => by have := (hlt k e.symm).1; omega)) h2.os h2.tape h2.output

/-- What the function that gathers leaves. -/
def GatPost (w0 : World) (po : Nat) (D : List (Int × Int)) (n : Nat) (e : Ending) (w' : World) : Prop :=
  ∃ A c, e = .returned (.bool (decide (D.length ≤ n))) ∧ w'.cell? ⟨po, 0, none⟩ = some (.slice A D.length c) ∧ w'.frozen? ⟨po, 0, none⟩ = false ∧ Own w' w0.heap.size A c D ∧ w0.grownBy w' (some po)

set_option maxHeartbeats 2000000 in
theorem of1c_any (x1 x2 : Int) (po pw : Nat) (A : Option Addr) (c : Nat) (D : List (Int × Int)) (Aw : Option Addr) (n cw : Nat) (w0 w : World) (hg : w0.grownBy w (some po)) (hpo : po < w0.heap.size) (hpw : pw < w0.heap.size) (hne : pw ≠ po)
    (h : w.cell? ⟨po, 0, none⟩ = some (.slice A D.length c)) (hf : w.frozen? ⟨po, 0, none⟩ = false) (hown : Own w w0.heap.size A c D) (hw : w0.cell? ⟨pw, 0, none⟩ = some (.slice Aw n cw)) (hl : D.length ≤ 100000) (hn : n ≤ 1000000) :
    Calls Tryd.prog 34 #[.agg #[.int .i64 x1, .int .i64 x2], .pointer (some ⟨po, 0, none⟩), .pointer (some ⟨pw, 0, none⟩)] w (GatPost w0 po (D ++ [(x1, x2)]) n) := by
  have HG := Lib.hid hg
  have HO := Lib.hid hown
  have hz := hg.size
  have hcw := (cell_grown hg hpw hne).trans hw
  have l1 : po < w.heap.size := by omega
  have l2 : pw < w.heap.size := by omega
  have HC0 := Lib.hid hw
  have hl1 : (D ++ [(x1, x2)]).length = D.length + 1 := by simp
  have HL1 := Lib.hid hl1
  clear hg hown hw hl1
  go_enter Tryd.func34, Tryd.ntmps34
  go_wp2_with (at_builtin; refine wpl_appendG (B := w0.heap.size) rfl (.tmp 5) (.tmp 7) rfl A c D rfl (by exact (HO.out.alloc _).alloc _) _ x1 x2 rfl (by first | exact cell_new0 _ _ _ _ | simp [go_sem]) (by first | exact cell_new1 _ _ _ _ | simp [go_sem]) (by omega) (by simp; omega) ?_; intro A2 c2 w2 hown2 hsz2 hbl2 hos2 htp2 hout2; have HO2 := Lib.hid hown2; have HB2 := Lib.hid hbl2; have HX := Lib.hid (And.intro hos2 (And.intro htp2 hout2)); have r0 : w2.cell? ⟨po, 0, none⟩ = some (.slice A D.length c) := (World.cell?_of_block (a := ⟨po, 0, none⟩) (hbl2 po hpo)).trans (cell_keep (W := w) (by (repeat (first | exact Below.refl _ _ | refine bel_drewN ?_ _ | refine bel_drew ?_ | refine bel_alloc ?_ _ | refine bel_set ?_ (by simp) _))) h); have f0 : w2.frozen? ⟨po, 0, none⟩ = false := (World.frozen?_of_block (a := ⟨po, 0, none⟩) (hbl2 po hpo)).trans (frozen_keep (W := w) (by (repeat (first | exact Below.refl _ _ | refine bel_drewN ?_ _ | refine bel_drew ?_ | refine bel_alloc ?_ _ | refine bel_set ?_ (by simp) _))) l1 hf); have r1 : w2.cell? ⟨pw, 0, none⟩ = some (.slice Aw n cw) := (World.cell?_of_block (a := ⟨pw, 0, none⟩) (hbl2 pw hpw)).trans (cell_keep (W := w) (by (repeat (first | exact Below.refl _ _ | refine bel_drewN ?_ _ | refine bel_drew ?_ | refine bel_alloc ?_ _ | refine bel_set ?_ (by simp) _))) hcw); have lz : po < w2.heap.size := World.block_lt_of_cell? w2 ⟨po, 0, none⟩ r0; clear hown2 hbl2 hos2 htp2 hout2 h hf hcw)
  go_ret
  have G2 : w0.grownBy w2 (some po) := ⟨HX.out.1.trans HG.out.os, HX.out.2.1.trans HG.out.tape, HX.out.2.2.trans HG.out.output, by simp at hsz2; omega, fun k hk hne' => (HB2.out k hk).trans ((Below.heap_alloc _ _ k (by simp; omega)).trans ((Below.heap_alloc _ _ k (by omega)).trans (HG.out.block k hk hne')))⟩
  refine ⟨A2, c2, ?_, ?_, ?_, ?_, ?_⟩
  · exact ret_bool (by rw [HL1.out]; rw [Bool.eq_iff_iff]; simp; try omega)
  · rw [HL1.out]; simp [go_sem, r0]
  · simp [go_sem, f0]
  · exact ownsRow_setCell_below HO2.out (by exact hpo) _
  · exact grown_set (p := ⟨po, 0, none⟩) G2 _

/-- What is left behind All, gathered. -/
def AllPost (L : List (Int × Int)) (po : Nat) (w : World) (e : Ending) (w' : World) : Prop :=
  ∃ A c, e = .returned (.tuple #[]) ∧ w'.cell? ⟨po, 0, none⟩ = some (.slice A L.length c) ∧ Own w' w.heap.size A c L ∧ w.grownBy w' (some po)

set_option maxHeartbeats 2000000 in
theorem allOf (A : Option Addr) (c : Nat) (L : List (Int × Int)) (bS po pw : Nat) (Aw : Option Addr) (cw : Nat) (w : World) (hS : w.cell? ⟨bS, 0, none⟩ = some (.slice A L.length c)) (h : Sp w A c L) (ha : w.cell? ⟨po, 0, none⟩ = some (.slice none 0 0)) (hf : w.frozen? ⟨po, 0, none⟩ = false) (hm : w.cell? ⟨pw, 0, none⟩ = some (.slice Aw L.length cw)) (hne : pw ≠ po) (hoff : 0 < L.length → OffB A po) (hl : L.length ≤ 90000) :
    Calls Tryd.prog 68 #[.func (.func 34) #[] #[.pointer (some ⟨po, 0, none⟩), .pointer (some ⟨pw, 0, none⟩)], .pointer (some ⟨bS, 0, none⟩)] w (AllPost L po w) := by
  have hH := Lib.hid h
  have HF := Lib.hid hoff
  have l1 : po < w.heap.size := World.block_lt_of_cell? w ⟨po, 0, none⟩ ha
  have l2 : pw < w.heap.size := World.block_lt_of_cell? w ⟨pw, 0, none⟩ hm
  have HA := Lib.hid ha
  have HFZ := Lib.hid hf
  have HM := Lib.hid hm
  clear h hoff ha hf hm
  go_enter Tryd.func68, Tryd.ntmps68
  go_wp2
  go_loopw [4, 8] (fun _ i wr => ∃ (k : Nat) (A' : Option Addr) (c' : Nat), k ≤ L.length ∧ i = .int .i64 k ∧ wr.cell? ⟨po, 0, none⟩ = some (.slice A' (L.take k).length c') ∧ wr.frozen? ⟨po, 0, none⟩ = false ∧ Own wr w.heap.size A' c' (L.take k) ∧ w.grownBy wr (some po)) (fun _ i _ => L.length - (intOf i).toNat)
  case atStart => exact ⟨0, none, 0, Nat.zero_le _, rfl, HA.out, HFZ.out, Own.nil _ _, World.grownBy.refl w _⟩
  case round =>
    obtain ⟨k, A', c', hk, rfl, hak, hfk, hown, hgr⟩ := hrel
    have HG := Lib.hid hgr
    have HO := Lib.hid hown
    have hsz := hgr.size
    clear hgr hown
    by_cases hlt : k < L.length
    · obtain ⟨b, off, e, hb, c1, c2⟩ := (hH.out.grown (HF.out (by omega)) HG.out).at_ hlt
      have HTK : Hid (L.take (k + 1) = L.take k ++ [L[k]]) := by simp only [Hid]; rw [List.take_add_one, List.getElem?_eq_getElem hlt]; rfl
      have hdl : (L.take k).length = k := by simp; omega
      obtain ⟨⟨x1, x2⟩, hx⟩ : ∃ x, L[k] = x := ⟨_, rfl⟩
      rw [hx] at c1 c2 HTK
      simp only at c1 c2
      clear hx
      subst e
      have HC := fun W (hg : w.grownBy W (some po)) h1 h2 (h3 : Own W w.heap.size A' c' (L.take k)) => Lib.hid (of1c_any x1 x2 po pw A' c' (L.take k) Aw L.length cw w W hg l1 l2 hne h1 h2 h3 HM.out (by omega) (by omega))
      have hd : decide ((L.take k ++ [(x1, x2)]).length ≤ L.length) = true := by simp; omega
      unfold GatPost at HC
      rw [hd, ← HTK.out] at HC
      clear hd hdl
      go_wp2_with fail
      refine (HC _ (by exact grown_alloc HG.out _) (by exact cell_keep (W := wr) (by (repeat (first | exact Below.refl _ _ | refine bel_drewN ?_ _ | refine bel_drew ?_ | refine bel_alloc ?_ _ | refine bel_set ?_ (by simp) _))) hak) (by exact frozen_keep (W := wr) (by (repeat (first | exact Below.refl _ _ | refine bel_drewN ?_ _ | refine bel_drew ?_ | refine bel_alloc ?_ _ | refine bel_set ?_ (by simp) _))) (by omega) hfk) (by exact HO.out.alloc _)).out.mono ?_
      rintro e w1 ⟨A1, c1', rfl, ha1, hf1, ho1, hg1⟩
      have HG1 := Lib.hid hg1
      have HO1 := Lib.hid ho1
      clear hg1 ho1 HC
      go_wp2_with fail
      go_roundw
      case rel => exact ⟨k + 1, A1, c1', by omega, by go_num, ha1, hf1, HO1.out, HG1.out⟩
      case measure => simp [intOf]; omega
    · have ht : L.take k = L := take_all hlt
      have hO := HO.out
      rw [ht] at hak hO
      have HO2 := Lib.hid hO
      clear hO ht
      go_wp2_with fail
      refine bodyPost_end (v := .tuple #[]) (by simp [results, Tryd.results68, go_sem]) rfl ?_
      exact ⟨A', c', rfl, hak, HO2.out, HG.out⟩

set_option maxHeartbeats 4000000 in
set_option maxRecDepth 100000 in
theorem rangesOf_any (A : Option Addr) (c : Nat) (L : List (Int × Int)) (w : World) (h : Sp w A c L) (hn : L.length ≤ 9223372036854775807) :
    Calls Tryd.prog 7 #[.slice A L.length c] w fun e w' => e = .returned (.bool true) ∧ Below w.heap.size w w' := by
  have Sa_0 := Lib.hid (h)
  clear h
  go_enter Tryd.func7, Tryd.ntmps7
  go_wp2_with fail
  refine (wakes_any _).mono ?_
  rintro e1 w1 ⟨rfl, hb1⟩
  have HB_1 : Hid (Below w.heap.size w w1) := bel_chain hb1 (by repeat (first | exact Below.refl _ _ | refine bel_drewN ?_ _ | refine bel_drew ?_ | refine bel_alloc ?_ _))
  have Sa_1 : Hid (Sp w1 A c (L)) := Sp.below (by repeat (first | exact Sa_0.out | refine Sp.alloc ?_ _ | refine Sp.drewN ?_ _ | refine Sp.drew ?_)) hb1
  clear Sa_0 hb1
  go_wp2_with fail
  refine (great1_b A L.length c _ _ (by simp [go_sem]) hn).mono ?_
  rintro e2 w2 ⟨rfl, hb2⟩
  have HB_2 : Hid (Below w.heap.size w w2) := bel_chain hb2 (by repeat (first | exact HB_1.out | refine bel_drewN ?_ _ | refine bel_drew ?_ | refine bel_alloc ?_ _))
  have Sa_2 : Hid (Sp w2 A c (L)) := Sp.below (by repeat (first | exact Sa_1.out | refine Sp.alloc ?_ _ | refine Sp.drewN ?_ _ | refine Sp.drew ?_)) hb2
  clear Sa_1 HB_1 hb2
  by_cases hg : 20 < L.length
  · have hgd : decide (20 < L.length) = true := by simpa using hg
    rw [hgd]
    go_wp2_with fail
    go_ret
    exact ⟨rfl, HB_2.out⟩
  · have hgd : decide (20 < L.length) = false := by simpa using hg
    rw [hgd]
    have hl : L.length ≤ 20 := by omega
    have hcl := cano_length L
    have HCC := Lib.hid (cano_canon L)
    clear hgd hg
    go_wp2_with fail
    refine (of_any A c L _ (by repeat (first | exact Sa_2.out | refine Sp.alloc ?_ _ | refine Sp.drewN ?_ _ | refine Sp.drew ?_)) (by omega)).mono ?_
    rintro e3 w3 ⟨As, cs, rfl, hs3, hb3⟩
    have HB_3 : Hid (Below w.heap.size w w3) := bel_chain hb3 (by repeat (first | exact HB_2.out | refine bel_drewN ?_ _ | refine bel_drew ?_ | refine bel_alloc ?_ _))
    have Sa_3 : Hid (Sp w3 A c (L)) := Sp.below (by repeat (first | exact Sa_2.out | refine Sp.alloc ?_ _ | refine Sp.drewN ?_ _ | refine Sp.drew ?_)) hb3
    have Ss_3 : Hid (Sp w3 As cs (cano L)) := hs3
    clear Sa_2 hs3 HB_2 hb3
    go_wp2_with fail
    refine (rOf_any A c L _ (by repeat (first | exact Sa_3.out | refine Sp.alloc ?_ _ | refine Sp.drewN ?_ _ | refine Sp.drew ?_)) (by omega)).mono ?_
    rintro e4 w4 ⟨Ax, cx, rfl, hs4, hb4⟩
    have HB_4 : Hid (Below w.heap.size w w4) := bel_chain hb4 (by repeat (first | exact HB_3.out | refine bel_drewN ?_ _ | refine bel_drew ?_ | refine bel_alloc ?_ _))
    have Sa_4 : Hid (Sp w4 A c (L)) := Sp.below (by repeat (first | exact Sa_3.out | refine Sp.alloc ?_ _ | refine Sp.drewN ?_ _ | refine Sp.drew ?_)) hb4
    have Ss_4 : Hid (Sp w4 As cs (cano L)) := Sp.below (by repeat (first | exact Ss_3.out | refine Sp.alloc ?_ _ | refine Sp.drewN ?_ _ | refine Sp.drew ?_)) hb4
    have bs_4 : w4.cell? ⟨w3.heap.size, 0, none⟩ = some (.slice As (cano L).length cs) := cell_keep hb4 (by simp [go_sem])
    have zbs_4 : w3.heap.size < w4.heap.size := World.block_lt_of_cell? w4 ⟨w3.heap.size, 0, none⟩ bs_4
    have Sx_4 : Hid (Sp w4 Ax cx (cano L)) := Own.sp hs4
    clear Sa_3 Ss_3 hs4 HB_3 hb4
    clear Sa_4
    have hz4 : w.heap.size ≤ w4.heap.size := HB_4.out.size
    generalize cano L = X at *
    go_wp2_with fail
    refine (all_any As X.length cs _).mono ?_
    rintro e5 w5 ⟨rfl, rfl⟩
    go_wp2_with fail
    refine (allOf As cs X (w4.heap.size + 1 + 1) (w4.heap.size + 1) w4.heap.size Ax cx _ (by simp [go_sem]) (((Ss_4.out.alloc _).alloc _).alloc _) (by simp [go_sem]) (by simp [go_sem]) (by simp [go_sem]) (by omega) (fun h0 => Ss_4.out.off_ge (by omega) h0) (by omega)).mono ?_
    rintro e6 w6 ⟨Ao, co, rfl, po_6, ho6, hg6⟩
    have bs_6 : w6.cell? ⟨w3.heap.size, 0, none⟩ = some (.slice As X.length cs) := (cell_grown hg6 (by simp; omega) (by omega)).trans (cell_keep (W := w4) (by (repeat (first | exact Below.refl _ _ | refine bel_drewN ?_ _ | refine bel_drew ?_ | refine bel_alloc ?_ _ | refine bel_set ?_ (by simp) _))) bs_4)
    have pw_6 : w6.cell? ⟨w4.heap.size, 0, none⟩ = some (.slice Ax X.length cx) := (cell_grown hg6 (by simp; omega) (by omega)).trans (by simp [go_sem])
    have Ss_6 : Hid (Sp w6 As cs X) := (((Ss_4.out.alloc _).alloc _).alloc _).grownC (fun h0 => Ss_4.out.off_ge (by omega) h0) hg6
    have Sx_6 : Hid (Sp w6 Ax cx X) := (((Sx_4.out.alloc _).alloc _).alloc _).grownC (fun h0 => Sx_4.out.off_ge (by omega) h0) hg6
    have So_6 : Hid (Sp w6 Ao co X) := Own.sp ho6
    have HB_6 : Hid (Below w.heap.size w w6) := Below.grown (bel_alloc (bel_alloc (bel_alloc HB_4.out _) _) _) hg6 (bel_alloc (bel_alloc (bel_alloc HB_4.out _) _) _).size (fun j hj => by injection hj with hj; omega)
    have zbs_6 : w3.heap.size < w6.heap.size := World.block_lt_of_cell? w6 ⟨w3.heap.size, 0, none⟩ bs_6
    have zpw_6 : w4.heap.size < w6.heap.size := World.block_lt_of_cell? w6 ⟨w4.heap.size, 0, none⟩ pw_6
    have zpo_6 : w4.heap.size + 1 < w6.heap.size := World.block_lt_of_cell? w6 ⟨w4.heap.size + 1, 0, none⟩ po_6
    have HLN := fun W A3 c3 h => Lib.hid (len_any A3 c3 X W h HCC.out (by omega))
    have HLR := fun W A3 c3 h => Lib.hid (rlen_b A3 c3 X W h HCC.out (by omega))
    generalize lenL X = ln at HLN HLR
    clear hg6 ho6 bs_4 zbs_4 Ss_4 Sx_4 HB_4
    have tok7 : True := trivial
    go_wp2_with fail
    go_region_held3 (fun w' => w'.cell? ⟨w3.heap.size, 0, none⟩ = some (.slice As X.length cs) ∧ w'.cell? ⟨w4.heap.size, 0, none⟩ = some (.slice Ax X.length cx) ∧ w'.cell? ⟨w4.heap.size + 1, 0, none⟩ = some (.slice Ao X.length co))
      (first | exact ⟨bs_11, pw_11, po_11⟩ | exact ⟨bs_10, pw_10, po_10⟩ | exact ⟨bs_9, pw_9, po_9⟩ | exact ⟨bs_8, pw_8, po_8⟩ | exact ⟨bs_7, pw_7, po_7⟩ | exact ⟨bs_6, pw_6, po_6⟩ | exact ⟨cell_keep (W := w11) (by (repeat (first | exact Below.refl _ _ | refine bel_drewN ?_ _ | refine bel_drew ?_ | refine bel_alloc ?_ _ | refine bel_set ?_ (by simp) _))) bs_11, cell_keep (W := w11) (by (repeat (first | exact Below.refl _ _ | refine bel_drewN ?_ _ | refine bel_drew ?_ | refine bel_alloc ?_ _ | refine bel_set ?_ (by simp) _))) pw_11, cell_keep (W := w11) (by (repeat (first | exact Below.refl _ _ | refine bel_drewN ?_ _ | refine bel_drew ?_ | refine bel_alloc ?_ _ | refine bel_set ?_ (by simp) _))) po_11⟩ | exact ⟨cell_keep (W := w10) (by (repeat (first | exact Below.refl _ _ | refine bel_drewN ?_ _ | refine bel_drew ?_ | refine bel_alloc ?_ _ | refine bel_set ?_ (by simp) _))) bs_10, cell_keep (W := w10) (by (repeat (first | exact Below.refl _ _ | refine bel_drewN ?_ _ | refine bel_drew ?_ | refine bel_alloc ?_ _ | refine bel_set ?_ (by simp) _))) pw_10, cell_keep (W := w10) (by (repeat (first | exact Below.refl _ _ | refine bel_drewN ?_ _ | refine bel_drew ?_ | refine bel_alloc ?_ _ | refine bel_set ?_ (by simp) _))) po_10⟩ | exact ⟨cell_keep (W := w9) (by (repeat (first | exact Below.refl _ _ | refine bel_drewN ?_ _ | refine bel_drew ?_ | refine bel_alloc ?_ _ | refine bel_set ?_ (by simp) _))) bs_9, cell_keep (W := w9) (by (repeat (first | exact Below.refl _ _ | refine bel_drewN ?_ _ | refine bel_drew ?_ | refine bel_alloc ?_ _ | refine bel_set ?_ (by simp) _))) pw_9, cell_keep (W := w9) (by (repeat (first | exact Below.refl _ _ | refine bel_drewN ?_ _ | refine bel_drew ?_ | refine bel_alloc ?_ _ | refine bel_set ?_ (by simp) _))) po_9⟩ | exact ⟨cell_keep (W := w8) (by (repeat (first | exact Below.refl _ _ | refine bel_drewN ?_ _ | refine bel_drew ?_ | refine bel_alloc ?_ _ | refine bel_set ?_ (by simp) _))) bs_8, cell_keep (W := w8) (by (repeat (first | exact Below.refl _ _ | refine bel_drewN ?_ _ | refine bel_drew ?_ | refine bel_alloc ?_ _ | refine bel_set ?_ (by simp) _))) pw_8, cell_keep (W := w8) (by (repeat (first | exact Below.refl _ _ | refine bel_drewN ?_ _ | refine bel_drew ?_ | refine bel_alloc ?_ _ | refine bel_set ?_ (by simp) _))) po_8⟩ | exact ⟨cell_keep (W := w7) (by (repeat (first | exact Below.refl _ _ | refine bel_drewN ?_ _ | refine bel_drew ?_ | refine bel_alloc ?_ _ | refine bel_set ?_ (by simp) _))) bs_7, cell_keep (W := w7) (by (repeat (first | exact Below.refl _ _ | refine bel_drewN ?_ _ | refine bel_drew ?_ | refine bel_alloc ?_ _ | refine bel_set ?_ (by simp) _))) pw_7, cell_keep (W := w7) (by (repeat (first | exact Below.refl _ _ | refine bel_drewN ?_ _ | refine bel_drew ?_ | refine bel_alloc ?_ _ | refine bel_set ?_ (by simp) _))) po_7⟩ | exact ⟨cell_keep (W := w6) (by (repeat (first | exact Below.refl _ _ | refine bel_drewN ?_ _ | refine bel_drew ?_ | refine bel_alloc ?_ _ | refine bel_set ?_ (by simp) _))) bs_6, cell_keep (W := w6) (by (repeat (first | exact Below.refl _ _ | refine bel_drewN ?_ _ | refine bel_drew ?_ | refine bel_alloc ?_ _ | refine bel_set ?_ (by simp) _))) pw_6, cell_keep (W := w6) (by (repeat (first | exact Below.refl _ _ | refine bel_drewN ?_ _ | refine bel_drew ?_ | refine bel_alloc ?_ _ | refine bel_set ?_ (by simp) _))) po_6⟩)
      (first
        | (go_at_call 31
           have _tk := tok7
           clear _tk tok7
           refine (spans_any As cs X _ (by repeat (first | exact Ss_6.out | refine Sp.alloc ?_ _ | refine Sp.drewN ?_ _ | refine Sp.drew ?_)) (by omega)).mono ?_
           rintro e7 w7 ⟨Ap, cp, rfl, hs7, hb7⟩
           have HB_7 : Hid (Below w.heap.size w w7) := bel_chain hb7 (by repeat (first | exact HB_6.out | refine bel_drewN ?_ _ | refine bel_drew ?_ | refine bel_alloc ?_ _))
           have bs_7 : w7.cell? ⟨w3.heap.size, 0, none⟩ = some (.slice As X.length cs) := cell_keep hb7 (cell_keep (W := w6) (by (repeat (first | exact Below.refl _ _ | refine bel_drewN ?_ _ | refine bel_drew ?_ | refine bel_alloc ?_ _ | refine bel_set ?_ (by simp) _))) bs_6)
           have pw_7 : w7.cell? ⟨w4.heap.size, 0, none⟩ = some (.slice Ax X.length cx) := cell_keep hb7 (cell_keep (W := w6) (by (repeat (first | exact Below.refl _ _ | refine bel_drewN ?_ _ | refine bel_drew ?_ | refine bel_alloc ?_ _ | refine bel_set ?_ (by simp) _))) pw_6)
           have po_7 : w7.cell? ⟨w4.heap.size + 1, 0, none⟩ = some (.slice Ao X.length co) := cell_keep hb7 (cell_keep (W := w6) (by (repeat (first | exact Below.refl _ _ | refine bel_drewN ?_ _ | refine bel_drew ?_ | refine bel_alloc ?_ _ | refine bel_set ?_ (by simp) _))) po_6)
           have Ss_7 : Hid (Sp w7 As cs (X)) := Sp.below (by repeat (first | exact Ss_6.out | refine Sp.alloc ?_ _ | refine Sp.drewN ?_ _ | refine Sp.drew ?_)) hb7
           have Sx_7 : Hid (Sp w7 Ax cx (X)) := Sp.below (by repeat (first | exact Sx_6.out | refine Sp.alloc ?_ _ | refine Sp.drewN ?_ _ | refine Sp.drew ?_)) hb7
           have So_7 : Hid (Sp w7 Ao co (X)) := Sp.below (by repeat (first | exact So_6.out | refine Sp.alloc ?_ _ | refine Sp.drewN ?_ _ | refine Sp.drew ?_)) hb7
           have zbs_7 : w3.heap.size < w7.heap.size := World.block_lt_of_cell? w7 ⟨w3.heap.size, 0, none⟩ bs_7
           have zpw_7 : w4.heap.size < w7.heap.size := World.block_lt_of_cell? w7 ⟨w4.heap.size, 0, none⟩ pw_7
           have zpo_7 : w4.heap.size + 1 < w7.heap.size := World.block_lt_of_cell? w7 ⟨w4.heap.size + 1, 0, none⟩ po_7
           have Sp_7 : Hid (Sp w7 Ap cp (X)) := Own.sp hs7
           clear bs_6 pw_6 po_6 Ss_6 Sx_6 So_6 hs7 HB_6 zbs_6 zpw_6 zpo_6 hb7
           have tok8 : True := trivial)
        | (go_at_call 33
           have _tk := tok8
           clear _tk tok8
           refine (rlist_same Ap cp X Ax cx _ (by repeat (first | exact Sp_7.out | refine Sp.alloc ?_ _ | refine Sp.drewN ?_ _ | refine Sp.drew ?_)) (by repeat (first | exact Sx_7.out | refine Sp.alloc ?_ _ | refine Sp.drewN ?_ _ | refine Sp.drew ?_)) (by omega)).mono ?_
           rintro e8 w8 ⟨rfl, hb8⟩
           have HB_8 : Hid (Below w.heap.size w w8) := bel_chain hb8 (by repeat (first | exact HB_7.out | refine bel_drewN ?_ _ | refine bel_drew ?_ | refine bel_alloc ?_ _))
           have bs_8 : w8.cell? ⟨w3.heap.size, 0, none⟩ = some (.slice As X.length cs) := cell_keep hb8 (cell_keep (W := w7) (by (repeat (first | exact Below.refl _ _ | refine bel_drewN ?_ _ | refine bel_drew ?_ | refine bel_alloc ?_ _ | refine bel_set ?_ (by simp) _))) bs_7)
           have pw_8 : w8.cell? ⟨w4.heap.size, 0, none⟩ = some (.slice Ax X.length cx) := cell_keep hb8 (cell_keep (W := w7) (by (repeat (first | exact Below.refl _ _ | refine bel_drewN ?_ _ | refine bel_drew ?_ | refine bel_alloc ?_ _ | refine bel_set ?_ (by simp) _))) pw_7)
           have po_8 : w8.cell? ⟨w4.heap.size + 1, 0, none⟩ = some (.slice Ao X.length co) := cell_keep hb8 (cell_keep (W := w7) (by (repeat (first | exact Below.refl _ _ | refine bel_drewN ?_ _ | refine bel_drew ?_ | refine bel_alloc ?_ _ | refine bel_set ?_ (by simp) _))) po_7)
           have Ss_8 : Hid (Sp w8 As cs (X)) := Sp.below (by repeat (first | exact Ss_7.out | refine Sp.alloc ?_ _ | refine Sp.drewN ?_ _ | refine Sp.drew ?_)) hb8
           have Sx_8 : Hid (Sp w8 Ax cx (X)) := Sp.below (by repeat (first | exact Sx_7.out | refine Sp.alloc ?_ _ | refine Sp.drewN ?_ _ | refine Sp.drew ?_)) hb8
           have So_8 : Hid (Sp w8 Ao co (X)) := Sp.below (by repeat (first | exact So_7.out | refine Sp.alloc ?_ _ | refine Sp.drewN ?_ _ | refine Sp.drew ?_)) hb8
           have Sp_8 : Hid (Sp w8 Ap cp (X)) := Sp.below (by repeat (first | exact Sp_7.out | refine Sp.alloc ?_ _ | refine Sp.drewN ?_ _ | refine Sp.drew ?_)) hb8
           have zbs_8 : w3.heap.size < w8.heap.size := World.block_lt_of_cell? w8 ⟨w3.heap.size, 0, none⟩ bs_8
           have zpw_8 : w4.heap.size < w8.heap.size := World.block_lt_of_cell? w8 ⟨w4.heap.size, 0, none⟩ pw_8
           have zpo_8 : w4.heap.size + 1 < w8.heap.size := World.block_lt_of_cell? w8 ⟨w4.heap.size + 1, 0, none⟩ po_8
           clear bs_7 pw_7 po_7 Ss_7 Sx_7 So_7 Sp_7 HB_7 zbs_7 zpw_7 zpo_7 hb8
           clear Sp_8
           have tok9 : True := trivial)
        | (go_at_call 33
           have _tk := tok9
           clear _tk tok9
           refine (rlist_same Ao co X Ax cx _ (by repeat (first | exact So_8.out | refine Sp.alloc ?_ _ | refine Sp.drewN ?_ _ | refine Sp.drew ?_)) (by repeat (first | exact Sx_8.out | refine Sp.alloc ?_ _ | refine Sp.drewN ?_ _ | refine Sp.drew ?_)) (by omega)).mono ?_
           rintro e9 w9 ⟨rfl, hb9⟩
           have HB_9 : Hid (Below w.heap.size w w9) := bel_chain hb9 (by repeat (first | exact HB_8.out | refine bel_drewN ?_ _ | refine bel_drew ?_ | refine bel_alloc ?_ _))
           have bs_9 : w9.cell? ⟨w3.heap.size, 0, none⟩ = some (.slice As X.length cs) := cell_keep hb9 (cell_keep (W := w8) (by (repeat (first | exact Below.refl _ _ | refine bel_drewN ?_ _ | refine bel_drew ?_ | refine bel_alloc ?_ _ | refine bel_set ?_ (by simp) _))) bs_8)
           have pw_9 : w9.cell? ⟨w4.heap.size, 0, none⟩ = some (.slice Ax X.length cx) := cell_keep hb9 (cell_keep (W := w8) (by (repeat (first | exact Below.refl _ _ | refine bel_drewN ?_ _ | refine bel_drew ?_ | refine bel_alloc ?_ _ | refine bel_set ?_ (by simp) _))) pw_8)
           have po_9 : w9.cell? ⟨w4.heap.size + 1, 0, none⟩ = some (.slice Ao X.length co) := cell_keep hb9 (cell_keep (W := w8) (by (repeat (first | exact Below.refl _ _ | refine bel_drewN ?_ _ | refine bel_drew ?_ | refine bel_alloc ?_ _ | refine bel_set ?_ (by simp) _))) po_8)
           have Ss_9 : Hid (Sp w9 As cs (X)) := Sp.below (by repeat (first | exact Ss_8.out | refine Sp.alloc ?_ _ | refine Sp.drewN ?_ _ | refine Sp.drew ?_)) hb9
           have Sx_9 : Hid (Sp w9 Ax cx (X)) := Sp.below (by repeat (first | exact Sx_8.out | refine Sp.alloc ?_ _ | refine Sp.drewN ?_ _ | refine Sp.drew ?_)) hb9
           have So_9 : Hid (Sp w9 Ao co (X)) := Sp.below (by repeat (first | exact So_8.out | refine Sp.alloc ?_ _ | refine Sp.drewN ?_ _ | refine Sp.drew ?_)) hb9
           have zbs_9 : w3.heap.size < w9.heap.size := World.block_lt_of_cell? w9 ⟨w3.heap.size, 0, none⟩ bs_9
           have zpw_9 : w4.heap.size < w9.heap.size := World.block_lt_of_cell? w9 ⟨w4.heap.size, 0, none⟩ pw_9
           have zpo_9 : w4.heap.size + 1 < w9.heap.size := World.block_lt_of_cell? w9 ⟨w4.heap.size + 1, 0, none⟩ po_9
           clear bs_8 pw_8 po_8 Ss_8 Sx_8 So_8 HB_8 zbs_8 zpw_8 zpo_8 hb9
           have tok10 : True := trivial)
        | (go_at_call 35
           have _tk := tok10
           clear _tk tok10
           refine ((HLN _ As cs (by repeat (first | exact Ss_9.out | refine Sp.alloc ?_ _ | refine Sp.drewN ?_ _ | refine Sp.drew ?_))).out).mono ?_
           rintro e10 w10 ⟨rfl, hb10⟩
           have HB_10 : Hid (Below w.heap.size w w10) := bel_chain hb10 (by repeat (first | exact HB_9.out | refine bel_drewN ?_ _ | refine bel_drew ?_ | refine bel_alloc ?_ _))
           have bs_10 : w10.cell? ⟨w3.heap.size, 0, none⟩ = some (.slice As X.length cs) := cell_keep hb10 (cell_keep (W := w9) (by (repeat (first | exact Below.refl _ _ | refine bel_drewN ?_ _ | refine bel_drew ?_ | refine bel_alloc ?_ _ | refine bel_set ?_ (by simp) _))) bs_9)
           have pw_10 : w10.cell? ⟨w4.heap.size, 0, none⟩ = some (.slice Ax X.length cx) := cell_keep hb10 (cell_keep (W := w9) (by (repeat (first | exact Below.refl _ _ | refine bel_drewN ?_ _ | refine bel_drew ?_ | refine bel_alloc ?_ _ | refine bel_set ?_ (by simp) _))) pw_9)
           have po_10 : w10.cell? ⟨w4.heap.size + 1, 0, none⟩ = some (.slice Ao X.length co) := cell_keep hb10 (cell_keep (W := w9) (by (repeat (first | exact Below.refl _ _ | refine bel_drewN ?_ _ | refine bel_drew ?_ | refine bel_alloc ?_ _ | refine bel_set ?_ (by simp) _))) po_9)
           have Ss_10 : Hid (Sp w10 As cs (X)) := Sp.below (by repeat (first | exact Ss_9.out | refine Sp.alloc ?_ _ | refine Sp.drewN ?_ _ | refine Sp.drew ?_)) hb10
           have Sx_10 : Hid (Sp w10 Ax cx (X)) := Sp.below (by repeat (first | exact Sx_9.out | refine Sp.alloc ?_ _ | refine Sp.drewN ?_ _ | refine Sp.drew ?_)) hb10
           have So_10 : Hid (Sp w10 Ao co (X)) := Sp.below (by repeat (first | exact So_9.out | refine Sp.alloc ?_ _ | refine Sp.drewN ?_ _ | refine Sp.drew ?_)) hb10
           have zbs_10 : w3.heap.size < w10.heap.size := World.block_lt_of_cell? w10 ⟨w3.heap.size, 0, none⟩ bs_10
           have zpw_10 : w4.heap.size < w10.heap.size := World.block_lt_of_cell? w10 ⟨w4.heap.size, 0, none⟩ pw_10
           have zpo_10 : w4.heap.size + 1 < w10.heap.size := World.block_lt_of_cell? w10 ⟨w4.heap.size + 1, 0, none⟩ po_10
           clear bs_9 pw_9 po_9 Ss_9 Sx_9 So_9 HB_9 zbs_9 zpw_9 zpo_9 hb10
           have tok11 : True := trivial)
        | (go_at_call 36
           have _tk := tok11
           clear _tk tok11
           refine ((HLR _ Ax cx (by repeat (first | exact Sx_10.out | refine Sp.alloc ?_ _ | refine Sp.drewN ?_ _ | refine Sp.drew ?_))).out).mono ?_
           rintro e11 w11 ⟨rfl, hb11⟩
           have HB_11 : Hid (Below w.heap.size w w11) := bel_chain hb11 (by repeat (first | exact HB_10.out | refine bel_drewN ?_ _ | refine bel_drew ?_ | refine bel_alloc ?_ _))
           have bs_11 : w11.cell? ⟨w3.heap.size, 0, none⟩ = some (.slice As X.length cs) := cell_keep hb11 (cell_keep (W := w10) (by (repeat (first | exact Below.refl _ _ | refine bel_drewN ?_ _ | refine bel_drew ?_ | refine bel_alloc ?_ _ | refine bel_set ?_ (by simp) _))) bs_10)
           have pw_11 : w11.cell? ⟨w4.heap.size, 0, none⟩ = some (.slice Ax X.length cx) := cell_keep hb11 (cell_keep (W := w10) (by (repeat (first | exact Below.refl _ _ | refine bel_drewN ?_ _ | refine bel_drew ?_ | refine bel_alloc ?_ _ | refine bel_set ?_ (by simp) _))) pw_10)
           have po_11 : w11.cell? ⟨w4.heap.size + 1, 0, none⟩ = some (.slice Ao X.length co) := cell_keep hb11 (cell_keep (W := w10) (by (repeat (first | exact Below.refl _ _ | refine bel_drewN ?_ _ | refine bel_drew ?_ | refine bel_alloc ?_ _ | refine bel_set ?_ (by simp) _))) po_10)
           have Ss_11 : Hid (Sp w11 As cs (X)) := Sp.below (by repeat (first | exact Ss_10.out | refine Sp.alloc ?_ _ | refine Sp.drewN ?_ _ | refine Sp.drew ?_)) hb11
           have Sx_11 : Hid (Sp w11 Ax cx (X)) := Sp.below (by repeat (first | exact Sx_10.out | refine Sp.alloc ?_ _ | refine Sp.drewN ?_ _ | refine Sp.drew ?_)) hb11
           have So_11 : Hid (Sp w11 Ao co (X)) := Sp.below (by repeat (first | exact So_10.out | refine Sp.alloc ?_ _ | refine Sp.drewN ?_ _ | refine Sp.drew ?_)) hb11
           have zbs_11 : w3.heap.size < w11.heap.size := World.block_lt_of_cell? w11 ⟨w3.heap.size, 0, none⟩ bs_11
           have zpw_11 : w4.heap.size < w11.heap.size := World.block_lt_of_cell? w11 ⟨w4.heap.size, 0, none⟩ pw_11
           have zpo_11 : w4.heap.size + 1 < w11.heap.size := World.block_lt_of_cell? w11 ⟨w4.heap.size + 1, 0, none⟩ po_11
           clear bs_10 pw_10 po_10 Ss_10 Sx_10 So_10 HB_10 zbs_10 zpw_10 zpo_10 hb11
           have tok12 : True := trivial))
    go_wp2_with fail
    go_ret
    exact ⟨ret_bool (by simp), by repeat (first | exact HB_11.out | refine bel_drewN ?_ _ | refine bel_drew ?_)⟩
end Go.Proofs.YtmbcnfgeobbldaaDoor
