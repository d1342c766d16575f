/- The walk of RangesAt. -/
import Derived.Test.YtmbcnfgeobbldaaDoorB14
import Derived.Test.YtmbcnfgeobbldaaDoorM7
namespace Go.Proofs.YtmbcnfgeobbldaaDoor
open Go.RowKit

theorem great1_any (A : Option Addr) (n c g : Nat) (w : World) (h : w.cell? ⟨g, 0, none⟩ = some (.slice A n c)) (hn : n ≤ 9223372036854775807) :
    Calls Tryd.prog 20 #[.slice (some ⟨g, 0, none⟩) 1 1] w fun e w' => e = .returned (.bool (decide (20 < n))) ∧ w' = w := by
  have := great_any g [(A, n, c)] w (fun i x hx => by
    cases i with
    | zero => simp at hx; subst hx; exact h
    | succ i => simp at hx) (by simp) (fun x hx => by simp at hx; subst hx; exact hn)
  simpa [greatL] using this


set_option maxHeartbeats 2000000 in
set_option maxRecDepth 100000 in
theorem rangesAt_any (A : Option Addr) (c : Nat) (L : List (Int × Int)) (p : Int) (w : World) (h : Sp w A c L) (hn : L.length ≤ 9223372036854775807) (_hp : (Lit.int .i64 p).wf = true) :
    Calls Tryd.prog 3 #[.slice A L.length c, .int .i64 p] w fun e w' => e = .returned (.bool true) ∧ Below w.heap.size w w' := by
  have hH := Lib.hid h
  have hW := Lib.hid (wakes_any w)
  clear h
  go_enter Tryd.func3, Tryd.ntmps3
  go_wp2_with fail
  refine hW.out.mono ?_
  rintro e w1 ⟨rfl, hb1⟩
  have HB1 := Lib.hid hb1
  have H1 := Lib.hid (hH.out.below hb1)
  clear hb1 hW hH
  go_wp2_with fail
  refine (great1_any A L.length c _ _ (by simp [go_sem]) hn).mono ?_
  rintro e w2 ⟨rfl, rfl⟩
  by_cases hg : 20 < L.length
  · have hgd : decide (20 < L.length) = true := by simpa using hg
    rw [hgd]
    go_wp2_with fail
    go_ret
    exact ⟨rfl, bel_alloc HB1.out _⟩
  · have hgd : decide (20 < L.length) = false := by simpa using hg
    rw [hgd]
    have hl : L.length ≤ 20 := by omega
    have hcl := cano_length L
    have HCC := Lib.hid (cano_canon L)
    have HI := Lib.hid (inB_cano L p)
    clear hg hgd
    go_wp2_with fail
    refine (of_any A c L _ (H1.out.alloc _) (by omega)).mono ?_
    rintro e w3 ⟨A3, c3, rfl, hsp3, hb3⟩
    have HB3 := Lib.hid (bel_chain hb3 (bel_alloc HB1.out _))
    have H3 := Lib.hid ((H1.out.alloc _).below hb3)
    have HS3 := Lib.hid hsp3
    clear hsp3 hb3 H1
    go_wp2_with fail
    refine (first_any A3 c3 (cano L) p _ (HS3.out.alloc _) HCC.out (by omega)).mono ?_
    rintro e w4 ⟨rfl, hb4⟩
    have q1 : w4.cell? ⟨w3.heap.size, 0, none⟩ = some (.slice A3 (cano L).length c3) := cell_keep hb4 (by simp [go_sem])
    have l1 : w3.heap.size < w4.heap.size := World.block_lt_of_cell? w4 ⟨w3.heap.size, 0, none⟩ q1
    have HB4 := Lib.hid (bel_chain hb4 (bel_alloc HB3.out _))
    have H4 := Lib.hid ((H3.out.alloc _).below hb4)
    have HS4 := Lib.hid ((HS3.out.alloc _).below hb4)
    clear hb4 H3 HS3
    obtain ⟨o, ho⟩ : ∃ o, firstL (cano L) p = o := ⟨_, rfl⟩
    rw [ho]
    have HFo := Lib.hid ho
    clear ho
    go_wp2_with fail
    refine (rOf_any A c L _ (H4.out.alloc _) (by omega)).mono ?_
    rintro e w5 ⟨A5, c5, rfl, ho5, hb5⟩
    have q2 : w5.cell? ⟨w3.heap.size, 0, none⟩ = some (.slice A3 (cano L).length c3) := cell_keep hb5 (by simp [go_sem, q1, l1])
    have q3 : w5.cell? ⟨w4.heap.size, 0, none⟩ = some (.int .i64 (o.getD (0, 0)).1) := cell_keep hb5 (by simp [go_sem])
    have q4 : w5.cell? ⟨w4.heap.size, 1, none⟩ = some (.int .i64 (o.getD (0, 0)).2) := cell_keep hb5 (by simp [go_sem])
    have HB5 := Lib.hid (bel_chain hb5 (bel_alloc HB4.out _))
    have H5 := Lib.hid ((H4.out.alloc _).below hb5)
    have HS5 := Lib.hid ((HS4.out.alloc _).below hb5)
    have HR5 := Lib.hid (Own.sp ho5)
    clear hb5 ho5 q1 l1 H4 HS4
    go_wp2_with fail
    refine (rfirst_any A5 c5 (cano L) p _ HR5.out (by omega)).mono ?_
    rintro e w6 ⟨rfl, hb6⟩
    rw [HFo.out]
    have p2 : w6.cell? ⟨w3.heap.size, 0, none⟩ = some (.slice A3 (cano L).length c3) := cell_keep hb6 q2
    have p3 : w6.cell? ⟨w4.heap.size, 0, none⟩ = some (.int .i64 (o.getD (0, 0)).1) := cell_keep hb6 q3
    have p4 : w6.cell? ⟨w4.heap.size, 1, none⟩ = some (.int .i64 (o.getD (0, 0)).2) := cell_keep hb6 q4
    have l3 : w3.heap.size < w6.heap.size := World.block_lt_of_cell? w6 ⟨w3.heap.size, 0, none⟩ p2
    have l4 : w4.heap.size < w6.heap.size := World.block_lt_of_cell? w6 ⟨w4.heap.size, 0, none⟩ p3
    have HB6 := Lib.hid (bel_chain hb6 HB5.out)
    have H6 := Lib.hid (H5.out.below hb6)
    have HS6 := Lib.hid (HS5.out.below hb6)
    clear hb6 q2 q3 q4 H5 HS5 HR5
    go_wp2_with fail
    refine (has_any A3 c3 (cano L) p _ (HS6.out.alloc _) HCC.out (by omega)).mono ?_
    rintro e w7 ⟨rfl, hb7⟩
    rw [HI.out]
    have r3 : w7.cell? ⟨w4.heap.size, 0, none⟩ = some (.int .i64 (o.getD (0, 0)).1) := cell_keep hb7 (by simp [go_sem, p3, l4])
    have r4 : w7.cell? ⟨w4.heap.size, 1, none⟩ = some (.int .i64 (o.getD (0, 0)).2) := cell_keep hb7 (by simp [go_sem, p4, l4])
    have r5 : w7.cell? ⟨w6.heap.size, 0, none⟩ = some (.int .i64 (o.getD (0, 0)).1) := cell_keep hb7 (by simp [go_sem])
    have r6 : w7.cell? ⟨w6.heap.size, 1, none⟩ = some (.int .i64 (o.getD (0, 0)).2) := cell_keep hb7 (by simp [go_sem])
    have HB7 := Lib.hid (bel_chain hb7 (bel_alloc HB6.out _))
    have H7 := Lib.hid ((H6.out.alloc _).below hb7)
    clear hb7 p2 p3 p4 l3 l4 H6 HS6
    go_wp2_with fail
    refine (rin_any A c L p _ H7.out (by omega)).mono ?_
    rintro e w8 ⟨rfl, hb8⟩
    have s3 := cell_keep hb8 r3
    have s4 := cell_keep hb8 r4
    have s5 := cell_keep hb8 r5
    have s6 := cell_keep hb8 r6
    have HB8 := Lib.hid (bel_chain hb8 HB7.out)
    clear hb8 r3 r4 r5 r6 H7
    go_wp2_with fail
    go_ret
    exact ⟨rfl, HB8.out⟩
end Go.Proofs.YtmbcnfgeobbldaaDoor
