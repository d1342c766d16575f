/- The walk of ShapeFails. -/
import Derived.Test.YtaaefgieklkekaaGreatDoorJShapeFails34
import Derived.Deep.RegionHeld3
namespace Go.Proofs.YtaaefgieklkekaaGreatDoor
open Go.RowKit

def failN (n : Int) : Int := if n < 400 ∨ 599 < n then 500 else n
theorem failN_in (n : Int) : 400 ≤ failN n ∧ failN n ≤ 599 := by unfold failN; split <;> omega
set_option maxHeartbeats 2000000 in
set_option maxRecDepth 100000 in
theorem fail_any (n : Int) (w : World) : Calls Tryz.prog 25 #[.int .i64 n] w fun e w' => e = .returned (.agg #[.int .i64 (failN n), .slice none 0 0, .slice none 0 0, .int .i64 0]) ∧ Below w.heap.size w w' := by
  by_cases h1 : n < 400
  · have E : failN n = 500 := if_pos (.inl h1)
    go_enter Tryz.func25, Tryz.ntmps25
    go_wp2_with fail
    refine bodyPost_ret (by simp [results, Tryz.results25, go_sem]; try rfl) rfl ?_
    try rw [E]
    exact ⟨rfl, by (repeat (first | exact Below.refl _ _ | refine bel_drewN ?_ _ | refine bel_drew ?_ | refine bel_alloc ?_ _ | refine bel_set ?_ (by simp) _))⟩
  · by_cases h2 : (599 : Int) < n
    · have E : failN n = 500 := if_pos (.inr h2)
      go_enter Tryz.func25, Tryz.ntmps25
      go_wp2_with fail
      refine bodyPost_ret (by simp [results, Tryz.results25, go_sem]; try rfl) rfl ?_
      try rw [E]
      exact ⟨rfl, by (repeat (first | exact Below.refl _ _ | refine bel_drewN ?_ _ | refine bel_drew ?_ | refine bel_alloc ?_ _ | refine bel_set ?_ (by simp) _))⟩
    · have E : failN n = n := if_neg (by omega)
      go_enter Tryz.func25, Tryz.ntmps25
      go_wp2_with fail
      refine bodyPost_ret (by simp [results, Tryz.results25, go_sem]; try rfl) rfl ?_
      try rw [E]
      exact ⟨rfl, by (repeat (first | exact Below.refl _ _ | refine bel_drewN ?_ _ | refine bel_drew ?_ | refine bel_alloc ?_ _ | refine bel_set ?_ (by simp) _))⟩
set_option maxHeartbeats 2000000 in
set_option maxRecDepth 100000 in
theorem rfail_any (n : Int) (w : World) : Calls Tryz.prog 26 #[.int .i64 n] w fun e w' => e = .returned (.agg #[.int .i64 (failN n), .slice none 0 0, .slice none 0 0, .int .i64 0]) ∧ Below w.heap.size w w' := by
  by_cases h1 : n < 400
  · have E : failN n = 500 := if_pos (.inl h1)
    go_enter Tryz.func26, Tryz.ntmps26
    go_wp2_with fail
    refine bodyPost_ret (by simp [results, Tryz.results26, go_sem]; try rfl) rfl ?_
    try rw [E]
    exact ⟨rfl, by (repeat (first | exact Below.refl _ _ | refine bel_drewN ?_ _ | refine bel_drew ?_ | refine bel_alloc ?_ _ | refine bel_set ?_ (by simp) _))⟩
  · by_cases h2 : (599 : Int) < n
    · have E : failN n = 500 := if_pos (.inr h2)
      go_enter Tryz.func26, Tryz.ntmps26
      go_wp2_with fail
      refine bodyPost_ret (by simp [results, Tryz.results26, go_sem]; try rfl) rfl ?_
      try rw [E]
      exact ⟨rfl, by (repeat (first | exact Below.refl _ _ | refine bel_drewN ?_ _ | refine bel_drew ?_ | refine bel_alloc ?_ _ | refine bel_set ?_ (by simp) _))⟩
    · have E : failN n = n := if_neg (by omega)
      go_enter Tryz.func26, Tryz.ntmps26
      go_wp2_with fail
      refine bodyPost_ret (by simp [results, Tryz.results26, go_sem]; try rfl) rfl ?_
      try rw [E]
      exact ⟨rfl, by (repeat (first | exact Below.refl _ _ | refine bel_drewN ?_ _ | refine bel_drew ?_ | refine bel_alloc ?_ _ | refine bel_set ?_ (by simp) _))⟩
set_option maxHeartbeats 2000000 in
set_option maxRecDepth 100000 in
theorem same07_nil (w : World) : Calls Tryz.prog 32 #[.slice none 0 0, .slice none 0 0] w fun e w' => e = .returned (.bool true) ∧ w' = w := by
  go_enter Tryz.func32, Tryz.ntmps32
  go_wp2_with fail
  go_loopw [5, 13] (fun _ i wr => wr = w ∧ i = .int .i64 0) (fun _ _ _ => 0)
  case atStart => exact ⟨rfl, rfl⟩
  case round =>
    obtain ⟨rfl, rfl⟩ := hrel
    go_wp2_with fail
    go_ret
    exact ⟨rfl, rfl⟩
set_option maxHeartbeats 4000000 in
set_option maxRecDepth 100000 in
theorem same15_bare (s : Int) (w : World) : Calls Tryz.prog 11 #[.agg #[.int .i64 s, .slice none 0 0, .slice none 0 0, .int .i64 0], .agg #[.int .i64 s, .slice none 0 0, .slice none 0 0, .int .i64 0]] w fun e w' => e = .returned (.bool true) ∧ Below w.heap.size w w' := by
  have hb : (s != s) = false := by simp
  go_enter Tryz.func11, Tryz.ntmps11
  go_wp2_with (go_at_call 32; refine (same07_nil _).mono ?_; rintro e w1 ⟨rfl, rfl⟩)
  go_loopw [5, 38] (fun _ i wr => Below w.heap.size w wr ∧ i = .int .i64 0) (fun _ _ _ => 0)
  case atStart => exact ⟨by (repeat (first | exact Below.refl _ _ | refine bel_drewN ?_ _ | refine bel_drew ?_ | refine bel_alloc ?_ _ | refine bel_set ?_ (by simp) _)), rfl⟩
  case round =>
    obtain ⟨hb, rfl⟩ := hrel
    go_wp2_with fail
    go_ret
    exact ⟨rfl, hb⟩
set_option maxHeartbeats 4000000 in
set_option maxRecDepth 100000 in
theorem right_bare (s : Int) (w : World) (h : 400 ≤ s ∧ s ≤ 599) : Calls Tryz.prog 16 #[.agg #[.int .i64 s, .slice none 0 0, .slice none 0 0, .int .i64 0]] w fun e w' => e = .returned (.bool true) ∧ Below w.heap.size w w' := by
  have b1 : (s == 200) = false := by rw [beq_eq_false_iff_ne]; omega
  have b2 : (s == 206) = false := by rw [beq_eq_false_iff_ne]; omega
  have b3 : (s == 304) = false := by rw [beq_eq_false_iff_ne]; omega
  obtain ⟨b4, b5⟩ := h
  go_enter Tryz.func16, Tryz.ntmps16
  go_wp2_with fail
  obtain ⟨W0, hW0⟩ : ∃ W0, w.alloc (.cells #[.int .i64 s, .slice none 0 0, .slice none 0 0, .int .i64 0] 43) = W0 := ⟨_, rfl⟩
  have HX0 : Hid (W0.heap[w.heap.size]? = some (.cells #[.int .i64 s, .slice none 0 0, .slice none 0 0, .int .i64 0] 43 (0, 0))) := by simp only [Hid]; rw [← hW0]; exact blk_new rfl
  have HB0 : Hid (Below w.heap.size w W0) := by simp only [Hid]; rw [← hW0]; (repeat (first | exact Below.refl _ _ | refine bel_drewN ?_ _ | refine bel_drew ?_ | refine bel_alloc ?_ _ | refine bel_set ?_ (by simp) _))
  rw [hW0]
  clear hW0
  go_loopw [4, 8] (fun _ i wr => wr = W0 ∧ i = .int .i64 0) (fun _ _ _ => 0)
  case atStart => exact ⟨rfl, rfl⟩
  case round =>
    obtain ⟨rfl, rfl⟩ := hrel
    have x0 := blk_cell (i := 0) HX0.out rfl
    have x2 := blk_cell (i := 2) HX0.out rfl
    have x3 := blk_cell (i := 3) HX0.out rfl
    go_wp2_with fail
    go_ret
    exact ⟨rfl, HB0.out⟩
set_option maxHeartbeats 8000000 in
set_option maxRecDepth 100000 in
theorem shapeFails_any (n : Int) (w : World) (_hn : (Lit.int .i64 n).wf = true) (henv : Env w) : Calls Tryz.prog 8 #[.int .i64 n] w fun e w' => e = .returned (.bool true) ∧ Below w.heap.size w w' := by
  have HA := Lib.hid (alive_any w henv)
  have HF := fun W => Lib.hid (fail_any n W)
  have HR := fun W => Lib.hid (rfail_any n W)
  have HS := fun W => Lib.hid (same15_bare (failN n) W)
  have HRT := fun W => Lib.hid (right_bare (failN n) W (failN_in n))
  generalize failN n = s at HF HR HS HRT
  clear henv
  go_enter Tryz.func8, Tryz.ntmps8
  go_upto_region 4 with (first
    | (go_at_call 9; refine HA.out.mono ?_; rintro e w1 ⟨rfl, hb1⟩)
    | (go_at_call 25; refine (HF _).out.mono ?_; rintro e w2 ⟨rfl, hb2⟩))
  obtain ⟨W0, hW0⟩ : ∃ W0, w2.alloc (.cells #[.int .i64 s, .slice none 0 0, .slice none 0 0, .int .i64 0] 43) = W0 := ⟨_, rfl⟩
  have HX0 : Hid (W0.heap[w2.heap.size]? = some (.cells #[.int .i64 s, .slice none 0 0, .slice none 0 0, .int .i64 0] 43 (0, 0))) := by simp only [Hid]; rw [← hW0]; exact blk_new rfl
  have HB0 : Hid (Below w.heap.size w W0) := by simp only [Hid]; rw [← hW0]; exact bel_alloc (bel_chain hb2 hb1) _
  rw [hW0]
  clear hW0 hb1 hb2
  have v0 : W0.cell? ⟨w2.heap.size, 0, none⟩ = some (.int .i64 s) := blk_cell (i := 0) HX0.out rfl
  have v1 : W0.cell? ⟨w2.heap.size, 1, none⟩ = some (.slice none 0 0) := blk_cell (i := 1) HX0.out rfl
  have v2 : W0.cell? ⟨w2.heap.size, 2, none⟩ = some (.slice none 0 0) := blk_cell (i := 2) HX0.out rfl
  have v3 : W0.cell? ⟨w2.heap.size, 3, none⟩ = some (.int .i64 0) := blk_cell (i := 3) HX0.out rfl
  have vz := blk_lt HX0.out
  go_region_held3 (fun w' => w'.cell? ⟨w2.heap.size, 0, none⟩ = some (.int .i64 s) ∧ w'.cell? ⟨w2.heap.size, 1, none⟩ = some (.slice none 0 0) ∧ w'.cell? ⟨w2.heap.size, 2, none⟩ = some (.slice none 0 0) ∧ w'.cell? ⟨w2.heap.size, 3, none⟩ = some (.int .i64 0))
    (first | exact ⟨q0, q1, q2, q3⟩ | exact ⟨u0, u1, u2, u3⟩ | exact ⟨z0, z1, z2, z3⟩ | exact ⟨v0, v1, v2, v3⟩ | fail)
    (first
      | (go_at_call 16; refine (HRT _).out.mono ?_; rintro e w5 ⟨rfl, hb5⟩; have q0 := cell_keep hb5 u0; have q1 := cell_keep hb5 u1; have q2 := cell_keep hb5 u2; have q3 := cell_keep hb5 u3)
      | (go_at_call 11; refine (HS _).out.mono ?_; rintro e w4 ⟨rfl, hb4⟩; have u0 := cell_keep hb4 z0; have u1 := cell_keep hb4 z1; have u2 := cell_keep hb4 z2; have u3 := cell_keep hb4 z3)
      | (go_at_call 26; refine (HR _).out.mono ?_; rintro e w3 ⟨rfl, hb3⟩; have z0 := cell_keep hb3 v0; have z1 := cell_keep hb3 v1; have z2 := cell_keep hb3 v2; have z3 := cell_keep hb3 v3))
  go_wp2_with fail
  go_ret
  exact ⟨rfl, bel_chain hb5 (bel_chain hb4 (bel_chain hb3 (by first | exact HB0.out | exact bel_drew HB0.out | exact bel_drewN HB0.out _)))⟩
end Go.Proofs.YtaaefgieklkekaaGreatDoor
