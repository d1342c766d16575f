/- The examples hold: awake. -/
import Derived.Test.YtfpfdgljhcpkpaaDoorF5
namespace Go.Proofs.YtfpfdgljhcpkpaaDoor
open Go.RowKit

theorem blk_set1 {w : World} {g : Nat} {u v : Value} {t : TypeId} {f : Nat × Nat} (h : w.heap[g]? = some (.cells #[u] t f)) : (w.setCell ⟨g, 0, none⟩ v).heap[g]? = some (.cells #[v] t f) := blk_set h
theorem ftext_lit (d : Int) (s : ByteArray) (e : textD d = s) (w : World) (h : Names w) : Calls Tryd.prog 48 #[.int .i64 d] w fun e w' => e = .returned (.string s) ∧ Below w.heap.size w w' := by
  rw [← e]; exact ftext_any d w h

set_option maxHeartbeats 4000000 in
set_option maxRecDepth 100000 in
theorem awake_any (w : World) (hn : Names w) :
    Calls Tryd.prog 9 #[] w fun e w' => e = .returned (.bool true) ∧ Below w.heap.size w w' := by
  have HN := Lib.hid hn
  clear hn
  go_enter Tryd.func9, Tryd.ntmps9
  go_wp2_with fail
  refine (spans37_any 3 9 _).mono ?_
  rintro e1 w1 ⟨Ar, cr, rfl, hs1, hb1⟩
  have HB_1 : Hid (Below w.heap.size w w1) := bel_chain hb1 (by repeat (first | exact Below.refl _ _ | refine bel_drewN ?_ _ | refine bel_drew ?_ | refine bel_alloc ?_ _))
  have Sr_1 : Hid (Sp w1 Ar cr ([(3, 9)])) := hs1
  clear hs1 hb1
  go_wp2_with fail
  refine (spans37_any 3 5 _).mono ?_
  rintro e2 w2 ⟨Ah, ch, rfl, hs2, hb2⟩
  have HB_2 : Hid (Below w.heap.size w w2) := bel_chain hb2 (by repeat (first | exact HB_1.out | refine bel_drewN ?_ _ | refine bel_drew ?_ | refine bel_alloc ?_ _))
  have Sr_2 : Hid (Sp w2 Ar cr ([(3, 9)])) := Sp.below (by repeat (first | exact Sr_1.out | refine Sp.alloc ?_ _ | refine Sp.drewN ?_ _ | refine Sp.drew ?_)) hb2
  have Sh_2 : Hid (Sp w2 Ah ch ([(3, 5)])) := hs2
  clear Sr_1 hs2 HB_1 hb2
  go_upto_region 2 with fail
  obtain ⟨w3, hw3⟩ : ∃ w3, World.alloc w2 (.cells #[.bool true, .slice Ar 1 cr, .slice Ah 1 ch, .slice none 0 0, .bool true, .bool false, .int .i64 0, .bool true] 24) = w3 := ⟨_, rfl⟩
  rw [hw3]
  have hb3 : Below w2.heap.size w2 w3 := by rw [← hw3]; exact bel_alloc (Below.refl _ _) _
  have Bs_3 : Hid (w3.heap[w2.heap.size]? = some (.cells #[.bool true, .slice Ar 1 cr, .slice Ah 1 ch, .slice none 0 0, .bool true, .bool false, .int .i64 0, .bool true] 24 (0, 0))) := by simp only [Hid]; rw [← hw3]; exact blk_new rfl
  have HB_3 : Hid (Below w.heap.size w w3) := bel_chain hb3 HB_2.out
  have Sr_3 := Lib.hid (Sr_2.out.below hb3)
  have Sh_3 := Lib.hid (Sh_2.out.below hb3)
  have zs : w2.heap.size < w3.heap.size := blk_lt Bs_3.out
  have zw : w.heap.size ≤ w2.heap.size := HB_2.out.size
  clear hw3 hb3 Sr_2 Sh_2 HB_2
  go_cut [2, 3] (fun s2 s3 wx => ∃ (g : Nat) (Al : Option Addr) (cl : Nat), s2 = .int .i64 1 ∧ s3 = .pointer (some ⟨g, 0, none⟩) ∧ w3.heap.size ≤ g ∧ wx.heap[g]? = some (.cells #[.slice Al 1 cl] 29 (0, 0)) ∧ Sp wx Al cl [(5, 9)] ∧ Below w3.heap.size w3 wx)
  case first =>
    have HB_3 : Hid (Below w3.heap.size w3 w3) := Below.refl _ _
    have sz_3 := zs
    have tok4 : True := trivial
    go_region_held3 (fun w' => w'.cell? ⟨w2.heap.size, 0, none⟩ = some (.bool true) ∧ w'.cell? ⟨w2.heap.size, 1, none⟩ = some (.slice Ar 1 cr) ∧ w'.cell? ⟨w2.heap.size, 2, none⟩ = some (.slice Ah 1 ch) ∧ w'.cell? ⟨w2.heap.size, 3, none⟩ = some (.slice none 0 0) ∧ w'.cell? ⟨w2.heap.size, 4, none⟩ = some (.bool true) ∧ w'.cell? ⟨w2.heap.size, 5, none⟩ = some (.bool false) ∧ w'.cell? ⟨w2.heap.size, 6, none⟩ = some (.int .i64 0) ∧ w'.cell? ⟨w2.heap.size, 7, none⟩ = some (.bool true))
      (first | (refine cells8 (t := 24) (f := (0, 0)) (a0 := .bool true) (a1 := .slice Ar 1 cr) (a2 := .slice Ah 1 ch) (a3 := .slice none 0 0) (a4 := .bool true) (a5 := .bool false) (a6 := .int .i64 0) (a7 := .bool true) ?_; repeat (first | (with_reducible exact Bs_7.out) | (with_reducible exact Bs_6.out) | (with_reducible exact Bs_5.out) | (with_reducible exact Bs_4.out) | (with_reducible exact Bs_3.out) | (with_reducible exact blk_new rfl) | (with_reducible refine blk_skip ?_) | (with_reducible refine blk_set_ne (by first | omega | (dsimp only; omega)) ?_) | (with_reducible refine blk_drew ?_) | (with_reducible refine blk_drewN ?_))))
      (first
        | (go_at_call 11
           have _tk := tok4
           clear _tk tok4
           refine (own_as true Ar cr [(3, 9)] Ah ch [(3, 5)] none 0 [] true false 0 true [(3, 9)] [(3, 5)] [] (by decide) (by decide) (by decide) _ (by repeat (first | exact Sr_3.out | refine Sp.alloc ?_ _ | refine Sp.drewN ?_ _ | refine Sp.drew ?_)) (by repeat (first | exact Sh_3.out | refine Sp.alloc ?_ _ | refine Sp.drewN ?_ _ | refine Sp.drew ?_)) (Sp.nil _) (by simp) (by simp) (by simp)).mono ?_
           rintro e4 w4 ⟨B1, d1, B2, d2, B3, d3, rfl, hs4, ht4, hu4, hb4⟩
           have HB_4 : Hid (Below w3.heap.size w3 w4) := bel_chain hb4 (by repeat (first | exact HB_3.out | refine bel_drewN ?_ _ | refine bel_drew ?_ | refine bel_alloc ?_ _))
           have Sr_4 : Hid (Sp w4 Ar cr ([(3, 9)])) := Sp.below (by repeat (first | exact Sr_3.out | refine Sp.alloc ?_ _ | refine Sp.drewN ?_ _ | refine Sp.drew ?_)) hb4
           have Sh_4 : Hid (Sp w4 Ah ch ([(3, 5)])) := Sp.below (by repeat (first | exact Sh_3.out | refine Sp.alloc ?_ _ | refine Sp.drewN ?_ _ | refine Sp.drew ?_)) hb4
           have Bs_4 : Hid (w4.heap[w2.heap.size]? = some (.cells #[.bool true, .slice Ar 1 cr, .slice Ah 1 ch, .slice none 0 0, .bool true, .bool false, .int .i64 0, .bool true] 24 (0, 0))) := blk_keep hb4 (blk_keep (W := w3) (by (repeat (first | exact Below.refl _ _ | refine bel_drewN ?_ _ | refine bel_drew ?_ | refine bel_alloc ?_ _ | refine bel_set ?_ (by simp) _))) Bs_3.out)
           have sz_4 : w2.heap.size < w4.heap.size := blk_lt Bs_4.out
           have Sa1_4 : Hid (Sp w4 B1 d1 ([(3, 9)])) := hs4
           have Sa2_4 : Hid (Sp w4 B2 d2 ([(3, 5)])) := ht4
           have Sa3_4 : Hid (Sp w4 B3 d3 ([])) := hu4
           try (have Bl4_4 : Hid (w4.heap[w3.heap.size]? = some (.cells #[.slice none 0 0] 29 (0, 0))) := blk_keep hb4 (by first | (with_reducible exact blk_new rfl) | (with_reducible exact blk_drew (blk_new rfl)) | fail))
           clear Sr_3 Sh_3 Bs_3 sz_3 hs4 ht4 hu4 HB_3 hb4
           have hq4 : w3.heap.size ≤ w4.heap.size := HB_4.out.size
           have tok5 : True := trivial)
        | (go_at_call 15
           have _tk := tok5
           clear _tk tok5
           refine (decide_as true B1 d1 [(3, 9)] B2 d2 [(3, 5)] B3 d3 [] true false 0 true 1 (by decide) _ (by repeat (first | exact Sa1_4.out | refine Sp.alloc ?_ _ | refine Sp.drewN ?_ _ | refine Sp.drew ?_)) (by repeat (first | exact Sa2_4.out | refine Sp.alloc ?_ _ | refine Sp.drewN ?_ _ | refine Sp.drew ?_)) (by repeat (first | exact Sa3_4.out | refine Sp.alloc ?_ _ | refine Sp.drewN ?_ _ | refine Sp.drew ?_)) (canon1 (by decide)) (canon1 (by decide)) Canon.nil (by simp) (by simp) (by simp)).mono ?_
           rintro e5 w5 ⟨rfl, hb5⟩
           have HB_5 : Hid (Below w3.heap.size w3 w5) := bel_chain hb5 (by repeat (first | exact HB_4.out | refine bel_drewN ?_ _ | refine bel_drew ?_ | refine bel_alloc ?_ _))
           have Sr_5 : Hid (Sp w5 Ar cr ([(3, 9)])) := Sp.below (by repeat (first | exact Sr_4.out | refine Sp.alloc ?_ _ | refine Sp.drewN ?_ _ | refine Sp.drew ?_)) hb5
           have Sh_5 : Hid (Sp w5 Ah ch ([(3, 5)])) := Sp.below (by repeat (first | exact Sh_4.out | refine Sp.alloc ?_ _ | refine Sp.drewN ?_ _ | refine Sp.drew ?_)) hb5
           have Sa1_5 : Hid (Sp w5 B1 d1 ([(3, 9)])) := Sp.below (by repeat (first | exact Sa1_4.out | refine Sp.alloc ?_ _ | refine Sp.drewN ?_ _ | refine Sp.drew ?_)) hb5
           have Sa2_5 : Hid (Sp w5 B2 d2 ([(3, 5)])) := Sp.below (by repeat (first | exact Sa2_4.out | refine Sp.alloc ?_ _ | refine Sp.drewN ?_ _ | refine Sp.drew ?_)) hb5
           have Sa3_5 : Hid (Sp w5 B3 d3 ([])) := Sp.below (by repeat (first | exact Sa3_4.out | refine Sp.alloc ?_ _ | refine Sp.drewN ?_ _ | refine Sp.drew ?_)) hb5
           have Bs_5 : Hid (w5.heap[w2.heap.size]? = some (.cells #[.bool true, .slice Ar 1 cr, .slice Ah 1 ch, .slice none 0 0, .bool true, .bool false, .int .i64 0, .bool true] 24 (0, 0))) := blk_keep hb5 (blk_keep (W := w4) (by (repeat (first | exact Below.refl _ _ | refine bel_drewN ?_ _ | refine bel_drew ?_ | refine bel_alloc ?_ _ | refine bel_set ?_ (by simp) _))) Bs_4.out)
           have sz_5 : w2.heap.size < w5.heap.size := blk_lt Bs_5.out
           try (have Bl5_5 : Hid (w5.heap[w4.heap.size]? = some (.cells #[.slice none 0 0] 29 (0, 0))) := blk_keep hb5 (by first | (with_reducible exact blk_new rfl) | (with_reducible exact blk_drew (blk_new rfl)) | fail))
           try (have Bl4_5 : Hid (w5.heap[w3.heap.size]? = some (.cells #[.slice none 0 0] 29 (0, 0))) := blk_keep hb5 (by first | (with_reducible exact Bl4_4.out) | (with_reducible exact blk_drew Bl4_4.out) | fail))
           clear Sr_4 Sh_4 Sa1_4 Sa2_4 Sa3_4 Bs_4 sz_4 HB_4 hb5
           clear Sa1_5
           clear Sa2_5
           clear Sa3_5
           have hq5 : w3.heap.size ≤ w5.heap.size := HB_5.out.size
           have tok6 : True := trivial)
        | (go_at_call 11
           have _tk := tok6
           clear _tk tok6
           refine (own_as true Ar cr [(3, 9)] Ah ch [(3, 5)] none 0 [] true false 0 true [(3, 9)] [(3, 5)] [] (by decide) (by decide) (by decide) _ (by repeat (first | exact Sr_5.out | refine Sp.alloc ?_ _ | refine Sp.drewN ?_ _ | refine Sp.drew ?_)) (by repeat (first | exact Sh_5.out | refine Sp.alloc ?_ _ | refine Sp.drewN ?_ _ | refine Sp.drew ?_)) (Sp.nil _) (by simp) (by simp) (by simp)).mono ?_
           rintro e6 w6 ⟨C1, e1, C2, e2, C3, e3, rfl, hs6, ht6, hu6, hb6⟩
           have HB_6 : Hid (Below w3.heap.size w3 w6) := bel_chain hb6 (by repeat (first | exact HB_5.out | refine bel_drewN ?_ _ | refine bel_drew ?_ | refine bel_alloc ?_ _))
           have Sr_6 : Hid (Sp w6 Ar cr ([(3, 9)])) := Sp.below (by repeat (first | exact Sr_5.out | refine Sp.alloc ?_ _ | refine Sp.drewN ?_ _ | refine Sp.drew ?_)) hb6
           have Sh_6 : Hid (Sp w6 Ah ch ([(3, 5)])) := Sp.below (by repeat (first | exact Sh_5.out | refine Sp.alloc ?_ _ | refine Sp.drewN ?_ _ | refine Sp.drew ?_)) hb6
           have Bs_6 : Hid (w6.heap[w2.heap.size]? = some (.cells #[.bool true, .slice Ar 1 cr, .slice Ah 1 ch, .slice none 0 0, .bool true, .bool false, .int .i64 0, .bool true] 24 (0, 0))) := blk_keep hb6 (blk_keep (W := w5) (by (repeat (first | exact Below.refl _ _ | refine bel_drewN ?_ _ | refine bel_drew ?_ | refine bel_alloc ?_ _ | refine bel_set ?_ (by simp) _))) Bs_5.out)
           have sz_6 : w2.heap.size < w6.heap.size := blk_lt Bs_6.out
           have Sa1_6 : Hid (Sp w6 C1 e1 ([(3, 9)])) := hs6
           have Sa2_6 : Hid (Sp w6 C2 e2 ([(3, 5)])) := ht6
           have Sa3_6 : Hid (Sp w6 C3 e3 ([])) := hu6
           try (have Bl6_6 : Hid (w6.heap[w5.heap.size]? = some (.cells #[.slice none 0 0] 29 (0, 0))) := blk_keep hb6 (by first | (with_reducible exact blk_new rfl) | (with_reducible exact blk_drew (blk_new rfl)) | fail))
           try (have Bl4_6 : Hid (w6.heap[w3.heap.size]? = some (.cells #[.slice none 0 0] 29 (0, 0))) := blk_keep hb6 (by first | (with_reducible exact Bl4_5.out) | (with_reducible exact blk_drew Bl4_5.out) | fail))
           try (have Bl5_6 : Hid (w6.heap[w4.heap.size]? = some (.cells #[.slice none 0 0] 29 (0, 0))) := blk_keep hb6 (by first | (with_reducible exact Bl5_5.out) | (with_reducible exact blk_drew Bl5_5.out) | fail))
           clear Sr_5 Sh_5 Bs_5 sz_5 hs6 ht6 hu6 HB_5 hb6
           have hq6 : w3.heap.size ≤ w6.heap.size := HB_6.out.size
           have tok7 : True := trivial)
        | (go_at_call 14
           have _tk := tok7
           clear _tk tok7
           refine (lost_as true C1 e1 [(3, 9)] C2 e2 [(3, 5)] C3 e3 [] true false 0 true [(5, 9)] (by decide) _ (by repeat (first | exact Sa1_6.out | refine Sp.alloc ?_ _ | refine Sp.drewN ?_ _ | refine Sp.drew ?_)) (by repeat (first | exact Sa2_6.out | refine Sp.alloc ?_ _ | refine Sp.drewN ?_ _ | refine Sp.drew ?_)) (by repeat (first | exact Sa3_6.out | refine Sp.alloc ?_ _ | refine Sp.drewN ?_ _ | refine Sp.drew ?_)) (canon1 (by decide)) (canon1 (by decide)) Canon.nil (by simp) (by simp) (by simp)).mono ?_
           rintro e7 w7 ⟨Al, cl, rfl, hs7, hb7⟩
           have HB_7 : Hid (Below w3.heap.size w3 w7) := bel_chain hb7 (by repeat (first | exact HB_6.out | refine bel_drewN ?_ _ | refine bel_drew ?_ | refine bel_alloc ?_ _))
           have Sr_7 : Hid (Sp w7 Ar cr ([(3, 9)])) := Sp.below (by repeat (first | exact Sr_6.out | refine Sp.alloc ?_ _ | refine Sp.drewN ?_ _ | refine Sp.drew ?_)) hb7
           have Sh_7 : Hid (Sp w7 Ah ch ([(3, 5)])) := Sp.below (by repeat (first | exact Sh_6.out | refine Sp.alloc ?_ _ | refine Sp.drewN ?_ _ | refine Sp.drew ?_)) hb7
           have Sa1_7 : Hid (Sp w7 C1 e1 ([(3, 9)])) := Sp.below (by repeat (first | exact Sa1_6.out | refine Sp.alloc ?_ _ | refine Sp.drewN ?_ _ | refine Sp.drew ?_)) hb7
           have Sa2_7 : Hid (Sp w7 C2 e2 ([(3, 5)])) := Sp.below (by repeat (first | exact Sa2_6.out | refine Sp.alloc ?_ _ | refine Sp.drewN ?_ _ | refine Sp.drew ?_)) hb7
           have Sa3_7 : Hid (Sp w7 C3 e3 ([])) := Sp.below (by repeat (first | exact Sa3_6.out | refine Sp.alloc ?_ _ | refine Sp.drewN ?_ _ | refine Sp.drew ?_)) hb7
           have Bs_7 : Hid (w7.heap[w2.heap.size]? = some (.cells #[.bool true, .slice Ar 1 cr, .slice Ah 1 ch, .slice none 0 0, .bool true, .bool false, .int .i64 0, .bool true] 24 (0, 0))) := blk_keep hb7 (blk_keep (W := w6) (by (repeat (first | exact Below.refl _ _ | refine bel_drewN ?_ _ | refine bel_drew ?_ | refine bel_alloc ?_ _ | refine bel_set ?_ (by simp) _))) Bs_6.out)
           have sz_7 : w2.heap.size < w7.heap.size := blk_lt Bs_7.out
           have Sl_7 : Hid (Sp w7 Al cl ([(5, 9)])) := hs7
           try (have Bl7_7 : Hid (w7.heap[w6.heap.size]? = some (.cells #[.slice none 0 0] 29 (0, 0))) := blk_keep hb7 (by first | (with_reducible exact blk_new rfl) | (with_reducible exact blk_drew (blk_new rfl)) | fail))
           try (have Bl4_7 : Hid (w7.heap[w3.heap.size]? = some (.cells #[.slice none 0 0] 29 (0, 0))) := blk_keep hb7 (by first | (with_reducible exact Bl4_6.out) | (with_reducible exact blk_drew Bl4_6.out) | fail))
           try (have Bl5_7 : Hid (w7.heap[w4.heap.size]? = some (.cells #[.slice none 0 0] 29 (0, 0))) := blk_keep hb7 (by first | (with_reducible exact Bl5_6.out) | (with_reducible exact blk_drew Bl5_6.out) | fail))
           try (have Bl6_7 : Hid (w7.heap[w5.heap.size]? = some (.cells #[.slice none 0 0] 29 (0, 0))) := blk_keep hb7 (by first | (with_reducible exact Bl6_6.out) | (with_reducible exact blk_drew Bl6_6.out) | fail))
           try (have lc4 : w7.cell? ⟨w3.heap.size, 0, none⟩ = some (.slice none 0 0) := blk_cell Bl4_7.out rfl)
           try (have lf4 : w7.frozen? ⟨w3.heap.size, 0, none⟩ = false := blk_frozen Bl4_7.out)
           try (have lz4 : w3.heap.size < w7.heap.size := blk_lt Bl4_7.out)
           try (have lc5 : w7.cell? ⟨w4.heap.size, 0, none⟩ = some (.slice none 0 0) := blk_cell Bl5_7.out rfl)
           try (have lf5 : w7.frozen? ⟨w4.heap.size, 0, none⟩ = false := blk_frozen Bl5_7.out)
           try (have lz5 : w4.heap.size < w7.heap.size := blk_lt Bl5_7.out)
           try (have lc6 : w7.cell? ⟨w5.heap.size, 0, none⟩ = some (.slice none 0 0) := blk_cell Bl6_7.out rfl)
           try (have lf6 : w7.frozen? ⟨w5.heap.size, 0, none⟩ = false := blk_frozen Bl6_7.out)
           try (have lz6 : w5.heap.size < w7.heap.size := blk_lt Bl6_7.out)
           try (have lc7 : w7.cell? ⟨w6.heap.size, 0, none⟩ = some (.slice none 0 0) := blk_cell Bl7_7.out rfl)
           try (have lf7 : w7.frozen? ⟨w6.heap.size, 0, none⟩ = false := blk_frozen Bl7_7.out)
           try (have lz7 : w6.heap.size < w7.heap.size := blk_lt Bl7_7.out)
           clear Sr_6 Sh_6 Sa1_6 Sa2_6 Sa3_6 Bs_6 sz_6 hs7 HB_6 hb7
           clear Sa1_7
           clear Sa2_7
           clear Sa3_7
           have hq7 : w3.heap.size ≤ w7.heap.size := HB_7.out.size
           have tok8 : True := trivial))
    all_goals go_wp2_with fail
    all_goals go_meet
    all_goals refine ⟨_, Al, cl, rfl, rfl, ?_, ?_, ?_, ?_⟩
    all_goals first
      | (first | exact Nat.le_refl _ | omega)
      | (with_reducible exact blk_new rfl)
      | (with_reducible exact blk_set1 Bl4_7.out)
      | (with_reducible exact blk_set1 Bl5_7.out)
      | (with_reducible exact blk_set1 Bl6_7.out)
      | (with_reducible exact blk_set1 Bl7_7.out)
      | (with_reducible exact Sl_7.out.alloc _)
      | (with_reducible exact bel_alloc HB_7.out _)
      | (with_reducible exact bel_set HB_7.out (by first | exact Nat.le_refl _ | (dsimp only; omega)) _)
      | (refine Sl_7.out.setOff (fun h0 => ?_) _; first | (with_reducible exact Sl_7.out.off_blk h0 Bl4_7.out (noPair1 _)) | (with_reducible exact Sl_7.out.off_blk h0 Bl5_7.out (noPair1 _)) | (with_reducible exact Sl_7.out.off_blk h0 Bl6_7.out (noPair1 _)) | (with_reducible exact Sl_7.out.off_blk h0 Bl7_7.out (noPair1 _)))
  case rest =>
    obtain ⟨g, Al, cl, rfl, rfl, hg, hBl, hSl, hbx⟩ := hcut
    obtain ⟨w8, rfl⟩ : ∃ w8, w8 = wc := ⟨_, rfl⟩
    have HB_8 : Hid (Below w.heap.size w w8) := bel_chain hbx HB_3.out
    have Sh_8 := Lib.hid (Sh_3.out.below hbx)
    have Sl_8 := Lib.hid hSl
    have Bs_8 : Hid (w8.heap[w2.heap.size]? = some (.cells #[.bool true, .slice Ar 1 cr, .slice Ah 1 ch, .slice none 0 0, .bool true, .bool false, .int .i64 0, .bool true] 24 (0, 0))) := blk_keep hbx Bs_3.out
    have s0_8 : w8.cell? ⟨w2.heap.size, 0, none⟩ = some (.bool true) := blk_cell Bs_8.out rfl
    have sf0_8 : w8.frozen? ⟨w2.heap.size, 0, none⟩ = false := blk_frozen Bs_8.out
    have s1_8 : w8.cell? ⟨w2.heap.size, 1, none⟩ = some (.slice Ar 1 cr) := blk_cell Bs_8.out rfl
    have sf1_8 : w8.frozen? ⟨w2.heap.size, 1, none⟩ = false := blk_frozen Bs_8.out
    have s2_8 : w8.cell? ⟨w2.heap.size, 2, none⟩ = some (.slice Ah 1 ch) := blk_cell Bs_8.out rfl
    have sf2_8 : w8.frozen? ⟨w2.heap.size, 2, none⟩ = false := blk_frozen Bs_8.out
    have s3_8 : w8.cell? ⟨w2.heap.size, 3, none⟩ = some (.slice none 0 0) := blk_cell Bs_8.out rfl
    have sf3_8 : w8.frozen? ⟨w2.heap.size, 3, none⟩ = false := blk_frozen Bs_8.out
    have s4_8 : w8.cell? ⟨w2.heap.size, 4, none⟩ = some (.bool true) := blk_cell Bs_8.out rfl
    have sf4_8 : w8.frozen? ⟨w2.heap.size, 4, none⟩ = false := blk_frozen Bs_8.out
    have s5_8 : w8.cell? ⟨w2.heap.size, 5, none⟩ = some (.bool false) := blk_cell Bs_8.out rfl
    have sf5_8 : w8.frozen? ⟨w2.heap.size, 5, none⟩ = false := blk_frozen Bs_8.out
    have s6_8 : w8.cell? ⟨w2.heap.size, 6, none⟩ = some (.int .i64 0) := blk_cell Bs_8.out rfl
    have sf6_8 : w8.frozen? ⟨w2.heap.size, 6, none⟩ = false := blk_frozen Bs_8.out
    have s7_8 : w8.cell? ⟨w2.heap.size, 7, none⟩ = some (.bool true) := blk_cell Bs_8.out rfl
    have sf7_8 : w8.frozen? ⟨w2.heap.size, 7, none⟩ = false := blk_frozen Bs_8.out
    have sz_8 : w2.heap.size < w8.heap.size := blk_lt Bs_8.out
    have Bl_8 : Hid (w8.heap[g]? = some (.cells #[.slice Al 1 cl] 29 (0, 0))) := hBl
    have l0_8 : w8.cell? ⟨g, 0, none⟩ = some (.slice Al 1 cl) := blk_cell Bl_8.out rfl
    have lz_8 : g < w8.heap.size := blk_lt Bl_8.out
    have ordsg : w2.heap.size < g := by omega
    clear hg hBl hSl hbx Sr_3 Sh_3 HB_3 Bs_3
    go_wp2_with fail
    refine (spans37_any 5 9 _).mono ?_
    rintro e9 w9 ⟨Aq, cq, rfl, hs9, hb9⟩
    have HB_9 : Hid (Below w.heap.size w w9) := bel_chain hb9 (by repeat (first | exact HB_8.out | refine bel_drewN ?_ _ | refine bel_drew ?_ | refine bel_alloc ?_ _))
    have Sh_9 : Hid (Sp w9 Ah ch ([(3, 5)])) := Sp.below (by repeat (first | exact Sh_8.out | refine Sp.alloc ?_ _ | refine Sp.drewN ?_ _ | refine Sp.drew ?_)) hb9
    have Sl_9 : Hid (Sp w9 Al cl ([(5, 9)])) := Sp.below (by repeat (first | exact Sl_8.out | refine Sp.alloc ?_ _ | refine Sp.drewN ?_ _ | refine Sp.drew ?_)) hb9
    have Bs_9 : Hid (w9.heap[w2.heap.size]? = some (.cells #[.bool true, .slice Ar 1 cr, .slice Ah 1 ch, .slice none 0 0, .bool true, .bool false, .int .i64 0, .bool true] 24 (0, 0))) := blk_keep hb9 (blk_keep (W := w8) (by (repeat (first | exact Below.refl _ _ | refine bel_drewN ?_ _ | refine bel_drew ?_ | refine bel_alloc ?_ _ | refine bel_set ?_ (by simp) _))) Bs_8.out)
    have Bl_9 : Hid (w9.heap[g]? = some (.cells #[.slice Al 1 cl] 29 (0, 0))) := blk_keep hb9 (blk_keep (W := w8) (by (repeat (first | exact Below.refl _ _ | refine bel_drewN ?_ _ | refine bel_drew ?_ | refine bel_alloc ?_ _ | refine bel_set ?_ (by simp) _))) Bl_8.out)
    have s0_9 : w9.cell? ⟨w2.heap.size, 0, none⟩ = some (.bool true) := blk_cell Bs_9.out rfl
    have sf0_9 : w9.frozen? ⟨w2.heap.size, 0, none⟩ = false := blk_frozen Bs_9.out
    have s1_9 : w9.cell? ⟨w2.heap.size, 1, none⟩ = some (.slice Ar 1 cr) := blk_cell Bs_9.out rfl
    have sf1_9 : w9.frozen? ⟨w2.heap.size, 1, none⟩ = false := blk_frozen Bs_9.out
    have s2_9 : w9.cell? ⟨w2.heap.size, 2, none⟩ = some (.slice Ah 1 ch) := blk_cell Bs_9.out rfl
    have sf2_9 : w9.frozen? ⟨w2.heap.size, 2, none⟩ = false := blk_frozen Bs_9.out
    have s3_9 : w9.cell? ⟨w2.heap.size, 3, none⟩ = some (.slice none 0 0) := blk_cell Bs_9.out rfl
    have sf3_9 : w9.frozen? ⟨w2.heap.size, 3, none⟩ = false := blk_frozen Bs_9.out
    have s4_9 : w9.cell? ⟨w2.heap.size, 4, none⟩ = some (.bool true) := blk_cell Bs_9.out rfl
    have sf4_9 : w9.frozen? ⟨w2.heap.size, 4, none⟩ = false := blk_frozen Bs_9.out
    have s5_9 : w9.cell? ⟨w2.heap.size, 5, none⟩ = some (.bool false) := blk_cell Bs_9.out rfl
    have sf5_9 : w9.frozen? ⟨w2.heap.size, 5, none⟩ = false := blk_frozen Bs_9.out
    have s6_9 : w9.cell? ⟨w2.heap.size, 6, none⟩ = some (.int .i64 0) := blk_cell Bs_9.out rfl
    have sf6_9 : w9.frozen? ⟨w2.heap.size, 6, none⟩ = false := blk_frozen Bs_9.out
    have s7_9 : w9.cell? ⟨w2.heap.size, 7, none⟩ = some (.bool true) := blk_cell Bs_9.out rfl
    have sf7_9 : w9.frozen? ⟨w2.heap.size, 7, none⟩ = false := blk_frozen Bs_9.out
    have sz_9 : w2.heap.size < w9.heap.size := blk_lt Bs_9.out
    have l0_9 : w9.cell? ⟨g, 0, none⟩ = some (.slice Al 1 cl) := blk_cell Bl_9.out rfl
    have lz_9 : g < w9.heap.size := blk_lt Bl_9.out
    have Sq_9 : Hid (Sp w9 Aq cq ([(5, 9)])) := hs9
    clear Sh_8 Sl_8 Bs_8 s0_8 s1_8 s2_8 s3_8 s4_8 s5_8 s6_8 s7_8 sf0_8 sf1_8 sf2_8 sf3_8 sf4_8 sf5_8 sf6_8 sf7_8 sz_8 Bl_8 l0_8 lz_8 hs9 HB_8 hb9
    go_wp2_with fail
    obtain ⟨w10, hw10⟩ : ∃ w10, World.setCell w9 ⟨w2.heap.size, 1, none⟩ (.slice Aq 1 cq) = w10 := ⟨_, rfl⟩
    rw [hw10]
    have hg10 : w9.grownBy w10 (some (w2.heap.size)) := by rw [← hw10]; exact grown_set (p := ⟨w2.heap.size, 1, none⟩) (World.grownBy.refl _ _) _
    have HB_10 : Hid (Below w.heap.size w w10) := Below.grown HB_9.out hg10 HB_9.out.size (fun j hj => by injection hj with hj; omega)
    have Sh_10 : Hid (Sp w10 Ah ch ([(3, 5)])) := Sh_9.out.grown' (fun h0 => Sh_9.out.off_blk h0 Bs_9.out (noPair8 ..)) hg10
    have Sl_10 : Hid (Sp w10 Al cl ([(5, 9)])) := Sl_9.out.grown' (fun h0 => Sl_9.out.off_blk h0 Bs_9.out (noPair8 ..)) hg10
    have Sq_10 : Hid (Sp w10 Aq cq ([(5, 9)])) := Sq_9.out.grown' (fun h0 => Sq_9.out.off_blk h0 Bs_9.out (noPair8 ..)) hg10
    have Bs_10 : Hid (w10.heap[w2.heap.size]? = some (.cells #[.bool true, .slice Aq 1 cq, .slice Ah 1 ch, .slice none 0 0, .bool true, .bool false, .int .i64 0, .bool true] 24 (0, 0))) := by simp only [Hid]; rw [← hw10]; exact blk_set Bs_9.out
    have Bl_10 : Hid (w10.heap[g]? = some (.cells #[.slice Al 1 cl] 29 (0, 0))) := (hg10.block _ (by omega) (by intro e; injection e with e; omega)).trans Bl_9.out
    have s0_10 : w10.cell? ⟨w2.heap.size, 0, none⟩ = some (.bool true) := blk_cell Bs_10.out rfl
    have sf0_10 : w10.frozen? ⟨w2.heap.size, 0, none⟩ = false := blk_frozen Bs_10.out
    have s1_10 : w10.cell? ⟨w2.heap.size, 1, none⟩ = some (.slice Aq 1 cq) := blk_cell Bs_10.out rfl
    have sf1_10 : w10.frozen? ⟨w2.heap.size, 1, none⟩ = false := blk_frozen Bs_10.out
    have s2_10 : w10.cell? ⟨w2.heap.size, 2, none⟩ = some (.slice Ah 1 ch) := blk_cell Bs_10.out rfl
    have sf2_10 : w10.frozen? ⟨w2.heap.size, 2, none⟩ = false := blk_frozen Bs_10.out
    have s3_10 : w10.cell? ⟨w2.heap.size, 3, none⟩ = some (.slice none 0 0) := blk_cell Bs_10.out rfl
    have sf3_10 : w10.frozen? ⟨w2.heap.size, 3, none⟩ = false := blk_frozen Bs_10.out
    have s4_10 : w10.cell? ⟨w2.heap.size, 4, none⟩ = some (.bool true) := blk_cell Bs_10.out rfl
    have sf4_10 : w10.frozen? ⟨w2.heap.size, 4, none⟩ = false := blk_frozen Bs_10.out
    have s5_10 : w10.cell? ⟨w2.heap.size, 5, none⟩ = some (.bool false) := blk_cell Bs_10.out rfl
    have sf5_10 : w10.frozen? ⟨w2.heap.size, 5, none⟩ = false := blk_frozen Bs_10.out
    have s6_10 : w10.cell? ⟨w2.heap.size, 6, none⟩ = some (.int .i64 0) := blk_cell Bs_10.out rfl
    have sf6_10 : w10.frozen? ⟨w2.heap.size, 6, none⟩ = false := blk_frozen Bs_10.out
    have s7_10 : w10.cell? ⟨w2.heap.size, 7, none⟩ = some (.bool true) := blk_cell Bs_10.out rfl
    have sf7_10 : w10.frozen? ⟨w2.heap.size, 7, none⟩ = false := blk_frozen Bs_10.out
    have sz_10 : w2.heap.size < w10.heap.size := blk_lt Bs_10.out
    have l0_10 : w10.cell? ⟨g, 0, none⟩ = some (.slice Al 1 cl) := blk_cell Bl_10.out rfl
    have lz_10 : g < w10.heap.size := blk_lt Bl_10.out
    clear HB_9 hw10 hg10 Sh_9 Sl_9 Sq_9 Bs_9 s0_9 s1_9 s2_9 s3_9 s4_9 s5_9 s6_9 s7_9 sf0_9 sf1_9 sf2_9 sf3_9 sf4_9 sf5_9 sf6_9 sf7_9 sz_9 Bl_9 l0_9 lz_9
    refine (own_as true Aq cq [(5, 9)] Ah ch [(3, 5)] none 0 [] true false 0 true [(5, 9)] [(3, 5)] [] (by decide) (by decide) (by decide) _ (by repeat (first | exact Sq_10.out | refine Sp.alloc ?_ _ | refine Sp.drewN ?_ _ | refine Sp.drew ?_)) (by repeat (first | exact Sh_10.out | refine Sp.alloc ?_ _ | refine Sp.drewN ?_ _ | refine Sp.drew ?_)) (Sp.nil _) (by simp) (by simp) (by simp)).mono ?_
    rintro e11 w11 ⟨B1, d1, B2, d2, B3, d3, rfl, hs11, ht11, hu11, hb11⟩
    have HB_11 : Hid (Below w.heap.size w w11) := bel_chain hb11 (by repeat (first | exact HB_10.out | refine bel_drewN ?_ _ | refine bel_drew ?_ | refine bel_alloc ?_ _))
    have Sh_11 : Hid (Sp w11 Ah ch ([(3, 5)])) := Sp.below (by repeat (first | exact Sh_10.out | refine Sp.alloc ?_ _ | refine Sp.drewN ?_ _ | refine Sp.drew ?_)) hb11
    have Sl_11 : Hid (Sp w11 Al cl ([(5, 9)])) := Sp.below (by repeat (first | exact Sl_10.out | refine Sp.alloc ?_ _ | refine Sp.drewN ?_ _ | refine Sp.drew ?_)) hb11
    have Sq_11 : Hid (Sp w11 Aq cq ([(5, 9)])) := Sp.below (by repeat (first | exact Sq_10.out | refine Sp.alloc ?_ _ | refine Sp.drewN ?_ _ | refine Sp.drew ?_)) hb11
    have Bs_11 : Hid (w11.heap[w2.heap.size]? = some (.cells #[.bool true, .slice Aq 1 cq, .slice Ah 1 ch, .slice none 0 0, .bool true, .bool false, .int .i64 0, .bool true] 24 (0, 0))) := blk_keep hb11 (blk_keep (W := w10) (by (repeat (first | exact Below.refl _ _ | refine bel_drewN ?_ _ | refine bel_drew ?_ | refine bel_alloc ?_ _ | refine bel_set ?_ (by simp) _))) Bs_10.out)
    have Bl_11 : Hid (w11.heap[g]? = some (.cells #[.slice Al 1 cl] 29 (0, 0))) := blk_keep hb11 (blk_keep (W := w10) (by (repeat (first | exact Below.refl _ _ | refine bel_drewN ?_ _ | refine bel_drew ?_ | refine bel_alloc ?_ _ | refine bel_set ?_ (by simp) _))) Bl_10.out)
    have s0_11 : w11.cell? ⟨w2.heap.size, 0, none⟩ = some (.bool true) := blk_cell Bs_11.out rfl
    have sf0_11 : w11.frozen? ⟨w2.heap.size, 0, none⟩ = false := blk_frozen Bs_11.out
    have s1_11 : w11.cell? ⟨w2.heap.size, 1, none⟩ = some (.slice Aq 1 cq) := blk_cell Bs_11.out rfl
    have sf1_11 : w11.frozen? ⟨w2.heap.size, 1, none⟩ = false := blk_frozen Bs_11.out
    have s2_11 : w11.cell? ⟨w2.heap.size, 2, none⟩ = some (.slice Ah 1 ch) := blk_cell Bs_11.out rfl
    have sf2_11 : w11.frozen? ⟨w2.heap.size, 2, none⟩ = false := blk_frozen Bs_11.out
    have s3_11 : w11.cell? ⟨w2.heap.size, 3, none⟩ = some (.slice none 0 0) := blk_cell Bs_11.out rfl
    have sf3_11 : w11.frozen? ⟨w2.heap.size, 3, none⟩ = false := blk_frozen Bs_11.out
    have s4_11 : w11.cell? ⟨w2.heap.size, 4, none⟩ = some (.bool true) := blk_cell Bs_11.out rfl
    have sf4_11 : w11.frozen? ⟨w2.heap.size, 4, none⟩ = false := blk_frozen Bs_11.out
    have s5_11 : w11.cell? ⟨w2.heap.size, 5, none⟩ = some (.bool false) := blk_cell Bs_11.out rfl
    have sf5_11 : w11.frozen? ⟨w2.heap.size, 5, none⟩ = false := blk_frozen Bs_11.out
    have s6_11 : w11.cell? ⟨w2.heap.size, 6, none⟩ = some (.int .i64 0) := blk_cell Bs_11.out rfl
    have sf6_11 : w11.frozen? ⟨w2.heap.size, 6, none⟩ = false := blk_frozen Bs_11.out
    have s7_11 : w11.cell? ⟨w2.heap.size, 7, none⟩ = some (.bool true) := blk_cell Bs_11.out rfl
    have sf7_11 : w11.frozen? ⟨w2.heap.size, 7, none⟩ = false := blk_frozen Bs_11.out
    have sz_11 : w2.heap.size < w11.heap.size := blk_lt Bs_11.out
    have l0_11 : w11.cell? ⟨g, 0, none⟩ = some (.slice Al 1 cl) := blk_cell Bl_11.out rfl
    have lz_11 : g < w11.heap.size := blk_lt Bl_11.out
    have Sa1_11 : Hid (Sp w11 B1 d1 ([(5, 9)])) := hs11
    have Sa2_11 : Hid (Sp w11 B2 d2 ([(3, 5)])) := ht11
    have Sa3_11 : Hid (Sp w11 B3 d3 ([])) := hu11
    clear Sh_10 Sl_10 Sq_10 Bs_10 s0_10 s1_10 s2_10 s3_10 s4_10 s5_10 s6_10 s7_10 sf0_10 sf1_10 sf2_10 sf3_10 sf4_10 sf5_10 sf6_10 sf7_10 sz_10 Bl_10 l0_10 lz_10 hs11 ht11 hu11 HB_10 hb11
    go_wp2_with fail
    refine (decide_as true B1 d1 [(5, 9)] B2 d2 [(3, 5)] B3 d3 [] true false 0 true 5 (by decide) _ (by repeat (first | exact Sa1_11.out | refine Sp.alloc ?_ _ | refine Sp.drewN ?_ _ | refine Sp.drew ?_)) (by repeat (first | exact Sa2_11.out | refine Sp.alloc ?_ _ | refine Sp.drewN ?_ _ | refine Sp.drew ?_)) (by repeat (first | exact Sa3_11.out | refine Sp.alloc ?_ _ | refine Sp.drewN ?_ _ | refine Sp.drew ?_)) (canon1 (by decide)) (canon1 (by decide)) Canon.nil (by simp) (by simp) (by simp)).mono ?_
    rintro e12 w12 ⟨rfl, hb12⟩
    have HB_12 : Hid (Below w.heap.size w w12) := bel_chain hb12 (by repeat (first | exact HB_11.out | refine bel_drewN ?_ _ | refine bel_drew ?_ | refine bel_alloc ?_ _))
    have Sh_12 : Hid (Sp w12 Ah ch ([(3, 5)])) := Sp.below (by repeat (first | exact Sh_11.out | refine Sp.alloc ?_ _ | refine Sp.drewN ?_ _ | refine Sp.drew ?_)) hb12
    have Sl_12 : Hid (Sp w12 Al cl ([(5, 9)])) := Sp.below (by repeat (first | exact Sl_11.out | refine Sp.alloc ?_ _ | refine Sp.drewN ?_ _ | refine Sp.drew ?_)) hb12
    have Sq_12 : Hid (Sp w12 Aq cq ([(5, 9)])) := Sp.below (by repeat (first | exact Sq_11.out | refine Sp.alloc ?_ _ | refine Sp.drewN ?_ _ | refine Sp.drew ?_)) hb12
    have Sa1_12 : Hid (Sp w12 B1 d1 ([(5, 9)])) := Sp.below (by repeat (first | exact Sa1_11.out | refine Sp.alloc ?_ _ | refine Sp.drewN ?_ _ | refine Sp.drew ?_)) hb12
    have Sa2_12 : Hid (Sp w12 B2 d2 ([(3, 5)])) := Sp.below (by repeat (first | exact Sa2_11.out | refine Sp.alloc ?_ _ | refine Sp.drewN ?_ _ | refine Sp.drew ?_)) hb12
    have Sa3_12 : Hid (Sp w12 B3 d3 ([])) := Sp.below (by repeat (first | exact Sa3_11.out | refine Sp.alloc ?_ _ | refine Sp.drewN ?_ _ | refine Sp.drew ?_)) hb12
    have Bs_12 : Hid (w12.heap[w2.heap.size]? = some (.cells #[.bool true, .slice Aq 1 cq, .slice Ah 1 ch, .slice none 0 0, .bool true, .bool false, .int .i64 0, .bool true] 24 (0, 0))) := blk_keep hb12 (blk_keep (W := w11) (by (repeat (first | exact Below.refl _ _ | refine bel_drewN ?_ _ | refine bel_drew ?_ | refine bel_alloc ?_ _ | refine bel_set ?_ (by simp) _))) Bs_11.out)
    have Bl_12 : Hid (w12.heap[g]? = some (.cells #[.slice Al 1 cl] 29 (0, 0))) := blk_keep hb12 (blk_keep (W := w11) (by (repeat (first | exact Below.refl _ _ | refine bel_drewN ?_ _ | refine bel_drew ?_ | refine bel_alloc ?_ _ | refine bel_set ?_ (by simp) _))) Bl_11.out)
    have s0_12 : w12.cell? ⟨w2.heap.size, 0, none⟩ = some (.bool true) := blk_cell Bs_12.out rfl
    have sf0_12 : w12.frozen? ⟨w2.heap.size, 0, none⟩ = false := blk_frozen Bs_12.out
    have s1_12 : w12.cell? ⟨w2.heap.size, 1, none⟩ = some (.slice Aq 1 cq) := blk_cell Bs_12.out rfl
    have sf1_12 : w12.frozen? ⟨w2.heap.size, 1, none⟩ = false := blk_frozen Bs_12.out
    have s2_12 : w12.cell? ⟨w2.heap.size, 2, none⟩ = some (.slice Ah 1 ch) := blk_cell Bs_12.out rfl
    have sf2_12 : w12.frozen? ⟨w2.heap.size, 2, none⟩ = false := blk_frozen Bs_12.out
    have s3_12 : w12.cell? ⟨w2.heap.size, 3, none⟩ = some (.slice none 0 0) := blk_cell Bs_12.out rfl
    have sf3_12 : w12.frozen? ⟨w2.heap.size, 3, none⟩ = false := blk_frozen Bs_12.out
    have s4_12 : w12.cell? ⟨w2.heap.size, 4, none⟩ = some (.bool true) := blk_cell Bs_12.out rfl
    have sf4_12 : w12.frozen? ⟨w2.heap.size, 4, none⟩ = false := blk_frozen Bs_12.out
    have s5_12 : w12.cell? ⟨w2.heap.size, 5, none⟩ = some (.bool false) := blk_cell Bs_12.out rfl
    have sf5_12 : w12.frozen? ⟨w2.heap.size, 5, none⟩ = false := blk_frozen Bs_12.out
    have s6_12 : w12.cell? ⟨w2.heap.size, 6, none⟩ = some (.int .i64 0) := blk_cell Bs_12.out rfl
    have sf6_12 : w12.frozen? ⟨w2.heap.size, 6, none⟩ = false := blk_frozen Bs_12.out
    have s7_12 : w12.cell? ⟨w2.heap.size, 7, none⟩ = some (.bool true) := blk_cell Bs_12.out rfl
    have sf7_12 : w12.frozen? ⟨w2.heap.size, 7, none⟩ = false := blk_frozen Bs_12.out
    have sz_12 : w2.heap.size < w12.heap.size := blk_lt Bs_12.out
    have l0_12 : w12.cell? ⟨g, 0, none⟩ = some (.slice Al 1 cl) := blk_cell Bl_12.out rfl
    have lz_12 : g < w12.heap.size := blk_lt Bl_12.out
    clear Sh_11 Sl_11 Sq_11 Sa1_11 Sa2_11 Sa3_11 Bs_11 s0_11 s1_11 s2_11 s3_11 s4_11 s5_11 s6_11 s7_11 sf0_11 sf1_11 sf2_11 sf3_11 sf4_11 sf5_11 sf6_11 sf7_11 sz_11 Bl_11 l0_11 lz_11 HB_11 hb12
    clear Sa1_12
    clear Sa2_12
    clear Sa3_12
    go_wp2_with fail
    obtain ⟨w13, hw13⟩ : ∃ w13, World.setCell w12 ⟨w2.heap.size, 4, none⟩ (.bool false) = w13 := ⟨_, rfl⟩
    rw [hw13]
    have hg13 : w12.grownBy w13 (some (w2.heap.size)) := by rw [← hw13]; exact grown_set (p := ⟨w2.heap.size, 4, none⟩) (World.grownBy.refl _ _) _
    have HB_13 : Hid (Below w.heap.size w w13) := Below.grown HB_12.out hg13 HB_12.out.size (fun j hj => by injection hj with hj; omega)
    have Sh_13 : Hid (Sp w13 Ah ch ([(3, 5)])) := Sh_12.out.grown' (fun h0 => Sh_12.out.off_blk h0 Bs_12.out (noPair8 ..)) hg13
    have Sl_13 : Hid (Sp w13 Al cl ([(5, 9)])) := Sl_12.out.grown' (fun h0 => Sl_12.out.off_blk h0 Bs_12.out (noPair8 ..)) hg13
    have Sq_13 : Hid (Sp w13 Aq cq ([(5, 9)])) := Sq_12.out.grown' (fun h0 => Sq_12.out.off_blk h0 Bs_12.out (noPair8 ..)) hg13
    have Bs_13 : Hid (w13.heap[w2.heap.size]? = some (.cells #[.bool true, .slice Aq 1 cq, .slice Ah 1 ch, .slice none 0 0, .bool false, .bool false, .int .i64 0, .bool true] 24 (0, 0))) := by simp only [Hid]; rw [← hw13]; exact blk_set Bs_12.out
    have Bl_13 : Hid (w13.heap[g]? = some (.cells #[.slice Al 1 cl] 29 (0, 0))) := (hg13.block _ (by omega) (by intro e; injection e with e; omega)).trans Bl_12.out
    have s0_13 : w13.cell? ⟨w2.heap.size, 0, none⟩ = some (.bool true) := blk_cell Bs_13.out rfl
    have sf0_13 : w13.frozen? ⟨w2.heap.size, 0, none⟩ = false := blk_frozen Bs_13.out
    have s1_13 : w13.cell? ⟨w2.heap.size, 1, none⟩ = some (.slice Aq 1 cq) := blk_cell Bs_13.out rfl
    have sf1_13 : w13.frozen? ⟨w2.heap.size, 1, none⟩ = false := blk_frozen Bs_13.out
    have s2_13 : w13.cell? ⟨w2.heap.size, 2, none⟩ = some (.slice Ah 1 ch) := blk_cell Bs_13.out rfl
    have sf2_13 : w13.frozen? ⟨w2.heap.size, 2, none⟩ = false := blk_frozen Bs_13.out
    have s3_13 : w13.cell? ⟨w2.heap.size, 3, none⟩ = some (.slice none 0 0) := blk_cell Bs_13.out rfl
    have sf3_13 : w13.frozen? ⟨w2.heap.size, 3, none⟩ = false := blk_frozen Bs_13.out
    have s4_13 : w13.cell? ⟨w2.heap.size, 4, none⟩ = some (.bool false) := blk_cell Bs_13.out rfl
    have sf4_13 : w13.frozen? ⟨w2.heap.size, 4, none⟩ = false := blk_frozen Bs_13.out
    have s5_13 : w13.cell? ⟨w2.heap.size, 5, none⟩ = some (.bool false) := blk_cell Bs_13.out rfl
    have sf5_13 : w13.frozen? ⟨w2.heap.size, 5, none⟩ = false := blk_frozen Bs_13.out
    have s6_13 : w13.cell? ⟨w2.heap.size, 6, none⟩ = some (.int .i64 0) := blk_cell Bs_13.out rfl
    have sf6_13 : w13.frozen? ⟨w2.heap.size, 6, none⟩ = false := blk_frozen Bs_13.out
    have s7_13 : w13.cell? ⟨w2.heap.size, 7, none⟩ = some (.bool true) := blk_cell Bs_13.out rfl
    have sf7_13 : w13.frozen? ⟨w2.heap.size, 7, none⟩ = false := blk_frozen Bs_13.out
    have sz_13 : w2.heap.size < w13.heap.size := blk_lt Bs_13.out
    have l0_13 : w13.cell? ⟨g, 0, none⟩ = some (.slice Al 1 cl) := blk_cell Bl_13.out rfl
    have lz_13 : g < w13.heap.size := blk_lt Bl_13.out
    clear HB_12 hw13 hg13 Sh_12 Sl_12 Sq_12 Bs_12 s0_12 s1_12 s2_12 s3_12 s4_12 s5_12 s6_12 s7_12 sf0_12 sf1_12 sf2_12 sf3_12 sf4_12 sf5_12 sf6_12 sf7_12 sz_12 Bl_12 l0_12 lz_12
    refine (own_as true Aq cq [(5, 9)] Ah ch [(3, 5)] none 0 [] false false 0 true [(5, 9)] [(3, 5)] [] (by decide) (by decide) (by decide) _ (by repeat (first | exact Sq_13.out | refine Sp.alloc ?_ _ | refine Sp.drewN ?_ _ | refine Sp.drew ?_)) (by repeat (first | exact Sh_13.out | refine Sp.alloc ?_ _ | refine Sp.drewN ?_ _ | refine Sp.drew ?_)) (Sp.nil _) (by simp) (by simp) (by simp)).mono ?_
    rintro e14 w14 ⟨C1, e1, C2, e2, C3, e3, rfl, hs14, ht14, hu14, hb14⟩
    have HB_14 : Hid (Below w.heap.size w w14) := bel_chain hb14 (by repeat (first | exact HB_13.out | refine bel_drewN ?_ _ | refine bel_drew ?_ | refine bel_alloc ?_ _))
    have Sh_14 : Hid (Sp w14 Ah ch ([(3, 5)])) := Sp.below (by repeat (first | exact Sh_13.out | refine Sp.alloc ?_ _ | refine Sp.drewN ?_ _ | refine Sp.drew ?_)) hb14
    have Sl_14 : Hid (Sp w14 Al cl ([(5, 9)])) := Sp.below (by repeat (first | exact Sl_13.out | refine Sp.alloc ?_ _ | refine Sp.drewN ?_ _ | refine Sp.drew ?_)) hb14
    have Sq_14 : Hid (Sp w14 Aq cq ([(5, 9)])) := Sp.below (by repeat (first | exact Sq_13.out | refine Sp.alloc ?_ _ | refine Sp.drewN ?_ _ | refine Sp.drew ?_)) hb14
    have Bs_14 : Hid (w14.heap[w2.heap.size]? = some (.cells #[.bool true, .slice Aq 1 cq, .slice Ah 1 ch, .slice none 0 0, .bool false, .bool false, .int .i64 0, .bool true] 24 (0, 0))) := blk_keep hb14 (blk_keep (W := w13) (by (repeat (first | exact Below.refl _ _ | refine bel_drewN ?_ _ | refine bel_drew ?_ | refine bel_alloc ?_ _ | refine bel_set ?_ (by simp) _))) Bs_13.out)
    have Bl_14 : Hid (w14.heap[g]? = some (.cells #[.slice Al 1 cl] 29 (0, 0))) := blk_keep hb14 (blk_keep (W := w13) (by (repeat (first | exact Below.refl _ _ | refine bel_drewN ?_ _ | refine bel_drew ?_ | refine bel_alloc ?_ _ | refine bel_set ?_ (by simp) _))) Bl_13.out)
    have s0_14 : w14.cell? ⟨w2.heap.size, 0, none⟩ = some (.bool true) := blk_cell Bs_14.out rfl
    have sf0_14 : w14.frozen? ⟨w2.heap.size, 0, none⟩ = false := blk_frozen Bs_14.out
    have s1_14 : w14.cell? ⟨w2.heap.size, 1, none⟩ = some (.slice Aq 1 cq) := blk_cell Bs_14.out rfl
    have sf1_14 : w14.frozen? ⟨w2.heap.size, 1, none⟩ = false := blk_frozen Bs_14.out
    have s2_14 : w14.cell? ⟨w2.heap.size, 2, none⟩ = some (.slice Ah 1 ch) := blk_cell Bs_14.out rfl
    have sf2_14 : w14.frozen? ⟨w2.heap.size, 2, none⟩ = false := blk_frozen Bs_14.out
    have s3_14 : w14.cell? ⟨w2.heap.size, 3, none⟩ = some (.slice none 0 0) := blk_cell Bs_14.out rfl
    have sf3_14 : w14.frozen? ⟨w2.heap.size, 3, none⟩ = false := blk_frozen Bs_14.out
    have s4_14 : w14.cell? ⟨w2.heap.size, 4, none⟩ = some (.bool false) := blk_cell Bs_14.out rfl
    have sf4_14 : w14.frozen? ⟨w2.heap.size, 4, none⟩ = false := blk_frozen Bs_14.out
    have s5_14 : w14.cell? ⟨w2.heap.size, 5, none⟩ = some (.bool false) := blk_cell Bs_14.out rfl
    have sf5_14 : w14.frozen? ⟨w2.heap.size, 5, none⟩ = false := blk_frozen Bs_14.out
    have s6_14 : w14.cell? ⟨w2.heap.size, 6, none⟩ = some (.int .i64 0) := blk_cell Bs_14.out rfl
    have sf6_14 : w14.frozen? ⟨w2.heap.size, 6, none⟩ = false := blk_frozen Bs_14.out
    have s7_14 : w14.cell? ⟨w2.heap.size, 7, none⟩ = some (.bool true) := blk_cell Bs_14.out rfl
    have sf7_14 : w14.frozen? ⟨w2.heap.size, 7, none⟩ = false := blk_frozen Bs_14.out
    have sz_14 : w2.heap.size < w14.heap.size := blk_lt Bs_14.out
    have l0_14 : w14.cell? ⟨g, 0, none⟩ = some (.slice Al 1 cl) := blk_cell Bl_14.out rfl
    have lz_14 : g < w14.heap.size := blk_lt Bl_14.out
    have Sa1_14 : Hid (Sp w14 C1 e1 ([(5, 9)])) := hs14
    have Sa2_14 : Hid (Sp w14 C2 e2 ([(3, 5)])) := ht14
    have Sa3_14 : Hid (Sp w14 C3 e3 ([])) := hu14
    clear Sh_13 Sl_13 Sq_13 Bs_13 s0_13 s1_13 s2_13 s3_13 s4_13 s5_13 s6_13 s7_13 sf0_13 sf1_13 sf2_13 sf3_13 sf4_13 sf5_13 sf6_13 sf7_13 sz_13 Bl_13 l0_13 lz_13 hs14 ht14 hu14 HB_13 hb14
    go_wp2_with fail
    refine (decide_as true C1 e1 [(5, 9)] C2 e2 [(3, 5)] C3 e3 [] false false 0 true 3 (by decide) _ (by repeat (first | exact Sa1_14.out | refine Sp.alloc ?_ _ | refine Sp.drewN ?_ _ | refine Sp.drew ?_)) (by repeat (first | exact Sa2_14.out | refine Sp.alloc ?_ _ | refine Sp.drewN ?_ _ | refine Sp.drew ?_)) (by repeat (first | exact Sa3_14.out | refine Sp.alloc ?_ _ | refine Sp.drewN ?_ _ | refine Sp.drew ?_)) (canon1 (by decide)) (canon1 (by decide)) Canon.nil (by simp) (by simp) (by simp)).mono ?_
    rintro e15 w15 ⟨rfl, hb15⟩
    have HB_15 : Hid (Below w.heap.size w w15) := bel_chain hb15 (by repeat (first | exact HB_14.out | refine bel_drewN ?_ _ | refine bel_drew ?_ | refine bel_alloc ?_ _))
    have Sh_15 : Hid (Sp w15 Ah ch ([(3, 5)])) := Sp.below (by repeat (first | exact Sh_14.out | refine Sp.alloc ?_ _ | refine Sp.drewN ?_ _ | refine Sp.drew ?_)) hb15
    have Sl_15 : Hid (Sp w15 Al cl ([(5, 9)])) := Sp.below (by repeat (first | exact Sl_14.out | refine Sp.alloc ?_ _ | refine Sp.drewN ?_ _ | refine Sp.drew ?_)) hb15
    have Sq_15 : Hid (Sp w15 Aq cq ([(5, 9)])) := Sp.below (by repeat (first | exact Sq_14.out | refine Sp.alloc ?_ _ | refine Sp.drewN ?_ _ | refine Sp.drew ?_)) hb15
    have Sa1_15 : Hid (Sp w15 C1 e1 ([(5, 9)])) := Sp.below (by repeat (first | exact Sa1_14.out | refine Sp.alloc ?_ _ | refine Sp.drewN ?_ _ | refine Sp.drew ?_)) hb15
    have Sa2_15 : Hid (Sp w15 C2 e2 ([(3, 5)])) := Sp.below (by repeat (first | exact Sa2_14.out | refine Sp.alloc ?_ _ | refine Sp.drewN ?_ _ | refine Sp.drew ?_)) hb15
    have Sa3_15 : Hid (Sp w15 C3 e3 ([])) := Sp.below (by repeat (first | exact Sa3_14.out | refine Sp.alloc ?_ _ | refine Sp.drewN ?_ _ | refine Sp.drew ?_)) hb15
    have Bs_15 : Hid (w15.heap[w2.heap.size]? = some (.cells #[.bool true, .slice Aq 1 cq, .slice Ah 1 ch, .slice none 0 0, .bool false, .bool false, .int .i64 0, .bool true] 24 (0, 0))) := blk_keep hb15 (blk_keep (W := w14) (by (repeat (first | exact Below.refl _ _ | refine bel_drewN ?_ _ | refine bel_drew ?_ | refine bel_alloc ?_ _ | refine bel_set ?_ (by simp) _))) Bs_14.out)
    have Bl_15 : Hid (w15.heap[g]? = some (.cells #[.slice Al 1 cl] 29 (0, 0))) := blk_keep hb15 (blk_keep (W := w14) (by (repeat (first | exact Below.refl _ _ | refine bel_drewN ?_ _ | refine bel_drew ?_ | refine bel_alloc ?_ _ | refine bel_set ?_ (by simp) _))) Bl_14.out)
    have s0_15 : w15.cell? ⟨w2.heap.size, 0, none⟩ = some (.bool true) := blk_cell Bs_15.out rfl
    have sf0_15 : w15.frozen? ⟨w2.heap.size, 0, none⟩ = false := blk_frozen Bs_15.out
    have s1_15 : w15.cell? ⟨w2.heap.size, 1, none⟩ = some (.slice Aq 1 cq) := blk_cell Bs_15.out rfl
    have sf1_15 : w15.frozen? ⟨w2.heap.size, 1, none⟩ = false := blk_frozen Bs_15.out
    have s2_15 : w15.cell? ⟨w2.heap.size, 2, none⟩ = some (.slice Ah 1 ch) := blk_cell Bs_15.out rfl
    have sf2_15 : w15.frozen? ⟨w2.heap.size, 2, none⟩ = false := blk_frozen Bs_15.out
    have s3_15 : w15.cell? ⟨w2.heap.size, 3, none⟩ = some (.slice none 0 0) := blk_cell Bs_15.out rfl
    have sf3_15 : w15.frozen? ⟨w2.heap.size, 3, none⟩ = false := blk_frozen Bs_15.out
    have s4_15 : w15.cell? ⟨w2.heap.size, 4, none⟩ = some (.bool false) := blk_cell Bs_15.out rfl
    have sf4_15 : w15.frozen? ⟨w2.heap.size, 4, none⟩ = false := blk_frozen Bs_15.out
    have s5_15 : w15.cell? ⟨w2.heap.size, 5, none⟩ = some (.bool false) := blk_cell Bs_15.out rfl
    have sf5_15 : w15.frozen? ⟨w2.heap.size, 5, none⟩ = false := blk_frozen Bs_15.out
    have s6_15 : w15.cell? ⟨w2.heap.size, 6, none⟩ = some (.int .i64 0) := blk_cell Bs_15.out rfl
    have sf6_15 : w15.frozen? ⟨w2.heap.size, 6, none⟩ = false := blk_frozen Bs_15.out
    have s7_15 : w15.cell? ⟨w2.heap.size, 7, none⟩ = some (.bool true) := blk_cell Bs_15.out rfl
    have sf7_15 : w15.frozen? ⟨w2.heap.size, 7, none⟩ = false := blk_frozen Bs_15.out
    have sz_15 : w2.heap.size < w15.heap.size := blk_lt Bs_15.out
    have l0_15 : w15.cell? ⟨g, 0, none⟩ = some (.slice Al 1 cl) := blk_cell Bl_15.out rfl
    have lz_15 : g < w15.heap.size := blk_lt Bl_15.out
    clear Sh_14 Sl_14 Sq_14 Sa1_14 Sa2_14 Sa3_14 Bs_14 s0_14 s1_14 s2_14 s3_14 s4_14 s5_14 s6_14 s7_14 sf0_14 sf1_14 sf2_14 sf3_14 sf4_14 sf5_14 sf6_14 sf7_14 sz_14 Bl_14 l0_14 lz_14 HB_14 hb15
    clear Sa1_15
    clear Sa2_15
    clear Sa3_15
    go_wp2_with fail
    refine (spans37_any 5 6 _).mono ?_
    rintro e16 w16 ⟨Ay, cy, rfl, hs16, hb16⟩
    have HB_16 : Hid (Below w.heap.size w w16) := bel_chain hb16 (by repeat (first | exact HB_15.out | refine bel_drewN ?_ _ | refine bel_drew ?_ | refine bel_alloc ?_ _))
    have Sh_16 : Hid (Sp w16 Ah ch ([(3, 5)])) := Sp.below (by repeat (first | exact Sh_15.out | refine Sp.alloc ?_ _ | refine Sp.drewN ?_ _ | refine Sp.drew ?_)) hb16
    have Sl_16 : Hid (Sp w16 Al cl ([(5, 9)])) := Sp.below (by repeat (first | exact Sl_15.out | refine Sp.alloc ?_ _ | refine Sp.drewN ?_ _ | refine Sp.drew ?_)) hb16
    have Sq_16 : Hid (Sp w16 Aq cq ([(5, 9)])) := Sp.below (by repeat (first | exact Sq_15.out | refine Sp.alloc ?_ _ | refine Sp.drewN ?_ _ | refine Sp.drew ?_)) hb16
    have Bs_16 : Hid (w16.heap[w2.heap.size]? = some (.cells #[.bool true, .slice Aq 1 cq, .slice Ah 1 ch, .slice none 0 0, .bool false, .bool false, .int .i64 0, .bool true] 24 (0, 0))) := blk_keep hb16 (blk_keep (W := w15) (by (repeat (first | exact Below.refl _ _ | refine bel_drewN ?_ _ | refine bel_drew ?_ | refine bel_alloc ?_ _ | refine bel_set ?_ (by simp) _))) Bs_15.out)
    have Bl_16 : Hid (w16.heap[g]? = some (.cells #[.slice Al 1 cl] 29 (0, 0))) := blk_keep hb16 (blk_keep (W := w15) (by (repeat (first | exact Below.refl _ _ | refine bel_drewN ?_ _ | refine bel_drew ?_ | refine bel_alloc ?_ _ | refine bel_set ?_ (by simp) _))) Bl_15.out)
    have s0_16 : w16.cell? ⟨w2.heap.size, 0, none⟩ = some (.bool true) := blk_cell Bs_16.out rfl
    have sf0_16 : w16.frozen? ⟨w2.heap.size, 0, none⟩ = false := blk_frozen Bs_16.out
    have s1_16 : w16.cell? ⟨w2.heap.size, 1, none⟩ = some (.slice Aq 1 cq) := blk_cell Bs_16.out rfl
    have sf1_16 : w16.frozen? ⟨w2.heap.size, 1, none⟩ = false := blk_frozen Bs_16.out
    have s2_16 : w16.cell? ⟨w2.heap.size, 2, none⟩ = some (.slice Ah 1 ch) := blk_cell Bs_16.out rfl
    have sf2_16 : w16.frozen? ⟨w2.heap.size, 2, none⟩ = false := blk_frozen Bs_16.out
    have s3_16 : w16.cell? ⟨w2.heap.size, 3, none⟩ = some (.slice none 0 0) := blk_cell Bs_16.out rfl
    have sf3_16 : w16.frozen? ⟨w2.heap.size, 3, none⟩ = false := blk_frozen Bs_16.out
    have s4_16 : w16.cell? ⟨w2.heap.size, 4, none⟩ = some (.bool false) := blk_cell Bs_16.out rfl
    have sf4_16 : w16.frozen? ⟨w2.heap.size, 4, none⟩ = false := blk_frozen Bs_16.out
    have s5_16 : w16.cell? ⟨w2.heap.size, 5, none⟩ = some (.bool false) := blk_cell Bs_16.out rfl
    have sf5_16 : w16.frozen? ⟨w2.heap.size, 5, none⟩ = false := blk_frozen Bs_16.out
    have s6_16 : w16.cell? ⟨w2.heap.size, 6, none⟩ = some (.int .i64 0) := blk_cell Bs_16.out rfl
    have sf6_16 : w16.frozen? ⟨w2.heap.size, 6, none⟩ = false := blk_frozen Bs_16.out
    have s7_16 : w16.cell? ⟨w2.heap.size, 7, none⟩ = some (.bool true) := blk_cell Bs_16.out rfl
    have sf7_16 : w16.frozen? ⟨w2.heap.size, 7, none⟩ = false := blk_frozen Bs_16.out
    have sz_16 : w2.heap.size < w16.heap.size := blk_lt Bs_16.out
    have l0_16 : w16.cell? ⟨g, 0, none⟩ = some (.slice Al 1 cl) := blk_cell Bl_16.out rfl
    have lz_16 : g < w16.heap.size := blk_lt Bl_16.out
    have Sy_16 : Hid (Sp w16 Ay cy ([(5, 6)])) := hs16
    clear Sh_15 Sl_15 Sq_15 Bs_15 s0_15 s1_15 s2_15 s3_15 s4_15 s5_15 s6_15 s7_15 sf0_15 sf1_15 sf2_15 sf3_15 sf4_15 sf5_15 sf6_15 sf7_15 sz_15 Bl_15 l0_15 lz_15 hs16 HB_15 hb16
    go_wp2_with fail
    obtain ⟨w17, hw17⟩ : ∃ w17, World.setCell w16 ⟨w2.heap.size, 3, none⟩ (.slice Ay 1 cy) = w17 := ⟨_, rfl⟩
    rw [hw17]
    have hg17 : w16.grownBy w17 (some (w2.heap.size)) := by rw [← hw17]; exact grown_set (p := ⟨w2.heap.size, 3, none⟩) (World.grownBy.refl _ _) _
    have HB_17 : Hid (Below w.heap.size w w17) := Below.grown HB_16.out hg17 HB_16.out.size (fun j hj => by injection hj with hj; omega)
    have Sh_17 : Hid (Sp w17 Ah ch ([(3, 5)])) := Sh_16.out.grown' (fun h0 => Sh_16.out.off_blk h0 Bs_16.out (noPair8 ..)) hg17
    have Sl_17 : Hid (Sp w17 Al cl ([(5, 9)])) := Sl_16.out.grown' (fun h0 => Sl_16.out.off_blk h0 Bs_16.out (noPair8 ..)) hg17
    have Sq_17 : Hid (Sp w17 Aq cq ([(5, 9)])) := Sq_16.out.grown' (fun h0 => Sq_16.out.off_blk h0 Bs_16.out (noPair8 ..)) hg17
    have Sy_17 : Hid (Sp w17 Ay cy ([(5, 6)])) := Sy_16.out.grown' (fun h0 => Sy_16.out.off_blk h0 Bs_16.out (noPair8 ..)) hg17
    have Bs_17 : Hid (w17.heap[w2.heap.size]? = some (.cells #[.bool true, .slice Aq 1 cq, .slice Ah 1 ch, .slice Ay 1 cy, .bool false, .bool false, .int .i64 0, .bool true] 24 (0, 0))) := by simp only [Hid]; rw [← hw17]; exact blk_set Bs_16.out
    have Bl_17 : Hid (w17.heap[g]? = some (.cells #[.slice Al 1 cl] 29 (0, 0))) := (hg17.block _ (by omega) (by intro e; injection e with e; omega)).trans Bl_16.out
    have s0_17 : w17.cell? ⟨w2.heap.size, 0, none⟩ = some (.bool true) := blk_cell Bs_17.out rfl
    have sf0_17 : w17.frozen? ⟨w2.heap.size, 0, none⟩ = false := blk_frozen Bs_17.out
    have s1_17 : w17.cell? ⟨w2.heap.size, 1, none⟩ = some (.slice Aq 1 cq) := blk_cell Bs_17.out rfl
    have sf1_17 : w17.frozen? ⟨w2.heap.size, 1, none⟩ = false := blk_frozen Bs_17.out
    have s2_17 : w17.cell? ⟨w2.heap.size, 2, none⟩ = some (.slice Ah 1 ch) := blk_cell Bs_17.out rfl
    have sf2_17 : w17.frozen? ⟨w2.heap.size, 2, none⟩ = false := blk_frozen Bs_17.out
    have s3_17 : w17.cell? ⟨w2.heap.size, 3, none⟩ = some (.slice Ay 1 cy) := blk_cell Bs_17.out rfl
    have sf3_17 : w17.frozen? ⟨w2.heap.size, 3, none⟩ = false := blk_frozen Bs_17.out
    have s4_17 : w17.cell? ⟨w2.heap.size, 4, none⟩ = some (.bool false) := blk_cell Bs_17.out rfl
    have sf4_17 : w17.frozen? ⟨w2.heap.size, 4, none⟩ = false := blk_frozen Bs_17.out
    have s5_17 : w17.cell? ⟨w2.heap.size, 5, none⟩ = some (.bool false) := blk_cell Bs_17.out rfl
    have sf5_17 : w17.frozen? ⟨w2.heap.size, 5, none⟩ = false := blk_frozen Bs_17.out
    have s6_17 : w17.cell? ⟨w2.heap.size, 6, none⟩ = some (.int .i64 0) := blk_cell Bs_17.out rfl
    have sf6_17 : w17.frozen? ⟨w2.heap.size, 6, none⟩ = false := blk_frozen Bs_17.out
    have s7_17 : w17.cell? ⟨w2.heap.size, 7, none⟩ = some (.bool true) := blk_cell Bs_17.out rfl
    have sf7_17 : w17.frozen? ⟨w2.heap.size, 7, none⟩ = false := blk_frozen Bs_17.out
    have sz_17 : w2.heap.size < w17.heap.size := blk_lt Bs_17.out
    have l0_17 : w17.cell? ⟨g, 0, none⟩ = some (.slice Al 1 cl) := blk_cell Bl_17.out rfl
    have lz_17 : g < w17.heap.size := blk_lt Bl_17.out
    clear HB_16 hw17 hg17 Sh_16 Sl_16 Sq_16 Sy_16 Bs_16 s0_16 s1_16 s2_16 s3_16 s4_16 s5_16 s6_16 s7_16 sf0_16 sf1_16 sf2_16 sf3_16 sf4_16 sf5_16 sf6_16 sf7_16 sz_16 Bl_16 l0_16 lz_16
    refine (own_as true Aq cq [(5, 9)] Ah ch [(3, 5)] Ay cy [(5, 6)] false false 0 true [(5, 9)] [(3, 5)] [(5, 6)] (by decide) (by decide) (by decide) _ (by repeat (first | exact Sq_17.out | refine Sp.alloc ?_ _ | refine Sp.drewN ?_ _ | refine Sp.drew ?_)) (by repeat (first | exact Sh_17.out | refine Sp.alloc ?_ _ | refine Sp.drewN ?_ _ | refine Sp.drew ?_)) (by repeat (first | exact Sy_17.out | refine Sp.alloc ?_ _ | refine Sp.drewN ?_ _ | refine Sp.drew ?_)) (by simp) (by simp) (by simp)).mono ?_
    rintro e18 w18 ⟨D1, f1, D2, f2, D3, f3, rfl, hs18, ht18, hu18, hb18⟩
    have HB_18 : Hid (Below w.heap.size w w18) := bel_chain hb18 (by repeat (first | exact HB_17.out | refine bel_drewN ?_ _ | refine bel_drew ?_ | refine bel_alloc ?_ _))
    have Sh_18 : Hid (Sp w18 Ah ch ([(3, 5)])) := Sp.below (by repeat (first | exact Sh_17.out | refine Sp.alloc ?_ _ | refine Sp.drewN ?_ _ | refine Sp.drew ?_)) hb18
    have Sl_18 : Hid (Sp w18 Al cl ([(5, 9)])) := Sp.below (by repeat (first | exact Sl_17.out | refine Sp.alloc ?_ _ | refine Sp.drewN ?_ _ | refine Sp.drew ?_)) hb18
    have Sq_18 : Hid (Sp w18 Aq cq ([(5, 9)])) := Sp.below (by repeat (first | exact Sq_17.out | refine Sp.alloc ?_ _ | refine Sp.drewN ?_ _ | refine Sp.drew ?_)) hb18
    have Sy_18 : Hid (Sp w18 Ay cy ([(5, 6)])) := Sp.below (by repeat (first | exact Sy_17.out | refine Sp.alloc ?_ _ | refine Sp.drewN ?_ _ | refine Sp.drew ?_)) hb18
    have Bs_18 : Hid (w18.heap[w2.heap.size]? = some (.cells #[.bool true, .slice Aq 1 cq, .slice Ah 1 ch, .slice Ay 1 cy, .bool false, .bool false, .int .i64 0, .bool true] 24 (0, 0))) := blk_keep hb18 (blk_keep (W := w17) (by (repeat (first | exact Below.refl _ _ | refine bel_drewN ?_ _ | refine bel_drew ?_ | refine bel_alloc ?_ _ | refine bel_set ?_ (by simp) _))) Bs_17.out)
    have Bl_18 : Hid (w18.heap[g]? = some (.cells #[.slice Al 1 cl] 29 (0, 0))) := blk_keep hb18 (blk_keep (W := w17) (by (repeat (first | exact Below.refl _ _ | refine bel_drewN ?_ _ | refine bel_drew ?_ | refine bel_alloc ?_ _ | refine bel_set ?_ (by simp) _))) Bl_17.out)
    have s0_18 : w18.cell? ⟨w2.heap.size, 0, none⟩ = some (.bool true) := blk_cell Bs_18.out rfl
    have sf0_18 : w18.frozen? ⟨w2.heap.size, 0, none⟩ = false := blk_frozen Bs_18.out
    have s1_18 : w18.cell? ⟨w2.heap.size, 1, none⟩ = some (.slice Aq 1 cq) := blk_cell Bs_18.out rfl
    have sf1_18 : w18.frozen? ⟨w2.heap.size, 1, none⟩ = false := blk_frozen Bs_18.out
    have s2_18 : w18.cell? ⟨w2.heap.size, 2, none⟩ = some (.slice Ah 1 ch) := blk_cell Bs_18.out rfl
    have sf2_18 : w18.frozen? ⟨w2.heap.size, 2, none⟩ = false := blk_frozen Bs_18.out
    have s3_18 : w18.cell? ⟨w2.heap.size, 3, none⟩ = some (.slice Ay 1 cy) := blk_cell Bs_18.out rfl
    have sf3_18 : w18.frozen? ⟨w2.heap.size, 3, none⟩ = false := blk_frozen Bs_18.out
    have s4_18 : w18.cell? ⟨w2.heap.size, 4, none⟩ = some (.bool false) := blk_cell Bs_18.out rfl
    have sf4_18 : w18.frozen? ⟨w2.heap.size, 4, none⟩ = false := blk_frozen Bs_18.out
    have s5_18 : w18.cell? ⟨w2.heap.size, 5, none⟩ = some (.bool false) := blk_cell Bs_18.out rfl
    have sf5_18 : w18.frozen? ⟨w2.heap.size, 5, none⟩ = false := blk_frozen Bs_18.out
    have s6_18 : w18.cell? ⟨w2.heap.size, 6, none⟩ = some (.int .i64 0) := blk_cell Bs_18.out rfl
    have sf6_18 : w18.frozen? ⟨w2.heap.size, 6, none⟩ = false := blk_frozen Bs_18.out
    have s7_18 : w18.cell? ⟨w2.heap.size, 7, none⟩ = some (.bool true) := blk_cell Bs_18.out rfl
    have sf7_18 : w18.frozen? ⟨w2.heap.size, 7, none⟩ = false := blk_frozen Bs_18.out
    have sz_18 : w2.heap.size < w18.heap.size := blk_lt Bs_18.out
    have l0_18 : w18.cell? ⟨g, 0, none⟩ = some (.slice Al 1 cl) := blk_cell Bl_18.out rfl
    have lz_18 : g < w18.heap.size := blk_lt Bl_18.out
    have Sa1_18 : Hid (Sp w18 D1 f1 ([(5, 9)])) := hs18
    have Sa2_18 : Hid (Sp w18 D2 f2 ([(3, 5)])) := ht18
    have Sa3_18 : Hid (Sp w18 D3 f3 ([(5, 6)])) := hu18
    clear Sh_17 Sl_17 Sq_17 Sy_17 Bs_17 s0_17 s1_17 s2_17 s3_17 s4_17 s5_17 s6_17 s7_17 sf0_17 sf1_17 sf2_17 sf3_17 sf4_17 sf5_17 sf6_17 sf7_17 sz_17 Bl_17 l0_17 lz_17 hs18 ht18 hu18 HB_17 hb18
    go_wp2_with fail
    refine (decide_as true D1 f1 [(5, 9)] D2 f2 [(3, 5)] D3 f3 [(5, 6)] false false 0 true 2 (by decide) _ (by repeat (first | exact Sa1_18.out | refine Sp.alloc ?_ _ | refine Sp.drewN ?_ _ | refine Sp.drew ?_)) (by repeat (first | exact Sa2_18.out | refine Sp.alloc ?_ _ | refine Sp.drewN ?_ _ | refine Sp.drew ?_)) (by repeat (first | exact Sa3_18.out | refine Sp.alloc ?_ _ | refine Sp.drewN ?_ _ | refine Sp.drew ?_)) (canon1 (by decide)) (canon1 (by decide)) (canon1 (by decide)) (by simp) (by simp) (by simp)).mono ?_
    rintro e19 w19 ⟨rfl, hb19⟩
    have HB_19 : Hid (Below w.heap.size w w19) := bel_chain hb19 (by repeat (first | exact HB_18.out | refine bel_drewN ?_ _ | refine bel_drew ?_ | refine bel_alloc ?_ _))
    have Sh_19 : Hid (Sp w19 Ah ch ([(3, 5)])) := Sp.below (by repeat (first | exact Sh_18.out | refine Sp.alloc ?_ _ | refine Sp.drewN ?_ _ | refine Sp.drew ?_)) hb19
    have Sl_19 : Hid (Sp w19 Al cl ([(5, 9)])) := Sp.below (by repeat (first | exact Sl_18.out | refine Sp.alloc ?_ _ | refine Sp.drewN ?_ _ | refine Sp.drew ?_)) hb19
    have Sq_19 : Hid (Sp w19 Aq cq ([(5, 9)])) := Sp.below (by repeat (first | exact Sq_18.out | refine Sp.alloc ?_ _ | refine Sp.drewN ?_ _ | refine Sp.drew ?_)) hb19
    have Sy_19 : Hid (Sp w19 Ay cy ([(5, 6)])) := Sp.below (by repeat (first | exact Sy_18.out | refine Sp.alloc ?_ _ | refine Sp.drewN ?_ _ | refine Sp.drew ?_)) hb19
    have Sa1_19 : Hid (Sp w19 D1 f1 ([(5, 9)])) := Sp.below (by repeat (first | exact Sa1_18.out | refine Sp.alloc ?_ _ | refine Sp.drewN ?_ _ | refine Sp.drew ?_)) hb19
    have Sa2_19 : Hid (Sp w19 D2 f2 ([(3, 5)])) := Sp.below (by repeat (first | exact Sa2_18.out | refine Sp.alloc ?_ _ | refine Sp.drewN ?_ _ | refine Sp.drew ?_)) hb19
    have Sa3_19 : Hid (Sp w19 D3 f3 ([(5, 6)])) := Sp.below (by repeat (first | exact Sa3_18.out | refine Sp.alloc ?_ _ | refine Sp.drewN ?_ _ | refine Sp.drew ?_)) hb19
    have Bs_19 : Hid (w19.heap[w2.heap.size]? = some (.cells #[.bool true, .slice Aq 1 cq, .slice Ah 1 ch, .slice Ay 1 cy, .bool false, .bool false, .int .i64 0, .bool true] 24 (0, 0))) := blk_keep hb19 (blk_keep (W := w18) (by (repeat (first | exact Below.refl _ _ | refine bel_drewN ?_ _ | refine bel_drew ?_ | refine bel_alloc ?_ _ | refine bel_set ?_ (by simp) _))) Bs_18.out)
    have Bl_19 : Hid (w19.heap[g]? = some (.cells #[.slice Al 1 cl] 29 (0, 0))) := blk_keep hb19 (blk_keep (W := w18) (by (repeat (first | exact Below.refl _ _ | refine bel_drewN ?_ _ | refine bel_drew ?_ | refine bel_alloc ?_ _ | refine bel_set ?_ (by simp) _))) Bl_18.out)
    have s0_19 : w19.cell? ⟨w2.heap.size, 0, none⟩ = some (.bool true) := blk_cell Bs_19.out rfl
    have sf0_19 : w19.frozen? ⟨w2.heap.size, 0, none⟩ = false := blk_frozen Bs_19.out
    have s1_19 : w19.cell? ⟨w2.heap.size, 1, none⟩ = some (.slice Aq 1 cq) := blk_cell Bs_19.out rfl
    have sf1_19 : w19.frozen? ⟨w2.heap.size, 1, none⟩ = false := blk_frozen Bs_19.out
    have s2_19 : w19.cell? ⟨w2.heap.size, 2, none⟩ = some (.slice Ah 1 ch) := blk_cell Bs_19.out rfl
    have sf2_19 : w19.frozen? ⟨w2.heap.size, 2, none⟩ = false := blk_frozen Bs_19.out
    have s3_19 : w19.cell? ⟨w2.heap.size, 3, none⟩ = some (.slice Ay 1 cy) := blk_cell Bs_19.out rfl
    have sf3_19 : w19.frozen? ⟨w2.heap.size, 3, none⟩ = false := blk_frozen Bs_19.out
    have s4_19 : w19.cell? ⟨w2.heap.size, 4, none⟩ = some (.bool false) := blk_cell Bs_19.out rfl
    have sf4_19 : w19.frozen? ⟨w2.heap.size, 4, none⟩ = false := blk_frozen Bs_19.out
    have s5_19 : w19.cell? ⟨w2.heap.size, 5, none⟩ = some (.bool false) := blk_cell Bs_19.out rfl
    have sf5_19 : w19.frozen? ⟨w2.heap.size, 5, none⟩ = false := blk_frozen Bs_19.out
    have s6_19 : w19.cell? ⟨w2.heap.size, 6, none⟩ = some (.int .i64 0) := blk_cell Bs_19.out rfl
    have sf6_19 : w19.frozen? ⟨w2.heap.size, 6, none⟩ = false := blk_frozen Bs_19.out
    have s7_19 : w19.cell? ⟨w2.heap.size, 7, none⟩ = some (.bool true) := blk_cell Bs_19.out rfl
    have sf7_19 : w19.frozen? ⟨w2.heap.size, 7, none⟩ = false := blk_frozen Bs_19.out
    have sz_19 : w2.heap.size < w19.heap.size := blk_lt Bs_19.out
    have l0_19 : w19.cell? ⟨g, 0, none⟩ = some (.slice Al 1 cl) := blk_cell Bl_19.out rfl
    have lz_19 : g < w19.heap.size := blk_lt Bl_19.out
    clear Sh_18 Sl_18 Sq_18 Sy_18 Sa1_18 Sa2_18 Sa3_18 Bs_18 s0_18 s1_18 s2_18 s3_18 s4_18 s5_18 s6_18 s7_18 sf0_18 sf1_18 sf2_18 sf3_18 sf4_18 sf5_18 sf6_18 sf7_18 sz_18 Bl_18 l0_18 lz_18 HB_18 hb19
    clear Sa1_19
    clear Sa2_19
    clear Sa3_19
    go_wp2_with fail
    obtain ⟨w20, hw20⟩ : ∃ w20, World.setCell w19 ⟨w2.heap.size, 1, none⟩ (.slice none 0 0) = w20 := ⟨_, rfl⟩
    rw [hw20]
    have hg20 : w19.grownBy w20 (some (w2.heap.size)) := by rw [← hw20]; exact grown_set (p := ⟨w2.heap.size, 1, none⟩) (World.grownBy.refl _ _) _
    have HB_20 : Hid (Below w.heap.size w w20) := Below.grown HB_19.out hg20 HB_19.out.size (fun j hj => by injection hj with hj; omega)
    have Sh_20 : Hid (Sp w20 Ah ch ([(3, 5)])) := Sh_19.out.grown' (fun h0 => Sh_19.out.off_blk h0 Bs_19.out (noPair8 ..)) hg20
    have Sl_20 : Hid (Sp w20 Al cl ([(5, 9)])) := Sl_19.out.grown' (fun h0 => Sl_19.out.off_blk h0 Bs_19.out (noPair8 ..)) hg20
    have Sq_20 : Hid (Sp w20 Aq cq ([(5, 9)])) := Sq_19.out.grown' (fun h0 => Sq_19.out.off_blk h0 Bs_19.out (noPair8 ..)) hg20
    have Sy_20 : Hid (Sp w20 Ay cy ([(5, 6)])) := Sy_19.out.grown' (fun h0 => Sy_19.out.off_blk h0 Bs_19.out (noPair8 ..)) hg20
    have Bs_20 : Hid (w20.heap[w2.heap.size]? = some (.cells #[.bool true, .slice none 0 0, .slice Ah 1 ch, .slice Ay 1 cy, .bool false, .bool false, .int .i64 0, .bool true] 24 (0, 0))) := by simp only [Hid]; rw [← hw20]; exact blk_set Bs_19.out
    have Bl_20 : Hid (w20.heap[g]? = some (.cells #[.slice Al 1 cl] 29 (0, 0))) := (hg20.block _ (by omega) (by intro e; injection e with e; omega)).trans Bl_19.out
    have s0_20 : w20.cell? ⟨w2.heap.size, 0, none⟩ = some (.bool true) := blk_cell Bs_20.out rfl
    have sf0_20 : w20.frozen? ⟨w2.heap.size, 0, none⟩ = false := blk_frozen Bs_20.out
    have s1_20 : w20.cell? ⟨w2.heap.size, 1, none⟩ = some (.slice none 0 0) := blk_cell Bs_20.out rfl
    have sf1_20 : w20.frozen? ⟨w2.heap.size, 1, none⟩ = false := blk_frozen Bs_20.out
    have s2_20 : w20.cell? ⟨w2.heap.size, 2, none⟩ = some (.slice Ah 1 ch) := blk_cell Bs_20.out rfl
    have sf2_20 : w20.frozen? ⟨w2.heap.size, 2, none⟩ = false := blk_frozen Bs_20.out
    have s3_20 : w20.cell? ⟨w2.heap.size, 3, none⟩ = some (.slice Ay 1 cy) := blk_cell Bs_20.out rfl
    have sf3_20 : w20.frozen? ⟨w2.heap.size, 3, none⟩ = false := blk_frozen Bs_20.out
    have s4_20 : w20.cell? ⟨w2.heap.size, 4, none⟩ = some (.bool false) := blk_cell Bs_20.out rfl
    have sf4_20 : w20.frozen? ⟨w2.heap.size, 4, none⟩ = false := blk_frozen Bs_20.out
    have s5_20 : w20.cell? ⟨w2.heap.size, 5, none⟩ = some (.bool false) := blk_cell Bs_20.out rfl
    have sf5_20 : w20.frozen? ⟨w2.heap.size, 5, none⟩ = false := blk_frozen Bs_20.out
    have s6_20 : w20.cell? ⟨w2.heap.size, 6, none⟩ = some (.int .i64 0) := blk_cell Bs_20.out rfl
    have sf6_20 : w20.frozen? ⟨w2.heap.size, 6, none⟩ = false := blk_frozen Bs_20.out
    have s7_20 : w20.cell? ⟨w2.heap.size, 7, none⟩ = some (.bool true) := blk_cell Bs_20.out rfl
    have sf7_20 : w20.frozen? ⟨w2.heap.size, 7, none⟩ = false := blk_frozen Bs_20.out
    have sz_20 : w2.heap.size < w20.heap.size := blk_lt Bs_20.out
    have l0_20 : w20.cell? ⟨g, 0, none⟩ = some (.slice Al 1 cl) := blk_cell Bl_20.out rfl
    have lz_20 : g < w20.heap.size := blk_lt Bl_20.out
    clear HB_19 hw20 hg20 Sh_19 Sl_19 Sq_19 Sy_19 Bs_19 s0_19 s1_19 s2_19 s3_19 s4_19 s5_19 s6_19 s7_19 sf0_19 sf1_19 sf2_19 sf3_19 sf4_19 sf5_19 sf6_19 sf7_19 sz_19 Bl_19 l0_19 lz_19
    refine (aw_text Al cl _ (by repeat (first | exact Sl_20.out | refine Sp.alloc ?_ _ | refine Sp.drewN ?_ _ | refine Sp.drew ?_))).mono ?_
    rintro e21 w21 ⟨rfl, hb21⟩
    have HB_21 : Hid (Below w.heap.size w w21) := bel_chain hb21 (by repeat (first | exact HB_20.out | refine bel_drewN ?_ _ | refine bel_drew ?_ | refine bel_alloc ?_ _))
    have Sh_21 : Hid (Sp w21 Ah ch ([(3, 5)])) := Sp.below (by repeat (first | exact Sh_20.out | refine Sp.alloc ?_ _ | refine Sp.drewN ?_ _ | refine Sp.drew ?_)) hb21
    have Sl_21 : Hid (Sp w21 Al cl ([(5, 9)])) := Sp.below (by repeat (first | exact Sl_20.out | refine Sp.alloc ?_ _ | refine Sp.drewN ?_ _ | refine Sp.drew ?_)) hb21
    have Sq_21 : Hid (Sp w21 Aq cq ([(5, 9)])) := Sp.below (by repeat (first | exact Sq_20.out | refine Sp.alloc ?_ _ | refine Sp.drewN ?_ _ | refine Sp.drew ?_)) hb21
    have Sy_21 : Hid (Sp w21 Ay cy ([(5, 6)])) := Sp.below (by repeat (first | exact Sy_20.out | refine Sp.alloc ?_ _ | refine Sp.drewN ?_ _ | refine Sp.drew ?_)) hb21
    have Bs_21 : Hid (w21.heap[w2.heap.size]? = some (.cells #[.bool true, .slice none 0 0, .slice Ah 1 ch, .slice Ay 1 cy, .bool false, .bool false, .int .i64 0, .bool true] 24 (0, 0))) := blk_keep hb21 (blk_keep (W := w20) (by (repeat (first | exact Below.refl _ _ | refine bel_drewN ?_ _ | refine bel_drew ?_ | refine bel_alloc ?_ _ | refine bel_set ?_ (by simp) _))) Bs_20.out)
    have Bl_21 : Hid (w21.heap[g]? = some (.cells #[.slice Al 1 cl] 29 (0, 0))) := blk_keep hb21 (blk_keep (W := w20) (by (repeat (first | exact Below.refl _ _ | refine bel_drewN ?_ _ | refine bel_drew ?_ | refine bel_alloc ?_ _ | refine bel_set ?_ (by simp) _))) Bl_20.out)
    have s0_21 : w21.cell? ⟨w2.heap.size, 0, none⟩ = some (.bool true) := blk_cell Bs_21.out rfl
    have sf0_21 : w21.frozen? ⟨w2.heap.size, 0, none⟩ = false := blk_frozen Bs_21.out
    have s1_21 : w21.cell? ⟨w2.heap.size, 1, none⟩ = some (.slice none 0 0) := blk_cell Bs_21.out rfl
    have sf1_21 : w21.frozen? ⟨w2.heap.size, 1, none⟩ = false := blk_frozen Bs_21.out
    have s2_21 : w21.cell? ⟨w2.heap.size, 2, none⟩ = some (.slice Ah 1 ch) := blk_cell Bs_21.out rfl
    have sf2_21 : w21.frozen? ⟨w2.heap.size, 2, none⟩ = false := blk_frozen Bs_21.out
    have s3_21 : w21.cell? ⟨w2.heap.size, 3, none⟩ = some (.slice Ay 1 cy) := blk_cell Bs_21.out rfl
    have sf3_21 : w21.frozen? ⟨w2.heap.size, 3, none⟩ = false := blk_frozen Bs_21.out
    have s4_21 : w21.cell? ⟨w2.heap.size, 4, none⟩ = some (.bool false) := blk_cell Bs_21.out rfl
    have sf4_21 : w21.frozen? ⟨w2.heap.size, 4, none⟩ = false := blk_frozen Bs_21.out
    have s5_21 : w21.cell? ⟨w2.heap.size, 5, none⟩ = some (.bool false) := blk_cell Bs_21.out rfl
    have sf5_21 : w21.frozen? ⟨w2.heap.size, 5, none⟩ = false := blk_frozen Bs_21.out
    have s6_21 : w21.cell? ⟨w2.heap.size, 6, none⟩ = some (.int .i64 0) := blk_cell Bs_21.out rfl
    have sf6_21 : w21.frozen? ⟨w2.heap.size, 6, none⟩ = false := blk_frozen Bs_21.out
    have s7_21 : w21.cell? ⟨w2.heap.size, 7, none⟩ = some (.bool true) := blk_cell Bs_21.out rfl
    have sf7_21 : w21.frozen? ⟨w2.heap.size, 7, none⟩ = false := blk_frozen Bs_21.out
    have sz_21 : w2.heap.size < w21.heap.size := blk_lt Bs_21.out
    have l0_21 : w21.cell? ⟨g, 0, none⟩ = some (.slice Al 1 cl) := blk_cell Bl_21.out rfl
    have lz_21 : g < w21.heap.size := blk_lt Bl_21.out
    clear Sh_20 Sl_20 Sq_20 Sy_20 Bs_20 s0_20 s1_20 s2_20 s3_20 s4_20 s5_20 s6_20 s7_20 sf0_20 sf1_20 sf2_20 sf3_20 sf4_20 sf5_20 sf6_20 sf7_20 sz_20 Bl_20 l0_20 lz_20 HB_20 hb21
    go_wp2_with fail
    refine (own_as true none 0 [] Ah ch [(3, 5)] Ay cy [(5, 6)] false false 0 true [] [(3, 5)] [(5, 6)] (by decide) (by decide) (by decide) _ (Sp.nil _) (by repeat (first | exact Sh_21.out | refine Sp.alloc ?_ _ | refine Sp.drewN ?_ _ | refine Sp.drew ?_)) (by repeat (first | exact Sy_21.out | refine Sp.alloc ?_ _ | refine Sp.drewN ?_ _ | refine Sp.drew ?_)) (by simp) (by simp) (by simp)).mono ?_
    rintro e22 w22 ⟨E1, g1, E2, g2, E3, g3, rfl, hs22, ht22, hu22, hb22⟩
    have HB_22 : Hid (Below w.heap.size w w22) := bel_chain hb22 (by repeat (first | exact HB_21.out | refine bel_drewN ?_ _ | refine bel_drew ?_ | refine bel_alloc ?_ _))
    have Sh_22 : Hid (Sp w22 Ah ch ([(3, 5)])) := Sp.below (by repeat (first | exact Sh_21.out | refine Sp.alloc ?_ _ | refine Sp.drewN ?_ _ | refine Sp.drew ?_)) hb22
    have Sl_22 : Hid (Sp w22 Al cl ([(5, 9)])) := Sp.below (by repeat (first | exact Sl_21.out | refine Sp.alloc ?_ _ | refine Sp.drewN ?_ _ | refine Sp.drew ?_)) hb22
    have Sq_22 : Hid (Sp w22 Aq cq ([(5, 9)])) := Sp.below (by repeat (first | exact Sq_21.out | refine Sp.alloc ?_ _ | refine Sp.drewN ?_ _ | refine Sp.drew ?_)) hb22
    have Sy_22 : Hid (Sp w22 Ay cy ([(5, 6)])) := Sp.below (by repeat (first | exact Sy_21.out | refine Sp.alloc ?_ _ | refine Sp.drewN ?_ _ | refine Sp.drew ?_)) hb22
    have Bs_22 : Hid (w22.heap[w2.heap.size]? = some (.cells #[.bool true, .slice none 0 0, .slice Ah 1 ch, .slice Ay 1 cy, .bool false, .bool false, .int .i64 0, .bool true] 24 (0, 0))) := blk_keep hb22 (blk_keep (W := w21) (by (repeat (first | exact Below.refl _ _ | refine bel_drewN ?_ _ | refine bel_drew ?_ | refine bel_alloc ?_ _ | refine bel_set ?_ (by simp) _))) Bs_21.out)
    have Bl_22 : Hid (w22.heap[g]? = some (.cells #[.slice Al 1 cl] 29 (0, 0))) := blk_keep hb22 (blk_keep (W := w21) (by (repeat (first | exact Below.refl _ _ | refine bel_drewN ?_ _ | refine bel_drew ?_ | refine bel_alloc ?_ _ | refine bel_set ?_ (by simp) _))) Bl_21.out)
    have s0_22 : w22.cell? ⟨w2.heap.size, 0, none⟩ = some (.bool true) := blk_cell Bs_22.out rfl
    have sf0_22 : w22.frozen? ⟨w2.heap.size, 0, none⟩ = false := blk_frozen Bs_22.out
    have s1_22 : w22.cell? ⟨w2.heap.size, 1, none⟩ = some (.slice none 0 0) := blk_cell Bs_22.out rfl
    have sf1_22 : w22.frozen? ⟨w2.heap.size, 1, none⟩ = false := blk_frozen Bs_22.out
    have s2_22 : w22.cell? ⟨w2.heap.size, 2, none⟩ = some (.slice Ah 1 ch) := blk_cell Bs_22.out rfl
    have sf2_22 : w22.frozen? ⟨w2.heap.size, 2, none⟩ = false := blk_frozen Bs_22.out
    have s3_22 : w22.cell? ⟨w2.heap.size, 3, none⟩ = some (.slice Ay 1 cy) := blk_cell Bs_22.out rfl
    have sf3_22 : w22.frozen? ⟨w2.heap.size, 3, none⟩ = false := blk_frozen Bs_22.out
    have s4_22 : w22.cell? ⟨w2.heap.size, 4, none⟩ = some (.bool false) := blk_cell Bs_22.out rfl
    have sf4_22 : w22.frozen? ⟨w2.heap.size, 4, none⟩ = false := blk_frozen Bs_22.out
    have s5_22 : w22.cell? ⟨w2.heap.size, 5, none⟩ = some (.bool false) := blk_cell Bs_22.out rfl
    have sf5_22 : w22.frozen? ⟨w2.heap.size, 5, none⟩ = false := blk_frozen Bs_22.out
    have s6_22 : w22.cell? ⟨w2.heap.size, 6, none⟩ = some (.int .i64 0) := blk_cell Bs_22.out rfl
    have sf6_22 : w22.frozen? ⟨w2.heap.size, 6, none⟩ = false := blk_frozen Bs_22.out
    have s7_22 : w22.cell? ⟨w2.heap.size, 7, none⟩ = some (.bool true) := blk_cell Bs_22.out rfl
    have sf7_22 : w22.frozen? ⟨w2.heap.size, 7, none⟩ = false := blk_frozen Bs_22.out
    have sz_22 : w2.heap.size < w22.heap.size := blk_lt Bs_22.out
    have l0_22 : w22.cell? ⟨g, 0, none⟩ = some (.slice Al 1 cl) := blk_cell Bl_22.out rfl
    have lz_22 : g < w22.heap.size := blk_lt Bl_22.out
    have Sa1_22 : Hid (Sp w22 E1 g1 ([])) := hs22
    have Sa2_22 : Hid (Sp w22 E2 g2 ([(3, 5)])) := ht22
    have Sa3_22 : Hid (Sp w22 E3 g3 ([(5, 6)])) := hu22
    clear Sh_21 Sl_21 Sq_21 Sy_21 Bs_21 s0_21 s1_21 s2_21 s3_21 s4_21 s5_21 s6_21 s7_21 sf0_21 sf1_21 sf2_21 sf3_21 sf4_21 sf5_21 sf6_21 sf7_21 sz_21 Bl_21 l0_21 lz_21 hs22 ht22 hu22 HB_21 hb22
    go_wp2_with fail
    refine (decide_as true E1 g1 [] E2 g2 [(3, 5)] E3 g3 [(5, 6)] false false 0 true 6 (by decide) _ (by repeat (first | exact Sa1_22.out | refine Sp.alloc ?_ _ | refine Sp.drewN ?_ _ | refine Sp.drew ?_)) (by repeat (first | exact Sa2_22.out | refine Sp.alloc ?_ _ | refine Sp.drewN ?_ _ | refine Sp.drew ?_)) (by repeat (first | exact Sa3_22.out | refine Sp.alloc ?_ _ | refine Sp.drewN ?_ _ | refine Sp.drew ?_)) Canon.nil (canon1 (by decide)) (canon1 (by decide)) (by simp) (by simp) (by simp)).mono ?_
    rintro e23 w23 ⟨rfl, hb23⟩
    have HB_23 : Hid (Below w.heap.size w w23) := bel_chain hb23 (by repeat (first | exact HB_22.out | refine bel_drewN ?_ _ | refine bel_drew ?_ | refine bel_alloc ?_ _))
    have Sh_23 : Hid (Sp w23 Ah ch ([(3, 5)])) := Sp.below (by repeat (first | exact Sh_22.out | refine Sp.alloc ?_ _ | refine Sp.drewN ?_ _ | refine Sp.drew ?_)) hb23
    have Sl_23 : Hid (Sp w23 Al cl ([(5, 9)])) := Sp.below (by repeat (first | exact Sl_22.out | refine Sp.alloc ?_ _ | refine Sp.drewN ?_ _ | refine Sp.drew ?_)) hb23
    have Sq_23 : Hid (Sp w23 Aq cq ([(5, 9)])) := Sp.below (by repeat (first | exact Sq_22.out | refine Sp.alloc ?_ _ | refine Sp.drewN ?_ _ | refine Sp.drew ?_)) hb23
    have Sy_23 : Hid (Sp w23 Ay cy ([(5, 6)])) := Sp.below (by repeat (first | exact Sy_22.out | refine Sp.alloc ?_ _ | refine Sp.drewN ?_ _ | refine Sp.drew ?_)) hb23
    have Sa1_23 : Hid (Sp w23 E1 g1 ([])) := Sp.below (by repeat (first | exact Sa1_22.out | refine Sp.alloc ?_ _ | refine Sp.drewN ?_ _ | refine Sp.drew ?_)) hb23
    have Sa2_23 : Hid (Sp w23 E2 g2 ([(3, 5)])) := Sp.below (by repeat (first | exact Sa2_22.out | refine Sp.alloc ?_ _ | refine Sp.drewN ?_ _ | refine Sp.drew ?_)) hb23
    have Sa3_23 : Hid (Sp w23 E3 g3 ([(5, 6)])) := Sp.below (by repeat (first | exact Sa3_22.out | refine Sp.alloc ?_ _ | refine Sp.drewN ?_ _ | refine Sp.drew ?_)) hb23
    have Bs_23 : Hid (w23.heap[w2.heap.size]? = some (.cells #[.bool true, .slice none 0 0, .slice Ah 1 ch, .slice Ay 1 cy, .bool false, .bool false, .int .i64 0, .bool true] 24 (0, 0))) := blk_keep hb23 (blk_keep (W := w22) (by (repeat (first | exact Below.refl _ _ | refine bel_drewN ?_ _ | refine bel_drew ?_ | refine bel_alloc ?_ _ | refine bel_set ?_ (by simp) _))) Bs_22.out)
    have Bl_23 : Hid (w23.heap[g]? = some (.cells #[.slice Al 1 cl] 29 (0, 0))) := blk_keep hb23 (blk_keep (W := w22) (by (repeat (first | exact Below.refl _ _ | refine bel_drewN ?_ _ | refine bel_drew ?_ | refine bel_alloc ?_ _ | refine bel_set ?_ (by simp) _))) Bl_22.out)
    have s0_23 : w23.cell? ⟨w2.heap.size, 0, none⟩ = some (.bool true) := blk_cell Bs_23.out rfl
    have sf0_23 : w23.frozen? ⟨w2.heap.size, 0, none⟩ = false := blk_frozen Bs_23.out
    have s1_23 : w23.cell? ⟨w2.heap.size, 1, none⟩ = some (.slice none 0 0) := blk_cell Bs_23.out rfl
    have sf1_23 : w23.frozen? ⟨w2.heap.size, 1, none⟩ = false := blk_frozen Bs_23.out
    have s2_23 : w23.cell? ⟨w2.heap.size, 2, none⟩ = some (.slice Ah 1 ch) := blk_cell Bs_23.out rfl
    have sf2_23 : w23.frozen? ⟨w2.heap.size, 2, none⟩ = false := blk_frozen Bs_23.out
    have s3_23 : w23.cell? ⟨w2.heap.size, 3, none⟩ = some (.slice Ay 1 cy) := blk_cell Bs_23.out rfl
    have sf3_23 : w23.frozen? ⟨w2.heap.size, 3, none⟩ = false := blk_frozen Bs_23.out
    have s4_23 : w23.cell? ⟨w2.heap.size, 4, none⟩ = some (.bool false) := blk_cell Bs_23.out rfl
    have sf4_23 : w23.frozen? ⟨w2.heap.size, 4, none⟩ = false := blk_frozen Bs_23.out
    have s5_23 : w23.cell? ⟨w2.heap.size, 5, none⟩ = some (.bool false) := blk_cell Bs_23.out rfl
    have sf5_23 : w23.frozen? ⟨w2.heap.size, 5, none⟩ = false := blk_frozen Bs_23.out
    have s6_23 : w23.cell? ⟨w2.heap.size, 6, none⟩ = some (.int .i64 0) := blk_cell Bs_23.out rfl
    have sf6_23 : w23.frozen? ⟨w2.heap.size, 6, none⟩ = false := blk_frozen Bs_23.out
    have s7_23 : w23.cell? ⟨w2.heap.size, 7, none⟩ = some (.bool true) := blk_cell Bs_23.out rfl
    have sf7_23 : w23.frozen? ⟨w2.heap.size, 7, none⟩ = false := blk_frozen Bs_23.out
    have sz_23 : w2.heap.size < w23.heap.size := blk_lt Bs_23.out
    have l0_23 : w23.cell? ⟨g, 0, none⟩ = some (.slice Al 1 cl) := blk_cell Bl_23.out rfl
    have lz_23 : g < w23.heap.size := blk_lt Bl_23.out
    clear Sh_22 Sl_22 Sq_22 Sy_22 Sa1_22 Sa2_22 Sa3_22 Bs_22 s0_22 s1_22 s2_22 s3_22 s4_22 s5_22 s6_22 s7_22 sf0_22 sf1_22 sf2_22 sf3_22 sf4_22 sf5_22 sf6_22 sf7_22 sz_22 Bl_22 l0_22 lz_22 HB_22 hb23
    clear Sa1_23
    clear Sa2_23
    clear Sa3_23
    go_wp2_with fail
    refine (own_as true none 0 [] Ah ch [(3, 5)] Ay cy [(5, 6)] false false 0 true [] [(3, 5)] [(5, 6)] (by decide) (by decide) (by decide) _ (Sp.nil _) (by repeat (first | exact Sh_23.out | refine Sp.alloc ?_ _ | refine Sp.drewN ?_ _ | refine Sp.drew ?_)) (by repeat (first | exact Sy_23.out | refine Sp.alloc ?_ _ | refine Sp.drewN ?_ _ | refine Sp.drew ?_)) (by simp) (by simp) (by simp)).mono ?_
    rintro e24 w24 ⟨G1, i1, G2, i2, G3, i3, rfl, hs24, ht24, hu24, hb24⟩
    have HB_24 : Hid (Below w.heap.size w w24) := bel_chain hb24 (by repeat (first | exact HB_23.out | refine bel_drewN ?_ _ | refine bel_drew ?_ | refine bel_alloc ?_ _))
    have Sh_24 : Hid (Sp w24 Ah ch ([(3, 5)])) := Sp.below (by repeat (first | exact Sh_23.out | refine Sp.alloc ?_ _ | refine Sp.drewN ?_ _ | refine Sp.drew ?_)) hb24
    have Sl_24 : Hid (Sp w24 Al cl ([(5, 9)])) := Sp.below (by repeat (first | exact Sl_23.out | refine Sp.alloc ?_ _ | refine Sp.drewN ?_ _ | refine Sp.drew ?_)) hb24
    have Sq_24 : Hid (Sp w24 Aq cq ([(5, 9)])) := Sp.below (by repeat (first | exact Sq_23.out | refine Sp.alloc ?_ _ | refine Sp.drewN ?_ _ | refine Sp.drew ?_)) hb24
    have Sy_24 : Hid (Sp w24 Ay cy ([(5, 6)])) := Sp.below (by repeat (first | exact Sy_23.out | refine Sp.alloc ?_ _ | refine Sp.drewN ?_ _ | refine Sp.drew ?_)) hb24
    have Bs_24 : Hid (w24.heap[w2.heap.size]? = some (.cells #[.bool true, .slice none 0 0, .slice Ah 1 ch, .slice Ay 1 cy, .bool false, .bool false, .int .i64 0, .bool true] 24 (0, 0))) := blk_keep hb24 (blk_keep (W := w23) (by (repeat (first | exact Below.refl _ _ | refine bel_drewN ?_ _ | refine bel_drew ?_ | refine bel_alloc ?_ _ | refine bel_set ?_ (by simp) _))) Bs_23.out)
    have Bl_24 : Hid (w24.heap[g]? = some (.cells #[.slice Al 1 cl] 29 (0, 0))) := blk_keep hb24 (blk_keep (W := w23) (by (repeat (first | exact Below.refl _ _ | refine bel_drewN ?_ _ | refine bel_drew ?_ | refine bel_alloc ?_ _ | refine bel_set ?_ (by simp) _))) Bl_23.out)
    have s0_24 : w24.cell? ⟨w2.heap.size, 0, none⟩ = some (.bool true) := blk_cell Bs_24.out rfl
    have sf0_24 : w24.frozen? ⟨w2.heap.size, 0, none⟩ = false := blk_frozen Bs_24.out
    have s1_24 : w24.cell? ⟨w2.heap.size, 1, none⟩ = some (.slice none 0 0) := blk_cell Bs_24.out rfl
    have sf1_24 : w24.frozen? ⟨w2.heap.size, 1, none⟩ = false := blk_frozen Bs_24.out
    have s2_24 : w24.cell? ⟨w2.heap.size, 2, none⟩ = some (.slice Ah 1 ch) := blk_cell Bs_24.out rfl
    have sf2_24 : w24.frozen? ⟨w2.heap.size, 2, none⟩ = false := blk_frozen Bs_24.out
    have s3_24 : w24.cell? ⟨w2.heap.size, 3, none⟩ = some (.slice Ay 1 cy) := blk_cell Bs_24.out rfl
    have sf3_24 : w24.frozen? ⟨w2.heap.size, 3, none⟩ = false := blk_frozen Bs_24.out
    have s4_24 : w24.cell? ⟨w2.heap.size, 4, none⟩ = some (.bool false) := blk_cell Bs_24.out rfl
    have sf4_24 : w24.frozen? ⟨w2.heap.size, 4, none⟩ = false := blk_frozen Bs_24.out
    have s5_24 : w24.cell? ⟨w2.heap.size, 5, none⟩ = some (.bool false) := blk_cell Bs_24.out rfl
    have sf5_24 : w24.frozen? ⟨w2.heap.size, 5, none⟩ = false := blk_frozen Bs_24.out
    have s6_24 : w24.cell? ⟨w2.heap.size, 6, none⟩ = some (.int .i64 0) := blk_cell Bs_24.out rfl
    have sf6_24 : w24.frozen? ⟨w2.heap.size, 6, none⟩ = false := blk_frozen Bs_24.out
    have s7_24 : w24.cell? ⟨w2.heap.size, 7, none⟩ = some (.bool true) := blk_cell Bs_24.out rfl
    have sf7_24 : w24.frozen? ⟨w2.heap.size, 7, none⟩ = false := blk_frozen Bs_24.out
    have sz_24 : w2.heap.size < w24.heap.size := blk_lt Bs_24.out
    have l0_24 : w24.cell? ⟨g, 0, none⟩ = some (.slice Al 1 cl) := blk_cell Bl_24.out rfl
    have lz_24 : g < w24.heap.size := blk_lt Bl_24.out
    have Sa1_24 : Hid (Sp w24 G1 i1 ([])) := hs24
    have Sa2_24 : Hid (Sp w24 G2 i2 ([(3, 5)])) := ht24
    have Sa3_24 : Hid (Sp w24 G3 i3 ([(5, 6)])) := hu24
    clear Sh_23 Sl_23 Sq_23 Sy_23 Bs_23 s0_23 s1_23 s2_23 s3_23 s4_23 s5_23 s6_23 s7_23 sf0_23 sf1_23 sf2_23 sf3_23 sf4_23 sf5_23 sf6_23 sf7_23 sz_23 Bl_23 l0_23 lz_23 hs24 ht24 hu24 HB_23 hb24
    go_wp2_with fail
    refine (sure_as true G1 i1 [] G2 i2 [(3, 5)] G3 i3 [(5, 6)] false false 0 true true (by decide) _ (by repeat (first | exact Sa1_24.out | refine Sp.alloc ?_ _ | refine Sp.drewN ?_ _ | refine Sp.drew ?_)) (by repeat (first | exact Sa2_24.out | refine Sp.alloc ?_ _ | refine Sp.drewN ?_ _ | refine Sp.drew ?_)) (by repeat (first | exact Sa3_24.out | refine Sp.alloc ?_ _ | refine Sp.drewN ?_ _ | refine Sp.drew ?_)) Canon.nil (canon1 (by decide)) (canon1 (by decide)) (by simp) (by simp) (by simp)).mono ?_
    rintro e25 w25 ⟨rfl, hb25⟩
    have HB_25 : Hid (Below w.heap.size w w25) := bel_chain hb25 (by repeat (first | exact HB_24.out | refine bel_drewN ?_ _ | refine bel_drew ?_ | refine bel_alloc ?_ _))
    have Sh_25 : Hid (Sp w25 Ah ch ([(3, 5)])) := Sp.below (by repeat (first | exact Sh_24.out | refine Sp.alloc ?_ _ | refine Sp.drewN ?_ _ | refine Sp.drew ?_)) hb25
    have Sl_25 : Hid (Sp w25 Al cl ([(5, 9)])) := Sp.below (by repeat (first | exact Sl_24.out | refine Sp.alloc ?_ _ | refine Sp.drewN ?_ _ | refine Sp.drew ?_)) hb25
    have Sq_25 : Hid (Sp w25 Aq cq ([(5, 9)])) := Sp.below (by repeat (first | exact Sq_24.out | refine Sp.alloc ?_ _ | refine Sp.drewN ?_ _ | refine Sp.drew ?_)) hb25
    have Sy_25 : Hid (Sp w25 Ay cy ([(5, 6)])) := Sp.below (by repeat (first | exact Sy_24.out | refine Sp.alloc ?_ _ | refine Sp.drewN ?_ _ | refine Sp.drew ?_)) hb25
    have Sa1_25 : Hid (Sp w25 G1 i1 ([])) := Sp.below (by repeat (first | exact Sa1_24.out | refine Sp.alloc ?_ _ | refine Sp.drewN ?_ _ | refine Sp.drew ?_)) hb25
    have Sa2_25 : Hid (Sp w25 G2 i2 ([(3, 5)])) := Sp.below (by repeat (first | exact Sa2_24.out | refine Sp.alloc ?_ _ | refine Sp.drewN ?_ _ | refine Sp.drew ?_)) hb25
    have Sa3_25 : Hid (Sp w25 G3 i3 ([(5, 6)])) := Sp.below (by repeat (first | exact Sa3_24.out | refine Sp.alloc ?_ _ | refine Sp.drewN ?_ _ | refine Sp.drew ?_)) hb25
    have Bs_25 : Hid (w25.heap[w2.heap.size]? = some (.cells #[.bool true, .slice none 0 0, .slice Ah 1 ch, .slice Ay 1 cy, .bool false, .bool false, .int .i64 0, .bool true] 24 (0, 0))) := blk_keep hb25 (blk_keep (W := w24) (by (repeat (first | exact Below.refl _ _ | refine bel_drewN ?_ _ | refine bel_drew ?_ | refine bel_alloc ?_ _ | refine bel_set ?_ (by simp) _))) Bs_24.out)
    have Bl_25 : Hid (w25.heap[g]? = some (.cells #[.slice Al 1 cl] 29 (0, 0))) := blk_keep hb25 (blk_keep (W := w24) (by (repeat (first | exact Below.refl _ _ | refine bel_drewN ?_ _ | refine bel_drew ?_ | refine bel_alloc ?_ _ | refine bel_set ?_ (by simp) _))) Bl_24.out)
    have s0_25 : w25.cell? ⟨w2.heap.size, 0, none⟩ = some (.bool true) := blk_cell Bs_25.out rfl
    have sf0_25 : w25.frozen? ⟨w2.heap.size, 0, none⟩ = false := blk_frozen Bs_25.out
    have s1_25 : w25.cell? ⟨w2.heap.size, 1, none⟩ = some (.slice none 0 0) := blk_cell Bs_25.out rfl
    have sf1_25 : w25.frozen? ⟨w2.heap.size, 1, none⟩ = false := blk_frozen Bs_25.out
    have s2_25 : w25.cell? ⟨w2.heap.size, 2, none⟩ = some (.slice Ah 1 ch) := blk_cell Bs_25.out rfl
    have sf2_25 : w25.frozen? ⟨w2.heap.size, 2, none⟩ = false := blk_frozen Bs_25.out
    have s3_25 : w25.cell? ⟨w2.heap.size, 3, none⟩ = some (.slice Ay 1 cy) := blk_cell Bs_25.out rfl
    have sf3_25 : w25.frozen? ⟨w2.heap.size, 3, none⟩ = false := blk_frozen Bs_25.out
    have s4_25 : w25.cell? ⟨w2.heap.size, 4, none⟩ = some (.bool false) := blk_cell Bs_25.out rfl
    have sf4_25 : w25.frozen? ⟨w2.heap.size, 4, none⟩ = false := blk_frozen Bs_25.out
    have s5_25 : w25.cell? ⟨w2.heap.size, 5, none⟩ = some (.bool false) := blk_cell Bs_25.out rfl
    have sf5_25 : w25.frozen? ⟨w2.heap.size, 5, none⟩ = false := blk_frozen Bs_25.out
    have s6_25 : w25.cell? ⟨w2.heap.size, 6, none⟩ = some (.int .i64 0) := blk_cell Bs_25.out rfl
    have sf6_25 : w25.frozen? ⟨w2.heap.size, 6, none⟩ = false := blk_frozen Bs_25.out
    have s7_25 : w25.cell? ⟨w2.heap.size, 7, none⟩ = some (.bool true) := blk_cell Bs_25.out rfl
    have sf7_25 : w25.frozen? ⟨w2.heap.size, 7, none⟩ = false := blk_frozen Bs_25.out
    have sz_25 : w2.heap.size < w25.heap.size := blk_lt Bs_25.out
    have l0_25 : w25.cell? ⟨g, 0, none⟩ = some (.slice Al 1 cl) := blk_cell Bl_25.out rfl
    have lz_25 : g < w25.heap.size := blk_lt Bl_25.out
    clear Sh_24 Sl_24 Sq_24 Sy_24 Sa1_24 Sa2_24 Sa3_24 Bs_24 s0_24 s1_24 s2_24 s3_24 s4_24 s5_24 s6_24 s7_24 sf0_24 sf1_24 sf2_24 sf3_24 sf4_24 sf5_24 sf6_24 sf7_24 sz_24 Bl_24 l0_24 lz_24 HB_24 hb25
    clear Sa1_25
    clear Sa2_25
    clear Sa3_25
    go_wp2_with fail
    refine (ftext_lit 4 ⟨#[97, 110, 101, 119]⟩ (by rfl) _ (HN.out.below HB_25.out)).mono ?_
    rintro e26 w26 ⟨rfl, hb26⟩
    have HB_26 : Hid (Below w.heap.size w w26) := bel_chain hb26 (by repeat (first | exact HB_25.out | refine bel_drewN ?_ _ | refine bel_drew ?_ | refine bel_alloc ?_ _))
    have Sh_26 : Hid (Sp w26 Ah ch ([(3, 5)])) := Sp.below (by repeat (first | exact Sh_25.out | refine Sp.alloc ?_ _ | refine Sp.drewN ?_ _ | refine Sp.drew ?_)) hb26
    have Sl_26 : Hid (Sp w26 Al cl ([(5, 9)])) := Sp.below (by repeat (first | exact Sl_25.out | refine Sp.alloc ?_ _ | refine Sp.drewN ?_ _ | refine Sp.drew ?_)) hb26
    have Sq_26 : Hid (Sp w26 Aq cq ([(5, 9)])) := Sp.below (by repeat (first | exact Sq_25.out | refine Sp.alloc ?_ _ | refine Sp.drewN ?_ _ | refine Sp.drew ?_)) hb26
    have Sy_26 : Hid (Sp w26 Ay cy ([(5, 6)])) := Sp.below (by repeat (first | exact Sy_25.out | refine Sp.alloc ?_ _ | refine Sp.drewN ?_ _ | refine Sp.drew ?_)) hb26
    have Bs_26 : Hid (w26.heap[w2.heap.size]? = some (.cells #[.bool true, .slice none 0 0, .slice Ah 1 ch, .slice Ay 1 cy, .bool false, .bool false, .int .i64 0, .bool true] 24 (0, 0))) := blk_keep hb26 (blk_keep (W := w25) (by (repeat (first | exact Below.refl _ _ | refine bel_drewN ?_ _ | refine bel_drew ?_ | refine bel_alloc ?_ _ | refine bel_set ?_ (by simp) _))) Bs_25.out)
    have Bl_26 : Hid (w26.heap[g]? = some (.cells #[.slice Al 1 cl] 29 (0, 0))) := blk_keep hb26 (blk_keep (W := w25) (by (repeat (first | exact Below.refl _ _ | refine bel_drewN ?_ _ | refine bel_drew ?_ | refine bel_alloc ?_ _ | refine bel_set ?_ (by simp) _))) Bl_25.out)
    have s0_26 : w26.cell? ⟨w2.heap.size, 0, none⟩ = some (.bool true) := blk_cell Bs_26.out rfl
    have sf0_26 : w26.frozen? ⟨w2.heap.size, 0, none⟩ = false := blk_frozen Bs_26.out
    have s1_26 : w26.cell? ⟨w2.heap.size, 1, none⟩ = some (.slice none 0 0) := blk_cell Bs_26.out rfl
    have sf1_26 : w26.frozen? ⟨w2.heap.size, 1, none⟩ = false := blk_frozen Bs_26.out
    have s2_26 : w26.cell? ⟨w2.heap.size, 2, none⟩ = some (.slice Ah 1 ch) := blk_cell Bs_26.out rfl
    have sf2_26 : w26.frozen? ⟨w2.heap.size, 2, none⟩ = false := blk_frozen Bs_26.out
    have s3_26 : w26.cell? ⟨w2.heap.size, 3, none⟩ = some (.slice Ay 1 cy) := blk_cell Bs_26.out rfl
    have sf3_26 : w26.frozen? ⟨w2.heap.size, 3, none⟩ = false := blk_frozen Bs_26.out
    have s4_26 : w26.cell? ⟨w2.heap.size, 4, none⟩ = some (.bool false) := blk_cell Bs_26.out rfl
    have sf4_26 : w26.frozen? ⟨w2.heap.size, 4, none⟩ = false := blk_frozen Bs_26.out
    have s5_26 : w26.cell? ⟨w2.heap.size, 5, none⟩ = some (.bool false) := blk_cell Bs_26.out rfl
    have sf5_26 : w26.frozen? ⟨w2.heap.size, 5, none⟩ = false := blk_frozen Bs_26.out
    have s6_26 : w26.cell? ⟨w2.heap.size, 6, none⟩ = some (.int .i64 0) := blk_cell Bs_26.out rfl
    have sf6_26 : w26.frozen? ⟨w2.heap.size, 6, none⟩ = false := blk_frozen Bs_26.out
    have s7_26 : w26.cell? ⟨w2.heap.size, 7, none⟩ = some (.bool true) := blk_cell Bs_26.out rfl
    have sf7_26 : w26.frozen? ⟨w2.heap.size, 7, none⟩ = false := blk_frozen Bs_26.out
    have sz_26 : w2.heap.size < w26.heap.size := blk_lt Bs_26.out
    have l0_26 : w26.cell? ⟨g, 0, none⟩ = some (.slice Al 1 cl) := blk_cell Bl_26.out rfl
    have lz_26 : g < w26.heap.size := blk_lt Bl_26.out
    clear Sh_25 Sl_25 Sq_25 Sy_25 Bs_25 s0_25 s1_25 s2_25 s3_25 s4_25 s5_25 s6_25 s7_25 sf0_25 sf1_25 sf2_25 sf3_25 sf4_25 sf5_25 sf6_25 sf7_25 sz_25 Bl_25 l0_25 lz_25 HB_25 hb26
    go_wp2_with fail
    refine (ftext_lit 0 ⟨#[]⟩ (by rfl) _ (HN.out.below HB_26.out)).mono ?_
    rintro e27 w27 ⟨rfl, hb27⟩
    have HB_27 : Hid (Below w.heap.size w w27) := bel_chain hb27 (by repeat (first | exact HB_26.out | refine bel_drewN ?_ _ | refine bel_drew ?_ | refine bel_alloc ?_ _))
    have Sh_27 : Hid (Sp w27 Ah ch ([(3, 5)])) := Sp.below (by repeat (first | exact Sh_26.out | refine Sp.alloc ?_ _ | refine Sp.drewN ?_ _ | refine Sp.drew ?_)) hb27
    have Sl_27 : Hid (Sp w27 Al cl ([(5, 9)])) := Sp.below (by repeat (first | exact Sl_26.out | refine Sp.alloc ?_ _ | refine Sp.drewN ?_ _ | refine Sp.drew ?_)) hb27
    have Sq_27 : Hid (Sp w27 Aq cq ([(5, 9)])) := Sp.below (by repeat (first | exact Sq_26.out | refine Sp.alloc ?_ _ | refine Sp.drewN ?_ _ | refine Sp.drew ?_)) hb27
    have Sy_27 : Hid (Sp w27 Ay cy ([(5, 6)])) := Sp.below (by repeat (first | exact Sy_26.out | refine Sp.alloc ?_ _ | refine Sp.drewN ?_ _ | refine Sp.drew ?_)) hb27
    have Bs_27 : Hid (w27.heap[w2.heap.size]? = some (.cells #[.bool true, .slice none 0 0, .slice Ah 1 ch, .slice Ay 1 cy, .bool false, .bool false, .int .i64 0, .bool true] 24 (0, 0))) := blk_keep hb27 (blk_keep (W := w26) (by (repeat (first | exact Below.refl _ _ | refine bel_drewN ?_ _ | refine bel_drew ?_ | refine bel_alloc ?_ _ | refine bel_set ?_ (by simp) _))) Bs_26.out)
    have Bl_27 : Hid (w27.heap[g]? = some (.cells #[.slice Al 1 cl] 29 (0, 0))) := blk_keep hb27 (blk_keep (W := w26) (by (repeat (first | exact Below.refl _ _ | refine bel_drewN ?_ _ | refine bel_drew ?_ | refine bel_alloc ?_ _ | refine bel_set ?_ (by simp) _))) Bl_26.out)
    have s0_27 : w27.cell? ⟨w2.heap.size, 0, none⟩ = some (.bool true) := blk_cell Bs_27.out rfl
    have sf0_27 : w27.frozen? ⟨w2.heap.size, 0, none⟩ = false := blk_frozen Bs_27.out
    have s1_27 : w27.cell? ⟨w2.heap.size, 1, none⟩ = some (.slice none 0 0) := blk_cell Bs_27.out rfl
    have sf1_27 : w27.frozen? ⟨w2.heap.size, 1, none⟩ = false := blk_frozen Bs_27.out
    have s2_27 : w27.cell? ⟨w2.heap.size, 2, none⟩ = some (.slice Ah 1 ch) := blk_cell Bs_27.out rfl
    have sf2_27 : w27.frozen? ⟨w2.heap.size, 2, none⟩ = false := blk_frozen Bs_27.out
    have s3_27 : w27.cell? ⟨w2.heap.size, 3, none⟩ = some (.slice Ay 1 cy) := blk_cell Bs_27.out rfl
    have sf3_27 : w27.frozen? ⟨w2.heap.size, 3, none⟩ = false := blk_frozen Bs_27.out
    have s4_27 : w27.cell? ⟨w2.heap.size, 4, none⟩ = some (.bool false) := blk_cell Bs_27.out rfl
    have sf4_27 : w27.frozen? ⟨w2.heap.size, 4, none⟩ = false := blk_frozen Bs_27.out
    have s5_27 : w27.cell? ⟨w2.heap.size, 5, none⟩ = some (.bool false) := blk_cell Bs_27.out rfl
    have sf5_27 : w27.frozen? ⟨w2.heap.size, 5, none⟩ = false := blk_frozen Bs_27.out
    have s6_27 : w27.cell? ⟨w2.heap.size, 6, none⟩ = some (.int .i64 0) := blk_cell Bs_27.out rfl
    have sf6_27 : w27.frozen? ⟨w2.heap.size, 6, none⟩ = false := blk_frozen Bs_27.out
    have s7_27 : w27.cell? ⟨w2.heap.size, 7, none⟩ = some (.bool true) := blk_cell Bs_27.out rfl
    have sf7_27 : w27.frozen? ⟨w2.heap.size, 7, none⟩ = false := blk_frozen Bs_27.out
    have sz_27 : w2.heap.size < w27.heap.size := blk_lt Bs_27.out
    have l0_27 : w27.cell? ⟨g, 0, none⟩ = some (.slice Al 1 cl) := blk_cell Bl_27.out rfl
    have lz_27 : g < w27.heap.size := blk_lt Bl_27.out
    clear Sh_26 Sl_26 Sq_26 Sy_26 Bs_26 s0_26 s1_26 s2_26 s3_26 s4_26 s5_26 s6_26 s7_26 sf0_26 sf1_26 sf2_26 sf3_26 sf4_26 sf5_26 sf6_26 sf7_26 sz_26 Bl_26 l0_26 lz_26 HB_26 hb27
    go_wp2_with fail
    go_ret
    exact ⟨rfl, (by repeat (first | (with_reducible exact HB_27.out) | (with_reducible refine bel_drewN ?_ _) | (with_reducible refine bel_drew ?_) | (with_reducible refine bel_alloc ?_ _) | (with_reducible refine bel_set ?_ (by first | omega | (dsimp only; omega)) _)))⟩
end Go.Proofs.YtfpfdgljhcpkpaaDoor
