/- Contract of the document's text of a date. Contracts of the document's keys and Right where a version may be. -/
import Derived.Test.YtaaefgieklkekaaGreatDoorZI5
import Derived.Deep.RegionHeld3
namespace Go.Proofs.YtaaefgieklkekaaGreatDoor
open Go.RowKit

theorem twoD_len (n : Int) : (twoD n).length = 2 := rfl
theorem ex_name' (t : List UInt8) (k : Int) (h0 : 0 ≤ k) : (⟨t.toArray⟩ : ByteArray).extract (3 * k).toNat (3 * k + 3).toNat = ⟨(name3 t k).toArray⟩ := by
  have e : (⟨t.toArray⟩ : ByteArray).extract (3 * k).toNat (3 * k + 3).toNat = ⟨((t.drop (3 * k).toNat).take ((3 * k + 3).toNat - (3 * k).toNat)).toArray⟩ := ba_ext (by rw [ByteArray.data_extract, Array.toList_extract])
  have e1 : (3 * k).toNat = 3 * k.toNat := by omega
  have e2 : (3 * k + 3).toNat - (3 * k).toNat = 3 := by omega
  rw [e, e2, e1]; rfl
def TextRet' (v : List UInt8) (w : World) (e : Ending) (w' : World) : Prop := e = .returned (.tuple #[.string ⟨v.toArray⟩, .int .i64 0]) ∧ Below w.heap.size w w'
set_option maxHeartbeats 16000000 in
set_option maxRecDepth 100000 in
theorem rdateText_any (n : Int) (w : World) (h0 : 0 ≤ n) (h1 : n ≤ 253402300799) : Calls Tryz.prog 61 #[.int .i64 n] w (TextRet' (dateT n) w) := by
  obtain ⟨b1, b2, b3, b4, b5, b6, b7, b8⟩ := dayN_bd (n := n / 86400) (by omega) (by omega)
  have HT : Hid (dateT n = name3 weekT (dayN (n / 86400)).week ++ [44, 32] ++ twoD (dayN (n / 86400)).date ++ [32] ++ name3 yearT ((dayN (n / 86400)).month - 1) ++ [32] ++ twoD ((dayN (n / 86400)).year / 100) ++ twoD ((dayN (n / 86400)).year % 100) ++ [32] ++ twoD (n % 86400 / 3600) ++ [58] ++ twoD (n % 86400 / 60 % 60) ++ [58] ++ twoD (n % 86400 % 60) ++ [32, 71, 77, 84]) := by
    simp only [Hid]; unfold dateT; rw [← four_two]; simp
  obtain ⟨s, hs⟩ : ∃ s, n % 86400 = s := ⟨_, rfl⟩
  have hs1 : 0 ≤ s ∧ s < 86400 := by omega
  rw [hs] at HT
  obtain ⟨y, m, d, k, hday⟩ : ∃ y m d k, dayN (n / 86400) = ⟨y, m, d, k⟩ := ⟨_, _, _, _, rfl⟩
  have HD : ∀ W, Hid (Calls Tryz.prog 104 #[.int .i64 n] W fun e w' => e = .returned (.tuple #[.agg #[.int .i64 y, .int .i64 m, .int .i64 d, .int .i64 k], .int .i64 s]) ∧ Below W.heap.size W w') := fun W => Lib.hid ((rdateOf_any n W h0 h1).mono fun e w' h => by rw [DayPost, hday, hs] at h; exact h)
  rw [hday] at HT b1 b2 b3 b4 b5 b6 b7 b8
  simp only at HT b1 b2 b3 b4 b5 b6 b7 b8
  have hn1 : (name3 weekT k).length = 3 := name3_len b7 (by show 3 * k + 3 ≤ ((21 : Nat) : Int); omega)
  have hn2 : (name3 yearT (m - 1)).length = 3 := name3_len (by omega) (by show 3 * (m - 1) + 3 ≤ ((36 : Nat) : Int); omega)
  have hx1 := ex_name' weekT k b7
  have hx2 : (⟨yearT.toArray⟩ : ByteArray).extract (3 * m - 3).toNat (3 * m).toNat = ⟨(name3 yearT (m - 1)).toArray⟩ := by
    have h := ex_name' yearT (m - 1) (by omega)
    have e1 : 3 * (m - 1) = 3 * m - 3 := by omega
    have e2 : 3 * (m - 1) + 3 = 3 * m := by omega
    rw [e2, e1] at h; exact h
  have hz1 : (⟨weekT.toArray⟩ : ByteArray).size = 21 := by decide
  have hz2 : (⟨yearT.toArray⟩ : ByteArray).size = 36 := by decide
  have hl1 : weekT.length = 21 := rfl
  have hl2 : yearT.length = 36 := rfl
  have R1 := fun W => Lib.hid (rtwo_any d W (by omega) (by omega))
  have R2 := fun W => Lib.hid (rtwo_any (y / 100) W (by omega) (by omega))
  have R3 := fun W => Lib.hid (rtwo_any (y % 100) W (by omega) (by omega))
  have R4 := fun W => Lib.hid (rtwo_any (s / 3600) W (by omega) (by omega))
  have R5 := fun W => Lib.hid (rtwo_any (s / 60 % 60) W (by omega) (by omega))
  have R6 := fun W => Lib.hid (rtwo_any (s % 60) W (by omega) (by omega))
  have RW := fun W => Lib.hid (rweeks_any W)
  have RM := fun W => Lib.hid (rmonths_any W)
  have k0 := catE (a := name3 weekT k) (b := [44, 32]) (by simp only [hn1, List.length_cons, List.length_nil]; omega)
  have k1 := catE (a := name3 weekT k ++ [44, 32]) (b := twoD d) (by simp only [List.length_append, hn1, twoD_len, List.length_cons, List.length_nil]; omega)
  have k2 := catE (a := name3 weekT k ++ [44, 32] ++ twoD d) (b := [32]) (by simp only [List.length_append, hn1, twoD_len, List.length_cons, List.length_nil]; omega)
  have k3 := catE (a := name3 weekT k ++ [44, 32] ++ twoD d ++ [32]) (b := name3 yearT (m - 1)) (by simp only [List.length_append, hn1, hn2, twoD_len, List.length_cons, List.length_nil]; omega)
  have k4 := catE (a := name3 weekT k ++ [44, 32] ++ twoD d ++ [32] ++ name3 yearT (m - 1)) (b := [32]) (by simp only [List.length_append, hn1, hn2, twoD_len, List.length_cons, List.length_nil]; omega)
  have k5 := catE (a := name3 weekT k ++ [44, 32] ++ twoD d ++ [32] ++ name3 yearT (m - 1) ++ [32]) (b := twoD (y / 100)) (by simp only [List.length_append, hn1, hn2, twoD_len, List.length_cons, List.length_nil]; omega)
  have k6 := catE (a := name3 weekT k ++ [44, 32] ++ twoD d ++ [32] ++ name3 yearT (m - 1) ++ [32] ++ twoD (y / 100)) (b := twoD (y % 100)) (by simp only [List.length_append, hn1, hn2, twoD_len, List.length_cons, List.length_nil]; omega)
  have k7 := catE (a := name3 weekT k ++ [44, 32] ++ twoD d ++ [32] ++ name3 yearT (m - 1) ++ [32] ++ twoD (y / 100) ++ twoD (y % 100)) (b := [32]) (by simp only [List.length_append, hn1, hn2, twoD_len, List.length_cons, List.length_nil]; omega)
  have k8 := catE (a := name3 weekT k ++ [44, 32] ++ twoD d ++ [32] ++ name3 yearT (m - 1) ++ [32] ++ twoD (y / 100) ++ twoD (y % 100) ++ [32]) (b := twoD (s / 3600)) (by simp only [List.length_append, hn1, hn2, twoD_len, List.length_cons, List.length_nil]; omega)
  have k9 := catE (a := name3 weekT k ++ [44, 32] ++ twoD d ++ [32] ++ name3 yearT (m - 1) ++ [32] ++ twoD (y / 100) ++ twoD (y % 100) ++ [32] ++ twoD (s / 3600)) (b := [58]) (by simp only [List.length_append, hn1, hn2, twoD_len, List.length_cons, List.length_nil]; omega)
  have k10 := catE (a := name3 weekT k ++ [44, 32] ++ twoD d ++ [32] ++ name3 yearT (m - 1) ++ [32] ++ twoD (y / 100) ++ twoD (y % 100) ++ [32] ++ twoD (s / 3600) ++ [58]) (b := twoD (s / 60 % 60)) (by simp only [List.length_append, hn1, hn2, twoD_len, List.length_cons, List.length_nil]; omega)
  have k11 := catE (a := name3 weekT k ++ [44, 32] ++ twoD d ++ [32] ++ name3 yearT (m - 1) ++ [32] ++ twoD (y / 100) ++ twoD (y % 100) ++ [32] ++ twoD (s / 3600) ++ [58] ++ twoD (s / 60 % 60)) (b := [58]) (by simp only [List.length_append, hn1, hn2, twoD_len, List.length_cons, List.length_nil]; omega)
  have k12 := catE (a := name3 weekT k ++ [44, 32] ++ twoD d ++ [32] ++ name3 yearT (m - 1) ++ [32] ++ twoD (y / 100) ++ twoD (y % 100) ++ [32] ++ twoD (s / 3600) ++ [58] ++ twoD (s / 60 % 60) ++ [58]) (b := twoD (s % 60)) (by simp only [List.length_append, hn1, hn2, twoD_len, List.length_cons, List.length_nil]; omega)
  have k13 := catE (a := name3 weekT k ++ [44, 32] ++ twoD d ++ [32] ++ name3 yearT (m - 1) ++ [32] ++ twoD (y / 100) ++ twoD (y % 100) ++ [32] ++ twoD (s / 3600) ++ [58] ++ twoD (s / 60 % 60) ++ [58] ++ twoD (s % 60)) (b := [32, 71, 77, 84]) (by simp only [List.length_append, hn1, hn2, twoD_len, List.length_cons, List.length_nil]; omega)
  generalize name3 weekT k ++ [44, 32] ++ twoD d ++ [32] ++ name3 yearT (m - 1) ++ [32] ++ twoD (y / 100) ++ twoD (y % 100) ++ [32] ++ twoD (s / 3600) ++ [58] ++ twoD (s / 60 % 60) ++ [58] ++ twoD (s % 60) ++ [32, 71, 77, 84] = t14 at k13 HT
  generalize name3 weekT k ++ [44, 32] ++ twoD d ++ [32] ++ name3 yearT (m - 1) ++ [32] ++ twoD (y / 100) ++ twoD (y % 100) ++ [32] ++ twoD (s / 3600) ++ [58] ++ twoD (s / 60 % 60) ++ [58] ++ twoD (s % 60) = t13 at k12 k13
  generalize name3 weekT k ++ [44, 32] ++ twoD d ++ [32] ++ name3 yearT (m - 1) ++ [32] ++ twoD (y / 100) ++ twoD (y % 100) ++ [32] ++ twoD (s / 3600) ++ [58] ++ twoD (s / 60 % 60) ++ [58] = t12 at k11 k12
  generalize name3 weekT k ++ [44, 32] ++ twoD d ++ [32] ++ name3 yearT (m - 1) ++ [32] ++ twoD (y / 100) ++ twoD (y % 100) ++ [32] ++ twoD (s / 3600) ++ [58] ++ twoD (s / 60 % 60) = t11 at k10 k11
  generalize name3 weekT k ++ [44, 32] ++ twoD d ++ [32] ++ name3 yearT (m - 1) ++ [32] ++ twoD (y / 100) ++ twoD (y % 100) ++ [32] ++ twoD (s / 3600) ++ [58] = t10 at k9 k10
  generalize name3 weekT k ++ [44, 32] ++ twoD d ++ [32] ++ name3 yearT (m - 1) ++ [32] ++ twoD (y / 100) ++ twoD (y % 100) ++ [32] ++ twoD (s / 3600) = t9 at k8 k9
  generalize name3 weekT k ++ [44, 32] ++ twoD d ++ [32] ++ name3 yearT (m - 1) ++ [32] ++ twoD (y / 100) ++ twoD (y % 100) ++ [32] = t8 at k7 k8
  generalize name3 weekT k ++ [44, 32] ++ twoD d ++ [32] ++ name3 yearT (m - 1) ++ [32] ++ twoD (y / 100) ++ twoD (y % 100) = t7 at k6 k7
  generalize name3 weekT k ++ [44, 32] ++ twoD d ++ [32] ++ name3 yearT (m - 1) ++ [32] ++ twoD (y / 100) = t6 at k5 k6
  generalize name3 weekT k ++ [44, 32] ++ twoD d ++ [32] ++ name3 yearT (m - 1) ++ [32] = t5 at k4 k5
  generalize name3 weekT k ++ [44, 32] ++ twoD d ++ [32] ++ name3 yearT (m - 1) = t4 at k3 k4
  generalize name3 weekT k ++ [44, 32] ++ twoD d ++ [32] = t3 at k2 k3
  generalize name3 weekT k ++ [44, 32] ++ twoD d = t2 at k1 k2
  generalize name3 weekT k ++ [44, 32] = t1 at k0 k1
  generalize name3 weekT k = t0 at hx1 k0
  generalize name3 yearT (m - 1) = tm at hx2 k3
  generalize twoD d = q1 at R1 k1
  generalize twoD (y / 100) = q2 at R2 k5
  generalize twoD (y % 100) = q3 at R3 k6
  generalize twoD (s / 3600) = q4 at R4 k8
  generalize twoD (s / 60 % 60) = q5 at R5 k10
  generalize twoD (s % 60) = q6 at R6 k12
  generalize weekT = wt at RW hx1 hz1 hl1
  generalize yearT = yt at RM hx2 hz2 hl2
  have g0 : (0 : Int) ≤ 3 * k := by omega
  have g1 : 3 * k ≤ 3 * k + 3 := by omega
  have g2 : 3 * k + 3 ≤ (wt.length : Int) := by omega
  have g3 : 3 * k + 3 ≤ 21 := by omega
  have g4 : (0 : Int) ≤ 3 * m - 3 := by omega
  have g5 : 3 * m - 3 ≤ 3 * m := by omega
  have g6 : 3 * m ≤ (yt.length : Int) := by omega
  have g7 : 3 * m ≤ 36 := by omega
  have g8 : (3 : Int) ≤ 3 * m := by omega
  have g9 : ¬ 3 * m - 3 < 0 := by omega
  have g10 : (3 * m).toNat ≤ yt.length := by omega
  have g11 : (3 * m - 3).toNat ≤ (3 * m).toNat := by omega
  have p1 : IntKind.i64.wrap (3 * k) = 3 * k := IntWalk.i64_in _ (by omega)
  have p2 : IntKind.i64.wrap (3 * k + 3) = 3 * k + 3 := IntWalk.i64_in _ (by omega)
  have p3 : IntKind.i64.wrap (3 * m) = 3 * m := IntWalk.i64_in _ (by omega)
  have p4 : IntKind.i64.wrap (3 * m - 3) = 3 * m - 3 := IntWalk.i64_in _ (by omega)
  have p5 : IntKind.i64.wrap (y.tdiv 100) = y / 100 := IntWalk.i64_quo y 100 ⟨by omega, by omega, by omega⟩
  have p6 : y.tmod 100 = y % 100 := IntWalk.rem_in y 100 (by omega)
  clear hday hs hn1 hn2
  go_enter Tryz.func61, Tryz.ntmps61
  go_wp2_with fail
  refine (HD _).out.mono ?_
  rintro e w1 ⟨rfl, hb1⟩
  clear HD
  go_wp2_with fail
  obtain ⟨W0, hW0⟩ : ∃ W0, w1.alloc (.cells #[.int .i64 y, .int .i64 m, .int .i64 d, .int .i64 k] 123) = W0 := ⟨_, rfl⟩
  have HW0 : Hid (W0.heap[w1.heap.size]? = some (.cells #[.int .i64 y, .int .i64 m, .int .i64 d, .int .i64 k] 123 (0, 0))) := by simp only [Hid]; rw [← hW0]; exact blk_new rfl
  have HWB : Hid (Below w.heap.size w W0) := by simp only [Hid]; rw [← hW0]; exact bel_alloc hb1 _
  obtain ⟨db, hdb⟩ : ∃ db, w1.heap.size = db := ⟨_, rfl⟩
  rw [hdb] at HW0
  rw [hW0]
  try rw [hdb]
  clear hW0 hdb hb1
  have v0 : W0.cell? ⟨db, 0, none⟩ = some (.int .i64 y) := blk_cell (i := 0) HW0.out rfl
  have v1 : W0.cell? ⟨db, 1, none⟩ = some (.int .i64 m) := blk_cell (i := 1) HW0.out rfl
  have v2 : W0.cell? ⟨db, 2, none⟩ = some (.int .i64 d) := blk_cell (i := 2) HW0.out rfl
  have v3 : W0.cell? ⟨db, 3, none⟩ = some (.int .i64 k) := blk_cell (i := 3) HW0.out rfl
  have vz := blk_lt HW0.out
  clear HW0
  go_region_held3 (fun w' => w'.cell? ⟨db, 0, none⟩ = some (.int .i64 y) ∧ w'.cell? ⟨db, 1, none⟩ = some (.int .i64 m) ∧ w'.cell? ⟨db, 2, none⟩ = some (.int .i64 d) ∧ w'.cell? ⟨db, 3, none⟩ = some (.int .i64 k))
    (first | exact ⟨u0, u1, u2, u3⟩ | exact ⟨v0, v1, v2, v3⟩ | fail)
    (first
      | (go_at_call 105; refine (RW _).out.mono ?_; rintro e w2 ⟨rfl, rfl⟩)
      | (go_at_call 107; refine (RM _).out.mono ?_; rintro e w2 ⟨rfl, rfl⟩)
      | (go_at_call_of 106 (Value.int .i64 d); refine (R1 _).out.mono ?_; rintro e w3 ⟨rfl, hb3⟩; first | (replace u0 := cell_keep hb3 u0; replace u1 := cell_keep hb3 u1; replace u2 := cell_keep hb3 u2; replace u3 := cell_keep hb3 u3) | (have u0 := cell_keep hb3 v0; have u1 := cell_keep hb3 v1; have u2 := cell_keep hb3 v2; have u3 := cell_keep hb3 v3))
      | (go_at_call_has 106 (Value.int .i64 (y / 100)); refine (R2 _).out.mono ?_; rintro e w4 ⟨rfl, hb4⟩; first | (replace u0 := cell_keep hb4 u0; replace u1 := cell_keep hb4 u1; replace u2 := cell_keep hb4 u2; replace u3 := cell_keep hb4 u3) | (have u0 := cell_keep hb4 v0; have u1 := cell_keep hb4 v1; have u2 := cell_keep hb4 v2; have u3 := cell_keep hb4 v3))
      | (go_at_call_has 106 (Value.int .i64 (y % 100)); refine (R3 _).out.mono ?_; rintro e w5 ⟨rfl, hb5⟩; first | (replace u0 := cell_keep hb5 u0; replace u1 := cell_keep hb5 u1; replace u2 := cell_keep hb5 u2; replace u3 := cell_keep hb5 u3) | (have u0 := cell_keep hb5 v0; have u1 := cell_keep hb5 v1; have u2 := cell_keep hb5 v2; have u3 := cell_keep hb5 v3)))
  clear u0 u1 u2 u3 v0 v1 v2 v3 vz
  go_wp2_with (first
    | (go_at_call_has 106 (Value.int .i64 (s / 3600)); refine (R4 _).out.mono ?_; rintro e w6 ⟨rfl, hb6⟩)
    | (go_at_call_has 106 (Value.int .i64 (s / 60 % 60)); refine (R5 _).out.mono ?_; rintro e w7 ⟨rfl, hb7⟩)
    | (go_at_call_has 106 (Value.int .i64 (s % 60)); refine (R6 _).out.mono ?_; rintro e w8 ⟨rfl, hb8⟩))
  refine bodyPost_ret (by simp [results, Tryz.results61, go_sem]; try rfl) rfl ?_
  refine ⟨by rw [HT.out], ?_⟩
  refine bel_chain hb8 (bel_chain hb7 (bel_chain hb6 ?_))
  first
    | exact bel_chain hb3 (bel_chain hb4 (bel_chain hb5 (by first | exact HWB.out | exact bel_drew HWB.out | exact bel_drewN HWB.out _)))
    | exact bel_chain hb3 (bel_chain hb5 (bel_chain hb4 (by first | exact HWB.out | exact bel_drew HWB.out | exact bel_drewN HWB.out _)))
    | exact bel_chain hb4 (bel_chain hb3 (bel_chain hb5 (by first | exact HWB.out | exact bel_drew HWB.out | exact bel_drewN HWB.out _)))
    | exact bel_chain hb4 (bel_chain hb5 (bel_chain hb3 (by first | exact HWB.out | exact bel_drew HWB.out | exact bel_drewN HWB.out _)))
    | exact bel_chain hb5 (bel_chain hb3 (bel_chain hb4 (by first | exact HWB.out | exact bel_drew HWB.out | exact bel_drewN HWB.out _)))
    | exact bel_chain hb5 (bel_chain hb4 (bel_chain hb3 (by first | exact HWB.out | exact bel_drew HWB.out | exact bel_drewN HWB.out _)))
end Go.Proofs.YtaaefgieklkekaaGreatDoor
namespace Go.Proofs.YtaaefgieklkekaaGreatDoor
open Go.RowKit

theorem keyOk_len2 {x : List UInt8} (h : keyOk x = true) : x.length ≤ 200 := by
  unfold keyOk at h
  simp only [Bool.and_eq_true, decide_eq_true_eq] at h
  exact h.1.2
set_option maxHeartbeats 8000000 in
set_option maxRecDepth 100000 in
theorem rkeys_yes (A : Option Addr) (c : Nat) (L : List (List UInt8)) (w : World) (hks : SpG encT 1 w A c L) (hp : KeysP L) :
    Calls Tryz.prog 58 #[.slice A L.length c] w fun e w' => e = .returned (.bool true) ∧ Below w.heap.size w w' := by
  have HK := Lib.hid hks
  obtain ⟨hl, hky, hnd⟩ := hp
  have h1' : ¬ (32 : Int) < (L.length : Int) := by omega
  have HKY := Lib.hid hky
  have HND := Lib.hid hnd
  clear hks hky hnd hl
  go_enter Tryz.func58, Tryz.ntmps58
  go_wp2_with fail
  go_loopw [3, 4] (fun i _ wr => ∃ k : Nat, k ≤ L.length ∧ i = .int .i64 (k : Int) ∧ Below w.heap.size w wr) (fun i _ _ => L.length - (intOf i).toNat)
  case atStart => exact ⟨0, Nat.zero_le _, rfl, Below.refl _ _⟩
  case round =>
    obtain ⟨k, hk, rfl, hbw⟩ := hrel
    have HB := Lib.hid hbw
    clear hbw
    by_cases hlt : k < L.length
    · obtain ⟨b, off, e, hb, hc⟩ := (HK.out.below HB.out).at' k hlt
      have c0 := hc 0 _ rfl
      have hko := HKY.out _ (List.getElem_mem hlt)
      have hxl := keyOk_len2 hko
      have HKC := fun W => Lib.hid (rkey_any L[k] W (by omega))
      rw [hko] at HKC
      obtain ⟨x, hx⟩ : ∃ x, L[k] = x := ⟨_, rfl⟩
      have HXE := Lib.hid hx
      rw [hx] at c0 HKC
      simp only [Nat.mul_one, Nat.add_zero] at c0
      clear hc hxl hko hx
      subst e
      go_wp2_with (go_at_call 103; refine (HKC _).out.mono ?_; rintro e w1 ⟨rfl, hw1⟩; obtain rfl : wr = w1 := hw1.symm)
      go_loopw [4] (fun j wq => ∃ q : Nat, q ≤ k ∧ j = .int .i64 (q : Int) ∧ Below w.heap.size w wq) (fun j _ => k - (intOf j).toNat)
      case atStart => exact ⟨0, Nat.zero_le _, rfl, HB.out⟩
      case round =>
        obtain ⟨q, hq, rfl, hbq⟩ := hrel
        have HBQ := Lib.hid hbq
        clear hbq
        by_cases hlq : q < k
        · obtain ⟨b', off', e', hb', hd⟩ := (HK.out.below HBQ.out).at' q (by omega)
          injection e' with e'; injection e' with e1 e2; subst e1 e2
          have d0 := hd 0 _ rfl
          obtain ⟨b', off', e', _, hd2⟩ := (HK.out.below HBQ.out).at' k hlt
          injection e' with e'; injection e' with e1 e2; subst e1 e2
          have d1 := hd2 0 _ rfl
          have hlql : q < L.length := by omega
          have hxy : ¬ L[q] = L[k] := List.pairwise_iff_getElem.1 HND.out q k hlql hlt hlq
          rw [HXE.out] at d1 hxy
          obtain ⟨y, hy⟩ : ∃ y, L[q] = y := ⟨_, rfl⟩
          rw [hy] at d0 hxy
          simp only [Nat.mul_one, Nat.add_zero] at d0 d1
          clear hd hd2 hy c0
          have hb2 : (y == x) = false := beq_eq_false_iff_ne.2 hxy
          clear hxy
          go_wp2_with fail
          go_quiet (fail)
          go_wp2_with fail
          go_roundw
          case rel => exact ⟨q + 1, by omega, by go_num, bel_drewN HBQ.out _⟩
          case measure => simp [intOf]; omega
        · go_wp2_with fail
          go_roundw
          case rel => exact ⟨k + 1, by omega, by go_num, HBQ.out⟩
          case measure => simp [intOf]; omega
    · go_wp2_with fail
      go_ret
      exact ⟨rfl, HB.out⟩
set_option maxHeartbeats 16000000 in
set_option maxRecDepth 100000 in
theorem rright14_yes (m : MetaL) (A : Option Addr) (c : Nat) (w : World) (hks : SpG encT 1 w A c m.keys) (hok : MetaOk m) :
    Calls Tryz.prog 31 #[metaV m A c] w fun e w' => e = .returned (.bool true) ∧ Below w.heap.size w w' := by
  have HK0 := Lib.hid hks
  obtain ⟨htg, hmo, hln, hhv, heq, hfr, hwh, her, hkn, hka, hkd, htn⟩ := hok
  clear hks
  obtain ⟨tg, wk, mo, ln, hv, fr, wh, er, ks, tn, kp⟩ := m
  unfold metaV
  simp only at HK0 htg hmo hln hhv heq hfr hwh her hkn hka hkd htn ⊢
  have hsz : (⟨tg.toArray⟩ : ByteArray).size = tg.length := ba_size tg
  have hl1 : tg.length ≤ 100 := by
    rcases htg with ⟨h, _⟩ | h
    · rw [h]; simp
    · unfold tagOk at h; simp only [Bool.and_eq_true, decide_eq_true_eq] at h; exact h.1.2
  have hch : Hid (∀ x ∈ tg, x.toNat ≤ 126) := by
    intro x hx
    rcases htg with ⟨h, _⟩ | h
    · rw [h] at hx; simp at hx
    · unfold tagOk at h
      simp only [Bool.and_eq_true, List.all_eq_true, decide_eq_true_eq] at h
      exact (h.2 x hx).1.2
  have hl2 : tn.length ≤ 40 := by
    unfold tenOk at htn; simp only [Bool.and_eq_true, decide_eq_true_eq] at htn; exact htn.1.1
  have HN := fun W => Lib.hid (rnone_any tg wk W)
  have HTR := fun W => Lib.hid (rtagRight_any tg wk W (by omega))
  have HTN := fun W => Lib.hid (rtenant_any tn W (by omega))
  rw [htn] at HTN
  have HKY := fun W h => Lib.hid (rkeys_yes A c ks W h ⟨hkn, hka, hkd⟩)
  have HZ : Hid ((tg.isEmpty && !wk) = false → tagOk tg = true) := by
    intro h
    rcases htg with ⟨h1, h2⟩ | h1
    · rw [h1, h2] at h; cases h
    · exact h1
  obtain ⟨z, hz⟩ : ∃ z, (tg.isEmpty && !wk) = z := ⟨_, rfl⟩
  rw [hz] at HN HZ
  clear hz htg hkn hka hkd htn hl2
  go_enter Tryz.func31, Tryz.ntmps31
  go_upto_region 1 with fail
  obtain ⟨W0, hW0⟩ : ∃ W0, w.alloc (.cells #[.string ⟨tg.toArray⟩, .bool wk, .int .i64 mo, .int .i64 ln, .int .i64 hv, .int .i64 fr, .int .i64 wh, .int .i64 er, .slice A ks.length c, .string ⟨tn.toArray⟩, .bool kp] 32) = W0 := ⟨_, rfl⟩
  have HM0 : Hid (W0.heap[w.heap.size]? = some (.cells #[.string ⟨tg.toArray⟩, .bool wk, .int .i64 mo, .int .i64 ln, .int .i64 hv, .int .i64 fr, .int .i64 wh, .int .i64 er, .slice A ks.length c, .string ⟨tn.toArray⟩, .bool kp] 32 (0, 0))) := by simp only [Hid]; rw [← hW0]; exact blk_new rfl
  have HB0 : Hid (Below w.heap.size w W0) := by simp only [Hid]; rw [← hW0]; (repeat (first | exact Below.refl _ _ | refine bel_drewN ?_ _ | refine bel_drew ?_ | refine bel_alloc ?_ _ | refine bel_set ?_ (by simp) _))
  rw [hW0]
  clear hW0
  have v0 := blk_cell (i := 0) HM0.out rfl
  have v1 := blk_cell (i := 1) HM0.out rfl
  go_cut [13] (fun s13 wx => s13 = .bool false ∧ wx.heap[w.heap.size]? = some (.cells #[.string ⟨tg.toArray⟩, .bool wk, .int .i64 mo, .int .i64 ln, .int .i64 hv, .int .i64 fr, .int .i64 wh, .int .i64 er, .slice A ks.length c, .string ⟨tn.toArray⟩, .bool kp] 32 (0, 0)) ∧ Below w.heap.size w wx)
  case first =>
    cases z with
    | true =>
      go_wp2_with (go_at_call 56; refine (HN _).out.mono ?_; rintro e w1 ⟨rfl, hb1⟩)
      go_meet
      exact ⟨rfl, blk_keep hb1 HM0.out, bel_chain hb1 HB0.out⟩
    | false =>
      have HT1 := HZ.out rfl
      rw [HT1] at HTR
      go_wp2_with (first
        | (go_at_call 57; refine (HTR _).out.mono ?_; rintro e w2 ⟨rfl, hb2⟩)
        | (go_at_call 56; refine (HN _).out.mono ?_; rintro e w1 ⟨rfl, hb1⟩
           have HM1 := Lib.hid (blk_keep hb1 HM0.out)
           have u0 := blk_cell (i := 0) HM1.out rfl
           have u1 := blk_cell (i := 1) HM1.out rfl))
      go_meet
      exact ⟨rfl, blk_keep hb2 HM1.out, bel_chain hb2 (bel_chain hb1 HB0.out)⟩
  case rest =>
  obtain ⟨rfl, hm, hb⟩ := hcut
  have HM := Lib.hid hm
  have HB := Lib.hid hb
  have HK := Lib.hid (HK0.out.below hb)
  clear hm hb v0 v1 HM0 HB0 HN HTR HK0 HZ
  go_wp2_with fail
  go_loopw [3] (fun i wr => wr = wc ∧ ∃ k : Nat, k ≤ tg.length ∧ i = .int .i64 (k : Int)) (fun i _ => tg.length - (intOf i).toNat)
  case atStart => exact ⟨rfl, 0, Nat.zero_le _, rfl⟩
  case round =>
    obtain ⟨rfl, k, hk, rfl⟩ := hrel
    have v0 := blk_cell (i := 0) HM.out rfl
    have v1 := blk_cell (i := 1) HM.out rfl
    have v2 := blk_cell (i := 2) HM.out rfl
    have v3 := blk_cell (i := 3) HM.out rfl
    have v4 := blk_cell (i := 4) HM.out rfl
    have v5 := blk_cell (i := 5) HM.out rfl
    have v6 := blk_cell (i := 6) HM.out rfl
    have v7 := blk_cell (i := 7) HM.out rfl
    have v8 := blk_cell (i := 8) HM.out rfl
    have v9 := blk_cell (i := 9) HM.out rfl
    have vz := blk_lt HM.out
    by_cases hlt : k < tg.length
    · have hcl := hch.out tg[k] (List.getElem_mem hlt)
      obtain ⟨cc, hcc⟩ : ∃ cc, (⟨tg.toArray⟩ : ByteArray)[k]'(by rw [hsz]; exact hlt) = cc := ⟨_, rfl⟩
      have hce : tg[k] = cc := by rw [← hcc]; rfl
      rw [hce] at hcl
      have d1' : ¬ (126 : Int) < (cc.toNat : Int) := by omega
      clear hcl hce
      go_wp2_with fail
      go_roundw
      case rel => exact ⟨by first | trivial | rfl, k + 1, by omega, by go_num⟩
      case measure => simp [intOf]; omega
    · have e0 : ¬ mo < -1 := by omega
      have e1 : ¬ (253402300799 : Int) < mo := by omega
      have e2 : ¬ ln < -1 := by omega
      have e3 : ¬ (1099511627776 : Int) < ln := by omega
      have e4 : ¬ hv < 0 := by omega
      have e5 : ¬ (1099511627776 : Int) < hv := by omega
      have e6 : ¬ fr < 0 := by omega
      have e7 : ¬ (1099511627776 : Int) < fr := by omega
      have e8 : ¬ wh < 0 := by omega
      have e9 : ¬ (1099511627776 : Int) < wh := by omega
      have e10 : ¬ er < 0 := by omega
      have e11 : ¬ (1099511627776 : Int) < er := by omega
      have hcase : (¬ (0 : Int) ≤ ln) ∨ ((0 : Int) ≤ ln ∧ hv = ln) := by omega
      clear hmo hln hhv heq hfr hwh her
      rcases hcase with h7 | ⟨h7, h8⟩
      all_goals
        first
          | (have b8 : (hv != ln) = false := by rw [bne_eq_false_iff_eq]; exact h8)
          | skip
        try clear h8
        go_wp2_with fail
        refine (HKY _ HK.out).out.mono ?_
        rintro e w1 ⟨rfl, hb1⟩
        have HM1 := Lib.hid (blk_keep hb1 HM.out)
        have u9 := blk_cell (i := 9) HM1.out rfl
        have HB1 := Lib.hid (bel_chain hb1 HB.out)
        clear hb1
        go_wp2_with fail
        refine (HTN _).out.mono ?_
        rintro e w2 ⟨rfl, hw2⟩
        obtain rfl : w1 = w2 := hw2.symm
        go_wp2_with fail
        go_ret
        exact ⟨rfl, HB1.out⟩
end Go.Proofs.YtaaefgieklkekaaGreatDoor
