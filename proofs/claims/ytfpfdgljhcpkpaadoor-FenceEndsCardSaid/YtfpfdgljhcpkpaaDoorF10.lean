/- Contract of the fence laws' first: the first bytes of a set. -/
import Derived.Test.YtfpfdgljhcpkpaaDoorF6
import Derived.Test.YtfpfdgljhcpkpaaDoorG5P
namespace Go.Proofs.YtfpfdgljhcpkpaaDoor
open Go.RowKit

theorem firstN_cano {R r : List (Int × Int)} {x1 x2 n : Int} (e : R = (x1, x2) :: r) (hc : Canon R) (hn : 1 ≤ n) : cano [(x1, min x2 (x1 + n))] = firstN R n := by
  rw [firstN_cons n e]
  have h := firstN_canon hc hn
  rw [firstN_cons n e] at h
  exact cano_self h

set_option maxHeartbeats 2000000 in
set_option maxRecDepth 100000 in
theorem first37_any (A : Option Addr) (c : Nat) (L : List (Int × Int)) (n : Int) (w : World) (h : Sp w A c L) (hc : Canon L) (hl : L.length ≤ 100000) (hn : 1 ≤ n) (hn5 : n ≤ 1000) :
    Calls Tryd.prog 16 #[.agg #[.slice A L.length c], .int .i64 n] w (RetSet (firstN L n) w) := by
  have HS := Lib.hid h
  clear h
  rcases nil_or L with hL | ⟨x1, x2, r, hL⟩
  · have HL := Lib.hid hL
    have e : firstN L n = [] := by rw [hL]; rfl
    rw [e]
    clear e hL hc
    go_enter Tryd.func16, Tryd.ntmps16
    go_wp2_with fail
    refine (first_as0 A c L HL.out _ (by repeat (first | exact HS.out | refine Sp.alloc ?_ _))).mono ?_
    rintro e1 w1 ⟨rfl, hb1⟩
    have q1 : w1.cell? ⟨w.heap.size + 1, 0, none⟩ = some (.slice none 0 0) := cell_keep hb1 (by simp [go_sem])
    have q2 : w1.frozen? ⟨w.heap.size + 1, 0, none⟩ = false := (hb1.frozen (p := ⟨w.heap.size + 1, 0, none⟩) (by simp)).trans (by simp [go_sem])
    have q3 : w.heap.size + 1 < w1.heap.size := World.block_lt_of_cell? w1 ⟨w.heap.size + 1, 0, none⟩ q1
    have HB : Hid (Below w.heap.size w w1) := bel_chain hb1 (by (repeat (first | exact Below.refl _ _ | refine bel_drewN ?_ _ | refine bel_drew ?_ | refine bel_alloc ?_ _ | refine bel_set ?_ (by simp) _)))
    clear hb1
    have r1 : (w1.setCell ⟨w.heap.size + 1, 0, none⟩ (.slice none 0 0)).cell? ⟨w.heap.size + 1, 0, none⟩ = some (.slice none 0 0) := World.cell?_setCell_same' _ _ _ (by rw [q1]; rfl)
    have r2 : ((w1.setCell ⟨w.heap.size + 1, 0, none⟩ (.slice none 0 0)).alloc (.cells #[.int .i64 0, .int .i64 0] 48)).cell? ⟨w.heap.size + 1, 0, none⟩ = some (.slice none 0 0) := cell_keep (bel_alloc (Below.refl _ _) _) r1
    clear r1
    go_wp2_with fail
    refine bodyPost_ret (by simp [results, Tryd.results16, go_sem, r2]; try rfl) rfl ?_
    refine ⟨none, 0, rfl, Sp.nil _, ?_⟩
    repeat (first | (with_reducible exact HB.out) | (with_reducible refine bel_alloc ?_ _) | (with_reducible refine bel_set ?_ (by first | omega | (dsimp only; omega)) _))
  · have HL := Lib.hid hL
    have HC := Lib.hid hc
    have HF := Lib.hid (firstN_cano hL hc hn)
    have hh := in_head hL hc
    have hx12 := hc.head_lt hL
    have hx2 : x2 ≤ 4611686018427387904 := by rw [hL] at hc; exact hc.head.2.2
    obtain ⟨_, hx0, hx1⟩ := hh
    clear hL hc
    go_enter Tryd.func16, Tryd.ntmps16
    go_wp2_with fail
    refine (first_as1 A c L x1 x2 r HL.out _ (by repeat (first | exact HS.out | refine Sp.alloc ?_ _)) HC.out (by omega)).mono ?_
    rintro e1 w1 ⟨rfl, hb1⟩
    have q1 : w1.cell? ⟨w.heap.size + 1, 0, none⟩ = some (.slice none 0 0) := cell_keep hb1 (by simp [go_sem])
    have q2 : w1.frozen? ⟨w.heap.size + 1, 0, none⟩ = false := (hb1.frozen (p := ⟨w.heap.size + 1, 0, none⟩) (by simp)).trans (by simp [go_sem])
    have q3 : w.heap.size + 1 < w1.heap.size := World.block_lt_of_cell? w1 ⟨w.heap.size + 1, 0, none⟩ q1
    have B1 : Hid (w1.heap[w.heap.size + 1]? = some (.cells #[.slice none 0 0] 29 (0, 0))) := blk_keep hb1 (blk_new (by simp))
    have HB : Hid (Below w.heap.size w w1) := bel_chain hb1 (by (repeat (first | exact Below.refl _ _ | refine bel_drewN ?_ _ | refine bel_drew ?_ | refine bel_alloc ?_ _ | refine bel_set ?_ (by simp) _)))
    clear hb1
    have HO := fun g W hs => Lib.hid (of_any (some ⟨g, 0, none⟩) 1 [(x1, min x2 (x1 + n))] W hs (by simp))
    rw [HF.out] at HO
    go_wp2_with fail
    refine (HO _ _ (by exact Sp.built' [(x1, min x2 (x1 + n))] _ (by simp))).out.mono ?_
    rintro e2 w2 ⟨A2, c2, rfl, hs2, hb2⟩
    have Q2 : Hid (Below w1.heap.size w1 w2) := bel_chain hb2 (by (repeat (first | exact Below.refl _ _ | refine bel_drewN ?_ _ | refine bel_drew ?_ | refine bel_alloc ?_ _ | refine bel_set ?_ (by simp) _)))
    have S2 := Lib.hid hs2
    clear hs2 hb2 HO
    have r1 := cell_keep Q2.out q1
    have r3 := Nat.lt_of_lt_of_le q3 Q2.out.size
    have B2 := Lib.hid (blk_keep Q2.out B1.out)
    have r2 : w2.frozen? ⟨w.heap.size + 1, 0, none⟩ = false := blk_frozen B2.out
    clear q1 q2 q3 B1
    go_wp2_with fail
    refine bodyPost_ret (by simp [results, Tryd.results16, go_sem, r1]; try rfl) rfl ?_
    exact ⟨A2, c2, rfl, S2.out.setOff (fun h0 => S2.out.off_blk h0 B2.out (noPair1 _)) _, bel_set (bel_chain Q2.out HB.out) (by first | omega | (dsimp only; omega)) _⟩
end Go.Proofs.YtfpfdgljhcpkpaaDoor
