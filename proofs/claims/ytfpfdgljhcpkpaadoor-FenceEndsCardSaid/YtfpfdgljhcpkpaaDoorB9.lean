/- Contract of ranges.Of. -/
import Derived.Test.YtfpfdgljhcpkpaaDoorB8
namespace Go.Proofs.YtfpfdgljhcpkpaaDoor
open Go.RowKit

theorem goodS_split (f t : Int) : goodS (f, t) = (okS (f, t) && decide (f < t)) := rfl

set_option maxHeartbeats 2000000 in
set_option maxRecDepth 100000 in
theorem of_any (A : Option Addr) (c : Nat) (L : List (Int × Int)) (w : World) (h : Sp w A c L) (hl : L.length ≤ 100000) :
    Calls Tryd.prog 49 #[.slice A L.length c] w (RetSet (cano L) w) := by
  have hH := Lib.hid h
  clear h
  go_enter Tryd.func49, Tryd.ntmps49
  go_wp2
  go_loopw [3, 5, 8] (fun v _ i wr => ∃ (k : Nat) (A' : Option Addr) (c' : Nat), k ≤ L.length ∧ i = .int .i64 k ∧ v = .slice A' (goodL (L.take k)).length c' ∧ Own wr (w.alloc (.cells #[.slice none 0 0] 29)).heap.size A' c' (goodL (L.take k)) ∧ Below (w.alloc (.cells #[.slice none 0 0] 29)).heap.size (w.alloc (.cells #[.slice none 0 0] 29)) wr) (fun _ _ i _ => L.length - (intOf i).toNat)
  case atStart => exact ⟨0, none, 0, Nat.zero_le _, rfl, rfl, Own.nil _ _, Below.refl _ _⟩
  case round =>
    obtain ⟨k, A', c', hk, rfl, rfl, hown, hbw⟩ := hrel
    have HO := Lib.hid hown
    have HB := Lib.hid hbw
    clear hown hbw
    by_cases hlt : k < L.length
    · obtain ⟨b, off, e, hb, c1, c2⟩ := ((hH.out.alloc _).below HB.out).at_ hlt
      have hgl := goodL_length (L.take k)
      have hgl2 : (goodL (L.take k)).length ≤ 100000 := by simp at hgl; omega
      have HG := Lib.hid (goodL_step hlt)
      obtain ⟨⟨x1, x2⟩, hx⟩ : ∃ x, L[k] = x := ⟨_, rfl⟩
      rw [hx] at c1 c2 HG
      clear hx hgl
      obtain ⟨G, hG⟩ : ∃ G, goodL (L.take k) = G := ⟨_, rfl⟩
      have hO := HO.out
      rw [hG] at hO hgl2 HG ⊢
      have HO' := Lib.hid hO
      clear hG hO HO
      rw [e]
      have hR := fun W => Lib.hid (right_any x1 x2 W)
      cases hok : okS (x1, x2)
      · rw [hok] at hR
        have HN : Hid (goodL (L.take (k + 1)) = G) := by
          simp only [Hid]; rw [HG.out, goodS_split, hok]; simp
        clear hok
        go_wp2_with fail
        refine (hR _).out.mono ?_
        rintro e1 w3 ⟨rfl, rfl⟩
        clear hR
        go_wp2_with fail
        go_roundw
        case rel => exact ⟨k + 1, A', c', by omega, by go_num, by rw [HN.out], by rw [HN.out]; exact (HO'.out.alloc _).alloc _, by exact bel_alloc (bel_alloc HB.out _) _⟩
        case measure => simp [intOf]; omega
      · rw [hok] at hR
        by_cases hft : x1 < x2
        · have HN : Hid (goodL (L.take (k + 1)) = G ++ [(x1, x2)]) := by
            simp only [Hid]; rw [HG.out, goodS_split, hok]; simp [hft]
          clear hok
          go_wp2_with fail
          refine (hR _).out.mono ?_
          rintro e1 w3 ⟨rfl, rfl⟩
          clear hR
          go_wp2_with (at_builtin; refine wpl_append (w0 := w.alloc (.cells #[.slice none 0 0] 29)) rfl (.tmp 21) (.tmp 23) rfl A' c' G rfl (by exact ((HO'.out.alloc _).alloc _).alloc _) _ x1 x2 rfl (by simp [go_sem]) (by simp [go_sem]) (by omega) (by exact bel_alloc (bel_alloc (bel_alloc HB.out _) _) _) ?_; intro A2 c2' w2 hown2 hbw2 _)
          go_roundw
          case rel => exact ⟨k + 1, A2, c2', by omega, by go_num, by rw [HN.out]; simp, by rw [HN.out]; exact hown2, hbw2⟩
          case measure => simp [intOf]; omega
        · have HN : Hid (goodL (L.take (k + 1)) = G) := by
            simp only [Hid]; rw [HG.out, goodS_split, hok]; simp [hft]
          clear hok
          go_wp2_with fail
          refine (hR _).out.mono ?_
          rintro e1 w3 ⟨rfl, rfl⟩
          clear hR
          go_wp2_with fail
          go_roundw
          case rel => exact ⟨k + 1, A', c', by omega, by go_num, by rw [HN.out], by rw [HN.out]; exact (HO'.out.alloc _).alloc _, by exact bel_alloc (bel_alloc HB.out _) _⟩
          case measure => simp [intOf]; omega
    · have hO := HO.out
      have hgl := goodL_length L
      rw [take_all hlt] at hO ⊢
      have HS := Lib.hid (sort_any hO HB.out (by omega))
      clear hO HO
      go_wp2_with fail
      refine HS.out.mono ?_
      rintro e1 w2 ⟨rfl, M, hp, hr, hsp, hb2⟩
      have HGC := Lib.hid (gather_cano hp hr)
      have hlm : M.length = (goodL L).length := hp.length_eq
      have HGA := Lib.hid (gather_any A' c' M w2 hsp (by omega))
      rw [hlm] at HGA
      have HB2 := Lib.hid hb2
      clear hp hr hsp HS hlm hb2
      go_wp2_with fail
      refine HGA.out.mono ?_
      rintro e2 w3 ⟨A3, c3, rfl, hown3, hb3⟩
      rw [HGC.out] at hown3 ⊢
      have HO3 := Lib.hid hown3
      have hb4 := bel_chain hb3 HB2.out
      have q1 : w3.cell? ⟨w.heap.size, 0, none⟩ = some (.slice none 0 0) := cell_keep hb4 (by simp [go_sem])
      have q2 : w3.frozen? ⟨w.heap.size, 0, none⟩ = false := (hb4.frozen (p := ⟨w.heap.size, 0, none⟩) (by simp)).trans (by simp [go_sem])
      have HB4 := Lib.hid hb4
      clear hown3 hb3 hb4 HGA HGC
      go_wp2_with fail
      refine bodyPost_ret (by simp [results, Tryd.results49, go_sem, q1]; try rfl) rfl ?_
      refine ⟨A3, c3, rfl, ?_, ?_⟩
      · have hsz := HB2.out.size
        simp at hsz
        exact Own.sp (ownsRow_setCell_below HO3.out (by show w.heap.size < w2.heap.size; omega) _)
      · exact bel_set (bel_chain HB4.out (bel_alloc (Below.refl _ _) _)) (Nat.le_refl _) _
end Go.Proofs.YtfpfdgljhcpkpaaDoor
