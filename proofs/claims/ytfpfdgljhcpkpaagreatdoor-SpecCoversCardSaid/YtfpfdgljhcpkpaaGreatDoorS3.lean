/- Contracts of the two functions that tell the spans of ranges, and of those that tell whether they are costly. -/
import Derived.Test.YtfpfdgljhcpkpaaGreatDoorS2
namespace Go.Proofs.YtfpfdgljhcpkpaaGreatDoor
open Go.RowKit

/-- It hands back spans, and whether there is one. -/
def RetRes (R : List (Int × Int)) (w : World) (e : Ending) (w' : World) : Prop := ∃ A c, e = .returned (.tuple #[.slice A R.length c, .bool (decide (0 < R.length))]) ∧ Own w' w.heap.size A c R ∧ Below w.heap.size w w'
theorem sbytes_as (f t n s1 s2 : Int) (b : Bool) (w : World) (hr : rightR (f, t) = true) (h0 : 0 ≤ n) (h1 : n ≤ 4611686018427387904) (hs : spanOf n (f, t) = (s1, s2)) (hb : hasS (s1, s2) = b) :
    Calls Tryz.prog 46 #[.agg #[.int .i64 f, .int .i64 t], .int .i64 n] w fun e w' => e = .returned (.tuple #[.agg #[.int .i64 s1, .int .i64 s2], .bool b]) ∧ Below w.heap.size w w' := by
  have h := sbytes_any f t n w hr h0 h1
  unfold BytesPost at h
  rw [hs, hb] at h
  exact h
theorem allR_at {L : List (Int × Int)} (h : allR L = true) {k : Nat} (hk : k < L.length) : rightR L[k] = true := List.all_eq_true.1 h _ (List.getElem_mem hk)
set_option maxHeartbeats 2000000 in
set_option maxRecDepth 100000 in
theorem sresolve_any (A : Option Addr) (c : Nat) (L : List (Int × Int)) (n : Int) (w : World) (h : Sp w A c L) (hl : L.length ≤ 100000) (hR : allR L = true) (h0 : 0 ≤ n) (h1 : n ≤ 4611686018427387904) :
    Calls Tryz.prog 19 #[.slice A L.length c, .int .i64 n] w (RetRes (resL n L) w) := by
  have hH := Lib.hid h
  have HR := Lib.hid hR
  clear h hR
  go_enter Tryz.func19, Tryz.ntmps19
  go_wp2
  go_loopw [6, 8, 9, 10, 13] (fun v _ _ _ i wr => ∃ (k : Nat) (A' : Option Addr) (c' : Nat), k ≤ L.length ∧ i = .int .i64 k ∧ v = .slice A' (resL n (L.take k)).length c' ∧ Own wr w.heap.size A' c' (resL n (L.take k)) ∧ Below w.heap.size w wr) (fun _ _ _ _ i _ => L.length - (intOf i).toNat)
  case atStart => exact ⟨0, none, 0, Nat.zero_le _, rfl, rfl, Own.nil _ _, Below.refl _ _⟩
  case round =>
    obtain ⟨k, A', c', hk, rfl, rfl, hown, hbw⟩ := hrel
    have HO := Lib.hid hown
    have HB := Lib.hid hbw
    clear hown hbw
    by_cases hlt : k < L.length
    · obtain ⟨b, off, e, hb, c1, c2⟩ := (hH.out.below HB.out).at_ hlt
      have hgl := resL_length n (L.take k)
      have hgl2 : (resL n (L.take k)).length ≤ 100000 := by simp at hgl; omega
      have HG := Lib.hid (resL_step (n := n) hlt)
      have hra := allR_at HR.out hlt
      obtain ⟨⟨x1, x2⟩, hx⟩ : ∃ x, L[k] = x := ⟨_, rfl⟩
      rw [hx] at c1 c2 HG hra
      clear hx hgl
      have HC := fun s1 s2 b W hs hb => Lib.hid (sbytes_as x1 x2 n s1 s2 b W hra h0 h1 hs hb)
      obtain ⟨G, hG⟩ : ∃ G, resL n (L.take k) = G := ⟨_, rfl⟩
      have hO := HO.out
      rw [hG] at hO hgl2 HG ⊢
      have HO' := Lib.hid hO
      clear hG hO HO hra
      obtain ⟨⟨s1, s2⟩, hs⟩ : ∃ s, spanOf n (x1, x2) = s := ⟨_, rfl⟩
      have HC2 := fun b W hb => HC s1 s2 b W hs hb
      rw [hs] at HG
      clear hs HC
      rw [e]
      cases hok : hasS (s1, s2)
      · have HC := fun W => HC2 false W hok
        clear HC2
        have HN : Hid (resL n (L.take (k + 1)) = G) := by simp only [Hid]; rw [HG.out, hok]; simp
        clear hok
        go_wp2_with fail
        refine (HC _).out.mono ?_
        rintro e1 w3 ⟨rfl, hb3⟩
        have HB3 : Hid (Below w.heap.size w w3) := bel_chain hb3 (bel_alloc HB.out _)
        have HO3 : Hid (Own w3 w.heap.size A' c' G) := (HO'.out.alloc _).below hb3
        clear HC hb3
        go_wp2_with fail
        go_roundw
        case rel => exact ⟨k + 1, A', c', by omega, by go_num, by rw [HN.out], by rw [HN.out]; exact HO3.out.alloc _, bel_alloc HB3.out _⟩
        case measure => simp [intOf]; omega
      · have HC := fun W => HC2 true W hok
        clear HC2
        have HN : Hid (resL n (L.take (k + 1)) = G ++ [(s1, s2)]) := by simp only [Hid]; rw [HG.out, hok]; simp
        clear hok
        go_wp2_with fail
        refine (HC _).out.mono ?_
        rintro e1 w3 ⟨rfl, hb3⟩
        have HB3 : Hid (Below w.heap.size w w3) := bel_chain hb3 (bel_alloc HB.out _)
        have HO3 : Hid (Own w3 w.heap.size A' c' G) := (HO'.out.alloc _).below hb3
        clear HC hb3
        go_wp2_with (at_builtin; refine wpl_append (w0 := w) rfl (.tmp 24) (.tmp 26) rfl A' c' G rfl (by exact (HO3.out.alloc _).alloc _) _ s1 s2 rfl (by first | exact cell_new0 _ _ _ _ | simp [go_sem]) (by first | exact cell_new1 _ _ _ _ | simp [go_sem]) (by omega) (by exact bel_alloc (bel_alloc HB3.out _) _) ?_; intro A2 c2' w2 hown2 hbw2 _)
        go_roundw
        case rel => exact ⟨k + 1, A2, c2', by omega, by go_num, by rw [HN.out]; simp, by rw [HN.out]; exact hown2, hbw2⟩
        case measure => simp [intOf]; omega
    · have hO := HO.out
      have hgl := resL_length n L
      rw [take_all hlt] at hO ⊢
      have HO' := Lib.hid hO
      clear hO HO
      generalize resL n L = G at *
      go_wp2
      go_ret2
      exact ⟨A', c', by first | rfl | simp, HO'.out, HB.out⟩
theorem span_neg (n t : Int) : spanOf n (-1, t) = (max (n - t) 0, n) := by simp only [spanOf]; rw [if_pos (by decide)]
theorem span_to {n f t : Int} (hf : 0 ≤ f) (ht : 0 ≤ t) : spanOf n (f, t) = (f, min (t + 1) n) := by simp only [spanOf]; rw [if_neg (by omega), if_pos ht]
theorem span_all {n f t : Int} (hf : 0 ≤ f) (ht : t < 0) : spanOf n (f, t) = (f, n) := by simp only [spanOf]; rw [if_neg (by omega), if_neg (by omega)]
end Go.Proofs.YtfpfdgljhcpkpaaGreatDoor
