/- Contracts of the reference's ends and of. -/
import Derived.Test.YtfpfdgljhcpkpaaDoorB5
namespace Go.Proofs.YtfpfdgljhcpkpaaDoor
open Go.RowKit

theorem estep_yes {out : List Int} {x : Int × Int} (h : okS x = true) : estep out x = insertL (insertL out x.1) x.2 := by simp [estep, h]
theorem estep_no {out : List Int} {x : Int × Int} (h : okS x = false) : estep out x = out := by simp [estep, h]

set_option maxHeartbeats 2000000 in
set_option maxRecDepth 100000 in
theorem ends_any (A : Option Addr) (c : Nat) (L : List (Int × Int)) (B : Option Addr) (d : Nat) (M : List (Int × Int)) (w : World) (h : Sp w A c L) (h' : Sp w B d M) (hl : L.length ≤ 100000) (hl' : M.length ≤ 100000) :
    Calls Tryd.prog 94 #[.slice A L.length c, .slice B M.length d] w (RetI (endsL (L ++ M)) w) := by
  have hH := Lib.hid h
  have hH' := Lib.hid h'
  clear h h'
  go_enter Tryd.func94, Tryd.ntmps94
  go_wp2_with (first
    | (at_builtin; refine wpl_appendS rfl (.tmp 8) (.tmp 9) rfl (some ⟨w.heap.size, 0, none⟩) 0 [] rfl (by exact World.ownsRow_made _ _ _ (Nat.le_refl _) (by simp [maxLen]) rfl) A c L rfl (by exact hH.out.alloc _) (by simp; omega) (by (repeat (first | exact Below.refl _ _ | refine bel_drewN ?_ _ | refine bel_drew ?_ | refine bel_alloc ?_ _ | refine bel_set ?_ (by simp) _))) ?_; intro A1 c1 w1 hown1 hbw1 _; have HO1 := Lib.hid hown1; clear hown1)
    | (at_builtin; refine wpl_appendS rfl (.tmp 10) (.tmp 11) rfl A1 c1 ([] ++ L) (by first | rfl | (simp; done) | (simp; rfl)) HO1.out B d M rfl (by exact hH'.out.below hbw1) (by simp; omega) (by exact hbw1) ?_; intro A2 c2 w2 hown2 hbw2 _; have HO2 := Lib.hid hown2; clear hown2))
  have hsp2 : Hid (Sp w2 A2 c2 (L ++ M)) := by simp only [Hid]; have := HO2.out.sp; simpa using this
  have hlen : L.length + M.length = (L ++ M).length := by simp
  obtain ⟨N, hN⟩ : ∃ N, L ++ M = N := ⟨_, rfl⟩
  rw [hN] at hsp2 hlen
  rw [hN]
  have hnl : N.length ≤ 200000 := by omega
  have HNN := Lib.hid hN
  clear hN HO1 HO2 hH hH'
  try rw [hlen]
  clear hlen
  go_loopw [5, 7] (fun v i wr => ∃ (k : Nat) (A' : Option Addr) (c' : Nat), k ≤ N.length ∧ i = .int .i64 k ∧ v = .slice A' (endsL (N.take k)).length c' ∧ OwnI wr w.heap.size A' c' (endsL (N.take k)) ∧ Below w2.heap.size w2 wr) (fun _ i _ => N.length - (intOf i).toNat)
  case atStart => exact ⟨0, none, 0, Nat.zero_le _, rfl, rfl, OwnI.nil _ _, Below.refl _ _⟩
  case round =>
    obtain ⟨k, A', c', hk, rfl, rfl, hown, hbw⟩ := hrel
    have HO := Lib.hid hown
    clear hown
    by_cases hlt : k < N.length
    · obtain ⟨b, off, e, hb, d1, d2⟩ := (hsp2.out.below hbw).at_ hlt
      have hel := (endsL_inv (N.take k)).2.2
      have hel2 : (endsL (N.take k)).length ≤ 400000 := by simp at hel; omega
      have HG := Lib.hid (endsL_step hlt)
      obtain ⟨⟨x1, x2⟩, hx⟩ : ∃ x, N[k] = x := ⟨_, rfl⟩
      rw [hx] at d1 d2
      have HX := Lib.hid hx
      clear hx hel
      obtain ⟨E, hE⟩ : ∃ E, endsL (N.take k) = E := ⟨_, rfl⟩
      have HOE := HO.out
      rw [hE] at HOE
      rw [hE] at hel2 ⊢
      have HEE := Lib.hid hE
      have HO' := Lib.hid HOE
      clear hE HOE HO
      rw [e]
      have hk0 : (0 : Int) ≤ (k : Int) := by omega
      have hk1 : (k : Int) < (N.length : Int) := by omega
      cases hok : okS (x1, x2)
      · have hR := fun W => Lib.hid (rright_any x1 x2 W)
        rw [hok] at hR
        have HN := Lib.hid (estep_no (out := E) hok)
        clear hok
        go_wp2_with fail
        refine (hR _).out.mono ?_
        rintro e1 w3 ⟨rfl, n, rfl⟩
        go_wp2_with fail
        go_roundw
        case rel => exact ⟨k + 1, A', c', by omega, by go_num, by rw [HG.out, HEE.out, HX.out, HN.out], by rw [HG.out, HEE.out, HX.out, HN.out]; exact (HO'.out.alloc _).drewN _, by (repeat (first | exact Below.refl _ _ | assumption | refine bel_drewN ?_ _ | refine bel_drew ?_ | refine bel_alloc ?_ _ | refine bel_set ?_ (by simp) _ | refine bel_set ?_ (by omega) _))⟩
        case measure => simp [intOf]; omega
      · have hR := fun W => Lib.hid (rright_any x1 x2 W)
        rw [hok] at hR
        have HN := Lib.hid (estep_yes (out := E) hok)
        have hi1 := length_insertL E x1
        have tok : True := trivial
        clear hok
        go_wp2_with fail
        refine (hR _).out.mono ?_
        rintro e1 w3 ⟨rfl, n, hw3⟩
        have hb3 : Below wr.heap.size wr w3 := by rw [← hw3]; (repeat (first | exact Below.refl _ _ | refine bel_drewN ?_ _ | refine bel_drew ?_ | refine bel_alloc ?_ _ | refine bel_set ?_ (by simp) _))
        have HO3 := Lib.hid (HO'.out.below hb3)
        have e1 := cell_keep hb3 d1
        have e2 := cell_keep hb3 d2
        clear hw3 hR d1 d2
        go_wp2_with fail
        go_region_held3 (fun w' => w'.cell? ⟨b, off + k * 2, none⟩ = some (.int .i64 x1) ∧ w'.cell? ⟨b, off + k * 2 + 1, none⟩ = some (.int .i64 x2))
          (first | exact ⟨e1'', e2''⟩ | exact ⟨e1', e2'⟩ | exact ⟨e1, e2⟩)
          (first
            | (go_at_call 137
               have _t := tok
               refine (insert_any A' c' E x1 _ (by exact HO3.out.spi) (by omega)).mono ?_
               rintro r4 w4 ⟨A4, c4, rfl, hown4, hbw4⟩
               have HO4 := Lib.hid hown4
               have e1' := cell_keep hbw4 e1
               have e2' := cell_keep hbw4 e2
               clear tok hown4)
            | (go_at_call 137
               refine (insert_any A4 c4 (insertL E x1) x2 _ (by exact HO4.out.spi) (by omega)).mono ?_
               rintro r5 w5 ⟨A5, c5, rfl, hown5, hbw5⟩
               have HO5 := Lib.hid hown5
               have e1'' := cell_keep hbw5 e1'
               have e2'' := cell_keep hbw5 e2'
               clear hown5))
        have hb4 := bel_chain hbw4 (bel_drew (bel_chain hb3 hbw))
        have hsz := Nat.le_trans hbw2.size hb4.size
        have HB5 := Lib.hid (bel_chain hbw5 hb4)
        clear hb4
        go_wp2_with fail
        go_roundw
        case rel => exact ⟨k + 1, A5, c5, by omega, by go_num, by rw [HG.out, HEE.out, HX.out, HN.out], by rw [HG.out, HEE.out, HX.out, HN.out]; exact HO5.out.base_le hsz, HB5.out⟩
        case measure => simp [intOf]; omega
    · go_wp2
      go_ret
      rw [take_all hlt] at HO ⊢
      rw [HNN.out]
      exact ⟨A', c', rfl, HO.out, bel_chain hbw hbw2⟩

theorem opB1 (x y : Bool) : opB 1 x y = (x || y) := by simp [opB]
theorem opB2 (x y : Bool) : opB 2 x y = (x && y) := by simp [opB]
theorem opB3 (x y : Bool) : opB 3 x y = (x && !y) := by simp [opB]
theorem getD_at {E : List Int} {k : Nat} (h : k < E.length) : E.getD k 0 = E[k] := by rw [List.getD_eq_getElem?_getD, List.getElem?_eq_getElem h]; rfl

end Go.Proofs.YtfpfdgljhcpkpaaDoor
