/- Contracts of spec's word, and of Trim of blanks. -/
import Derived.Test.YtfpfdgljhcpkpaaGreatDoorS8
import Derived.Outline
namespace Go.Proofs.YtfpfdgljhcpkpaaGreatDoor
open Go.RowKit Go.Shelf

theorem contains_blank (b : UInt8) : [(32 : UInt8), 9].contains b = blankB b := by
  rw [Bool.eq_iff_iff]; simp [blankB]
theorem trimS_blank (l : List UInt8) : Lib.trimS l [32, 9] = trimL l := by
  unfold Lib.trimS Lib.trimLeftS Lib.trimRightS trimL
  have : (fun x : UInt8 => [(32 : UInt8), 9].contains x) = blankB := funext contains_blank
  rw [this]
theorem trim_any (l : List UInt8) (w : World) (hl : l.length ≤ 1000000) :
    Calls Tryz.prog 86 #[.string ⟨l.toArray⟩, .string ⟨#[32, 9]⟩] w fun e w' => e = .returned (.string ⟨(trimL l).toArray⟩) ∧ Below w.heap.size w w' := by
  have h := Any.strings_Trim_laid Tryz.lays160 (by kernel_rfl) ⟨l.toArray⟩ ⟨#[32, 9]⟩ w (by rw [ba_size]; omega) (by decide) (ascii_of_all (by decide))
  have e : Lib.trimS (⟨l.toArray⟩ : ByteArray).data.toList (⟨#[32, 9]⟩ : ByteArray).data.toList = trimL l := trimS_blank l
  rw [e] at h
  exact h
/-- A letter, great or small, by its bits. -/
def letB (c : UInt8) (x : Nat) : Bool := !(bits BinOp.or IntKind.u8 (c.toNat : Int) 32 != (x : Int)) && !decide ((c.toNat : Int) < 65)
theorem let_98 (c : UInt8) : letB c 98 = decide (lowB c = 98) := by
  have h : ∀ n : Fin 256, letB (UInt8.ofNat n.val) 98 = decide (lowB (UInt8.ofNat n.val) = 98) := by decide +kernel
  have := h ⟨c.toNat, UInt8.toNat_lt c⟩
  simpa using this
theorem let_121 (c : UInt8) : letB c 121 = decide (lowB c = 121) := by
  have h : ∀ n : Fin 256, letB (UInt8.ofNat n.val) 121 = decide (lowB (UInt8.ofNat n.val) = 121) := by decide +kernel
  have := h ⟨c.toNat, UInt8.toNat_lt c⟩
  simpa using this
theorem let_116 (c : UInt8) : letB c 116 = decide (lowB c = 116) := by
  have h : ∀ n : Fin 256, letB (UInt8.ofNat n.val) 116 = decide (lowB (UInt8.ofNat n.val) = 116) := by decide +kernel
  have := h ⟨c.toNat, UInt8.toNat_lt c⟩
  simpa using this
theorem let_101 (c : UInt8) : letB c 101 = decide (lowB c = 101) := by
  have h : ∀ n : Fin 256, letB (UInt8.ofNat n.val) 101 = decide (lowB (UInt8.ofNat n.val) = 101) := by decide +kernel
  have := h ⟨c.toNat, UInt8.toNat_lt c⟩
  simpa using this
theorem let_115 (c : UInt8) : letB c 115 = decide (lowB c = 115) := by
  have h : ∀ n : Fin 256, letB (UInt8.ofNat n.val) 115 = decide (lowB (UInt8.ofNat n.val) = 115) := by decide +kernel
  have := h ⟨c.toNat, UInt8.toNat_lt c⟩
  simpa using this
set_option maxHeartbeats 2000000 in
theorem sword_any (s : ByteArray) (w : World) (hs : s.size = 5) :
    Calls Tryz.prog 85 #[.string s] w fun e w' => e = .returned (.bool (decide (s.data.toList.map lowB = [98, 121, 116, 101, 115]))) ∧ Below w.heap.size w w' := by
  have h5 : s.size ≤ 5 := by omega
  have h5' : 5 ≤ s.size := by omega
  have i0 : 0 < s.size := by omega
  have i1 : 1 < s.size := by omega
  have i2 : 2 < s.size := by omega
  have i3 : 3 < s.size := by omega
  have i4 : 4 < s.size := by omega
  have HM : Hid (s.data.toList.map lowB = [lowB (s[0]'i0), lowB (s[1]'i1), lowB (s[2]'i2), lowB (s[3]'i3), lowB (s[4]'i4)]) := by
    simp only [Hid]
    obtain ⟨⟨l⟩⟩ := s
    match l, hs with
    | [a0, a1, a2, a3, a4], _ => rfl
  clear hs
  rw [HM.out]
  have HD : Hid (decide ([lowB s[0], lowB s[1], lowB s[2], lowB s[3], lowB s[4]] = [98, 121, 116, 101, 115]) = (letB s[0] 98 && letB s[1] 121 && letB s[2] 116 && letB s[3] 101 && letB s[4] 115)) := by
    simp only [Hid]; rw [let_98, let_121, let_116, let_101, let_115, Bool.eq_iff_iff]; simp [and_assoc]
  rw [HD.out]
  clear HD HM
  go_enter Tryz.func85, Tryz.ntmps85
  go_wp2_with fail
  go_loopw [3, 4] (fun _ i wr => ∃ k n : Nat, k ≤ 5 ∧ i = .int .i64 k ∧ (0 < k → letB s[0] 98 = true) ∧ (1 < k → letB s[1] 121 = true) ∧ (2 < k → letB s[2] 116 = true) ∧ (3 < k → letB s[3] 101 = true) ∧ (4 < k → letB s[4] 115 = true) ∧ wr = w.drewN n) (fun _ i _ => 5 - (intOf i).toNat)
  case atStart => exact ⟨0, 0, by omega, rfl, by omega, by omega, by omega, by omega, by omega, rfl⟩
  case round =>
    obtain ⟨k, n, hk, rfl, p0, p1, p2, p3, p4, rfl⟩ := hrel
    have P0 := Lib.hid p0
    have P1 := Lib.hid p1
    have P2 := Lib.hid p2
    have P3 := Lib.hid p3
    have P4 := Lib.hid p4
    clear p0 p1 p2 p3 p4
    rcases (show k = 0 ∨ k = 1 ∨ k = 2 ∨ k = 3 ∨ k = 4 ∨ k = 5 by omega) with rfl | rfl | rfl | rfl | rfl | rfl
    · cases hb : (bits BinOp.or IntKind.u8 (↑(s[0]).toNat) 32 != ↑(⟨#[98, 121, 116, 101, 115]⟩ : ByteArray)[0].toNat)
      · by_cases hlt : ((s[0]).toNat : Int) < 65
        · have HT : Hid (letB s[0] 98 = false) := by
            simp only [Hid, letB]; rw [show (bits BinOp.or IntKind.u8 (↑(s[0]).toNat) 32 != ((98 : Nat) : Int)) = false from hb]; simp [hlt]
          have hl2 : decide (((s[0]).toNat : Int) < 65) = true := by simpa using hlt
          go_wp2_with fail
          go_quiet (fail)
          go_wp2_with fail
          go_ret
          exact ⟨ret_bool (by rw [show letB s[0] 98 = false from HT.out]; simp), by (repeat (first | exact Below.refl _ _ | refine bel_drewN ?_ _ | refine bel_drew ?_ | refine bel_alloc ?_ _ | refine bel_set ?_ (by simp) _))⟩
        · have HT : Hid (letB s[0] 98 = true) := by
            simp only [Hid, letB]; rw [show (bits BinOp.or IntKind.u8 (↑(s[0]).toNat) 32 != ((98 : Nat) : Int)) = false from hb]; simp [hlt]
          have hl2 : decide (((s[0]).toNat : Int) < 65) = false := by simpa using hlt
          go_wp2_with fail
          go_quiet (fail)
          go_wp2_with fail
          go_roundw
          case rel => exact ⟨1, _, by omega, by go_num, fun _ => HT.out, by omega, by omega, by omega, by omega, rfl⟩
          case measure => simp [intOf]
      · have HT : Hid (letB s[0] 98 = false) := by
          simp only [Hid, letB]; rw [show (bits BinOp.or IntKind.u8 (↑(s[0]).toNat) 32 != ((98 : Nat) : Int)) = true from hb]; rfl
        go_wp2_with fail
        go_quiet (fail)
        go_wp2_with fail
        go_ret
        exact ⟨ret_bool (by rw [show letB s[0] 98 = false from HT.out]; simp), by (repeat (first | exact Below.refl _ _ | refine bel_drewN ?_ _ | refine bel_drew ?_ | refine bel_alloc ?_ _ | refine bel_set ?_ (by simp) _))⟩
    · rw [show ((1 : Nat) : Int) = 1 from rfl]
      have j1 : (1 : Int) < (s.size : Int) := by omega
      have j0 : (0 : Int) ≤ 1 := by decide
      cases hb : (bits BinOp.or IntKind.u8 (↑(s[1]).toNat) 32 != ↑(⟨#[98, 121, 116, 101, 115]⟩ : ByteArray)[1].toNat)
      · by_cases hlt : ((s[1]).toNat : Int) < 65
        · have HT : Hid (letB s[1] 121 = false) := by
            simp only [Hid, letB]; rw [show (bits BinOp.or IntKind.u8 (↑(s[1]).toNat) 32 != ((121 : Nat) : Int)) = false from hb]; simp [hlt]
          have hl2 : decide (((s[1]).toNat : Int) < 65) = true := by simpa using hlt
          go_wp2_with fail
          go_quiet (fail)
          go_wp2_with fail
          go_ret
          exact ⟨ret_bool (by rw [show letB s[1] 121 = false from HT.out]; simp), by (repeat (first | exact Below.refl _ _ | refine bel_drewN ?_ _ | refine bel_drew ?_ | refine bel_alloc ?_ _ | refine bel_set ?_ (by simp) _))⟩
        · have HT : Hid (letB s[1] 121 = true) := by
            simp only [Hid, letB]; rw [show (bits BinOp.or IntKind.u8 (↑(s[1]).toNat) 32 != ((121 : Nat) : Int)) = false from hb]; simp [hlt]
          have hl2 : decide (((s[1]).toNat : Int) < 65) = false := by simpa using hlt
          go_wp2_with fail
          go_quiet (fail)
          go_wp2_with fail
          go_roundw
          case rel => exact ⟨2, _, by omega, by go_num, fun _ => P0.out (by omega), fun _ => HT.out, by omega, by omega, by omega, rfl⟩
          case measure => simp [intOf]
      · have HT : Hid (letB s[1] 121 = false) := by
          simp only [Hid, letB]; rw [show (bits BinOp.or IntKind.u8 (↑(s[1]).toNat) 32 != ((121 : Nat) : Int)) = true from hb]; rfl
        go_wp2_with fail
        go_quiet (fail)
        go_wp2_with fail
        go_ret
        exact ⟨ret_bool (by rw [show letB s[1] 121 = false from HT.out]; simp), by (repeat (first | exact Below.refl _ _ | refine bel_drewN ?_ _ | refine bel_drew ?_ | refine bel_alloc ?_ _ | refine bel_set ?_ (by simp) _))⟩
    · rw [show ((2 : Nat) : Int) = 2 from rfl]
      have j1 : (2 : Int) < (s.size : Int) := by omega
      have j0 : (0 : Int) ≤ 2 := by decide
      cases hb : (bits BinOp.or IntKind.u8 (↑(s[2]).toNat) 32 != ↑(⟨#[98, 121, 116, 101, 115]⟩ : ByteArray)[2].toNat)
      · by_cases hlt : ((s[2]).toNat : Int) < 65
        · have HT : Hid (letB s[2] 116 = false) := by
            simp only [Hid, letB]; rw [show (bits BinOp.or IntKind.u8 (↑(s[2]).toNat) 32 != ((116 : Nat) : Int)) = false from hb]; simp [hlt]
          have hl2 : decide (((s[2]).toNat : Int) < 65) = true := by simpa using hlt
          go_wp2_with fail
          go_quiet (fail)
          go_wp2_with fail
          go_ret
          exact ⟨ret_bool (by rw [show letB s[2] 116 = false from HT.out]; simp), by (repeat (first | exact Below.refl _ _ | refine bel_drewN ?_ _ | refine bel_drew ?_ | refine bel_alloc ?_ _ | refine bel_set ?_ (by simp) _))⟩
        · have HT : Hid (letB s[2] 116 = true) := by
            simp only [Hid, letB]; rw [show (bits BinOp.or IntKind.u8 (↑(s[2]).toNat) 32 != ((116 : Nat) : Int)) = false from hb]; simp [hlt]
          have hl2 : decide (((s[2]).toNat : Int) < 65) = false := by simpa using hlt
          go_wp2_with fail
          go_quiet (fail)
          go_wp2_with fail
          go_roundw
          case rel => exact ⟨3, _, by omega, by go_num, fun _ => P0.out (by omega), fun _ => P1.out (by omega), fun _ => HT.out, by omega, by omega, rfl⟩
          case measure => simp [intOf]
      · have HT : Hid (letB s[2] 116 = false) := by
          simp only [Hid, letB]; rw [show (bits BinOp.or IntKind.u8 (↑(s[2]).toNat) 32 != ((116 : Nat) : Int)) = true from hb]; rfl
        go_wp2_with fail
        go_quiet (fail)
        go_wp2_with fail
        go_ret
        exact ⟨ret_bool (by rw [show letB s[2] 116 = false from HT.out]; simp), by (repeat (first | exact Below.refl _ _ | refine bel_drewN ?_ _ | refine bel_drew ?_ | refine bel_alloc ?_ _ | refine bel_set ?_ (by simp) _))⟩
    · rw [show ((3 : Nat) : Int) = 3 from rfl]
      have j1 : (3 : Int) < (s.size : Int) := by omega
      have j0 : (0 : Int) ≤ 3 := by decide
      cases hb : (bits BinOp.or IntKind.u8 (↑(s[3]).toNat) 32 != ↑(⟨#[98, 121, 116, 101, 115]⟩ : ByteArray)[3].toNat)
      · by_cases hlt : ((s[3]).toNat : Int) < 65
        · have HT : Hid (letB s[3] 101 = false) := by
            simp only [Hid, letB]; rw [show (bits BinOp.or IntKind.u8 (↑(s[3]).toNat) 32 != ((101 : Nat) : Int)) = false from hb]; simp [hlt]
          have hl2 : decide (((s[3]).toNat : Int) < 65) = true := by simpa using hlt
          go_wp2_with fail
          go_quiet (fail)
          go_wp2_with fail
          go_ret
          exact ⟨ret_bool (by rw [show letB s[3] 101 = false from HT.out]; simp), by (repeat (first | exact Below.refl _ _ | refine bel_drewN ?_ _ | refine bel_drew ?_ | refine bel_alloc ?_ _ | refine bel_set ?_ (by simp) _))⟩
        · have HT : Hid (letB s[3] 101 = true) := by
            simp only [Hid, letB]; rw [show (bits BinOp.or IntKind.u8 (↑(s[3]).toNat) 32 != ((101 : Nat) : Int)) = false from hb]; simp [hlt]
          have hl2 : decide (((s[3]).toNat : Int) < 65) = false := by simpa using hlt
          go_wp2_with fail
          go_quiet (fail)
          go_wp2_with fail
          go_roundw
          case rel => exact ⟨4, _, by omega, by go_num, fun _ => P0.out (by omega), fun _ => P1.out (by omega), fun _ => P2.out (by omega), fun _ => HT.out, by omega, rfl⟩
          case measure => simp [intOf]
      · have HT : Hid (letB s[3] 101 = false) := by
          simp only [Hid, letB]; rw [show (bits BinOp.or IntKind.u8 (↑(s[3]).toNat) 32 != ((101 : Nat) : Int)) = true from hb]; rfl
        go_wp2_with fail
        go_quiet (fail)
        go_wp2_with fail
        go_ret
        exact ⟨ret_bool (by rw [show letB s[3] 101 = false from HT.out]; simp), by (repeat (first | exact Below.refl _ _ | refine bel_drewN ?_ _ | refine bel_drew ?_ | refine bel_alloc ?_ _ | refine bel_set ?_ (by simp) _))⟩
    · rw [show ((4 : Nat) : Int) = 4 from rfl]
      have j1 : (4 : Int) < (s.size : Int) := by omega
      have j0 : (0 : Int) ≤ 4 := by decide
      cases hb : (bits BinOp.or IntKind.u8 (↑(s[4]).toNat) 32 != ↑(⟨#[98, 121, 116, 101, 115]⟩ : ByteArray)[4].toNat)
      · by_cases hlt : ((s[4]).toNat : Int) < 65
        · have HT : Hid (letB s[4] 115 = false) := by
            simp only [Hid, letB]; rw [show (bits BinOp.or IntKind.u8 (↑(s[4]).toNat) 32 != ((115 : Nat) : Int)) = false from hb]; simp [hlt]
          have hl2 : decide (((s[4]).toNat : Int) < 65) = true := by simpa using hlt
          go_wp2_with fail
          go_quiet (fail)
          go_wp2_with fail
          go_ret
          exact ⟨ret_bool (by rw [show letB s[4] 115 = false from HT.out]; simp), by (repeat (first | exact Below.refl _ _ | refine bel_drewN ?_ _ | refine bel_drew ?_ | refine bel_alloc ?_ _ | refine bel_set ?_ (by simp) _))⟩
        · have HT : Hid (letB s[4] 115 = true) := by
            simp only [Hid, letB]; rw [show (bits BinOp.or IntKind.u8 (↑(s[4]).toNat) 32 != ((115 : Nat) : Int)) = false from hb]; simp [hlt]
          have hl2 : decide (((s[4]).toNat : Int) < 65) = false := by simpa using hlt
          go_wp2_with fail
          go_quiet (fail)
          go_wp2_with fail
          go_roundw
          case rel => exact ⟨5, _, by omega, by go_num, fun _ => P0.out (by omega), fun _ => P1.out (by omega), fun _ => P2.out (by omega), fun _ => P3.out (by omega), fun _ => HT.out, rfl⟩
          case measure => simp [intOf]
      · have HT : Hid (letB s[4] 115 = false) := by
          simp only [Hid, letB]; rw [show (bits BinOp.or IntKind.u8 (↑(s[4]).toNat) 32 != ((115 : Nat) : Int)) = true from hb]; rfl
        go_wp2_with fail
        go_quiet (fail)
        go_wp2_with fail
        go_ret
        exact ⟨ret_bool (by rw [show letB s[4] 115 = false from HT.out]; simp), by (repeat (first | exact Below.refl _ _ | refine bel_drewN ?_ _ | refine bel_drew ?_ | refine bel_alloc ?_ _ | refine bel_set ?_ (by simp) _))⟩
    · have HT : Hid ((letB s[0] 98 && letB s[1] 121 && letB s[2] 116 && letB s[3] 101 && letB s[4] 115) = true) := by
        simp only [Hid]; rw [P0.out (by omega), P1.out (by omega), P2.out (by omega), P3.out (by omega), P4.out (by omega)]; rfl
      go_wp2_with fail
      go_ret
      exact ⟨ret_bool HT.out.symm, by (repeat (first | exact Below.refl _ _ | refine bel_drewN ?_ _ | refine bel_drew ?_ | refine bel_alloc ?_ _ | refine bel_set ?_ (by simp) _))⟩
end Go.Proofs.YtfpfdgljhcpkpaaGreatDoor
