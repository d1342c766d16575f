/- Contracts of the functions that read a range's text: number, Cut at '-', Trim of blanks, word, parse. Contract of spec's parse: the range of an item. -/
import Derived.Test.YtbphndihjdiiiaaGreatDoorZB11
import Derived.Test.YtbphndihjdiiiaaGreatDoorZM1
import Derived.Test.YtbphndihjdiiiaaGreatDoorZLaid2
namespace Go.Proofs.YtbphndihjdiiiaaGreatDoor
open Go.RowKit

theorem ba_size (l : List UInt8) : (⟨l.toArray⟩ : ByteArray).size = l.length := List.size_toArray ..
end Go.Proofs.YtbphndihjdiiiaaGreatDoor
/- Contracts of Cut at '-' and of spec's parse. -/
namespace Go.Proofs.YtbphndihjdiiiaaGreatDoor
open Go.RowKit

theorem index_cases (c : UInt8) : ∀ l : List UInt8, (Lib.indexByte l c = -1 ∧ ∀ d ∈ l, d ≠ c) ∨ ∃ k : Nat, Lib.indexByte l c = k ∧ k < l.length ∧ l = l.take k ++ c :: l.drop (k + 1) ∧ ∀ d ∈ l.take k, d ≠ c
  | [] => .inl ⟨rfl, fun _ h => by cases h⟩
  | b :: r => by
    by_cases hb : b = c
    · subst hb
      exact .inr ⟨0, by simp [Lib.indexByte], by simp, by simp, by simp⟩
    · have hb' : (b == c) = false := by simpa using hb
      rcases index_cases c r with ⟨h1, h2⟩ | ⟨k, h1, h2, h3, h4⟩
      · refine .inl ⟨by rw [Lib.indexByte, hb', h1]; rfl, fun d hd => ?_⟩
        rcases List.mem_cons.1 hd with rfl | hd
        · exact hb
        · exact h2 d hd
      · refine .inr ⟨k + 1, ?_, by simp; omega, by simp only [List.take_succ_cons, List.drop_succ_cons, List.cons_append]; rw [← h3], fun d hd => ?_⟩
        · rw [Lib.indexByte, hb', h1]
          have : ((k : Int) == -1) = false := by rw [beq_eq_false_iff_ne]; omega
          rw [this]; simp
        · rw [List.take_succ_cons] at hd
          rcases List.mem_cons.1 hd with rfl | hd
          · exact hb
          · exact h4 d hd
theorem ba_ext {a b : ByteArray} (h : a.data.toList = b.data.toList) : a = b := by
  obtain ⟨⟨a⟩⟩ := a
  obtain ⟨⟨b⟩⟩ := b
  simp at h
  subst h
  rfl
theorem ex_take (s : ByteArray) (k : Nat) : s.extract 0 k = ⟨(s.data.toList.take k).toArray⟩ := ba_ext (by simp [ByteArray.data_extract])
theorem ex_drop (s : ByteArray) (k : Nat) : s.extract k s.size = ⟨(s.data.toList.drop k).toArray⟩ := ba_ext (by
  rw [ByteArray.data_extract, Array.toList_extract]
  show List.take (s.data.size - k) (List.drop k s.data.toList) = _
  rw [List.take_of_length_le (by simp)])
theorem ret_cut {a a' b b' : ByteArray} {t : Bool} (h : a = a') (h' : b = b') : Ending.returned (.tuple #[.string a, .string b, .bool t]) = .returned (.tuple #[.string a', .string b', .bool t]) := by rw [h, h']
/-- What Cut hands back. -/
def CutPost (l : List UInt8) (w : World) (e : Ending) (w' : World) : Prop :=
  ∃ a b : List UInt8, ∃ t : Bool, e = .returned (.tuple #[.string ⟨a.toArray⟩, .string ⟨b.toArray⟩, .bool t]) ∧ cutD l = (if t = true then some (a, b) else none) ∧ Below w.heap.size w w'
set_option maxHeartbeats 1000000 in
theorem cutLite_any (s : ByteArray) (w : World) (hs : s.size ≤ 1000000) :
    Calls Tryz.prog 163 #[.string s, .string ⟨#[45]⟩] w (CutPost s.data.toList w) := by
  obtain ⟨l, hl⟩ : ∃ l, l = s.data.toList := ⟨_, rfl⟩
  have hsz : s.size = l.length := by rw [hl, Array.length_toList]; rfl
  have hI := fun W => Tryz.stringslite_Index_one s 45 W
  rw [← hl] at hI ⊢
  have HL := Lib.hid hl
  clear hl
  rcases index_cases 45 l with ⟨h1, h2⟩ | ⟨k, h1, h2, h3, h4⟩
  · rw [h1] at hI
    have HC : Hid (cutD l = none) := cutD_none h2
    have HI := Lib.hid hI
    clear h1 h2 hsz hI
    go_enter Tryz.func163, Tryz.ntmps163
    go_wp2_with (go_at_call 217; refine (HI.out _).mono ?_; rintro e w' ⟨rfl, rfl⟩)
    go_ret3
    have es : s = ⟨l.toArray⟩ := by rw [HL.out]
    exact ⟨l, [], false, ret_cut es rfl, by simp [HC.out], Below.refl _ _⟩
  · rw [h1] at hI
    have HC : Hid (cutD l = some (l.take k, l.drop (k + 1))) := by
      simp only [Hid]
      have h5 := cutD_some (a := l.take k) (b := l.drop (k + 1)) h4
      rw [← h3] at h5
      exact h5
    have HI := Lib.hid hI
    have hk : k < s.size := by omega
    have hk0 : (0 : Int) ≤ (k : Int) := by omega
    have hk1 : (k : Int) ≤ (s.size : Int) := by omega
    have hk2 : (0 : Int) ≤ (k : Int) + 1 := by omega
    have hk3 : (k : Int) + 1 ≤ (s.size : Int) := by omega
    have wk : IntKind.i64.wrap ((k : Int) + 1) = (k : Int) + 1 := IntWalk.i64_in _ (by omega)
    have wt : ((k : Int) + 1).toNat = k + 1 := by omega
    clear h1 h2 h3 h4 hsz hI
    go_enter Tryz.func163, Tryz.ntmps163
    go_wp2_with (go_at_call 217; refine (HI.out _).mono ?_; rintro e w' ⟨rfl, rfl⟩)
    go_quiet (fail)
    go_wp2_with fail
    go_ret3
    have e1 := ex_take s k
    have e2 := ex_drop s (k + 1)
    rw [← HL.out] at e1 e2
    exact ⟨l.take k, l.drop (k + 1), true, ret_cut e1 e2, by simp [HC.out], by (repeat (first | exact Below.refl _ _ | refine bel_drewN ?_ _ | refine bel_drew ?_ | refine bel_alloc ?_ _ | refine bel_set ?_ (by simp) _))⟩
theorem cut_any (s : ByteArray) (w : World) (hs : s.size ≤ 1000000) :
    Calls Tryz.prog 97 #[.string s, .string ⟨#[45]⟩] w (CutPost s.data.toList w) := by
  have hI := fun W => Lib.hid (cutLite_any s W hs)
  go_enter Tryz.func97, Tryz.ntmps97
  go_wp2_with (go_at_call 163; refine (hI _).out.mono ?_; rintro e w' ⟨a, b, t, rfl, hc, hb⟩)
  go_ret3
  exact ⟨a, b, t, rfl, hc, hb⟩
end Go.Proofs.YtbphndihjdiiiaaGreatDoor
namespace Go.Proofs.YtbphndihjdiiiaaGreatDoor
open Go.RowKit

theorem cutD_len : ∀ {l a b : List UInt8}, cutD l = some (a, b) → a.length ≤ l.length ∧ b.length ≤ l.length
  | [], _, _, h => by cases h
  | c :: r, a, b, h => by
    rw [cutD] at h
    split at h
    · simp at h; obtain ⟨rfl, rfl⟩ := h; simp
    · cases hr : cutD r with
      | none => rw [hr] at h; cases h
      | some p =>
        rw [hr] at h
        simp at h
        obtain ⟨rfl, rfl⟩ := h
        have := cutD_len (a := p.1) (b := p.2) (l := r) (by rw [hr])
        simp; omega
theorem cut_no {l : List UInt8} (h : cutD l = none) (w : World) (hl : l.length ≤ 1000000) : Calls Tryz.prog 97 #[.string ⟨l.toArray⟩, .string ⟨#[45]⟩] w fun e w' => ∃ a b, e = .returned (.tuple #[.string a, .string b, .bool false]) ∧ Below w.heap.size w w' := by
  refine (cut_any ⟨l.toArray⟩ w (by rw [ba_size]; omega)).mono ?_
  rintro e w' ⟨a, b, t, rfl, hc, hb⟩
  cases t
  · exact ⟨_, _, rfl, hb⟩
  · simp only [if_true] at hc; rw [h] at hc; cases hc
theorem cut_yes {l a b : List UInt8} (h : cutD l = some (a, b)) (w : World) (hl : l.length ≤ 1000000) : Calls Tryz.prog 97 #[.string ⟨l.toArray⟩, .string ⟨#[45]⟩] w fun e w' => e = .returned (.tuple #[.string ⟨a.toArray⟩, .string ⟨b.toArray⟩, .bool true]) ∧ Below w.heap.size w w' := by
  refine (cut_any ⟨l.toArray⟩ w (by rw [ba_size]; omega)).mono ?_
  rintro e w' ⟨a', b', t, rfl, hc, hb⟩
  simp only at hc
  rw [h] at hc
  cases t
  · cases hc
  · simp only [if_true] at hc; injection hc with hc; injection hc with h1 h2; subst h1 h2; exact ⟨rfl, hb⟩
end Go.Proofs.YtbphndihjdiiiaaGreatDoor
