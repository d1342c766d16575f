/- Contracts of the functions that read a range's text: number, Cut at '-', Trim of blanks, word, parse. -/
import Derived.Test.YtfpfdgljhcpkpaaGreatDoorS2
import Derived.Test.YtfpfdgljhcpkpaaGreatDoorS5
import Derived.Test.YtfpfdgljhcpkpaaGreatDoorLaid2
namespace Go.Proofs.YtfpfdgljhcpkpaaGreatDoor
open Go.RowKit

theorem ba_list (s : ByteArray) : s = ⟨s.data.toList.toArray⟩ := by cases s; simp
theorem ba_size (l : List UInt8) : (⟨l.toArray⟩ : ByteArray).size = l.length := List.size_toArray ..
theorem pow_le17 {k : Nat} (h : k ≤ 17) : (10 : Int) ^ k ≤ 100000000000000000 := by
  have h1 := Nat.pow_le_pow_right (n := 10) (by decide) h
  have h2 : (10 : Int) ^ 17 = 100000000000000000 := by decide
  have h3 : (10 : Int) ^ k ≤ 10 ^ 17 := by exact_mod_cast h1
  omega
theorem dig_toNat {c : UInt8} (h : digB c = true) : 48 ≤ c.toNat ∧ c.toNat ≤ 57 := by simpa [digB] using h
set_option maxHeartbeats 2000000 in
set_option maxRecDepth 100000 in
theorem snumber_any (s : ByteArray) (w : World) (hs : s.size ≤ 9223372036854775807) :
    Calls Tryz.prog 134 #[.string s] w fun e w' => e = .returned (.tuple #[.int .i64 ((numL s.data.toList).getD 0), .bool (numL s.data.toList).isSome]) ∧ w = w' := by
  obtain ⟨l, hl⟩ : ∃ l, l = s.data.toList := ⟨_, rfl⟩
  have hsz : s.size = l.length := by rw [hl, Array.length_toList]; rfl
  rw [← hl]
  have HL := Lib.hid hl
  clear hl
  by_cases h1 : l.length < 1 ∨ 18 < l.length
  · have HN : Hid (numL l = none) := by simp only [Hid, numL]; rw [if_pos h1]
    have HZ := Lib.hid hsz
    rcases h1 with h1 | h1
    · have hz : s.size < 1 := by omega
      clear hsz h1
      go_enter Tryz.func134, Tryz.ntmps134
      go_wp2_with fail
      go_ret2
      exact ⟨by rw [HN.out]; rfl, rfl⟩
    · have hz : 18 < s.size := by omega
      clear hsz h1
      go_enter Tryz.func134, Tryz.ntmps134
      go_wp2_with fail
      go_ret2
      exact ⟨by rw [HN.out]; rfl, rfl⟩
  · have hz1 : 1 ≤ s.size := by omega
    have hz2 : s.size ≤ 18 := by omega
    have HN : Hid (numL l = numFrom 0 l) := by simp only [Hid, numL]; rw [if_neg h1]
    have HZ := Lib.hid hsz
    clear hsz h1
    rw [HN.out]
    clear HN
    go_enter Tryz.func134, Tryz.ntmps134
    go_wp2_with fail
    go_loop [4, 5, 16] (fun n _ i => ∃ (k : Nat) (acc : Int), k ≤ s.size ∧ i = .int .i64 k ∧ n = .int .i64 acc ∧ 0 ≤ acc ∧ acc < 10 ^ k ∧ numFrom acc (l.drop k) = numFrom 0 l) (fun _ _ i => s.size - (intOf i).toNat)
    case atStart => exact ⟨0, 0, Nat.zero_le _, rfl, rfl, by omega, by decide, rfl⟩
    case round =>
      obtain ⟨k, acc, hk, rfl, rfl, ha0, ha1, he⟩ := hrel
      have HE := Lib.hid he
      have HA := Lib.hid ha1
      clear he ha1
      by_cases hlt : k < s.size
      · have hkl : k < l.length := by have := HZ.out; omega
        have ha2 : acc ≤ 100000000000000000 := by have := HA.out; have := pow_le17 (k := k) (by omega); omega
        have HS := Lib.hid (numFrom_step (acc := acc) hkl)
        have hc : s[k] = l[k] := by simp only [HL.out]; rfl
        have HC := Lib.hid hc
        clear hc
        have hcb : (s[k]).toNat < 256 := UInt8.toNat_lt _
        by_cases hd : digB l[k] = true
        · have hd2 := dig_toNat hd
          rw [← HC.out] at hd2
          obtain ⟨hd3, hd4⟩ := hd2
          have HT : Hid (numFrom (acc * 10 + (((s[k]).toNat : Int) - 48)) (l.drop (k + 1)) = numFrom 0 l) := by
            simp only [Hid]; rw [← HE.out, HS.out, if_pos hd, HC.out]
          have HP : Hid (acc * 10 + (((s[k]).toNat : Int) - 48) < 10 ^ (k + 1)) := by
            have := HA.out
            simp only [Hid]; rw [Int.pow_succ]; omega
          clear HS HE HA hd
          go_wp2_with fail
          go_round
          case rel => exact ⟨k + 1, acc * 10 + (((s[k]).toNat : Int) - 48), by omega, by go_num, by go_num, by omega, HP.out, HT.out⟩
          case measure => simp [intOf]; omega
        · have HT : Hid (numFrom 0 l = none) := by simp only [Hid]; rw [← HE.out, HS.out, if_neg hd]
          have hd2 : (s[k]).toNat < 48 ∨ 57 < (s[k]).toNat := by
            rw [HC.out]; simp [digB] at hd; omega
          clear HS HE HA hd
          rcases hd2 with hd2 | hd2
          · go_wp2_with fail
            go_ret2
            exact ⟨by rw [HT.out]; rfl, rfl⟩
          · have hd3 : 48 ≤ (s[k]).toNat := by omega
            go_wp2_with fail
            go_ret2
            exact ⟨by rw [HT.out]; rfl, rfl⟩
      · have HT : Hid (numFrom 0 l = some acc) := by
          have := HZ.out
          simp only [Hid]; rw [← HE.out, List.drop_eq_nil_of_le (by omega)]; rfl
        go_wp2_with fail
        go_ret2
        exact ⟨by rw [HT.out]; rfl, rfl⟩
end Go.Proofs.YtfpfdgljhcpkpaaGreatDoor
/- Contracts of Cut at '-' and of spec's parse. -/
namespace Go.Proofs.YtfpfdgljhcpkpaaGreatDoor
open Go.RowKit

theorem index_cases (c : UInt8) : ∀ l : List UInt8, (Lib.indexByte l c = -1 ∧ ∀ d ∈ l, d ≠ c) ∨ ∃ k : Nat, Lib.indexByte l c = k ∧ k < l.length ∧ l = l.take k ++ c :: l.drop (k + 1) ∧ ∀ d ∈ l.take k, d ≠ c
  | [] => .inl ⟨rfl, fun _ h => by cases h⟩
  | b :: r => by
    by_cases hb : b = c
    · subst hb
      exact .inr ⟨0, by simp [Lib.indexByte], by simp, by simp, by simp⟩
    · have hb' : (b == c) = false := by simpa using hb
      rcases index_cases c r with ⟨h1, h2⟩ | ⟨k, h1, h2, h3, h4⟩
      · refine .inl ⟨by rw [Lib.indexByte, hb', h1]; rfl, fun d hd => ?_⟩
        rcases List.mem_cons.1 hd with rfl | hd
        · exact hb
        · exact h2 d hd
      · refine .inr ⟨k + 1, ?_, by simp; omega, by simp only [List.take_succ_cons, List.drop_succ_cons, List.cons_append]; rw [← h3], fun d hd => ?_⟩
        · rw [Lib.indexByte, hb', h1]
          have : ((k : Int) == -1) = false := by rw [beq_eq_false_iff_ne]; omega
          rw [this]; simp
        · rw [List.take_succ_cons] at hd
          rcases List.mem_cons.1 hd with rfl | hd
          · exact hb
          · exact h4 d hd
theorem ba_ext {a b : ByteArray} (h : a.data.toList = b.data.toList) : a = b := by
  obtain ⟨⟨a⟩⟩ := a
  obtain ⟨⟨b⟩⟩ := b
  simp at h
  subst h
  rfl
theorem ex_take (s : ByteArray) (k : Nat) : s.extract 0 k = ⟨(s.data.toList.take k).toArray⟩ := ba_ext (by simp [ByteArray.data_extract])
theorem ex_drop (s : ByteArray) (k : Nat) : s.extract k s.size = ⟨(s.data.toList.drop k).toArray⟩ := ba_ext (by
  rw [ByteArray.data_extract, Array.toList_extract]
  show List.take (s.data.size - k) (List.drop k s.data.toList) = _
  rw [List.take_of_length_le (by simp)])
theorem ret_cut {a a' b b' : ByteArray} {t : Bool} (h : a = a') (h' : b = b') : Ending.returned (.tuple #[.string a, .string b, .bool t]) = .returned (.tuple #[.string a', .string b', .bool t]) := by rw [h, h']
/-- What Cut hands back. -/
def CutPost (l : List UInt8) (w : World) (e : Ending) (w' : World) : Prop :=
  ∃ a b : List UInt8, ∃ t : Bool, e = .returned (.tuple #[.string ⟨a.toArray⟩, .string ⟨b.toArray⟩, .bool t]) ∧ cutD l = (if t = true then some (a, b) else none) ∧ Below w.heap.size w w'
set_option maxHeartbeats 1000000 in
theorem cutLite_any (s : ByteArray) (w : World) (hs : s.size ≤ 1000000) :
    Calls Tryz.prog 152 #[.string s, .string ⟨#[45]⟩] w (CutPost s.data.toList w) := by
  obtain ⟨l, hl⟩ : ∃ l, l = s.data.toList := ⟨_, rfl⟩
  have hsz : s.size = l.length := by rw [hl, Array.length_toList]; rfl
  have hI := fun W => Tryz.stringslite_Index_one s 45 W
  rw [← hl] at hI ⊢
  have HL := Lib.hid hl
  clear hl
  rcases index_cases 45 l with ⟨h1, h2⟩ | ⟨k, h1, h2, h3, h4⟩
  · rw [h1] at hI
    have HC : Hid (cutD l = none) := cutD_none h2
    have HI := Lib.hid hI
    clear h1 h2 hsz hI
    go_enter Tryz.func152, Tryz.ntmps152
    go_wp2_with (go_at_call 181; refine (HI.out _).mono ?_; rintro e w' ⟨rfl, rfl⟩)
    go_ret3
    have es : s = ⟨l.toArray⟩ := by rw [HL.out]
    exact ⟨l, [], false, ret_cut es rfl, by simp [HC.out], Below.refl _ _⟩
  · rw [h1] at hI
    have HC : Hid (cutD l = some (l.take k, l.drop (k + 1))) := by
      simp only [Hid]
      have h5 := cutD_some (a := l.take k) (b := l.drop (k + 1)) h4
      rw [← h3] at h5
      exact h5
    have HI := Lib.hid hI
    have hk : k < s.size := by omega
    have hk0 : (0 : Int) ≤ (k : Int) := by omega
    have hk1 : (k : Int) ≤ (s.size : Int) := by omega
    have hk2 : (0 : Int) ≤ (k : Int) + 1 := by omega
    have hk3 : (k : Int) + 1 ≤ (s.size : Int) := by omega
    have wk : IntKind.i64.wrap ((k : Int) + 1) = (k : Int) + 1 := IntWalk.i64_in _ (by omega)
    have wt : ((k : Int) + 1).toNat = k + 1 := by omega
    clear h1 h2 h3 h4 hsz hI
    go_enter Tryz.func152, Tryz.ntmps152
    go_wp2_with (go_at_call 181; refine (HI.out _).mono ?_; rintro e w' ⟨rfl, rfl⟩)
    go_quiet (fail)
    go_wp2_with fail
    go_ret3
    have e1 := ex_take s k
    have e2 := ex_drop s (k + 1)
    rw [← HL.out] at e1 e2
    exact ⟨l.take k, l.drop (k + 1), true, ret_cut e1 e2, by simp [HC.out], by (repeat (first | exact Below.refl _ _ | refine bel_drewN ?_ _ | refine bel_drew ?_ | refine bel_alloc ?_ _ | refine bel_set ?_ (by simp) _))⟩
theorem cut_any (s : ByteArray) (w : World) (hs : s.size ≤ 1000000) :
    Calls Tryz.prog 101 #[.string s, .string ⟨#[45]⟩] w (CutPost s.data.toList w) := by
  have hI := fun W => Lib.hid (cutLite_any s W hs)
  go_enter Tryz.func101, Tryz.ntmps101
  go_wp2_with (go_at_call 152; refine (hI _).out.mono ?_; rintro e w' ⟨a, b, t, rfl, hc, hb⟩)
  go_ret3
  exact ⟨a, b, t, rfl, hc, hb⟩
end Go.Proofs.YtfpfdgljhcpkpaaGreatDoor
