/- Contracts of the functions that read a range's text: number, Cut at '-', Trim of blanks, word, parse. -/
import Derived.Test.YtdomakklbcpnjaaDoorS2
import Derived.Test.YtdomakklbcpnjaaDoorS5
import Derived.Test.YtdomakklbcpnjaaDoorLaid2
namespace Go.Proofs.YtdomakklbcpnjaaDoor
open Go.RowKit

theorem ba_list (s : ByteArray) : s = ⟨s.data.toList.toArray⟩ := by cases s; simp
theorem ba_size (l : List UInt8) : (⟨l.toArray⟩ : ByteArray).size = l.length := List.size_toArray ..
theorem pow_le17 {k : Nat} (h : k ≤ 17) : (10 : Int) ^ k ≤ 100000000000000000 := by
  have h1 := Nat.pow_le_pow_right (n := 10) (by decide) h
  have h2 : (10 : Int) ^ 17 = 100000000000000000 := by decide
  have h3 : (10 : Int) ^ k ≤ 10 ^ 17 := by exact_mod_cast h1
  omega
theorem dig_toNat {c : UInt8} (h : digB c = true) : 48 ≤ c.toNat ∧ c.toNat ≤ 57 := by simpa [digB] using h
set_option maxHeartbeats 2000000 in
set_option maxRecDepth 100000 in
theorem snumber_any (s : ByteArray) (w : World) (hs : s.size ≤ 9223372036854775807) :
    Calls Tryd.prog 120 #[.string s] w fun e w' => e = .returned (.tuple #[.int .i64 ((numL s.data.toList).getD 0), .bool (numL s.data.toList).isSome]) ∧ w = w' := by
  obtain ⟨l, hl⟩ : ∃ l, l = s.data.toList := ⟨_, rfl⟩
  have hsz : s.size = l.length := by rw [hl, Array.length_toList]; rfl
  rw [← hl]
  have HL := Lib.hid hl
  clear hl
  by_cases h1 : l.length < 1 ∨ 18 < l.length
  · have HN : Hid (numL l = none) := by simp only [Hid, numL]; rw [if_pos h1]
    have HZ := Lib.hid hsz
    rcases h1 with h1 | h1
    · have hz : s.size < 1 := by omega
      clear hsz h1
      go_enter Tryd.func120, Tryd.ntmps120
      go_wp2_with fail
      go_ret2
      exact ⟨by rw [HN.out]; rfl, rfl⟩
    · have hz : 18 < s.size := by omega
      clear hsz h1
      go_enter Tryd.func120, Tryd.ntmps120
      go_wp2_with fail
      go_ret2
      exact ⟨by rw [HN.out]; rfl, rfl⟩
  · have hz1 : 1 ≤ s.size := by omega
    have hz2 : s.size ≤ 18 := by omega
    have HN : Hid (numL l = numFrom 0 l) := by simp only [Hid, numL]; rw [if_neg h1]
    have HZ := Lib.hid hsz
    clear hsz h1
    rw [HN.out]
    clear HN
    go_enter Tryd.func120, Tryd.ntmps120
    go_wp2_with fail
    go_loop [4, 5, 16] (fun n _ i => ∃ (k : Nat) (acc : Int), k ≤ s.size ∧ i = .int .i64 k ∧ n = .int .i64 acc ∧ 0 ≤ acc ∧ acc < 10 ^ k ∧ numFrom acc (l.drop k) = numFrom 0 l) (fun _ _ i => s.size - (intOf i).toNat)
    case atStart => exact ⟨0, 0, Nat.zero_le _, rfl, rfl, by omega, by decide, rfl⟩
    case round =>
      obtain ⟨k, acc, hk, rfl, rfl, ha0, ha1, he⟩ := hrel
      have HE := Lib.hid he
      have HA := Lib.hid ha1
      clear he ha1
      by_cases hlt : k < s.size
      · have hkl : k < l.length := by have := HZ.out; omega
        have ha2 : acc ≤ 100000000000000000 := by have := HA.out; have := pow_le17 (k := k) (by omega); omega
        have HS := Lib.hid (numFrom_step (acc := acc) hkl)
        have hc : s[k] = l[k] := by simp only [HL.out]; rfl
        have HC := Lib.hid hc
        clear hc
        have hcb : (s[k]).toNat < 256 := UInt8.toNat_lt _
        by_cases hd : digB l[k] = true
        · have hd2 := dig_toNat hd
          rw [← HC.out] at hd2
          obtain ⟨hd3, hd4⟩ := hd2
          have HT : Hid (numFrom (acc * 10 + (((s[k]).toNat : Int) - 48)) (l.drop (k + 1)) = numFrom 0 l) := by
            simp only [Hid]; rw [← HE.out, HS.out, if_pos hd, HC.out]
          have HP : Hid (acc * 10 + (((s[k]).toNat : Int) - 48) < 10 ^ (k + 1)) := by
            have := HA.out
            simp only [Hid]; rw [Int.pow_succ]; omega
          clear HS HE HA hd
          go_wp2_with fail
          go_round
          case rel => exact ⟨k + 1, acc * 10 + (((s[k]).toNat : Int) - 48), by omega, by go_num, by go_num, by omega, HP.out, HT.out⟩
          case measure => simp [intOf]; omega
        · have HT : Hid (numFrom 0 l = none) := by simp only [Hid]; rw [← HE.out, HS.out, if_neg hd]
          have hd2 : (s[k]).toNat < 48 ∨ 57 < (s[k]).toNat := by
            rw [HC.out]; simp [digB] at hd; omega
          clear HS HE HA hd
          rcases hd2 with hd2 | hd2
          · go_wp2_with fail
            go_ret2
            exact ⟨by rw [HT.out]; rfl, rfl⟩
          · have hd3 : 48 ≤ (s[k]).toNat := by omega
            go_wp2_with fail
            go_ret2
            exact ⟨by rw [HT.out]; rfl, rfl⟩
      · have HT : Hid (numFrom 0 l = some acc) := by
          have := HZ.out
          simp only [Hid]; rw [← HE.out, List.drop_eq_nil_of_le (by omega)]; rfl
        go_wp2_with fail
        go_ret2
        exact ⟨by rw [HT.out]; rfl, rfl⟩
end Go.Proofs.YtdomakklbcpnjaaDoor
