/- Contract of the document's number with which a text begins (11). -/
import Derived.Test.YtaaefgieklkekaaGreatDoorZL10
import Derived.Test.YtaaefgieklkekaaGreatDoorZV1
namespace Go.Proofs.YtaaefgieklkekaaGreatDoor
open Go.RowKit

/-- The number with which a text begins, and how many digits it has. -/
def numA : Int → Nat → List UInt8 → Int × Nat
  | acc, k, [] => (acc, k)
  | acc, k, c :: r => if k < 19 ∧ digB c = true then (if 461168601842738790 < acc then (0, 0) else if 4611686018427387904 ≤ acc * 10 + ((c.toNat : Int) - 48) then (0, 0) else numA (acc * 10 + ((c.toNat : Int) - 48)) (k + 1) r) else (acc, k)
theorem numA_in : ∀ (l : List UInt8) (acc : Int) (k : Nat), 0 ≤ acc → acc < 4611686018427387904 → 0 ≤ (numA acc k l).1 ∧ (numA acc k l).1 < 4611686018427387904 ∧ (numA acc k l).2 ≤ k + l.length
  | [], acc, k, h0, h1 => ⟨h0, h1, by simp [numA]⟩
  | c :: r, acc, k, h0, h1 => by
    rw [numA]
    split
    · rename_i hd
      have hd2 := dig_toNat hd.2
      split
      · exact ⟨by omega, by omega, by simp⟩
      · split
        · exact ⟨by omega, by omega, by simp⟩
        · rename_i h3 h4
          have ih := numA_in r (acc * 10 + ((c.toNat : Int) - 48)) (k + 1) (by omega) (by omega)
          exact ⟨ih.1, ih.2.1, by simp only [List.length_cons]; omega⟩
    · exact ⟨h0, h1, by simp⟩
theorem numA_step {l : List UInt8} {acc : Int} {k : Nat} (hk : k < l.length) : numA acc k (l.drop k) = if k < 19 ∧ digB l[k] = true then (if 461168601842738790 < acc then (0, 0) else if 4611686018427387904 ≤ acc * 10 + ((l[k].toNat : Int) - 48) then (0, 0) else numA (acc * 10 + ((l[k].toNat : Int) - 48)) (k + 1) (l.drop (k + 1))) else (acc, k) := by
  rw [List.drop_eq_getElem_cons hk, numA]
/-- What digits are worth. -/
def valD : Int → List UInt8 → Int
  | acc, [] => acc
  | acc, c :: r => valD (acc * 10 + ((c.toNat : Int) - 48)) r
theorem valD_append : ∀ (a b : List UInt8) (acc : Int), valD acc (a ++ b) = valD (valD acc a) b
  | [], _, _ => rfl
  | c :: r, b, acc => by rw [List.cons_append, valD, valD, valD_append r b]
theorem valD_ge : ∀ (d : List UInt8) (acc : Int), (∀ c ∈ d, digB c = true) → 0 ≤ acc → acc ≤ valD acc d
  | [], acc, _, _ => Int.le_refl _
  | c :: r, acc, h, h0 => by
    have hd := dig_toNat (h c (by simp))
    have ih := valD_ge r (acc * 10 + ((c.toNat : Int) - 48)) (fun x hx => h x (by simp [hx])) (by omega)
    rw [valD]; omega
theorem numA_dig : ∀ (d rest : List UInt8) (acc : Int) (k : Nat), (∀ c ∈ d, digB c = true) → 0 ≤ acc → k + d.length ≤ 19 → valD acc d < 4611686018427387904 → (rest = [] ∨ ∃ c r, rest = c :: r ∧ digB c = false) → numA acc k (d ++ rest) = (valD acc d, k + d.length)
  | [], rest, acc, k, _, _, _, _, h => by
    rcases h with rfl | ⟨c, r, rfl, hc⟩
    · rfl
    · rw [List.nil_append, numA, if_neg (by rw [hc]; simp)]; rfl
  | c :: r, rest, acc, k, h, h0, hk, hv, hr => by
    have hd := dig_toNat (h c (by simp))
    have hg := valD_ge r (acc * 10 + ((c.toNat : Int) - 48)) (fun x hx => h x (by simp [hx])) (by omega)
    rw [valD] at hv
    simp only [List.length_cons] at hk
    rw [List.cons_append, numA, if_pos ⟨by omega, h c (by simp)⟩, if_neg (by omega), if_neg (by omega), numA_dig r rest _ (k + 1) (fun x hx => h x (by simp [hx])) (by omega) (by omega) hv hr, valD, List.length_cons]
    congr 1; omega
theorem valD_dec (u : Nat) : valD 0 (Lib.decDigits u) = u := by
  induction u using Nat.strongRecOn with
  | _ u ih =>
    by_cases h : u < 10
    · rw [Lib.decDigits, dif_pos h, valD, valD]
      have : (UInt8.ofNat (48 + u)).toNat = 48 + u := by simp; omega
      rw [this]; omega
    · rw [Lib.decDigits, dif_neg h, valD_append, ih (u / 10) (by omega), valD, valD]
      have : (UInt8.ofNat (48 + u % 10)).toNat = 48 + u % 10 := by simp; omega
      rw [this]; omega
theorem dig_all {n : Int} : ∀ c ∈ digN n, digB c = true := by
  intro c hc
  have h := dec_dig n.toNat c (by unfold digN at hc; exact hc)
  simp [digB]; omega
theorem numA_num {n : Int} {rest : List UInt8} (h0 : 0 ≤ n) (h1 : n < 4611686018427387904) (hr : rest = [] ∨ ∃ c r, rest = c :: r ∧ digB c = false) : numA 0 0 (digN n ++ rest) = (n, (digN n).length) := by
  have hl : (digN n).length ≤ 19 := by
    unfold digN
    exact dec_length_le 18 n.toNat (by omega)
  have hv : valD 0 (digN n) = n := by unfold digN; rw [valD_dec]; omega
  rw [numA_dig (digN n) rest 0 0 dig_all (by omega) (by omega) (by rw [hv]; exact h1) hr, hv, Nat.zero_add]
def NumPost (l : List UInt8) (w : World) (e : Ending) (w' : World) : Prop := e = .returned (.tuple #[.int .i64 (numA 0 0 l).1, .int .i64 (numA 0 0 l).2]) ∧ w' = w
theorem num_ret {l : List UInt8} {n : Int} {k : Nat} {w : World} (h : numA 0 0 l = (n, k)) : NumPost l w (.returned (.tuple #[.int .i64 n, .int .i64 k])) w := ⟨by rw [h], rfl⟩
set_option maxHeartbeats 4000000 in
theorem r11number_any (l : List UInt8) (w : World) (hs : l.length ≤ 1000000) :
    Calls Tryz.prog 130 #[.string ⟨l.toArray⟩] w (NumPost l w) := by
  have hR : ∀ (n : Int) (k : Nat), numA 0 0 l = (n, k) → NumPost l w (.returned (.tuple #[.int .i64 n, .int .i64 k])) w := fun n k h => num_ret h
  have HR := Lib.hid hR
  clear hR
  have hsz : (⟨l.toArray⟩ : ByteArray).size = l.length := ba_size l
  obtain ⟨s, hs0⟩ : ∃ s : ByteArray, (⟨l.toArray⟩ : ByteArray) = s := ⟨_, rfl⟩
  rw [hs0] at hsz ⊢
  have HL : Hid (l = s.data.toList) := by simp only [Hid]; rw [← hs0]
  have HZ := Lib.hid hsz
  have hsb : s.size ≤ 1000000 := by omega
  clear hs0 hs hsz
  go_enter Tryz.func130, Tryz.ntmps130
  go_wp2_with fail
  go_loop [4, 5] (fun n i => ∃ (k : Nat) (acc : Int), k ≤ s.size ∧ k ≤ 19 ∧ i = .int .i64 k ∧ n = .int .i64 acc ∧ 0 ≤ acc ∧ acc < 4611686018427387904 ∧ numA acc k (l.drop k) = numA 0 0 l) (fun _ i => s.size - (intOf i).toNat)
  case atStart => exact ⟨0, 0, Nat.zero_le _, Nat.zero_le _, rfl, rfl, by omega, by decide, rfl⟩
  case round =>
    obtain ⟨k, acc, hk, hk19, rfl, rfl, ha0, ha1, he⟩ := hrel
    have HE := Lib.hid he
    clear he
    by_cases hlt : k < s.size
    · have hkl : k < l.length := by have := HZ.out; omega
      have HS := Lib.hid (numA_step (acc := acc) hkl)
      have hc : s[k] = l[k] := by simp only [HL.out]; rfl
      have HC := Lib.hid hc
      clear hc
      have hcb : (s[k]).toNat < 256 := UInt8.toNat_lt _
      by_cases h19 : k < 19
      · by_cases hd : digB l[k] = true
        · have hd2 := dig_toNat hd
          rw [← HC.out] at hd2
          obtain ⟨hd3, hd4⟩ := hd2
          have HT : Hid (numA 0 0 l = if 461168601842738790 < acc then (0, 0) else if 4611686018427387904 ≤ acc * 10 + (((s[k]).toNat : Int) - 48) then (0, 0) else numA (acc * 10 + (((s[k]).toNat : Int) - 48)) (k + 1) (l.drop (k + 1))) := by
            simp only [Hid]; rw [← HE.out, HS.out, if_pos ⟨h19, hd⟩, HC.out]
          clear HS HE hd HC
          by_cases hb1 : 461168601842738790 < acc
          · have HT2 : Hid (numA 0 0 l = (0, 0)) := by simp only [Hid]; rw [HT.out, if_pos hb1]
            go_wp2_with fail
            go_ret2
            exact HR.out 0 0 HT2.out
          · by_cases hb2 : 4611686018427387904 ≤ acc * 10 + (((s[k]).toNat : Int) - 48)
            · have HT2 : Hid (numA 0 0 l = (0, 0)) := by simp only [Hid]; rw [HT.out, if_neg hb1, if_pos hb2]
              clear HT
              go_wp2_with fail
              go_ret2
              exact HR.out 0 0 HT2.out
            · have HT2 : Hid (numA (acc * 10 + (((s[k]).toNat : Int) - 48)) (k + 1) (l.drop (k + 1)) = numA 0 0 l) := by simp only [Hid]; rw [HT.out, if_neg hb1, if_neg hb2]
              clear HT
              go_wp2_with fail
              go_round
              case rel => exact ⟨k + 1, acc * 10 + (((s[k]).toNat : Int) - 48), by omega, by omega, by go_num, by go_num, by omega, by omega, HT2.out⟩
              case measure => simp [intOf]; omega
        · have HT : Hid (numA 0 0 l = (acc, k)) := by simp only [Hid]; rw [← HE.out, HS.out, if_neg (fun h => hd h.2)]
          have hd2 : (s[k]).toNat < 48 ∨ 57 < (s[k]).toNat := by
            rw [HC.out]; simp [digB] at hd; omega
          clear HS HE hd
          rcases hd2 with hd2 | hd2
          · go_wp2_with fail
            go_ret2
            exact HR.out _ _ HT.out
          · have hd3 : 48 ≤ (s[k]).toNat := by omega
            go_wp2_with fail
            go_ret2
            exact HR.out _ _ HT.out
      · have HT : Hid (numA 0 0 l = (acc, k)) := by simp only [Hid]; rw [← HE.out, HS.out, if_neg (fun h => h19 h.1)]
        clear HS HE
        go_wp2_with fail
        go_ret2
        exact HR.out _ _ HT.out
    · have HT : Hid (numA 0 0 l = (acc, k)) := by
        have := HZ.out
        simp only [Hid]; rw [← HE.out, List.drop_eq_nil_of_le (by omega)]; rfl
      go_wp2_with fail
      go_ret2
      exact HR.out _ _ HT.out
end Go.Proofs.YtaaefgieklkekaaGreatDoor
