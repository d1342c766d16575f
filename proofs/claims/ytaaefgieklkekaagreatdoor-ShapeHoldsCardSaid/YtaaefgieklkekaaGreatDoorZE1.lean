/- Plain laws of a set's text: it is parsed as it was, and whatever is parsed is a set's text. -/
import Derived.Test.YtaaefgieklkekaaGreatDoorZB11
import Derived.Lib.ParseIntB
namespace Go.Proofs.YtaaefgieklkekaaGreatDoor
open Go.RowKit

theorem digN_ne (n : Int) : digN n ≠ [] := fun e => by have := dec_pos n.toNat; unfold digN at e; rw [e] at this; simp at this
theorem parseM_append (M : Nat) : ∀ (l m : List UInt8) (acc : Nat), Lib.parseUintM M acc (l ++ m) = match Lib.parseUintM M acc l with | .ok a => Lib.parseUintM M a m | e => e
  | [], m, acc => rfl
  | c :: r, m, acc => by
    rw [List.cons_append, Lib.parseUintM, Lib.parseUintM]
    split
    · split
      · rfl
      · split
        · rfl
        · exact parseM_append M r m _
    · rfl
theorem parseM_one {M acc k : Nat} (h : k < 10) (h1 : acc < 1844674407370955162) (h2 : acc * 10 + k ≤ M) : Lib.parseUintM M acc [UInt8.ofNat (48 + k)] = .ok (acc * 10 + k) := by
  have e := digt_toNat h
  rw [Lib.parseUintM, if_pos (by omega), if_neg (by omega), e, if_neg (by omega), Lib.parseUintM]
  congr 1; omega
theorem parseM_dec (u : Nat) (h : u ≤ 9223372036854775807) : Lib.parseUintM (2 ^ 64 - 1) 0 (Lib.decDigits u) = .ok u := by
  induction u using Nat.strongRecOn with
  | ind u ih =>
    rw [Lib.decDigits]
    by_cases h0 : u < 10
    · rw [dif_pos h0, parseM_one h0 (by omega) (by omega)]; congr 1; omega
    · rw [dif_neg h0, parseM_append, ih (u / 10) (by omega) (by omega)]
      simp only
      rw [parseM_one (by omega) (by omega) (by omega)]
      congr 1; omega
theorem parse_dig {n : Int} (h0 : 0 ≤ n) (h1 : n ≤ 9223372036854775807) : Lib.parseIntB 64 (digN n) = .ok n := by
  have hd := parseM_dec n.toNat (by omega)
  have hb := dec_dig n.toNat
  have hp := dec_pos n.toNat
  unfold digN
  obtain ⟨c, r, e⟩ : ∃ c r, Lib.decDigits n.toNat = c :: r := List.exists_cons_of_length_pos hp
  have hc := hb c (by rw [e]; exact List.mem_cons_self ..)
  rw [e] at hd ⊢
  unfold Lib.parseIntB
  simp only
  rw [if_neg (by omega : ¬ (c.toNat = 43 ∨ c.toNat = 45))]
  unfold Lib.parseUintB
  rw [if_neg (by simp), hd]
  simp only
  rw [if_neg (by omega), if_neg (by omega), if_neg (by omega)]
  congr 1; omega
/-- A number, as the program reads it. -/
def numP (l : List UInt8) : Option Int := match Lib.parseIntB 64 l with
  | .ok v => some v
  | _ => none
theorem numP_dig {n : Int} (h0 : 0 ≤ n) (h1 : n ≤ 9223372036854775807) : numP (digN n) = some n := by unfold numP; rw [parse_dig h0 h1]
end Go.Proofs.YtaaefgieklkekaaGreatDoor
