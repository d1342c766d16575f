/- Plain laws of the text of ranges: it is parsed as they were. -/
import Derived.Test.YtfpfdgljhcpkpaaDoorS5
import Derived.Lib.ItoaMem
import Derived.Test.YtfpfdgljhcpkpaaDoorB11
namespace Go.Proofs.YtfpfdgljhcpkpaaDoor

theorem digt_toNat {k : Nat} (h : k < 10) : (UInt8.ofNat (48 + k)).toNat = 48 + k := by
  rw [UInt8.toNat_ofNat_of_lt']
  simp [UInt8.size]; omega
theorem numFrom_append : ∀ (l m : List UInt8) (acc : Int), numFrom acc (l ++ m) = match numFrom acc l with | some x => numFrom x m | none => none
  | [], m, acc => rfl
  | c :: r, m, acc => by
    rw [List.cons_append, numFrom, numFrom]
    by_cases h : digB c = true
    · rw [if_pos h, if_pos h]; exact numFrom_append r m _
    · rw [if_neg h, if_neg h]
theorem numFrom_one {acc : Int} {k : Nat} (h : k < 10) : numFrom acc [UInt8.ofNat (48 + k)] = some (acc * 10 + k) := by
  have h1 := digt_toNat h
  have hd : digB (UInt8.ofNat (48 + k)) = true := by unfold digB; rw [h1]; simp; omega
  rw [numFrom, if_pos hd, numFrom, h1]
  congr 1; omega
theorem numFrom_dec (u : Nat) : numFrom 0 (Lib.decDigits u) = some (u : Int) := by
  induction u using Nat.strongRecOn with
  | ind u ih =>
    rw [Lib.decDigits]
    by_cases h : u < 10
    · rw [dif_pos h, numFrom_one h]; congr 1; omega
    · rw [dif_neg h, numFrom_append, ih (u / 10) (by omega)]
      simp only
      rw [numFrom_one (by omega)]
      congr 1; omega
theorem dec_length_le : ∀ (k u : Nat), u < 10 ^ (k + 1) → (Lib.decDigits u).length ≤ k + 1
  | 0, u, h => by rw [Lib.decDigits, dif_pos (by omega)]; simp
  | k + 1, u, h => by
    rw [Lib.decDigits]
    by_cases h0 : u < 10
    · rw [dif_pos h0]; simp
    · rw [dif_neg h0, List.length_append]
      have := dec_length_le k (u / 10) (by rw [Nat.pow_succ] at h; omega)
      simp; omega
theorem dec_pos (u : Nat) : 0 < (Lib.decDigits u).length := by
  rw [Lib.decDigits]
  by_cases h0 : u < 10
  · rw [dif_pos h0]; simp
  · rw [dif_neg h0]; simp
theorem dec_dig (u : Nat) : ∀ c ∈ Lib.decDigits u, 48 ≤ c.toNat ∧ c.toNat ≤ 57 := by
  induction u using Nat.strongRecOn with
  | ind u ih =>
    rw [Lib.decDigits]
    by_cases h : u < 10
    · rw [dif_pos h]
      intro c hc
      rw [List.mem_singleton] at hc
      rw [hc, digt_toNat h]; omega
    · rw [dif_neg h]
      intro c hc
      rcases List.mem_append.1 hc with hc | hc
      · exact ih (u / 10) (by omega) c hc
      · rw [List.mem_singleton] at hc
        rw [hc, digt_toNat (show u % 10 < 10 by omega)]; omega
/-- A number's digits. -/
def digN (n : Int) : List UInt8 := Lib.decDigits n.toNat
theorem digN_len {n : Int} (h1 : n ≤ 999999999999999999) : 0 < (digN n).length ∧ (digN n).length ≤ 18 :=
  ⟨dec_pos _, dec_length_le 17 _ (by have : (10 : Nat) ^ (17 + 1) = 1000000000000000000 := by decide
                                     omega)⟩
theorem digN_len' {n : Int} (h1 : n ≤ 9223372036854775807) : (digN n).length ≤ 19 :=
  dec_length_le 18 _ (by have : (10 : Nat) ^ (18 + 1) = 10000000000000000000 := by decide
                         omega)
theorem numL_dig {n : Int} (h0 : 0 ≤ n) (h1 : n ≤ 999999999999999999) : numL (digN n) = some n := by
  have := digN_len h1
  unfold numL
  rw [if_neg (by omega)]
  unfold digN
  rw [numFrom_dec]; congr 1; omega
/-- A range's text. -/
def textR (x : Int × Int) : List UInt8 := (if 0 ≤ x.1 then digN x.1 else []) ++ 45 :: (if 0 ≤ x.2 then digN x.2 else [])
def textQ (L : List (Int × Int)) : List UInt8 := [98, 121, 116, 101, 115, 61] ++ joinT textR L
theorem textR_byte {x : Int × Int} {c : UInt8} (h : c ∈ textR x) : c.toNat = 45 ∨ (48 ≤ c.toNat ∧ c.toNat ≤ 57) := by
  unfold textR at h
  rcases List.mem_append.1 h with h | h
  · split at h
    · exact .inr (dec_dig _ c h)
    · cases h
  · rcases List.mem_cons.1 h with h | h
    · left; rw [h]; rfl
    · split at h
      · exact .inr (dec_dig _ c h)
      · cases h
theorem textR_len {x : Int × Int} (hr : rightR x = true) : 0 < (textR x).length ∧ (textR x).length ≤ 37 := by
  rw [rightR_iff] at hr
  have h1 := digN_len hr.1
  have h2 := digN_len hr.2.1
  unfold textR
  rw [List.length_append, List.length_cons]
  constructor
  · omega
  · by_cases h3 : 0 ≤ x.1 <;> by_cases h4 : 0 ≤ x.2 <;> simp only [if_pos, if_neg, h3, h4, not_false_eq_true, List.length_nil] <;> omega
theorem u8_ne {c : UInt8} {k : Nat} (h : c.toNat = k → False) (hk : k < 256) : c ≠ UInt8.ofNat k := by
  intro e
  apply h
  rw [e, UInt8.toNat_ofNat_of_lt' (show k < UInt8.size from hk)]
theorem dropWhile_not {α : Type} {p : α → Bool} : ∀ {l : List α}, (∀ c ∈ l, p c = false) → l.dropWhile p = l
  | [], _ => rfl
  | c :: r, h => by simp [List.dropWhile, h c (List.mem_cons_self ..)]
theorem trim_same {l : List UInt8} (h : ∀ c ∈ l, blankB c = false) : trimL l = l := by
  unfold trimL
  rw [dropWhile_not (l := l.reverse) (fun c hc => h c (List.mem_reverse.1 hc)), List.reverse_reverse, dropWhile_not h]
theorem textR_trim (x : Int × Int) : trimL (textR x) = textR x := trim_same fun c hc => by
  have h := textR_byte hc
  have h1 : c ≠ 32 := u8_ne (k := 32) (by omega) (by omega)
  have h2 : c ≠ 9 := u8_ne (k := 9) (by omega) (by omega)
  simp [blankB, h1, h2]
theorem dig_no {n : Int} : ∀ c ∈ digN n, c ≠ 45 := fun c hc => by
  have h := dec_dig _ c hc
  exact u8_ne (k := 45) (by omega) (by omega)
theorem textR_item {x : Int × Int} (hr : rightR x = true) : itemL (textR x) = some x := by
  rw [rightR_iff] at hr
  obtain ⟨x1, x2⟩ := x
  simp only at hr
  obtain ⟨h1, h2, h3⟩ := hr
  unfold itemL textR
  by_cases hf : 0 ≤ x1
  · by_cases ht : 0 ≤ x2
    · have hle : x1 ≤ x2 := by omega
      have l1 := (digN_len h1).1
      have l2 := (digN_len h2).1
      have n1 := numL_dig hf h1
      have n2 := numL_dig ht h2
      rw [if_pos hf, if_pos ht, cutD_some dig_no]
      obtain ⟨c, a, e1⟩ : ∃ c a, digN x1 = c :: a := List.exists_cons_of_length_pos l1
      obtain ⟨d, b, e2⟩ : ∃ c a, digN x2 = c :: a := List.exists_cons_of_length_pos l2
      rw [e1] at n1 ⊢
      rw [e2] at n2 ⊢
      simp only [n1, n2, if_pos hle]
    · have e : x2 = -1 := by omega
      have l1 := (digN_len h1).1
      have n1 := numL_dig hf h1
      rw [if_pos hf, if_neg ht, cutD_some dig_no]
      obtain ⟨c, a, e1⟩ : ∃ c a, digN x1 = c :: a := List.exists_cons_of_length_pos l1
      rw [e1] at n1 ⊢
      simp only [n1, Option.map_some, e]
  · have e : x1 = -1 := by omega
    have ht : 0 ≤ x2 := by omega
    have n2 := numL_dig ht h2
    rw [if_neg hf, if_pos ht, cutD_some (by intro c hc; cases hc)]
    simp only [n2, Option.map_some, e]
theorem split_join : ∀ (x : Int × Int) (L : List (Int × Int)), splitC (textR x ++ L.flatMap fun y => 44 :: textR y) = (x :: L).map textR
  | x, [] => by
    simp only [List.flatMap_nil, List.append_nil, List.map_cons, List.map_nil]
    refine splitC_none fun c hc => ?_
    have h := textR_byte hc
    exact u8_ne (k := 44) (by omega) (by omega)
  | x, y :: L => by
    rw [List.flatMap_cons, List.cons_append, splitC_some fun c hc => ?_]
    · rw [split_join y L]; rfl
    · have h := textR_byte hc
      exact u8_ne (k := 44) (by omega) (by omega)
theorem ranges_text : ∀ {L : List (Int × Int)}, allR L = true → rangesL (L.map textR) = some L
  | [], _ => rfl
  | x :: L, h => by
    have h1 : rightR x = true := List.all_eq_true.1 h x (List.mem_cons_self ..)
    have h2 : allR L = true := List.all_eq_true.2 fun y hy => List.all_eq_true.1 h y (List.mem_cons_of_mem _ hy)
    rw [List.map_cons, rangesL, textR_item h1, ranges_text h2]
theorem items_text {L : List (Int × Int)} (hL : allR L = true) : itemsL (L.map textR) = L.map textR := by
  unfold itemsL
  rw [List.map_map]
  have e : (trimL ∘ textR) = textR := funext textR_trim
  rw [e, List.filter_eq_self]
  intro p hp
  obtain ⟨x, hx, rfl⟩ := List.mem_map.1 hp
  have := (textR_len (List.all_eq_true.1 hL x hx)).1
  cases h : textR x with
  | nil => rw [h] at this; simp at this
  | cons c r => rfl
/-- The text of right ranges is parsed as they were. -/
theorem parse_text {L : List (Int × Int)} (hL : allR L = true) (h0 : 0 < L.length) (h1 : L.length ≤ 64) : parseL (textQ L) = (L, 0) := by
  obtain ⟨x, r, rfl⟩ : ∃ x r, L = x :: r := List.exists_cons_of_length_pos h0
  have hh : headB (textQ (x :: r)) = true := by
    unfold headB textQ
    simp [lowB]
  have hd : (textQ (x :: r)).drop 6 = textR x ++ r.flatMap fun y => 44 :: textR y := rfl
  unfold parseL
  rw [if_pos hh, hd, split_join, items_text hL, ranges_text hL]
  simp only
  rw [if_neg (by omega)]
theorem textQ_len {L : List (Int × Int)} (hL : allR L = true) : (textQ L).length ≤ 6 + 101 * L.length := by
  unfold textQ
  rw [List.length_append]
  have := joinT_length textR L (fun x hx => by have := (textR_len (List.all_eq_true.1 hL x hx)).2; omega)
  simp; omega
end Go.Proofs.YtfpfdgljhcpkpaaDoor
