/- Contracts of the texts of ranges: the program's and the document's. -/
import Derived.Test.YtaaefgieklkekaaGreatDoorZB11
import Derived.Test.YtaaefgieklkekaaGreatDoorZT4
import Derived.Test.YtaaefgieklkekaaGreatDoorZV1
import Derived.Test.YtaaefgieklkekaaGreatDoorZD5
import Derived.Test.YtaaefgieklkekaaGreatDoorZW3
import Derived.MapKept
namespace Go.Proofs.YtaaefgieklkekaaGreatDoor
open Go.RowKit

/-- A text, and the number of what is wrong. -/
def textV (L : List (Int × Int)) : List UInt8 × Int := if L.length = 0 then ([], 1) else if allR L = false then ([], 1) else if 64 < L.length then ([], 4) else (textQ L, 0)
theorem digN_one {n : Int} (h0 : 0 ≤ n) (h : n < 10) : digN n = [UInt8.ofNat (48 + n.toNat)] := by
  unfold digN; rw [Lib.decDigits, dif_pos (by omega)]
theorem digN_more {n : Int} (h : ¬ n < 10) : digN n = digN (n / 10) ++ [UInt8.ofNat (48 + (n % 10).toNat)] := by
  unfold digN
  rw [Lib.decDigits, dif_neg (by omega)]
  have e1 : (n / 10).toNat = n.toNat / 10 := by omega
  have e2 : (n % 10).toNat = n.toNat % 10 := by omega
  rw [e1, e2]
theorem itoa_dig {n : Int} (h0 : 0 ≤ n) : Lib.itoa n = digN n := by
  unfold Lib.itoa digN; rw [if_neg (by omega)]
end Go.Proofs.YtaaefgieklkekaaGreatDoor
/- Contract of spec.Text. -/
namespace Go.Proofs.YtaaefgieklkekaaGreatDoor
open Go.RowKit

def TextPost (v : List UInt8 × Int) (w : World) (e : Ending) (w' : World) : Prop := e = .returned (.tuple #[.string ⟨v.1.toArray⟩, .int .i64 v.2]) ∧ Below w.heap.size w w'
theorem fmt_dig (n : Int) (h0 : 0 ≤ n) (h1 : n ≤ 999999999999999999) (w : World) (htab : Lib.TabIs Tryz.prog w "internal/strconv.uint64pow10" .u64 Lib.pow10Tab) :
    Calls Tryz.prog 96 #[.int .i64 n, .int .i64 10] w fun e w' => e = .returned (.string ⟨(digN n).toArray⟩) ∧ Below w.heap.size w w' := by
  have := fmt_any n (by omega) (by omega) w htab
  rw [itoa_dig h0] at this
  exact this
theorem sc_len (l : List UInt8) : (Lib.strCells ⟨l.toArray⟩).length = l.length := by rw [Lib.strCells_length]; exact ba_size l
theorem len_byte {bs : List Value} {n : Nat} (h : bs.length ≤ n) (v : Value) : (bs ++ [v]).length ≤ n + 1 := by simp; omega
theorem len_str {bs : List Value} {n : Nat} {l : List UInt8} (h : bs.length ≤ n) (hl : l.length ≤ 18) : (bs ++ Lib.strCells ⟨l.toArray⟩).length ≤ n + 18 := by rw [List.length_append, sc_len]; omega
theorem text_ret {v u : List UInt8 × Int} {w w' : World} {s : ByteArray} {n : Int} (h : v = u) (hs : s = ⟨u.1.toArray⟩) (hn : n = u.2) (hb : Below w.heap.size w w') : TextPost v w (.returned (.tuple #[.string s, .int .i64 n])) w' := by
  subst h hs hn; exact ⟨rfl, hb⟩
theorem join_next {L : List (Int × Int)} {k : Nat} (hk : k < L.length) {h : List UInt8} : Lib.byteCells (h ++ joinT textR (L.take (k + 1))) = if k = 0 then Lib.byteCells (h ++ joinT textR (L.take k)) ++ Lib.byteCells (textR L[k]) else Lib.byteCells (h ++ joinT textR (L.take k)) ++ .int .u8 44 :: Lib.byteCells (textR L[k]) := by
  rw [List.take_succ_eq_append_getElem hk, joinT_snoc]
  by_cases h0 : k = 0
  · subst h0
    simp [joinT, Lib.byteCells]
  · rw [if_neg h0, if_neg (by rw [List.length_take]; omega)]
    simp [Lib.byteCells]
end Go.Proofs.YtaaefgieklkekaaGreatDoor
/- Contract of the document's Text. -/
namespace Go.Proofs.YtaaefgieklkekaaGreatDoor
open Go.RowKit

theorem add_run {a b : ByteArray} (h : a.size + b.size ≤ 1000000) : ∀ W, (Op.stringOp .add a b).run Tryz.prog W = .ok (.string (a ++ b)) W := fun W => run_string_add_sum W _ _ (by omega)
theorem str_next {L : List (Int × Int)} {k : Nat} (hk : k < L.length) {h : List UInt8} : h ++ joinT textR (L.take (k + 1)) = if k = 0 then (h ++ joinT textR (L.take k)) ++ textR L[k] else (h ++ joinT textR (L.take k)) ++ 44 :: textR L[k] := by
  rw [List.take_succ_eq_append_getElem hk, joinT_snoc]
  by_cases h0 : k = 0
  · subst h0
    simp [joinT]
  · rw [if_neg h0, if_neg (by rw [List.length_take]; omega)]
    simp
end Go.Proofs.YtaaefgieklkekaaGreatDoor
/- The walk of SpecTexts. -/
namespace Go.Proofs.YtaaefgieklkekaaGreatDoor
open Go.RowKit

theorem textV_cases (L : List (Int × Int)) : ((textV L).2 ≠ 0 ∧ (textV L).1.length ≤ 100000) ∨ ((textV L).2 = 0 ∧ parseL (textV L).1 = (L, 0) ∧ (textV L).1.length ≤ 100000) := by
  unfold textV
  by_cases h0 : L.length = 0
  · rw [if_pos h0]; exact .inl ⟨by decide, by simp⟩
  rw [if_neg h0]
  cases hR : allR L with
  | false => rw [if_pos rfl]; exact .inl ⟨by decide, by simp⟩
  | true =>
    rw [if_neg (by simp)]
    by_cases h1 : 64 < L.length
    · rw [if_pos h1]; exact .inl ⟨by decide, by simp⟩
    · rw [if_neg h1]
      refine .inr ⟨rfl, parse_text hR (by omega) (by omega), ?_⟩
      have := textQ_len hR
      simp only; omega
end Go.Proofs.YtaaefgieklkekaaGreatDoor
