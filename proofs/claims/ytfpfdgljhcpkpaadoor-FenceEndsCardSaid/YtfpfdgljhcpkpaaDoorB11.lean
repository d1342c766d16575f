/- Contracts of the texts: of a span, of a set. -/
import Derived.Test.YtfpfdgljhcpkpaaDoorB10
import Derived.Lib.ItoaMem
import Derived.Laws.Concat
namespace Go.Proofs.YtfpfdgljhcpkpaaDoor
open Go.RowKit

/-- The text of a set, out of the texts of its spans. -/
def joinT (tx : Int × Int → List UInt8) : List (Int × Int) → List UInt8
  | [] => []
  | x :: L => tx x ++ L.flatMap fun y => 44 :: tx y
theorem joinT_nil (tx) : joinT tx [] = [] := rfl
theorem joinT_snoc (tx) (L : List (Int × Int)) (y : Int × Int) : joinT tx (L ++ [y]) = if L.length = 0 then tx y else joinT tx L ++ 44 :: tx y := by
  cases L with
  | nil => simp [joinT]
  | cons x L => simp [joinT]
theorem joinT_length (tx) (L : List (Int × Int)) (h : ∀ x ∈ L, (tx x).length ≤ 100) : (joinT tx L).length ≤ 101 * L.length := by
  cases L with
  | nil => simp [joinT]
  | cons x L =>
    have h1 := h x (by simp)
    have h2 : ∀ M : List (Int × Int), (∀ y ∈ M, (tx y).length ≤ 100) → (M.flatMap fun y => 44 :: tx y).length ≤ 101 * M.length := by
      intro M
      induction M with
      | nil => intro _; simp
      | cons y M ih =>
        intro hM
        have a := hM y (by simp)
        have b := ih (fun z hz => hM z (by simp [hz]))
        simp only [List.flatMap_cons, List.length_append, List.length_cons] at b ⊢
        omega
    have h3 := h2 L (fun y hy => h y (by simp [hy]))
    simp only [joinT, List.length_append, List.length_cons]
    omega

set_option maxHeartbeats 1000000 in
theorem fmt_small (i : Nat) (hi : i < 100) (w : World) : Calls Tryd.prog 77 #[.int .i64 i, .int .i64 10] w fun e w' => e = .returned (.string ⟨(Lib.decDigits i).toArray⟩) ∧ w' = w := by
  have hF := Tryd.internal_strconv_FormatInt_10_small i hi w
  generalize (⟨(Lib.decDigits i).toArray⟩ : ByteArray) = r at hF ⊢
  have HF := Lib.hid hF
  clear hF
  go_enter Tryd.func77, Tryd.ntmps77
  go_wp2_with fail
  refine HF.out.mono ?_
  rintro e w1 ⟨rfl, rfl⟩
  go_wp2_with fail
  go_ret
  exact ⟨rfl, rfl⟩

set_option maxHeartbeats 1000000 in
theorem open_any (f t : Int) (w : World) : Calls Tryd.prog 123 #[.agg #[.int .i64 f, .int .i64 t]] w fun e w' => e = .returned (.bool (decide (t = 4611686018427387904) && !decide (f = 4611686018427387904))) ∧ w.alloc (.cells #[.int .i64 f, .int .i64 t] 48) = w' := by
  go_enter Tryd.func123, Tryd.ntmps123
  go_wp2
  all_goals
    go_ret
    refine ⟨ret_bool ?_, by first | rfl | simp_all⟩
    rw [Bool.eq_iff_iff]; simp; try omega

/-- A span's text, out of its numbers' texts. -/
def spT (nt : Int → List UInt8) (x : Int × Int) : List UInt8 := if x.2 = 4611686018427387904 ∧ x.1 ≠ 4611686018427387904 then nt x.1 ++ [45] else nt x.1 ++ [45] ++ nt x.2

theorem str_app (a b : List UInt8) : (⟨a.toArray⟩ : ByteArray) ++ ⟨b.toArray⟩ = ⟨(a ++ b).toArray⟩ := by
  apply ByteArray.ext
  simp

set_option maxHeartbeats 2000000 in
theorem spanText_any (nt : Int → List UInt8) (hnt : ∀ n, (nt n).length ≤ 40) (f t : Int) (hok : okS (f, t) = true) (w : World)
    (hF : ∀ W, Below w.heap.size w W → Calls Tryd.prog 77 #[.int .i64 f, .int .i64 10] W fun e w' => e = .returned (.string ⟨(nt f).toArray⟩) ∧ Below W.heap.size W w')
    (hT : t ≠ 4611686018427387904 ∨ f = 4611686018427387904 → ∀ W, Below w.heap.size w W → Calls Tryd.prog 77 #[.int .i64 t, .int .i64 10] W fun e w' => e = .returned (.string ⟨(nt t).toArray⟩) ∧ Below W.heap.size W w') :
    Calls Tryd.prog 83 #[.agg #[.int .i64 f, .int .i64 t]] w fun e w' => e = .returned (.string ⟨(spT nt (f, t)).toArray⟩) ∧ Below w.heap.size w w' := by
  have hR := fun W => Lib.hid (right_any f t W)
  have hO := fun W => Lib.hid (open_any f t W)
  rw [hok] at hR
  have hA1 : ∀ W, (Op.stringOp .add ⟨(nt f).toArray⟩ ⟨#[45]⟩).run Tryd.prog W = .ok (.string (⟨(nt f).toArray⟩ ++ ⟨#[45]⟩)) W := fun W => run_string_add_sum W _ _ (by have := hnt f; simp [ByteArray.size]; omega)
  have hA2 : ∀ W, (Op.stringOp .add (⟨(nt f).toArray⟩ ++ ⟨#[45]⟩) ⟨(nt t).toArray⟩).run Tryd.prog W = .ok (.string (⟨(nt f).toArray⟩ ++ ⟨#[45]⟩ ++ ⟨(nt t).toArray⟩)) W := fun W => run_string_add_sum W _ _ (by have := hnt f; have := hnt t; simp [ByteArray.size_append]; simp [ByteArray.size]; omega)
  clear hnt
  have HF := Lib.hid hF
  have HT := Lib.hid hT
  clear hF hT hok
  go_enter Tryd.func83, Tryd.ntmps83
  go_wp2_with fail
  refine (hR _).out.mono ?_
  rintro e w1 ⟨rfl, rfl⟩
  clear hR
  go_wp2_with fail
  refine (HF.out _ (bel_alloc (bel_alloc (Below.refl _ _) _) _)).mono ?_
  rintro e w2 ⟨rfl, hb2⟩
  have q1 : w2.cell? ⟨w.heap.size, 0, none⟩ = some (.int .i64 f) := cell_keep hb2 (by simp [go_sem])
  have q2 : w2.cell? ⟨w.heap.size, 1, none⟩ = some (.int .i64 t) := cell_keep hb2 (by simp [go_sem])
  have HB := Lib.hid (bel_chain hb2 (bel_alloc (bel_alloc (Below.refl _ _) _) _))
  clear hb2 HF
  have hlt : w.heap.size < w2.heap.size := World.block_lt_of_cell? w2 ⟨w.heap.size, 0, none⟩ q1
  go_wp2_with fail
  refine (hO _).out.mono ?_
  rintro e w3 ⟨rfl, rfl⟩
  clear hO
  by_cases h1 : t = 4611686018427387904 ∧ f ≠ 4611686018427387904
  · have hb : (decide (t = 4611686018427387904) && !decide (f = 4611686018427387904)) = true := by simp [h1.1, h1.2]
    have HS : Hid (spT nt (f, t) = nt f ++ [45]) := by simp [Hid, spT, h1.1, h1.2]
    rw [hb]
    clear hb h1 HT
    go_wp2_with fail
    go_ret
    rw [HS.out, ← str_app]
    exact ⟨rfl, bel_alloc HB.out _⟩
  · have hb : (decide (t = 4611686018427387904) && !decide (f = 4611686018427387904)) = false := by
      rw [Bool.eq_false_iff]; intro h; simp at h; exact h1 h
    have HS : Hid (spT nt (f, t) = nt f ++ [45] ++ nt t) := by simp only [Hid, spT]; rw [if_neg h1]
    have HT' := Lib.hid (HT.out (by by_cases h2 : t = 4611686018427387904; exact .inr (by by_cases h3 : f = 4611686018427387904; exact h3; exact absurd ⟨h2, h3⟩ h1); exact .inl h2))
    rw [hb]
    clear hb h1 HT
    go_wp2_with fail
    refine (HT'.out _ (bel_alloc HB.out _)).mono ?_
    rintro e w4 ⟨rfl, hb4⟩
    have HB4 := Lib.hid (bel_chain hb4 (bel_alloc HB.out _))
    clear hb4 HT'
    go_wp2_with fail
    go_ret
    rw [HS.out, ← str_app, ← str_app]
    exact ⟨rfl, HB4.out⟩
end Go.Proofs.YtfpfdgljhcpkpaaDoor
