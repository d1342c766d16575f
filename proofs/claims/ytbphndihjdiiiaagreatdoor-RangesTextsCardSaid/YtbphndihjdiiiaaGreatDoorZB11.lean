/- Contracts of the texts: of a span, of a set. Plain laws of the text of ranges: it is parsed as they were. Contract of a set's text. Contracts of the reference's Of, Or, And, Less; of Spans; of great. The number's text at this program, for every number. The examples hold: wakes. The walk of RangesAt. -/
import Derived.Test.YtbphndihjdiiiaaGreatDoorZB10
import Derived.Lib.ItoaMem
import Derived.Laws.Concat
import Derived.Test.YtbphndihjdiiiaaGreatDoorZM1
import Derived.Shelf.Strconv.Itoa3
namespace Go.Proofs.YtbphndihjdiiiaaGreatDoor
open Go.RowKit

/-- The text of a set, out of the texts of its spans. -/
def joinT (tx : Int × Int → List UInt8) : List (Int × Int) → List UInt8
  | [] => []
  | x :: L => tx x ++ L.flatMap fun y => 44 :: tx y
theorem joinT_nil (tx) : joinT tx [] = [] := rfl
theorem joinT_snoc (tx) (L : List (Int × Int)) (y : Int × Int) : joinT tx (L ++ [y]) = if L.length = 0 then tx y else joinT tx L ++ 44 :: tx y := by
  cases L with
  | nil => simp [joinT]
  | cons x L => simp [joinT]
theorem joinT_length (tx) (L : List (Int × Int)) (h : ∀ x ∈ L, (tx x).length ≤ 100) : (joinT tx L).length ≤ 101 * L.length := by
  cases L with
  | nil => simp [joinT]
  | cons x L =>
    have h1 := h x (by simp)
    have h2 : ∀ M : List (Int × Int), (∀ y ∈ M, (tx y).length ≤ 100) → (M.flatMap fun y => 44 :: tx y).length ≤ 101 * M.length := by
      intro M
      induction M with
      | nil => intro _; simp
      | cons y M ih =>
        intro hM
        have a := hM y (by simp)
        have b := ih (fun z hz => hM z (by simp [hz]))
        simp only [List.flatMap_cons, List.length_append, List.length_cons] at b ⊢
        omega
    have h3 := h2 L (fun y hy => h y (by simp [hy]))
    simp only [joinT, List.length_append, List.length_cons]
    omega

set_option maxHeartbeats 1000000 in
theorem fmt_small (i : Nat) (hi : i < 100) (w : World) : Calls Tryz.prog 100 #[.int .i64 i, .int .i64 10] w fun e w' => e = .returned (.string ⟨(Lib.decDigits i).toArray⟩) ∧ w' = w := by
  have hF := Tryz.internal_strconv_FormatInt_10_small i hi w
  generalize (⟨(Lib.decDigits i).toArray⟩ : ByteArray) = r at hF ⊢
  have HF := Lib.hid hF
  clear hF
  go_enter Tryz.func100, Tryz.ntmps100
  go_wp2_with fail
  refine HF.out.mono ?_
  rintro e w1 ⟨rfl, rfl⟩
  go_wp2_with fail
  go_ret
  exact ⟨rfl, rfl⟩

set_option maxHeartbeats 1000000 in
theorem open_any (f t : Int) (w : World) : Calls Tryz.prog 101 #[.agg #[.int .i64 f, .int .i64 t]] w fun e w' => e = .returned (.bool (decide (t = 4611686018427387904) && !decide (f = 4611686018427387904))) ∧ w.alloc (.cells #[.int .i64 f, .int .i64 t] 80) = w' := by
  go_enter Tryz.func101, Tryz.ntmps101
  go_wp2
  all_goals
    go_ret
    refine ⟨ret_bool ?_, by first | rfl | simp_all⟩
    rw [Bool.eq_iff_iff]; simp; try omega

/-- A span's text, out of its numbers' texts. -/
def spT (nt : Int → List UInt8) (x : Int × Int) : List UInt8 := if x.2 = 4611686018427387904 ∧ x.1 ≠ 4611686018427387904 then nt x.1 ++ [45] else nt x.1 ++ [45] ++ nt x.2

theorem str_app (a b : List UInt8) : (⟨a.toArray⟩ : ByteArray) ++ ⟨b.toArray⟩ = ⟨(a ++ b).toArray⟩ := by
  apply ByteArray.ext
  simp

set_option maxHeartbeats 2000000 in
theorem spanText_any (nt : Int → List UInt8) (hnt : ∀ n, (nt n).length ≤ 40) (f t : Int) (hok : okS (f, t) = true) (w : World)
    (hF : ∀ W, Below w.heap.size w W → Calls Tryz.prog 100 #[.int .i64 f, .int .i64 10] W fun e w' => e = .returned (.string ⟨(nt f).toArray⟩) ∧ Below W.heap.size W w')
    (hT : t ≠ 4611686018427387904 ∨ f = 4611686018427387904 → ∀ W, Below w.heap.size w W → Calls Tryz.prog 100 #[.int .i64 t, .int .i64 10] W fun e w' => e = .returned (.string ⟨(nt t).toArray⟩) ∧ Below W.heap.size W w') :
    Calls Tryz.prog 53 #[.agg #[.int .i64 f, .int .i64 t]] w fun e w' => e = .returned (.string ⟨(spT nt (f, t)).toArray⟩) ∧ Below w.heap.size w w' := by
  have hR := fun W => Lib.hid (right_any f t W)
  have hO := fun W => Lib.hid (open_any f t W)
  rw [hok] at hR
  have hA1 : ∀ W, (Op.stringOp .add ⟨(nt f).toArray⟩ ⟨#[45]⟩).run Tryz.prog W = .ok (.string (⟨(nt f).toArray⟩ ++ ⟨#[45]⟩)) W := fun W => run_string_add_sum W _ _ (by have := hnt f; simp [ByteArray.size]; omega)
  have hA2 : ∀ W, (Op.stringOp .add (⟨(nt f).toArray⟩ ++ ⟨#[45]⟩) ⟨(nt t).toArray⟩).run Tryz.prog W = .ok (.string (⟨(nt f).toArray⟩ ++ ⟨#[45]⟩ ++ ⟨(nt t).toArray⟩)) W := fun W => run_string_add_sum W _ _ (by have := hnt f; have := hnt t; simp [ByteArray.size_append]; simp [ByteArray.size]; omega)
  clear hnt
  have HF := Lib.hid hF
  have HT := Lib.hid hT
  clear hF hT hok
  go_enter Tryz.func53, Tryz.ntmps53
  go_wp2_with fail
  refine (hR _).out.mono ?_
  rintro e w1 ⟨rfl, rfl⟩
  clear hR
  go_wp2_with fail
  refine (HF.out _ (bel_alloc (bel_alloc (Below.refl _ _) _) _)).mono ?_
  rintro e w2 ⟨rfl, hb2⟩
  have q1 : w2.cell? ⟨w.heap.size, 0, none⟩ = some (.int .i64 f) := cell_keep hb2 (by simp [go_sem])
  have q2 : w2.cell? ⟨w.heap.size, 1, none⟩ = some (.int .i64 t) := cell_keep hb2 (by simp [go_sem])
  have HB := Lib.hid (bel_chain hb2 (bel_alloc (bel_alloc (Below.refl _ _) _) _))
  clear hb2 HF
  have hlt : w.heap.size < w2.heap.size := World.block_lt_of_cell? w2 ⟨w.heap.size, 0, none⟩ q1
  go_wp2_with fail
  refine (hO _).out.mono ?_
  rintro e w3 ⟨rfl, rfl⟩
  clear hO
  by_cases h1 : t = 4611686018427387904 ∧ f ≠ 4611686018427387904
  · have hb : (decide (t = 4611686018427387904) && !decide (f = 4611686018427387904)) = true := by simp [h1.1, h1.2]
    have HS : Hid (spT nt (f, t) = nt f ++ [45]) := by simp [Hid, spT, h1.1, h1.2]
    rw [hb]
    clear hb h1 HT
    go_wp2_with fail
    go_ret
    rw [HS.out, ← str_app]
    exact ⟨rfl, bel_alloc HB.out _⟩
  · have hb : (decide (t = 4611686018427387904) && !decide (f = 4611686018427387904)) = false := by
      rw [Bool.eq_false_iff]; intro h; simp at h; exact h1 h
    have HS : Hid (spT nt (f, t) = nt f ++ [45] ++ nt t) := by simp only [Hid, spT]; rw [if_neg h1]
    have HT' := Lib.hid (HT.out (by by_cases h2 : t = 4611686018427387904; exact .inr (by by_cases h3 : f = 4611686018427387904; exact h3; exact absurd ⟨h2, h3⟩ h1); exact .inl h2))
    rw [hb]
    clear hb h1 HT
    go_wp2_with fail
    refine (HT'.out _ (bel_alloc HB.out _)).mono ?_
    rintro e w4 ⟨rfl, hb4⟩
    have HB4 := Lib.hid (bel_chain hb4 (bel_alloc HB.out _))
    clear hb4 HT'
    go_wp2_with fail
    go_ret
    rw [HS.out, ← str_app, ← str_app]
    exact ⟨rfl, HB4.out⟩
end Go.Proofs.YtbphndihjdiiiaaGreatDoor
namespace Go.Proofs.YtbphndihjdiiiaaGreatDoor

theorem digt_toNat {k : Nat} (h : k < 10) : (UInt8.ofNat (48 + k)).toNat = 48 + k := by
  rw [UInt8.toNat_ofNat_of_lt']
  simp [UInt8.size]; omega
theorem dec_length_le : ∀ (k u : Nat), u < 10 ^ (k + 1) → (Lib.decDigits u).length ≤ k + 1
  | 0, u, h => by rw [Lib.decDigits, dif_pos (by omega)]; simp
  | k + 1, u, h => by
    rw [Lib.decDigits]
    by_cases h0 : u < 10
    · rw [dif_pos h0]; simp
    · rw [dif_neg h0, List.length_append]
      have := dec_length_le k (u / 10) (by rw [Nat.pow_succ] at h; omega)
      simp; omega
theorem dec_pos (u : Nat) : 0 < (Lib.decDigits u).length := by
  rw [Lib.decDigits]
  by_cases h0 : u < 10
  · rw [dif_pos h0]; simp
  · rw [dif_neg h0]; simp
theorem dec_dig (u : Nat) : ∀ c ∈ Lib.decDigits u, 48 ≤ c.toNat ∧ c.toNat ≤ 57 := by
  induction u using Nat.strongRecOn with
  | ind u ih =>
    rw [Lib.decDigits]
    by_cases h : u < 10
    · rw [dif_pos h]
      intro c hc
      rw [List.mem_singleton] at hc
      rw [hc, digt_toNat h]; omega
    · rw [dif_neg h]
      intro c hc
      rcases List.mem_append.1 hc with hc | hc
      · exact ih (u / 10) (by omega) c hc
      · rw [List.mem_singleton] at hc
        rw [hc, digt_toNat (show u % 10 < 10 by omega)]; omega
/-- A number's digits. -/
def digN (n : Int) : List UInt8 := Lib.decDigits n.toNat
theorem digN_len' {n : Int} (h1 : n ≤ 9223372036854775807) : (digN n).length ≤ 19 :=
  dec_length_le 18 _ (by have : (10 : Nat) ^ (18 + 1) = 10000000000000000000 := by decide
                         omega)
theorem u8_ne {c : UInt8} {k : Nat} (h : c.toNat = k → False) (hk : k < 256) : c ≠ UInt8.ofNat k := by
  intro e
  apply h
  rw [e, UInt8.toNat_ofNat_of_lt' (show k < UInt8.size from hk)]
theorem dig_no {n : Int} : ∀ c ∈ digN n, c ≠ 45 := fun c hc => by
  have h := dec_dig _ c hc
  exact u8_ne (k := 45) (by omega) (by omega)
end Go.Proofs.YtbphndihjdiiiaaGreatDoor
namespace Go.Proofs.YtbphndihjdiiiaaGreatDoor
open Go.RowKit

set_option maxHeartbeats 2000000 in
set_option maxRecDepth 100000 in
theorem text_any (tx : Int × Int → List UInt8) (A : Option Addr) (c : Nat) (L : List (Int × Int)) (w : World) (h : Sp w A c L) (hl : L.length ≤ 100000) (h0 : L ≠ [])
    (htx : ∀ x ∈ L, 0 < (tx x).length ∧ (tx x).length ≤ 100)
    (hT : ∀ x ∈ L, ∀ W, Below w.heap.size w W → Calls Tryz.prog 53 #[.agg #[.int .i64 x.1, .int .i64 x.2]] W fun e w' => e = .returned (.string ⟨(tx x).toArray⟩) ∧ Below W.heap.size W w') :
    Calls Tryz.prog 14 #[.agg #[.slice A L.length c]] w fun e w' => e = .returned (.string ⟨(joinT tx L).toArray⟩) ∧ Below w.heap.size w w' := by
  have hH := Lib.hid h
  have hpos : 0 < L.length := by cases L with | nil => exact absurd rfl h0 | cons x L => simp
  have hn0 : (L.length == 0) = false := by cases L with | nil => exact absurd rfl h0 | cons x L => simp
  have hn1 : ((L.length : Int) == 0) = false := by cases L with | nil => exact absurd rfl h0 | cons x L => simp; omega
  have HTX := Lib.hid htx
  have HT := Lib.hid hT
  clear h hT htx h0
  go_enter Tryz.func14, Tryz.ntmps14
  go_wp2
  go_loopw [4, 5, 13] (fun _ _ i wr => ∃ (k : Nat), k ≤ L.length ∧ i = .int .i64 k ∧ Lib.IsBuilder 114 5 (w.heap.size + 1) (w.heap.size + 1) (Lib.byteCells (joinT tx (L.take k))) wr ∧ Below (w.heap.size + 1) (w.alloc (.cells #[.slice A L.length c] 26)) wr) (fun _ _ i _ => L.length - (intOf i).toNat)
  case atStart => exact ⟨0, Nat.zero_le _, rfl, by have := Lib.fresh_isBuilder 114 5 (w.alloc (.cells #[.slice A L.length c] 26)); simpa [joinT_nil, Lib.byteCells] using this, by have := Below.alloc (Below.refl (w.heap.size + 1) (w.alloc (.cells #[.slice A L.length c] 26))) (by simp) (.cells #[.pointer none, .slice none 0 0] 114); exact this⟩
  case round =>
    obtain ⟨k, hk, rfl, hbd, hbw⟩ := hrel
    have hsz0 : w.heap.size + 1 ≤ wr.heap.size := by have := hbw.size; simpa using this
    have HBW : Hid (Below w.heap.size w wr) := (bel_alloc (Below.refl _ _) _ : Below w.heap.size w _).trans (hbw.mono (Nat.le_succ _))
    have HSP := Lib.hid (hH.out.below HBW.out)
    have HBR := Lib.hid hbw
    have hsz1 : w.heap.size + 1 < wr.heap.size := hbd.elim (fun h => h.lt) (fun h => h.lt)
    have HBD := Lib.hid hbd
    clear hbd hbw
    by_cases hlt : k < L.length
    · obtain ⟨b, off, e, hb, c1, c2⟩ := HSP.out.at_ hlt
      have hmem : L[k] ∈ L := List.getElem_mem hlt
      have HTk := Lib.hid (HT.out _ hmem)
      have htk := HTX.out _ hmem
      have HTK : Hid (L.take (k + 1) = L.take k ++ [L[k]]) := by simp only [Hid]; rw [List.take_add_one, List.getElem?_eq_getElem hlt]; rfl
      have hjl := joinT_length tx (L.take k) (fun x hx => (HTX.out x (List.mem_of_mem_take hx)).2)
      have hjl2 : (joinT tx (L.take k)).length ≤ 10100000 := by simp only [List.length_take] at hjl; omega
      clear hmem hjl
      have HJ : Hid (Lib.byteCells (joinT tx (L.take (k + 1))) = if k = 0 then Lib.strCells ⟨(tx L[k]).toArray⟩ else Lib.byteCells (joinT tx (L.take k)) ++ [.int .u8 44] ++ Lib.strCells ⟨(tx L[k]).toArray⟩) := by
        simp only [Hid]
        rw [HTK.out, joinT_snoc]
        by_cases hk0 : k = 0
        · rw [if_pos hk0, if_pos (by simp [hk0])]; rfl
        · rw [if_neg hk0, if_neg (by rw [List.length_take]; omega), Lib.byteCells_append]
          simp only [List.append_assoc, List.singleton_append]
          rfl
      clear HTK
      have hB0 : Hid (k = 0 → Lib.byteCells (joinT tx (L.take k)) = []) := by intro h; subst h; rfl
      obtain ⟨⟨x1, x2⟩, hx⟩ : ∃ x, L[k] = x := ⟨_, rfl⟩
      rw [hx] at c1 c2 HTk htk HJ
      clear hx
      obtain ⟨T, hTe⟩ : ∃ T, tx (x1, x2) = T := ⟨_, rfl⟩
      rw [hTe] at HTk htk HJ
      clear hTe
      simp only at c1 c2
      have hbl : (Lib.byteCells (joinT tx (L.take k))).length ≤ 10100000 := by rw [Lib.byteCells_length]; exact hjl2
      obtain ⟨bs, hbs⟩ : ∃ bs, Lib.byteCells (joinT tx (L.take k)) = bs := ⟨_, rfl⟩
      have hBDo := HBD.out
      rw [hbs] at hBDo HJ hB0 hbl
      have HBD' := Lib.hid hBDo
      clear hbs hBDo HBD hjl2
      subst e
      by_cases hk0 : k = 0
      · have HJ' : Hid (Lib.byteCells (joinT tx (L.take (k + 1))) = bs ++ Lib.strCells ⟨T.toArray⟩) := by
          simp only [Hid]; rw [HJ.out, if_pos hk0, hB0.out hk0]; rfl
        clear HJ hB0
        subst hk0
        simp only [Nat.zero_mul, Nat.add_zero] at c1 c2
        go_wp2_with fail
        refine (HTk.out _ (bel_alloc HBW.out _)).mono ?_
        rintro e1 w3 ⟨rfl, hb3⟩
        have HB3 := Lib.hid (bel_chain hb3 (bel_alloc (Below.refl _ _) _))
        clear hb3 HTk
        go_wp2_with fail
        refine (writeString_any (w.heap.size + 1) (w.heap.size + 1) bs _ _ (builder_below HBD'.out HB3.out) (by simp [ByteArray.size]; omega) (by have := HB3.out.size; omega)).mono ?_
        rintro e1 w4 ⟨rfl, hbd4, hb4, -⟩
        have HBD4 := Lib.hid hbd4
        have HB4 := Lib.hid hb4
        clear hbd4 hb4
        go_wp2_with fail
        go_roundw
        case rel => exact ⟨0 + 1, by omega, by go_num, by rw [HJ'.out]; exact .inr HBD4.out, (HBR.out.trans (HB3.out.mono (by omega))).trans HB4.out⟩
        case measure => simp [intOf]; omega
      · have HJ' : Hid (Lib.byteCells (joinT tx (L.take (k + 1))) = bs ++ [.int .u8 44] ++ Lib.strCells ⟨T.toArray⟩) := by
          simp only [Hid]; rw [HJ.out, if_neg hk0]
        clear HJ hB0
        go_wp2_with fail
        refine (writeByte_any (w.heap.size + 1) (w.heap.size + 1) bs 44 _ (builder_below HBD'.out (bel_alloc (Below.refl _ _) _)) (by omega) (by simp; omega)).mono ?_
        rintro e1 w2 ⟨rfl, hbd2, hb2, ho2⟩
        have hx2 : w2.heap[wr.heap.size]? = some (.cells #[.int .i64 x1, .int .i64 x2] 80) := ho2 _ _ (heap_alloc_new wr _) (by simp; omega) (by simp)
        have q1 : w2.cell? ⟨wr.heap.size, 0, none⟩ = some (.int .i64 x1) := by rw [Lib.cell_of_heap hx2]; rfl
        have q2 : w2.cell? ⟨wr.heap.size, 1, none⟩ = some (.int .i64 x2) := by rw [Lib.cell_of_heap hx2]; rfl
        have HBD2 := Lib.hid hbd2
        have HB2 : Hid (Below (w.heap.size + 1) wr w2) := ((Below.refl _ wr).alloc hsz0 _).trans hb2
        clear hbd2 hb2 ho2 hx2
        go_wp2_with fail
        refine (HTk.out _ (HBW.out.trans (HB2.out.mono (by omega)))).mono ?_
        rintro e1 w3 ⟨rfl, hb3⟩
        have HB3 := Lib.hid hb3
        clear hb3 HTk
        go_wp2_with fail
        refine (writeString_any (w.heap.size + 1) (w.heap.size + 1) (bs ++ [.int .u8 44]) _ _ (builder_below (.inr HBD2.out) HB3.out) (by simp [ByteArray.size]; omega) (by have := HB3.out.size; have := HB2.out.size; omega)).mono ?_
        rintro e1 w4 ⟨rfl, hbd4, hb4, -⟩
        have HBD4 := Lib.hid hbd4
        have HB4 := Lib.hid hb4
        clear hbd4 hb4
        go_wp2_with fail
        go_roundw
        case rel => exact ⟨k + 1, by omega, by go_num, by rw [HJ'.out]; exact .inr HBD4.out, ((HBR.out.trans HB2.out).trans (HB3.out.mono (by have := HB2.out.size; omega))).trans HB4.out⟩
        case measure => simp [intOf]; omega
    · have hBDo := HBD.out
      rw [take_all hlt] at hBDo
      have HBD' := Lib.hid hBDo
      clear hBDo HBD
      go_wp2_with fail
      refine (Tryz.Builder_String_any (w.heap.size + 1) (w.heap.size + 1) _ _ HBD'.out hsz0).mono ?_
      rintro e1 w4 ⟨rfl, hb4⟩
      have HB4 := Lib.hid hb4
      clear hb4
      go_wp2_with fail
      go_ret
      exact ⟨rfl, HBW.out.trans (HB4.out.mono (by omega))⟩
end Go.Proofs.YtbphndihjdiiiaaGreatDoor
namespace Go.Proofs.YtbphndihjdiiiaaGreatDoor
open Go.RowKit

theorem RetSp.of {L : List (Int × Int)} {w : World} {A : Option Addr} {c : Nat} {w' : World} (h : Own w' w.heap.size A c L) (hb : Below w.heap.size w w') : RetSp L w (.returned (.slice A L.length c)) w' := ⟨A, c, rfl, h, hb⟩

set_option maxHeartbeats 400000 in
theorem rOf_any (A : Option Addr) (c : Nat) (L : List (Int × Int)) (w : World) (h : Sp w A c L) (hl : L.length ≤ 100000) :
    Calls Tryz.prog 16 #[.slice A L.length c] w (RetSp (cano L) w) := by
  have hE := Lib.hid (rof_any A c L none 0 [] 1 w h (Sp.nil w) hl (by simp) (.inl rfl))
  clear h
  go_enter Tryz.func16, Tryz.ntmps16
  go_wp2_with fail
  refine hE.out.mono ?_
  rintro e w1 ⟨A1, c1, rfl, ho, hb⟩
  have HO := Lib.hid ho
  have HB := Lib.hid hb
  clear ho hb hE
  go_wp2_with fail
  go_ret
  exact RetSp.of HO.out HB.out

set_option maxHeartbeats 400000 in
theorem spans_any (A : Option Addr) (c : Nat) (L : List (Int × Int)) (w : World) (h : Sp w A c L) (hl : L.length ≤ 1000000) :
    Calls Tryz.prog 20 #[.agg #[.slice A L.length c]] w (RetSp L w) := by
  have hH := Lib.hid h
  clear h
  go_enter Tryz.func20, Tryz.ntmps20
  go_wp2_with (at_builtin; refine wpl_appendS (w0 := w) rfl (.const (.slice none 0 0)) (.tmp 4) rfl none 0 [] rfl (Own.nil _ _) A c L rfl (hH.out.alloc _) (by simp; omega) (bel_alloc (Below.refl _ _) _) ?_; intro A2 c2 w2 hown hbw _)
  have HO := Lib.hid hown
  have HB := Lib.hid hbw
  clear hown hbw
  go_ret
  simp only [List.length_nil, Nat.zero_add]
  exact RetSp.of HO.out HB.out

/-- The slices of a list in a row. -/
def RowSl (w : World) (g : Nat) (S : List (Option Addr × Nat × Nat)) : Prop := ∀ i x, S[i]? = some x → w.cell? ⟨g, i, none⟩ = some (.slice x.1 x.2.1 x.2.2)
def greatL (S : List (Option Addr × Nat × Nat)) : Bool := S.any fun x => decide (20 < x.2.1)

set_option maxHeartbeats 1000000 in
theorem great_any (g : Nat) (S : List (Option Addr × Nat × Nat)) (w : World) (h : RowSl w g S) (hl : S.length ≤ 1000) (hlen : ∀ x ∈ S, x.2.1 ≤ 9223372036854775807) :
    Calls Tryz.prog 11 #[.slice (some ⟨g, 0, none⟩) S.length S.length] w fun e w' => e = .returned (.bool (greatL S)) ∧ w' = w := by
  have hH := Lib.hid h
  have HL := Lib.hid hlen
  clear h hlen
  go_enter Tryz.func11, Tryz.ntmps11
  go_wp2
  go_loop [4, 7] (fun _ i => ∃ (k : Nat), k ≤ S.length ∧ i = .int .i64 k ∧ greatL (S.take k) = false) (fun _ i => S.length - (intOf i).toNat)
  case atStart => exact ⟨0, Nat.zero_le _, rfl, rfl⟩
  case round =>
    obtain ⟨k, hk, rfl, hg⟩ := hrel
    have HG := Lib.hid hg
    clear hg
    by_cases hlt : k < S.length
    · have HTK : Hid (S.take (k + 1) = S.take k ++ [S[k]]) := by simp only [Hid]; rw [List.take_add_one, List.getElem?_eq_getElem hlt]; rfl
      have HM : Hid (S[k] ∈ S) := List.getElem_mem hlt
      have c1 := hH.out k S[k] (List.getElem?_eq_getElem hlt)
      have hn := HL.out _ HM.out
      obtain ⟨⟨xa, xn, xc⟩, hx⟩ : ∃ x, S[k] = x := ⟨_, rfl⟩
      rw [hx] at c1 HTK HM hn
      simp only at c1 hn
      clear hx
      by_cases hq : 20 < xn
      · go_wp2_with fail
        go_ret
        refine ⟨ret_bool ?_, rfl⟩
        unfold greatL
        symm
        rw [List.any_eq_true]
        exact ⟨_, HM.out, by simpa using hq⟩
      · go_wp2_with fail
        go_round
        case rel =>
          refine ⟨k + 1, by omega, by go_num, ?_⟩
          rw [HTK.out]
          have := HG.out
          unfold greatL at this ⊢
          rw [List.any_append, this]
          simpa using hq
        case measure => simp [intOf]; omega
    · go_wp2_with fail
      go_ret
      refine ⟨ret_bool ?_, rfl⟩
      have := HG.out
      rw [List.take_of_length_le (by omega)] at this
      exact this.symm
end Go.Proofs.YtbphndihjdiiiaaGreatDoor
namespace Go.Proofs
open Go.Shelf
theorem Tryz.laysM246 : Go.Proofs.LaysM.n246 Tryz.prog Tryz.lays246_ren := { Tryz.lays246 with
  i0 := by kernel_rfl
  i2 := by kernel_rfl
  i3 := by kernel_rfl
  i4 := by kernel_rfl
  i5 := by kernel_rfl
  i9 := by kernel_rfl
  i20 := by kernel_rfl
  i37 := by kernel_rfl
  i46 := by kernel_rfl
  i51 := by kernel_rfl
  i53 := by kernel_rfl
  i171 := by kernel_rfl
  i173 := by kernel_rfl
  i212 := by kernel_rfl
  i232 := by kernel_rfl
  i233 := by kernel_rfl
  m17 := by kernel_rfl
  m18 := by kernel_rfl
  m19 := by kernel_rfl }
namespace YtbphndihjdiiiaaGreatDoor
open Go.Shelf Go.Sort
open Go.RowKit
theorem tab_below {P : Program} {w w' : World} {name : String} {k : IntKind} {zs : List Int} (h : Lib.TabIs P w name k zs) (hb : Below w.heap.size w w') : Lib.TabIs P w' name k zs := by
  unfold Lib.TabIs World.var? at *
  cases hg : P.globalNamed name with
  | none => rw [hg] at h; simp at h
  | some g =>
    rw [hg] at h
    simp only [Option.bind_some] at h ⊢
    have hlt : g < w.heap.size := by
      rcases Nat.lt_or_ge g w.heap.size with h' | h'
      · exact h'
      · rw [Array.getElem?_eq_none h'] at h; simp at h
    rw [hb.block g hlt]; exact h
theorem below_growQ (W : World) (q : Nat) (os : Array Obj) : Below W.heap.size W (grow (W.drewN q) os) := by
  refine ⟨rfl, rfl, rfl, ?_, fun k hk => ?_⟩
  · simp [grow]
  · rw [heap_grow_old _ _ (by simpa using hk)]; rfl
set_option maxHeartbeats 1000000 in
/-- A number's text, whatever the number. -/
theorem fmt_any (n : Int) (h0 : -9223372036854775808 ≤ n) (h1 : n ≤ 9223372036854775807) (w : World) (htab : Lib.TabIs Tryz.prog w "internal/strconv.uint64pow10" .u64 Lib.pow10Tab) :
    Calls Tryz.prog 100 #[.int .i64 n, .int .i64 10] w fun e w' => e = .returned (.string ⟨(Lib.itoa n).toArray⟩) ∧ Below w.heap.size w w' := by
  have hF := Any.internal_strconv_FormatInt_10 Tryz.laysM246 n h0 h1 w htab
  generalize (⟨(Lib.itoa n).toArray⟩ : ByteArray) = r at hF ⊢
  have HF := Lib.hid hF
  clear hF htab
  go_enter Tryz.func100, Tryz.ntmps100
  go_wp2_with fail
  refine HF.out.mono ?_
  rintro e w1 ⟨rfl, q, os, rfl⟩
  go_wp2_with fail
  go_ret
  exact ⟨rfl, below_growQ w q os⟩
end YtbphndihjdiiiaaGreatDoor
end Go.Proofs
namespace Go.Proofs.YtbphndihjdiiiaaGreatDoor
open Go.RowKit

theorem spCells_get (L : List (Int × Int)) (i : Nat) (x : Int × Int) (h : L[i]? = some x) : (spCells L)[i * 2]? = some (.int .i64 x.1) ∧ (spCells L)[i * 2 + 1]? = some (.int .i64 x.2) := by
  have := spCells_even L i x h
  rw [Nat.mul_comm] at this
  exact this
/-- A row of spans that was just laid. -/
theorem Sp.built (w : World) (L : List (Int × Int)) (T : TypeId) : Sp (w.alloc (.cells (spCells L).toArray T)) (some ⟨w.heap.size, 0, none⟩) L.length L :=
  ⟨Nat.le_refl _, (fun e => by cases e), fun _ => ⟨w.heap.size, 0, rfl, by simp, fun i x hx => by
    have := spCells_get L i x hx
    have hc : ∀ j, (w.alloc (.cells (spCells L).toArray T)).cell? ⟨w.heap.size, j, none⟩ = (spCells L)[j]? := fun j => by
      rw [Lib.cell_of_heap (heap_alloc_new w _)]; simp
    rw [hc, hc, Nat.zero_add]
    exact this⟩⟩

/-- The texts of small numbers. -/
def ntS (n : Int) : List UInt8 := if 0 ≤ n ∧ n < 100 then Lib.decDigits n.toNat else []
theorem ntS_len (n : Int) : (ntS n).length ≤ 40 := by
  unfold ntS
  split
  · rename_i h
    by_cases h1 : n.toNat < 10
    · rw [Lib.decDigits_one h1]; simp
    · rw [Lib.decDigits_two h1 (by omega)]; simp
  · simp
theorem ntS_fmt (n : Nat) (h : n < 100) (W : World) : Calls Tryz.prog 100 #[.int .i64 n, .int .i64 10] W fun e w' => e = .returned (.string ⟨(ntS n).toArray⟩) ∧ Below W.heap.size W w' := by
  have e1 : ntS n = Lib.decDigits n := by unfold ntS; rw [if_pos (by omega)]; simp
  rw [e1]
  refine (fmt_small n h W).mono ?_
  rintro e w' ⟨rfl, rfl⟩
  exact ⟨rfl, Below.refl _ _⟩

def wakeL : List (Int × Int) := [(0, 6), (9, 4611686018427387904)]
theorem wake_cano : cano [(9, 4611686018427387904), (0, 4), (4, 6)] = wakeL := by decide
theorem wake_text : joinT (spT ntS) wakeL = [48, 45, 54, 44, 57, 45] := by
  simp [joinT, spT, ntS, wakeL, Lib.decDigits_one]

theorem wake_spanText (x : Int × Int) (hx : x ∈ wakeL) (W : World) : Calls Tryz.prog 53 #[.agg #[.int .i64 x.1, .int .i64 x.2]] W fun e w' => e = .returned (.string ⟨(spT ntS x).toArray⟩) ∧ Below W.heap.size W w' := by
  simp [wakeL] at hx
  rcases hx with rfl | rfl
  · exact spanText_any ntS ntS_len 0 6 (by decide) W (fun W' _ => ntS_fmt 0 (by omega) W') (fun _ W' _ => ntS_fmt 6 (by omega) W')
  · exact spanText_any ntS ntS_len 9 4611686018427387904 (by decide) W (fun W' _ => ntS_fmt 9 (by omega) W') (fun h => by omega)
theorem wake_textAny (A : Option Addr) (c : Nat) (w : World) (h : Sp w A c wakeL) : Calls Tryz.prog 14 #[.agg #[.slice A 2 c]] w fun e w' => e = .returned (.string ⟨#[48, 45, 54, 44, 57, 45]⟩) ∧ Below w.heap.size w w' := by
  have := text_any (spT ntS) A c wakeL w h (by decide) (by decide) (fun x hx => by simp [wakeL] at hx; rcases hx with rfl | rfl <;> simp [spT, ntS, Lib.decDigits_one]) (fun x hx W _ => wake_spanText x hx W)
  rw [wake_text] at this
  exact this
theorem wake_first : firstL wakeL 7 = some (9, 4611686018427387904) := by decide

set_option maxHeartbeats 2000000 in
set_option maxRecDepth 100000 in
theorem wakes_any (w : World) : Calls Tryz.prog 10 #[] w fun e w' => e = .returned (.bool true) ∧ Below w.heap.size w w' := by
  have HO := fun W h => Lib.hid (of_any (some ⟨w.heap.size, 0, none⟩) 3 [(9, 4611686018427387904), (0, 4), (4, 6)] W h (by decide))
  rw [wake_cano] at HO
  go_enter Tryz.func10, Tryz.ntmps10
  go_wp2_with fail
  refine (HO _ (Sp.built w [(9, 4611686018427387904), (0, 4), (4, 6)] _)).out.mono ?_
  rintro e w2 ⟨A, c, rfl, hsp, hb2⟩
  have HS := Lib.hid hsp
  have HB2 := Lib.hid (bel_chain hb2 (bel_alloc (Below.refl _ _) _))
  have HF := fun W h => Lib.hid (first_any A c wakeL 7 W h (wake_cano ▸ cano_canon _) (by decide))
  clear hsp hb2 HO
  have ewl : wakeL.length = 2 := rfl
  rw [ewl] at *
  go_wp2_with fail
  refine (HF _ (HS.out.alloc _)).out.mono ?_
  rintro e w3 ⟨rfl, hb3⟩
  rw [wake_first]
  have q1 : w3.cell? ⟨w2.heap.size, 0, none⟩ = some (.slice A 2 c) := cell_keep hb3 (by simp [go_sem])
  have l1 : w2.heap.size < w3.heap.size := World.block_lt_of_cell? w3 ⟨w2.heap.size, 0, none⟩ q1
  have HB3 := Lib.hid (bel_chain hb3 (bel_alloc HB2.out _))
  have HS3 := Lib.hid ((HS.out.alloc _).below hb3)
  clear hb3 HF HS
  simp only [Option.getD_some, Option.isSome_some]
  go_wp2_with fail
  refine (spans_any A c wakeL _ (HS3.out.alloc _) (by decide)).mono ?_
  rintro e w4 ⟨A4, c4, rfl, ho4, hb4⟩
  have q2 : w4.cell? ⟨w2.heap.size, 0, none⟩ = some (.slice A 2 c) := cell_keep hb4 (by simp [go_sem, q1, l1])
  have q3 : w4.cell? ⟨w3.heap.size, 0, none⟩ = some (.int .i64 9) := cell_keep hb4 (by simp [go_sem])
  have l2 : w2.heap.size < w4.heap.size := World.block_lt_of_cell? w4 ⟨w2.heap.size, 0, none⟩ q2
  have l3 : w3.heap.size < w4.heap.size := World.block_lt_of_cell? w4 ⟨w3.heap.size, 0, none⟩ q3
  have HB4 := Lib.hid (bel_chain hb4 (bel_alloc HB3.out _))
  have HS4 := Lib.hid ((HS3.out.alloc _).below hb4)
  have HR4 := Lib.hid (Own.sp ho4)
  clear hb4 ho4 HS3 q1 l1
  rw [show wakeL.length = 2 from rfl]
  go_wp2_with fail
  refine (rlist_any A4 c4 wakeL (some ⟨w4.heap.size, 0, none⟩) 2 wakeL _ (HR4.out.alloc _) (Sp.built w4 wakeL _) (by decide)).mono ?_
  rintro e w5 ⟨rfl, n, rfl⟩
  have ht : decide (wakeL = wakeL) = true := by simp
  rw [ht]
  clear ht HR4
  go_wp2_with fail
  refine (wake_textAny A c _ ((HS4.out.alloc _).drewN _)).mono ?_
  rintro e w6 ⟨rfl, hb6⟩
  have HB6 := Lib.hid (bel_chain hb6 (bel_drewN (bel_alloc HB4.out _) _))
  clear hb6
  go_wp2_with fail
  go_ret
  exact ⟨rfl, HB6.out⟩
end Go.Proofs.YtbphndihjdiiiaaGreatDoor
namespace Go.Proofs.YtbphndihjdiiiaaGreatDoor
open Go.RowKit

theorem great1_any (A : Option Addr) (n c g : Nat) (w : World) (h : w.cell? ⟨g, 0, none⟩ = some (.slice A n c)) (hn : n ≤ 9223372036854775807) :
    Calls Tryz.prog 11 #[.slice (some ⟨g, 0, none⟩) 1 1] w fun e w' => e = .returned (.bool (decide (20 < n))) ∧ w' = w := by
  have := great_any g [(A, n, c)] w (fun i x hx => by
    cases i with
    | zero => simp at hx; subst hx; exact h
    | succ i => simp at hx) (by simp) (fun x hx => by simp at hx; subst hx; exact hn)
  simpa [greatL] using this


end Go.Proofs.YtbphndihjdiiiaaGreatDoor
