/- Contract of a set's text. -/
import Derived.Test.YtfpfdgljhcpkpaaDoorB11
namespace Go.Proofs.YtfpfdgljhcpkpaaDoor
open Go.RowKit

set_option maxHeartbeats 2000000 in
set_option maxRecDepth 100000 in
theorem text_any (tx : Int × Int → List UInt8) (A : Option Addr) (c : Nat) (L : List (Int × Int)) (w : World) (h : Sp w A c L) (hl : L.length ≤ 100000) (h0 : L ≠ [])
    (htx : ∀ x ∈ L, 0 < (tx x).length ∧ (tx x).length ≤ 100)
    (hT : ∀ x ∈ L, ∀ W, Below w.heap.size w W → Calls Tryd.prog 83 #[.agg #[.int .i64 x.1, .int .i64 x.2]] W fun e w' => e = .returned (.string ⟨(tx x).toArray⟩) ∧ Below W.heap.size W w') :
    Calls Tryd.prog 47 #[.agg #[.slice A L.length c]] w fun e w' => e = .returned (.string ⟨(joinT tx L).toArray⟩) ∧ Below w.heap.size w w' := by
  have hH := Lib.hid h
  have hpos : 0 < L.length := by cases L with | nil => exact absurd rfl h0 | cons x L => simp
  have hn0 : (L.length == 0) = false := by cases L with | nil => exact absurd rfl h0 | cons x L => simp
  have hn1 : ((L.length : Int) == 0) = false := by cases L with | nil => exact absurd rfl h0 | cons x L => simp; omega
  have HTX := Lib.hid htx
  have HT := Lib.hid hT
  clear h hT htx h0
  go_enter Tryd.func47, Tryd.ntmps47
  go_wp2
  go_loopw [4, 5, 13] (fun _ _ i wr => ∃ (k : Nat), k ≤ L.length ∧ i = .int .i64 k ∧ Lib.IsBuilder 137 5 (w.heap.size + 1) (w.heap.size + 1) (Lib.byteCells (joinT tx (L.take k))) wr ∧ Below (w.heap.size + 1) (w.alloc (.cells #[.slice A L.length c] 29)) wr) (fun _ _ i _ => L.length - (intOf i).toNat)
  case atStart => exact ⟨0, Nat.zero_le _, rfl, by have := Lib.fresh_isBuilder 137 5 (w.alloc (.cells #[.slice A L.length c] 29)); simpa [joinT_nil, Lib.byteCells] using this, by have := Below.alloc (Below.refl (w.heap.size + 1) (w.alloc (.cells #[.slice A L.length c] 29))) (by simp) (.cells #[.pointer none, .slice none 0 0] 137); exact this⟩
  case round =>
    obtain ⟨k, hk, rfl, hbd, hbw⟩ := hrel
    have hsz0 : w.heap.size + 1 ≤ wr.heap.size := by have := hbw.size; simpa using this
    have HBW : Hid (Below w.heap.size w wr) := (bel_alloc (Below.refl _ _) _ : Below w.heap.size w _).trans (hbw.mono (Nat.le_succ _))
    have HSP := Lib.hid (hH.out.below HBW.out)
    have HBR := Lib.hid hbw
    have hsz1 : w.heap.size + 1 < wr.heap.size := hbd.elim (fun h => h.lt) (fun h => h.lt)
    have HBD := Lib.hid hbd
    clear hbd hbw
    by_cases hlt : k < L.length
    · obtain ⟨b, off, e, hb, c1, c2⟩ := HSP.out.at_ hlt
      have hmem : L[k] ∈ L := List.getElem_mem hlt
      have HTk := Lib.hid (HT.out _ hmem)
      have htk := HTX.out _ hmem
      have HTK : Hid (L.take (k + 1) = L.take k ++ [L[k]]) := by simp only [Hid]; rw [List.take_add_one, List.getElem?_eq_getElem hlt]; rfl
      have hjl := joinT_length tx (L.take k) (fun x hx => (HTX.out x (List.mem_of_mem_take hx)).2)
      have hjl2 : (joinT tx (L.take k)).length ≤ 10100000 := by simp only [List.length_take] at hjl; omega
      clear hmem hjl
      have HJ : Hid (Lib.byteCells (joinT tx (L.take (k + 1))) = if k = 0 then Lib.strCells ⟨(tx L[k]).toArray⟩ else Lib.byteCells (joinT tx (L.take k)) ++ [.int .u8 44] ++ Lib.strCells ⟨(tx L[k]).toArray⟩) := by
        simp only [Hid]
        rw [HTK.out, joinT_snoc]
        by_cases hk0 : k = 0
        · rw [if_pos hk0, if_pos (by simp [hk0])]; rfl
        · rw [if_neg hk0, if_neg (by rw [List.length_take]; omega), Lib.byteCells_append]
          simp only [List.append_assoc, List.singleton_append]
          rfl
      clear HTK
      have hB0 : Hid (k = 0 → Lib.byteCells (joinT tx (L.take k)) = []) := by intro h; subst h; rfl
      obtain ⟨⟨x1, x2⟩, hx⟩ : ∃ x, L[k] = x := ⟨_, rfl⟩
      rw [hx] at c1 c2 HTk htk HJ
      clear hx
      obtain ⟨T, hTe⟩ : ∃ T, tx (x1, x2) = T := ⟨_, rfl⟩
      rw [hTe] at HTk htk HJ
      clear hTe
      simp only at c1 c2
      have hbl : (Lib.byteCells (joinT tx (L.take k))).length ≤ 10100000 := by rw [Lib.byteCells_length]; exact hjl2
      obtain ⟨bs, hbs⟩ : ∃ bs, Lib.byteCells (joinT tx (L.take k)) = bs := ⟨_, rfl⟩
      have hBDo := HBD.out
      rw [hbs] at hBDo HJ hB0 hbl
      have HBD' := Lib.hid hBDo
      clear hbs hBDo HBD hjl2
      subst e
      by_cases hk0 : k = 0
      · have HJ' : Hid (Lib.byteCells (joinT tx (L.take (k + 1))) = bs ++ Lib.strCells ⟨T.toArray⟩) := by
          simp only [Hid]; rw [HJ.out, if_pos hk0, hB0.out hk0]; rfl
        clear HJ hB0
        subst hk0
        simp only [Nat.zero_mul, Nat.add_zero] at c1 c2
        go_wp2_with fail
        refine (HTk.out _ (bel_alloc HBW.out _)).mono ?_
        rintro e1 w3 ⟨rfl, hb3⟩
        have HB3 := Lib.hid (bel_chain hb3 (bel_alloc (Below.refl _ _) _))
        clear hb3 HTk
        go_wp2_with fail
        refine (writeString_any (w.heap.size + 1) (w.heap.size + 1) bs _ _ (builder_below HBD'.out HB3.out) (by simp [ByteArray.size]; omega) (by have := HB3.out.size; omega)).mono ?_
        rintro e1 w4 ⟨rfl, hbd4, hb4, -⟩
        have HBD4 := Lib.hid hbd4
        have HB4 := Lib.hid hb4
        clear hbd4 hb4
        go_wp2_with fail
        go_roundw
        case rel => exact ⟨0 + 1, by omega, by go_num, by rw [HJ'.out]; exact .inr HBD4.out, (HBR.out.trans (HB3.out.mono (by omega))).trans HB4.out⟩
        case measure => simp [intOf]; omega
      · have HJ' : Hid (Lib.byteCells (joinT tx (L.take (k + 1))) = bs ++ [.int .u8 44] ++ Lib.strCells ⟨T.toArray⟩) := by
          simp only [Hid]; rw [HJ.out, if_neg hk0]
        clear HJ hB0
        go_wp2_with fail
        refine (writeByte_any (w.heap.size + 1) (w.heap.size + 1) bs 44 _ (builder_below HBD'.out (bel_alloc (Below.refl _ _) _)) (by omega) (by simp; omega)).mono ?_
        rintro e1 w2 ⟨rfl, hbd2, hb2, ho2⟩
        have hx2 : w2.heap[wr.heap.size]? = some (.cells #[.int .i64 x1, .int .i64 x2] 48) := ho2 _ _ (heap_alloc_new wr _) (by simp; omega) (by simp)
        have q1 : w2.cell? ⟨wr.heap.size, 0, none⟩ = some (.int .i64 x1) := by rw [Lib.cell_of_heap hx2]; rfl
        have q2 : w2.cell? ⟨wr.heap.size, 1, none⟩ = some (.int .i64 x2) := by rw [Lib.cell_of_heap hx2]; rfl
        have HBD2 := Lib.hid hbd2
        have HB2 : Hid (Below (w.heap.size + 1) wr w2) := ((Below.refl _ wr).alloc hsz0 _).trans hb2
        clear hbd2 hb2 ho2 hx2
        go_wp2_with fail
        refine (HTk.out _ (HBW.out.trans (HB2.out.mono (by omega)))).mono ?_
        rintro e1 w3 ⟨rfl, hb3⟩
        have HB3 := Lib.hid hb3
        clear hb3 HTk
        go_wp2_with fail
        refine (writeString_any (w.heap.size + 1) (w.heap.size + 1) (bs ++ [.int .u8 44]) _ _ (builder_below (.inr HBD2.out) HB3.out) (by simp [ByteArray.size]; omega) (by have := HB3.out.size; have := HB2.out.size; omega)).mono ?_
        rintro e1 w4 ⟨rfl, hbd4, hb4, -⟩
        have HBD4 := Lib.hid hbd4
        have HB4 := Lib.hid hb4
        clear hbd4 hb4
        go_wp2_with fail
        go_roundw
        case rel => exact ⟨k + 1, by omega, by go_num, by rw [HJ'.out]; exact .inr HBD4.out, ((HBR.out.trans HB2.out).trans (HB3.out.mono (by have := HB2.out.size; omega))).trans HB4.out⟩
        case measure => simp [intOf]; omega
    · have hBDo := HBD.out
      rw [take_all hlt] at hBDo
      have HBD' := Lib.hid hBDo
      clear hBDo HBD
      go_wp2_with fail
      refine (Tryd.Builder_String_any (w.heap.size + 1) (w.heap.size + 1) _ _ HBD'.out hsz0).mono ?_
      rintro e1 w4 ⟨rfl, hb4⟩
      have HB4 := Lib.hid hb4
      clear hb4
      go_wp2_with fail
      go_ret
      exact ⟨rfl, HBW.out.trans (HB4.out.mono (by omega))⟩
end Go.Proofs.YtfpfdgljhcpkpaaDoor
