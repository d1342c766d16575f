/- Contract of multi.Range. Printed by gen_l11.py. -/
import Derived.Test.YtaaefgieklkekaaGreatDoorZL10
import Derived.Test.YtaaefgieklkekaaGreatDoorZLaidC
import Derived.Test.YtaaefgieklkekaaGreatDoorZLaid5
import Derived.Test.YtaaefgieklkekaaGreatDoorZI19
import Derived.Test.YtaaefgieklkekaaGreatDoorZI14
namespace Go.Proofs.YtaaefgieklkekaaGreatDoor
open Go.RowKit

/-- What is laid for texts that are read. -/
structure EnvR (w : World) : Prop where
  env : Env w
  errs : ErrsOk w
  max : ∃ m, w.cell? ⟨0, 0, none⟩ = some (.int .i64 m)
theorem EnvR.below {w w' : World} (h : EnvR w) (hb : Below w.heap.size w w') : EnvR w' := ⟨h.env.below hb, h.errs.below hb, h.max.imp fun _ x => cell_keep hb x⟩
theorem cutp_any (l p : List UInt8) (w : World) : Calls Tryz.prog 77 #[.string ⟨l.toArray⟩, .string ⟨p.toArray⟩] w fun e w' => e = .returned (.tuple #[.string ⟨(Lib.trimPrefix l p).toArray⟩, .bool (Lib.hasPrefix l p)]) ∧ w' = w :=
  Tryz.strings_CutPrefix ⟨l.toArray⟩ ⟨p.toArray⟩ w
theorem cutw_any (l p : List UInt8) (w : World) (hl : l.length ≤ 1000000) (hE : EnvR w) : Calls Tryz.prog 78 #[.string ⟨l.toArray⟩, .string ⟨p.toArray⟩] w fun e w' => e = .returned (.tuple #[.string ⟨(Lib.cut l p).1.toArray⟩, .string ⟨(Lib.cut l p).2.1.toArray⟩, .bool (Lib.cut l p).2.2]) ∧ Below w.heap.size w w' := by
  obtain ⟨m, hm⟩ := hE.max
  refine (Tryz.strings_Cut ⟨l.toArray⟩ ⟨p.toArray⟩ m w (by rw [ba_size]; omega) hm).mono ?_
  rintro e w' ⟨rfl, n, rfl⟩
  exact ⟨rfl, bel_drewN (Below.refl _ _) n⟩
theorem cut_len1 (l p : List UInt8) : (Lib.cut l p).1.length ≤ l.length := by
  unfold Lib.cut; split
  · simp only [List.length_take]; omega
  · simp
theorem cut_len2 (l p : List UInt8) : (Lib.cut l p).2.1.length ≤ l.length := by
  unfold Lib.cut; split
  · simp only [List.length_drop]; omega
  · simp
theorem trimp_len (l p : List UInt8) : (Lib.trimPrefix l p).length ≤ l.length := by
  unfold Lib.trimPrefix; split
  · simp only [List.length_drop]; omega
  · simp
theorem tail_len {s : List UInt8} {x : Int × Int} {t : Int} (h : RangeOf s x t) : (tailT t).length ≤ 20 := by
  have hi := range_in h
  unfold tailT
  split
  · simp
  · have := digN_len' (n := t) (by omega); omega
def ReadPost (l : List UInt8) (w : World) (e : Ending) (w' : World) : Prop := ∃ o, ReadOf l o ∧ e = .returned (rangeV o) ∧ Below w.heap.size w w'
theorem read_yes {l : List UInt8} {x : Int × Int} {t : Int} {w w' : World} {e : Ending} (h : RangeOf l x t) (he : e = .returned (.tuple #[.agg #[.int .i64 x.1, .int .i64 x.2], .int .i64 t, .int .i64 0])) (hb : Below w.heap.size w w') : ReadPost l w e w' := ⟨some (x, t), readOf_some h, he, hb⟩
theorem read_no {l : List UInt8} {w w' : World} {e : Ending} (h : ∀ x t, ¬ RangeOf l x t) (he : e = .returned (.tuple #[.agg #[.int .i64 0, .int .i64 0], .int .i64 0, .int .i64 2])) (hb : Below w.heap.size w w') : ReadPost l w e w' := ⟨none, readOf_none h, he, hb⟩
/-- The two boxes of the walk: what is handed back, the span. -/
structure RgSt (w : World) (X : Nat) (a b : Int) (W : World) : Prop where
  x : W.heap[X]? = some (.cells #[.int .i64 a, .int .i64 b] 55 (0, 0))
  z : W.heap[w.heap.size]? = some (.cells #[.int .i64 0, .int .i64 0] 55 (0, 0))
  ne : w.heap.size < X
  bel : Below w.heap.size w W
theorem RgSt.below {w W W' : World} {X : Nat} {a b : Int} (h : RgSt w X a b W) (hb : Below W.heap.size W W') : RgSt w X a b W' := ⟨blk_keep hb h.x, blk_keep hb h.z, h.ne, bel_chain hb h.bel⟩
theorem RgSt.set0 {w W : World} {X : Nat} {a b : Int} (h : RgSt w X a b W) (v : Int) : RgSt w X v b (W.setCell ⟨X, 0, none⟩ (.int .i64 v)) := ⟨blk_set h.x, blk_set_ne (Nat.ne_of_lt h.ne) h.z, h.ne, bel_set h.bel (Nat.le_of_lt h.ne) _⟩
theorem RgSt.set1 {w W : World} {X : Nat} {a b : Int} (h : RgSt w X a b W) (v : Int) : RgSt w X a v (W.setCell ⟨X, 1, none⟩ (.int .i64 v)) := ⟨blk_set h.x, blk_set_ne (Nat.ne_of_lt h.ne) h.z, h.ne, bel_set h.bel (Nat.le_of_lt h.ne) _⟩
set_option maxHeartbeats 8000000 in
set_option maxRecDepth 100000 in
theorem mrange_yes (l : List UInt8) (f t n : Int) (w : World) (hl : l.length ≤ 100000) (henv : EnvR w) (h : RangeOf l (f, t) n) :
    Calls Tryz.prog 75 #[.string ⟨l.toArray⟩] w (ReadPost l w) := by
  have hi := range_in h
  have hc := range_cut h
  have hn := range_nums h
  have htl := tail_len h
  have hd1 := digN_len' (n := f) (by have := hi; simp only at this; omega)
  have hd2 := digN_len' (n := t - 1) (by have := hi; simp only at this; omega)
  simp only at hi hc hn
  have HPOST : Hid (∀ W, Below w.heap.size w W → ReadPost l w (.returned (.tuple #[.agg #[.int .i64 f, .int .i64 t], .int .i64 n, .int .i64 0])) W) := fun W hb => read_yes h rfl hb
  have hne : l ≠ [] := by rw [h.2]; intro e; rw [contT_ne, h.1] at e; cases e
  have HCN : ∀ W, EnvR W → Hid (Calls Tryz.prog 101 #[.agg #[.int .i64 f, .int .i64 t], .int .i64 n] W fun e w' => e = .returned (.string ⟨l.toArray⟩) ∧ Below W.heap.size W w') := fun W hE => by
    have h1 := content_any f t n W hE.env.tab (by omega) (by omega)
    rw [← h.2] at h1
    exact Lib.hid h1
  have HP : Hid (∀ W, Calls Tryz.prog 77 #[.string ⟨l.toArray⟩, .string ⟨#[98, 121, 116, 101, 115, 32]⟩] W fun e w' => e = .returned (.tuple #[.string ⟨(Lib.trimPrefix l vBytes).toArray⟩, .bool (Lib.hasPrefix l vBytes)]) ∧ w' = W) := fun W => cutp_any l vBytes W
  have HC1 : ∀ W, EnvR W → Hid (Calls Tryz.prog 78 #[.string ⟨(Lib.trimPrefix l vBytes).toArray⟩, .string ⟨#[47]⟩] W fun e w' => e = .returned (.tuple #[.string ⟨(digN f ++ 45 :: digN (t - 1)).toArray⟩, .string ⟨(tailT n).toArray⟩, .bool true]) ∧ Below W.heap.size W w') := fun W hE => by
    have h1 := cutw_any (Lib.trimPrefix l vBytes) [47] W (by have := trimp_len l vBytes; omega) hE
    rw [hc.1] at h1
    exact Lib.hid h1
  have HC2 : ∀ W, EnvR W → Hid (Calls Tryz.prog 78 #[.string ⟨(digN f ++ 45 :: digN (t - 1)).toArray⟩, .string ⟨#[45]⟩] W fun e w' => e = .returned (.tuple #[.string ⟨(digN f).toArray⟩, .string ⟨(digN (t - 1)).toArray⟩, .bool true]) ∧ Below W.heap.size W w') := fun W hE => by
    have h1 := cutw_any (digN f ++ 45 :: digN (t - 1)) [45] W (by simp only [List.length_append, List.length_cons]; omega) hE
    rw [hc.2] at h1
    exact Lib.hid h1
  have HN1 := fun W => Lib.hid (parseInt_some hn.1 W (by omega))
  have HN2 := fun W => Lib.hid (parseInt_some hn.2.1 W (by omega))
  have HN3 := fun (hne : n ≠ -1) W => Lib.hid (parseInt_some (hn.2.2 hne).1 W (by omega))
  have HT : Hid ((n = -1 ∧ tailT n = [42]) ∨ (n ≠ -1 ∧ tailT n ≠ [42])) := by
    simp only [Hid]
    by_cases e : n = -1
    · left; exact ⟨e, by rw [e]; rfl⟩
    · right; exact ⟨e, (hn.2.2 e).2⟩
  have HE := Lib.hid henv
  have hlne : l.isEmpty = false := by cases l with | nil => exact absurd rfl hne | cons a b => rfl
  obtain ⟨rs, hrs⟩ : ∃ r, Lib.trimPrefix l vBytes = r := ⟨_, rfl⟩
  obtain ⟨rb, hrb⟩ : ∃ r, Lib.hasPrefix l vBytes = r := ⟨_, rfl⟩
  obtain ⟨en, hen⟩ : ∃ r, digN f ++ 45 :: digN (t - 1) = r := ⟨_, rfl⟩
  obtain ⟨fr, hfr⟩ : ∃ r, digN f = r := ⟨_, rfl⟩
  obtain ⟨la, hla⟩ : ∃ r, digN (t - 1) = r := ⟨_, rfl⟩
  obtain ⟨al, hal⟩ : ∃ r, tailT n = r := ⟨_, rfl⟩
  obtain ⟨q, hq⟩ : ∃ q, t - 1 = q := ⟨_, rfl⟩
  rw [hrs, hrb] at HP
  simp only [hrs, hen, hal] at HC1
  simp only [hen] at HC2
  simp only [hfr, hla] at HC2
  simp only [hfr] at HN1
  simp only [hla] at HN2
  simp only [hq] at HN2
  simp only [hal] at HN3 HT
  have hq1 : q + 1 = t := by omega
  have hqw : IntKind.i64.wrap (q + 1) = t := by rw [hq1]; exact IntWalk.i64_in _ (by omega)
  have hq2 : ¬ (4611686018427387903 : Int) ≤ q := by omega
  clear h hc hn hne henv hl hrs hrb hen hfr hla hal hd1 hd2 htl hi hq1 hq
  go_enter Tryz.func75, Tryz.ntmps75
  go_upto_region 2 with (go_at_call 77; refine (HP.out _).mono ?_; rintro e w1 ⟨rfl, rfl⟩)
  obtain ⟨W0, hW0⟩ : ∃ W, w.alloc (.cells #[.int .i64 0, .int .i64 0] 55) = W := ⟨_, rfl⟩
  have HZ0 : Hid (W0.heap[w.heap.size]? = some (.cells #[.int .i64 0, .int .i64 0] 55 (0, 0))) := by simp only [Hid]; rw [← hW0]; exact blk_new rfl
  have HB0 : Hid (Below w.heap.size w W0) := by simp only [Hid]; rw [← hW0]; exact bel_alloc (Below.refl _ _) _
  rw [hW0]
  clear hW0
  go_upto_region 3 with (go_at_call 78; refine (HC1 _ (HE.out.below HB0.out)).out.mono ?_; rintro e w2 ⟨rfl, hb2⟩)
  have HZ2 := Lib.hid (blk_keep hb2 HZ0.out)
  have HB2 := Lib.hid (bel_chain hb2 HB0.out)
  clear hb2
  go_upto_region 4 with (go_at_call 78; refine (HC2 _ (HE.out.below HB2.out)).out.mono ?_; rintro e w3 ⟨rfl, hb3⟩)
  obtain ⟨W4, hW4⟩ : ∃ W, w3.alloc (.cells #[.int .i64 0, .int .i64 0] 55) = W := ⟨_, rfl⟩
  have HX4 : Hid (W4.heap[w3.heap.size]? = some (.cells #[.int .i64 0, .int .i64 0] 55 (0, 0))) := by simp only [Hid]; rw [← hW4]; exact blk_new rfl
  have HZ4 : Hid (W4.heap[w.heap.size]? = some (.cells #[.int .i64 0, .int .i64 0] 55 (0, 0))) := by simp only [Hid]; rw [← hW4]; exact blk_skip (blk_keep hb3 HZ2.out)
  have HB4 : Hid (Below w.heap.size w W4) := by simp only [Hid]; rw [← hW4]; exact bel_alloc (bel_chain hb3 HB2.out) _
  have hlt := blk_lt (blk_keep hb3 HZ2.out)
  go_upto_region 6 with fail
  try rw [hW4]
  obtain ⟨X, hX⟩ : ∃ X, w3.heap.size = X := ⟨_, rfl⟩
  rw [hX] at HX4 hlt ⊢
  have hle : w.heap.size ≤ X := by omega
  have HNE : Hid (w.heap.size ≠ X) := by simp only [Hid]; omega
  have HLE := Lib.hid hle
  clear hW4 hX hb3 HZ0 HB0 HZ2 HB2 hlt hle
  have HS4 : Hid (RgSt w X 0 0 W4) := ⟨HX4.out, HZ4.out, Nat.lt_of_le_of_ne HLE.out HNE.out, HB4.out⟩
  clear HX4 HZ4 HB4 HLE HNE
  have x0 := blk_cell (i := 0) HS4.out.x rfl
  have xf0 := blk_frozen (i := 0) HS4.out.x
  have xz := blk_lt HS4.out.x
  go_upto_region 7 with (first
    | (go_at_call 121; refine (HN1 _).out.mono ?_; rintro e w5 ⟨rfl, hb5⟩
       have y0 := blk_frozen (i := 0) (blk_keep hb5 HS4.out.x)
       have y1 := blk_cell (i := 0) (blk_keep hb5 HS4.out.x) rfl
       have yz := blk_lt (blk_keep hb5 HS4.out.x)))
  have HS5 := Lib.hid (HS4.out.below hb5)
  clear x0 xf0 xz hb5 y0 y1 yz HS4
  obtain ⟨W6, hWn⟩ : ∃ W, w5.setCell ⟨X, 0, none⟩ (.int .i64 f) = W := ⟨_, rfl⟩
  have HS6 : Hid (RgSt w X f 0 W6) := by simp only [Hid]; rw [← hWn]; exact HS5.out.set0 _
  rw [hWn]
  clear hWn
  have x1 := blk_cell (i := 1) HS6.out.x rfl
  have xf1 := blk_frozen (i := 1) HS6.out.x
  have xz := blk_lt HS6.out.x
  go_upto_region 10 with (first
    | (go_at_call 121; refine (HN2 _).out.mono ?_; rintro e w7 ⟨rfl, hb7⟩
       have y0 := blk_frozen (i := 1) (blk_keep hb7 HS6.out.x)
       have y1 := blk_cell (i := 1) (blk_keep hb7 HS6.out.x) rfl
       have yz := blk_lt (blk_keep hb7 HS6.out.x)))
  have HS7 := Lib.hid (HS6.out.below hb7)
  clear x1 xf1 xz hb7 y0 y1 yz HS6 HS5
  obtain ⟨W8, hWn⟩ : ∃ W, w7.setCell ⟨X, 1, none⟩ (.int .i64 q) = W := ⟨_, rfl⟩
  have HS8 : Hid (RgSt w X f q W8) := by simp only [Hid]; rw [← hWn]; exact HS7.out.set1 _
  rw [hWn]
  clear hWn
  have x1 := blk_cell (i := 1) HS8.out.x rfl
  have xf1 := blk_frozen (i := 1) HS8.out.x
  have xz := blk_lt HS8.out.x
  go_upto_region 14 with fail
  clear x1 xf1 xz HS7
  obtain ⟨W9, hWn⟩ : ∃ W, W8.setCell ⟨X, 1, none⟩ (.int .i64 t) = W := ⟨_, rfl⟩
  have HS9 : Hid (RgSt w X f t W9) := by simp only [Hid]; rw [← hWn]; exact HS8.out.set1 _
  rw [hWn]
  clear hWn
  clear HS8
  rcases HT.out with ⟨hn1, ha⟩ | ⟨hn1, ha⟩
  · subst hn1 ha
    have x0 := blk_cell (i := 0) HS9.out.x rfl
    have xf0 := blk_frozen (i := 0) HS9.out.x
    have x1 := blk_cell (i := 1) HS9.out.x rfl
    have xf1 := blk_frozen (i := 1) HS9.out.x
    have xz := blk_lt HS9.out.x
    go_upto_region 19 with (first
      | (go_at_call 101; refine (HCN _ (HE.out.below HS9.out.bel)).out.mono ?_; rintro e w10 ⟨rfl, hb10⟩))
    have HS10 := Lib.hid (HS9.out.below hb10)
    clear x0 xf0 x1 xf1 xz hb10 HS9
    have x0 := blk_cell (i := 0) HS10.out.x rfl
    have xf0 := blk_frozen (i := 0) HS10.out.x
    have x1 := blk_cell (i := 1) HS10.out.x rfl
    have xf1 := blk_frozen (i := 1) HS10.out.x
    have xz := blk_lt HS10.out.x
    have z0 := blk_cell (i := 0) HS10.out.z rfl
    have zf0 := blk_frozen (i := 0) HS10.out.z
    have z1 := blk_cell (i := 1) HS10.out.z rfl
    have zf1 := blk_frozen (i := 1) HS10.out.z
    have zz := blk_lt HS10.out.z
    go_wp2_with fail
    refine bodyPost_ret (by simp [results, Tryz.results75, go_sem, z0, z1]; try rfl) rfl ?_
    exact HPOST.out _ (bel_set (bel_set HS10.out.bel (Nat.le_refl _) _) (Nat.le_refl _) _)
  · have hab : (al == [42]) = false := by rw [beq_eq_false_iff_ne]; exact ha
    go_upto_region 16 with (first
      | (go_at_call 121; refine (HN3 hn1 _).out.mono ?_; rintro e w10 ⟨rfl, hb10⟩))
    have HS10 := Lib.hid (HS9.out.below hb10)
    clear hb10 HS9
    have x0 := blk_cell (i := 0) HS10.out.x rfl
    have xf0 := blk_frozen (i := 0) HS10.out.x
    have x1 := blk_cell (i := 1) HS10.out.x rfl
    have xf1 := blk_frozen (i := 1) HS10.out.x
    have xz := blk_lt HS10.out.x
    go_upto_region 19 with (first
      | (go_at_call 101; refine (HCN _ (HE.out.below HS10.out.bel)).out.mono ?_; rintro e w11 ⟨rfl, hb11⟩))
    have HS11 := Lib.hid (HS10.out.below hb11)
    clear x0 xf0 x1 xf1 xz hb11 HS10
    have x0 := blk_cell (i := 0) HS11.out.x rfl
    have xf0 := blk_frozen (i := 0) HS11.out.x
    have x1 := blk_cell (i := 1) HS11.out.x rfl
    have xf1 := blk_frozen (i := 1) HS11.out.x
    have xz := blk_lt HS11.out.x
    have z0 := blk_cell (i := 0) HS11.out.z rfl
    have zf0 := blk_frozen (i := 0) HS11.out.z
    have z1 := blk_cell (i := 1) HS11.out.z rfl
    have zf1 := blk_frozen (i := 1) HS11.out.z
    have zz := blk_lt HS11.out.z
    go_wp2_with fail
    refine bodyPost_ret (by simp [results, Tryz.results75, go_sem, z0, z1]; try rfl) rfl ?_
    exact HPOST.out _ (bel_set (bel_set HS11.out.bel (Nat.le_refl _) _) (Nat.le_refl _) _)
theorem numP_in {l : List UInt8} {x : Int} (h : numP l = some x) : -9223372036854775808 ≤ x ∧ x ≤ 9223372036854775807 := by
  unfold numP at h
  split at h
  · rename_i v hv
    injection h with h
    subst h
    unfold Lib.parseIntB at hv
    split at hv
    · cases hv
    · rename_i c r
      simp only at hv
      split at hv
      · cases hv
      · cases hv
      · rename_i u hu
        split at hv
        · cases hv
        · rename_i h1
          split at hv
          · cases hv
          · rename_i h2
            injection hv with hv
            have e : (2 : Nat) ^ (64 - 1) = 9223372036854775808 := by decide
            rw [e] at h1 h2
            subst hv
            split <;> omega
  · cases h
set_option maxHeartbeats 16000000 in
set_option maxRecDepth 100000 in
theorem mrange_no (l : List UInt8) (w : World) (hl : l.length ≤ 100000) (henv : EnvR w) (h : ∀ x n, ¬ RangeOf l x n) :
    Calls Tryz.prog 75 #[.string ⟨l.toArray⟩] w (ReadPost l w) := by
  have HPOST : Hid (∀ W, Below w.heap.size w W → ReadPost l w (.returned (.tuple #[.agg #[.int .i64 0, .int .i64 0], .int .i64 0, .int .i64 2])) W) := fun W hb => read_no h rfl hb
  have HCN : ∀ (f t n : Int) W, f ≤ 9223372036854775807 → t ≤ 9223372036854775807 → EnvR W → Hid (∃ c : List UInt8, (c = [] ∨ c ≠ l) ∧ Calls Tryz.prog 101 #[.agg #[.int .i64 f, .int .i64 t], .int .i64 n] W fun e w' => e = .returned (.string ⟨c.toArray⟩) ∧ Below W.heap.size W w') := fun f t n W hf ht hE => by
    refine Lib.hid ⟨contT (f, t) n, ?_, content_any f t n W hE.env.tab hf ht⟩
    by_cases hc : contOk (f, t) n = true
    · right; intro e; exact h (f, t) n ⟨hc, e.symm⟩
    · left; rw [contT_ne]; simpa using hc
  have HP : Hid (∀ W, Calls Tryz.prog 77 #[.string ⟨l.toArray⟩, .string ⟨#[98, 121, 116, 101, 115, 32]⟩] W fun e w' => e = .returned (.tuple #[.string ⟨(Lib.trimPrefix l vBytes).toArray⟩, .bool (Lib.hasPrefix l vBytes)]) ∧ w' = W) := fun W => cutp_any l vBytes W
  have hr := trimp_len l vBytes
  obtain ⟨rs, hrs⟩ : ∃ r, Lib.trimPrefix l vBytes = r := ⟨_, rfl⟩
  obtain ⟨rb, hrb⟩ : ∃ r, Lib.hasPrefix l vBytes = r := ⟨_, rfl⟩
  rw [hrs] at hr
  rw [hrs, hrb] at HP
  have HC1 := fun W hE => Lib.hid (cutw_any rs [47] W (by omega) hE)
  have hr1 := cut_len1 rs [47]
  have hr2 := cut_len2 rs [47]
  obtain ⟨⟨en, al, b1⟩, hc1⟩ : ∃ c, Lib.cut rs [47] = c := ⟨_, rfl⟩
  simp only [hc1] at HC1 hr1 hr2
  have HC2 := fun W hE => Lib.hid (cutw_any en [45] W (by omega) hE)
  have hr3 := cut_len1 en [45]
  have hr4 := cut_len2 en [45]
  obtain ⟨⟨fr, la, b2⟩, hc2⟩ : ∃ c, Lib.cut en [45] = c := ⟨_, rfl⟩
  simp only [hc2] at HC2 hr3 hr4
  have HNS := fun (l' : List UInt8) (x : Int) (hx : numP l' = some x) (hl' : l'.length ≤ 100000) W => Lib.hid (parseInt_some hx W (by omega))
  have HNN := fun (l' : List UInt8) (hx : numP l' = none) (hl' : l'.length ≤ 100000) W hE => Lib.hid (parseInt_none hx W (by omega) hE)
  have HE := Lib.hid henv
  have HL1 : Hid (fr.length ≤ 100000) := by simp only [Hid]; omega
  have HL2 : Hid (la.length ≤ 100000) := by simp only [Hid]; omega
  have HL3 : Hid (al.length ≤ 100000) := by simp only [Hid]; omega
  clear h henv hl hrs hrb hr hr1 hr2 hr3 hr4 hc1 hc2
  go_enter Tryz.func75, Tryz.ntmps75
  go_upto_region 2 with (go_at_call 77; refine (HP.out _).mono ?_; rintro e w1 ⟨rfl, rfl⟩)
  obtain ⟨W0, hW0⟩ : ∃ W, w.alloc (.cells #[.int .i64 0, .int .i64 0] 55) = W := ⟨_, rfl⟩
  have HZ0 : Hid (W0.heap[w.heap.size]? = some (.cells #[.int .i64 0, .int .i64 0] 55 (0, 0))) := by simp only [Hid]; rw [← hW0]; exact blk_new rfl
  have HB0 : Hid (Below w.heap.size w W0) := by simp only [Hid]; rw [← hW0]; exact bel_alloc (Below.refl _ _) _
  rw [hW0]
  clear hW0
  go_upto_region 3 with (go_at_call 78; refine (HC1 _ (HE.out.below HB0.out)).out.mono ?_; rintro e w2 ⟨rfl, hb2⟩)
  have HZ2 := Lib.hid (blk_keep hb2 HZ0.out)
  have HB2 := Lib.hid (bel_chain hb2 HB0.out)
  clear hb2
  go_upto_region 4 with (go_at_call 78; refine (HC2 _ (HE.out.below HB2.out)).out.mono ?_; rintro e w3 ⟨rfl, hb3⟩)
  obtain ⟨W4, hW4⟩ : ∃ W, w3.alloc (.cells #[.int .i64 0, .int .i64 0] 55) = W := ⟨_, rfl⟩
  have HX4 : Hid (W4.heap[w3.heap.size]? = some (.cells #[.int .i64 0, .int .i64 0] 55 (0, 0))) := by simp only [Hid]; rw [← hW4]; exact blk_new rfl
  have HZ4 : Hid (W4.heap[w.heap.size]? = some (.cells #[.int .i64 0, .int .i64 0] 55 (0, 0))) := by simp only [Hid]; rw [← hW4]; exact blk_skip (blk_keep hb3 HZ2.out)
  have HB4 : Hid (Below w.heap.size w W4) := by simp only [Hid]; rw [← hW4]; exact bel_alloc (bel_chain hb3 HB2.out) _
  have hlt := blk_lt (blk_keep hb3 HZ2.out)
  go_upto_region 6 with fail
  try rw [hW4]
  obtain ⟨X, hX⟩ : ∃ X, w3.heap.size = X := ⟨_, rfl⟩
  rw [hX] at HX4 hlt ⊢
  have hle : w.heap.size ≤ X := by omega
  have HNE : Hid (w.heap.size ≠ X) := by simp only [Hid]; omega
  have HLE := Lib.hid hle
  clear hW4 hX hb3 HZ0 HB0 HZ2 HB2 hlt hle
  have HS4 : Hid (RgSt w X 0 0 W4) := ⟨HX4.out, HZ4.out, Nat.lt_of_le_of_ne HLE.out HNE.out, HB4.out⟩
  clear HX4 HZ4 HB4 HLE HNE
  cases hf : numP fr with
  | none =>
    have HN := fun W hE => HNN fr hf HL1.out W hE
    clear hf
    have x0 := blk_cell (i := 0) HS4.out.x rfl
    have xf0 := blk_frozen (i := 0) HS4.out.x
    have xz := blk_lt HS4.out.x
    go_upto_region 7 with (first
      | (go_at_call 121; refine (HN _ (HE.out.below HS4.out.bel).errs).out.mono ?_; rintro e w5 ⟨v, N, rfl, hb5⟩
         have y0 := blk_frozen (i := 0) (blk_keep hb5 HS4.out.x)
         have y1 := blk_cell (i := 0) (blk_keep hb5 HS4.out.x) rfl
         have yz := blk_lt (blk_keep hb5 HS4.out.x)))
    have HS5 := Lib.hid (HS4.out.below hb5)
    clear x0 xf0 xz hb5 y0 y1 yz HS4
    obtain ⟨W6, hWn⟩ : ∃ W, w5.setCell ⟨X, 0, none⟩ (.int .i64 v) = W := ⟨_, rfl⟩
    have HS6 : Hid (RgSt w X v 0 W6) := by simp only [Hid]; rw [← hWn]; exact HS5.out.set0 _
    rw [hWn]
    clear hWn
    have z0 := blk_cell (i := 0) HS6.out.z rfl
    have zf0 := blk_frozen (i := 0) HS6.out.z
    have z1 := blk_cell (i := 1) HS6.out.z rfl
    have zf1 := blk_frozen (i := 1) HS6.out.z
    have zz := blk_lt HS6.out.z
    go_wp2_with fail
    refine bodyPost_ret (by simp [results, Tryz.results75, go_sem, z0, z1]; try rfl) rfl ?_
    exact HPOST.out _ (bel_set (bel_set HS6.out.bel (Nat.le_refl _) _) (Nat.le_refl _) _)
  | some f =>
    have HN := fun W => HNS fr f hf HL1.out W
    have HFW : Hid (f ≤ 9223372036854775807) := by simp only [Hid]; exact (numP_in hf).2
    clear hf
    have x0 := blk_cell (i := 0) HS4.out.x rfl
    have xf0 := blk_frozen (i := 0) HS4.out.x
    have xz := blk_lt HS4.out.x
    go_upto_region 7 with (first
      | (go_at_call 121; refine (HN _).out.mono ?_; rintro e w5 ⟨rfl, hb5⟩
         have y0 := blk_frozen (i := 0) (blk_keep hb5 HS4.out.x)
         have y1 := blk_cell (i := 0) (blk_keep hb5 HS4.out.x) rfl
         have yz := blk_lt (blk_keep hb5 HS4.out.x)))
    have HS5 := Lib.hid (HS4.out.below hb5)
    clear x0 xf0 xz hb5 y0 y1 yz HS4 HN
    obtain ⟨W6, hWn⟩ : ∃ W, w5.setCell ⟨X, 0, none⟩ (.int .i64 f) = W := ⟨_, rfl⟩
    have HS6 : Hid (RgSt w X f 0 W6) := by simp only [Hid]; rw [← hWn]; exact HS5.out.set0 _
    rw [hWn]
    clear hWn
    cases hq : numP la with
    | none =>
      have HN := fun W hE => HNN la hq HL2.out W hE
      clear hq
      have x1 := blk_cell (i := 1) HS6.out.x rfl
      have xf1 := blk_frozen (i := 1) HS6.out.x
      have xz := blk_lt HS6.out.x
      go_upto_region 10 with (first
        | (go_at_call 121; refine (HN _ (HE.out.below HS6.out.bel).errs).out.mono ?_; rintro e w7 ⟨v, N, rfl, hb7⟩
           have y0 := blk_frozen (i := 1) (blk_keep hb7 HS6.out.x)
           have y1 := blk_cell (i := 1) (blk_keep hb7 HS6.out.x) rfl
           have yz := blk_lt (blk_keep hb7 HS6.out.x)))
      have HS7 := Lib.hid (HS6.out.below hb7)
      clear x1 xf1 xz hb7 y0 y1 yz HS6
      obtain ⟨W8, hWn⟩ : ∃ W, w7.setCell ⟨X, 1, none⟩ (.int .i64 v) = W := ⟨_, rfl⟩
      have HS8 : Hid (RgSt w X f v W8) := by simp only [Hid]; rw [← hWn]; exact HS7.out.set1 _
      rw [hWn]
      clear hWn
      have z0 := blk_cell (i := 0) HS8.out.z rfl
      have zf0 := blk_frozen (i := 0) HS8.out.z
      have z1 := blk_cell (i := 1) HS8.out.z rfl
      have zf1 := blk_frozen (i := 1) HS8.out.z
      have zz := blk_lt HS8.out.z
      go_wp2_with fail
      refine bodyPost_ret (by simp [results, Tryz.results75, go_sem, z0, z1]; try rfl) rfl ?_
      exact HPOST.out _ (bel_set (bel_set HS8.out.bel (Nat.le_refl _) _) (Nat.le_refl _) _)
    | some q =>
      have HN := fun W => HNS la q hq HL2.out W
      have HQW := Lib.hid (numP_in hq)
      clear hq
      have x1 := blk_cell (i := 1) HS6.out.x rfl
      have xf1 := blk_frozen (i := 1) HS6.out.x
      have xz := blk_lt HS6.out.x
      go_upto_region 10 with (first
        | (go_at_call 121; refine (HN _).out.mono ?_; rintro e w7 ⟨rfl, hb7⟩
           have y0 := blk_frozen (i := 1) (blk_keep hb7 HS6.out.x)
           have y1 := blk_cell (i := 1) (blk_keep hb7 HS6.out.x) rfl
           have yz := blk_lt (blk_keep hb7 HS6.out.x)))
      have HS7 := Lib.hid (HS6.out.below hb7)
      clear x1 xf1 xz hb7 y0 y1 yz HS6 HN
      obtain ⟨W8, hWn⟩ : ∃ W, w7.setCell ⟨X, 1, none⟩ (.int .i64 q) = W := ⟨_, rfl⟩
      have HS8 : Hid (RgSt w X f q W8) := by simp only [Hid]; rw [← hWn]; exact HS7.out.set1 _
      rw [hWn]
      clear hWn
      by_cases hbig : (4611686018427387903 : Int) ≤ q
      · have x1 := blk_cell (i := 1) HS8.out.x rfl
        have xz := blk_lt HS8.out.x
        have z0 := blk_cell (i := 0) HS8.out.z rfl
        have zf0 := blk_frozen (i := 0) HS8.out.z
        have z1 := blk_cell (i := 1) HS8.out.z rfl
        have zf1 := blk_frozen (i := 1) HS8.out.z
        have zz := blk_lt HS8.out.z
        go_wp2_with fail
        refine bodyPost_ret (by simp [results, Tryz.results75, go_sem, z0, z1]; try rfl) rfl ?_
        exact HPOST.out _ (bel_set (bel_set HS8.out.bel (Nat.le_refl _) _) (Nat.le_refl _) _)
      have HTW : Hid (q + 1 ≤ 9223372036854775807) := by simp only [Hid]; omega
      have hqw : IntKind.i64.wrap (q + 1) = q + 1 := IntWalk.i64_in _ (by have := HQW.out; omega)
      clear HQW
      have x1 := blk_cell (i := 1) HS8.out.x rfl
      have xf1 := blk_frozen (i := 1) HS8.out.x
      have xz := blk_lt HS8.out.x
      go_upto_region 14 with fail
      clear x1 xf1 xz HS7
      obtain ⟨W9, hWn⟩ : ∃ W, W8.setCell ⟨X, 1, none⟩ (.int .i64 (q + 1)) = W := ⟨_, rfl⟩
      have HS9 : Hid (RgSt w X f (q + 1) W9) := by simp only [Hid]; rw [← hWn]; exact HS8.out.set1 _
      rw [hWn]
      clear hWn
      clear HS8 hbig hqw
      obtain ⟨t, ht⟩ : ∃ t, q + 1 = t := ⟨_, rfl⟩
      rw [ht] at HTW HS9
      clear ht
      by_cases ha : al = [42]
      · subst ha
        obtain ⟨c, hc, HC⟩ := (HCN f t (-1) W9 HFW.out HTW.out (HE.out.below HS9.out.bel)).out
        have HC := Lib.hid HC
        have x0 := blk_cell (i := 0) HS9.out.x rfl
        have xf0 := blk_frozen (i := 0) HS9.out.x
        have x1 := blk_cell (i := 1) HS9.out.x rfl
        have xf1 := blk_frozen (i := 1) HS9.out.x
        have xz := blk_lt HS9.out.x
        go_upto_region 19 with (first
          | (go_at_call 101; refine HC.out.mono ?_; rintro e w10 ⟨rfl, hb10⟩))
        have HS10 := Lib.hid (HS9.out.below hb10)
        clear x0 xf0 x1 xf1 xz hb10 HS9 HC
        rcases hc with rfl | hc
        · have z0 := blk_cell (i := 0) HS10.out.z rfl
          have zf0 := blk_frozen (i := 0) HS10.out.z
          have z1 := blk_cell (i := 1) HS10.out.z rfl
          have zf1 := blk_frozen (i := 1) HS10.out.z
          have zz := blk_lt HS10.out.z
          go_wp2_with fail
          refine bodyPost_ret (by simp [results, Tryz.results75, go_sem, z0, z1]; try rfl) rfl ?_
          exact HPOST.out _ (bel_set (bel_set HS10.out.bel (Nat.le_refl _) _) (Nat.le_refl _) _)
        · have hcl : (c == l) = false := by rw [beq_eq_false_iff_ne]; exact hc
          cases hce : c.isEmpty
          · have z0 := blk_cell (i := 0) HS10.out.z rfl
            have zf0 := blk_frozen (i := 0) HS10.out.z
            have z1 := blk_cell (i := 1) HS10.out.z rfl
            have zf1 := blk_frozen (i := 1) HS10.out.z
            have zz := blk_lt HS10.out.z
            go_wp2_with fail
            refine bodyPost_ret (by simp [results, Tryz.results75, go_sem, z0, z1]; try rfl) rfl ?_
            exact HPOST.out _ (bel_set (bel_set HS10.out.bel (Nat.le_refl _) _) (Nat.le_refl _) _)
          · have z0 := blk_cell (i := 0) HS10.out.z rfl
            have zf0 := blk_frozen (i := 0) HS10.out.z
            have z1 := blk_cell (i := 1) HS10.out.z rfl
            have zf1 := blk_frozen (i := 1) HS10.out.z
            have zz := blk_lt HS10.out.z
            go_wp2_with fail
            refine bodyPost_ret (by simp [results, Tryz.results75, go_sem, z0, z1]; try rfl) rfl ?_
            exact HPOST.out _ (bel_set (bel_set HS10.out.bel (Nat.le_refl _) _) (Nat.le_refl _) _)
      have hab : (al == [42]) = false := by rw [beq_eq_false_iff_ne]; exact ha
      clear ha
      cases hm : numP al with
      | none =>
        have HN := fun W hE => HNN al hm HL3.out W hE
        clear hm
        go_upto_region 16 with (first
          | (go_at_call 121; refine (HN _ (HE.out.below HS9.out.bel).errs).out.mono ?_; rintro e w10 ⟨v, N, rfl, hb10⟩))
        have HS10 := Lib.hid (HS9.out.below hb10)
        clear hb10 HS9
        have z0 := blk_cell (i := 0) HS10.out.z rfl
        have zf0 := blk_frozen (i := 0) HS10.out.z
        have z1 := blk_cell (i := 1) HS10.out.z rfl
        have zf1 := blk_frozen (i := 1) HS10.out.z
        have zz := blk_lt HS10.out.z
        go_wp2_with fail
        refine bodyPost_ret (by simp [results, Tryz.results75, go_sem, z0, z1]; try rfl) rfl ?_
        exact HPOST.out _ (bel_set (bel_set HS10.out.bel (Nat.le_refl _) _) (Nat.le_refl _) _)
      | some n =>
        have HN := fun W => HNS al n hm HL3.out W
        clear hm
        go_upto_region 16 with (first
          | (go_at_call 121; refine (HN _).out.mono ?_; rintro e w10 ⟨rfl, hb10⟩))
        have HS10 := Lib.hid (HS9.out.below hb10)
        clear hb10 HS9 HN
        obtain ⟨c, hc, HC⟩ := (HCN f t n w10 HFW.out HTW.out (HE.out.below HS10.out.bel)).out
        have HC := Lib.hid HC
        have x0 := blk_cell (i := 0) HS10.out.x rfl
        have xf0 := blk_frozen (i := 0) HS10.out.x
        have x1 := blk_cell (i := 1) HS10.out.x rfl
        have xf1 := blk_frozen (i := 1) HS10.out.x
        have xz := blk_lt HS10.out.x
        go_upto_region 19 with (first
          | (go_at_call 101; refine HC.out.mono ?_; rintro e w11 ⟨rfl, hb11⟩))
        have HS11 := Lib.hid (HS10.out.below hb11)
        clear x0 xf0 x1 xf1 xz hb11 HS10 HC
        rcases hc with rfl | hc
        · have z0 := blk_cell (i := 0) HS11.out.z rfl
          have zf0 := blk_frozen (i := 0) HS11.out.z
          have z1 := blk_cell (i := 1) HS11.out.z rfl
          have zf1 := blk_frozen (i := 1) HS11.out.z
          have zz := blk_lt HS11.out.z
          go_wp2_with fail
          refine bodyPost_ret (by simp [results, Tryz.results75, go_sem, z0, z1]; try rfl) rfl ?_
          exact HPOST.out _ (bel_set (bel_set HS11.out.bel (Nat.le_refl _) _) (Nat.le_refl _) _)
        · have hcl : (c == l) = false := by rw [beq_eq_false_iff_ne]; exact hc
          cases hce : c.isEmpty
          · have z0 := blk_cell (i := 0) HS11.out.z rfl
            have zf0 := blk_frozen (i := 0) HS11.out.z
            have z1 := blk_cell (i := 1) HS11.out.z rfl
            have zf1 := blk_frozen (i := 1) HS11.out.z
            have zz := blk_lt HS11.out.z
            go_wp2_with fail
            refine bodyPost_ret (by simp [results, Tryz.results75, go_sem, z0, z1]; try rfl) rfl ?_
            exact HPOST.out _ (bel_set (bel_set HS11.out.bel (Nat.le_refl _) _) (Nat.le_refl _) _)
          · have z0 := blk_cell (i := 0) HS11.out.z rfl
            have zf0 := blk_frozen (i := 0) HS11.out.z
            have z1 := blk_cell (i := 1) HS11.out.z rfl
            have zf1 := blk_frozen (i := 1) HS11.out.z
            have zz := blk_lt HS11.out.z
            go_wp2_with fail
            refine bodyPost_ret (by simp [results, Tryz.results75, go_sem, z0, z1]; try rfl) rfl ?_
            exact HPOST.out _ (bel_set (bel_set HS11.out.bel (Nat.le_refl _) _) (Nat.le_refl _) _)
theorem mrange_any (l : List UInt8) (w : World) (hl : l.length ≤ 100000) (henv : EnvR w) : Calls Tryz.prog 75 #[.string ⟨l.toArray⟩] w (ReadPost l w) := by
  by_cases h : ∃ x n, RangeOf l x n
  · obtain ⟨x, n, h⟩ := h
    exact mrange_yes l x.1 x.2 n w hl henv h
  · exact mrange_no l w hl henv fun x n h' => h ⟨x, n, h'⟩
end Go.Proofs.YtaaefgieklkekaaGreatDoor
