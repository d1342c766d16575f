/- Contract of the document's Range (11). Plain: a 206 of several ranges, as its first text tells how many bytes there are. Plain: what is told are fields that may be. Contract of the document's total. -/
import Derived.Test.YtaaefgieklkekaaGreatDoorZL11
import Derived.Test.YtaaefgieklkekaaGreatDoorZL12
import Derived.Test.YtaaefgieklkekaaGreatDoorZI27
import Derived.Test.YtaaefgieklkekaaGreatDoorZL10
import Derived.Test.YtaaefgieklkekaaGreatDoorZI20
import Derived.Test.YtaaefgieklkekaaGreatDoorZI5
namespace Go.Proofs.YtaaefgieklkekaaGreatDoor
open Go.RowKit

theorem ex_at (s : ByteArray) (l : List UInt8) (hs : (⟨l.toArray⟩ : ByteArray) = s) (k : Nat) : s.extract k s.size = ⟨(l.drop k).toArray⟩ := by
  rw [ex_drop, ← hs]
/-- What the document reads of a text. -/
def rdEnd (l : List UInt8) (f q : Int) (t : Int) : Option ((Int × Int) × Int) := if contT (f, q + 1) t = l then some ((f, q + 1), t) else none
def rdL (l : List UInt8) : Option ((Int × Int) × Int) :=
  if l.length < 6 ∨ l.take 6 ≠ vBytes then none else
  if l.length ≤ 6 + (numA 0 0 (l.drop 6)).2 then none else
  if l.length ≤ 6 + (numA 0 0 (l.drop 6)).2 + 1 + (numA 0 0 (l.drop (6 + (numA 0 0 (l.drop 6)).2 + 1))).2 then none else
  rdEnd l (numA 0 0 (l.drop 6)).1 (numA 0 0 (l.drop (6 + (numA 0 0 (l.drop 6)).2 + 1))).1
    (if (numA 0 0 (l.drop (6 + (numA 0 0 (l.drop 6)).2 + 1 + (numA 0 0 (l.drop (6 + (numA 0 0 (l.drop 6)).2 + 1))).2 + 1))).2 = 0 then -1 else (numA 0 0 (l.drop (6 + (numA 0 0 (l.drop 6)).2 + 1 + (numA 0 0 (l.drop (6 + (numA 0 0 (l.drop 6)).2 + 1))).2 + 1))).1)
theorem drop_cat {a b : List UInt8} {k n : Nat} (h : k = a.length + n) : (a ++ b).drop k = b.drop n := by
  subst h
  rw [List.drop_append, List.drop_eq_nil_of_le (by omega)]
  simp
theorem rd_yes {l : List UInt8} {x : Int × Int} {t : Int} (h : RangeOf l x t) : rdL l = some (x, t) := by
  have hi := range_in h
  have e := contT_yes h.1
  rw [← h.2] at e
  have s1 := numA_num (n := x.1) (rest := 45 :: (digN (x.2 - 1) ++ 47 :: tailT t)) (by omega) (by omega) (.inr ⟨45, _, rfl, by decide⟩)
  have s2 := numA_num (n := x.2 - 1) (rest := 47 :: tailT t) (by omega) (by omega) (.inr ⟨47, _, rfl, by decide⟩)
  have d6 : l.drop 6 = digN x.1 ++ 45 :: (digN (x.2 - 1) ++ 47 :: tailT t) := by
    rw [e, drop_cat (n := 0) (by rfl)]; simp
  have e1 : l.length = 6 + (digN x.1).length + 1 + (digN (x.2 - 1)).length + 1 + (tailT t).length := by
    rw [e]; simp only [List.length_append, List.length_cons, show vBytes.length = 6 from rfl]; omega
  have d7 : l.drop (6 + (digN x.1).length + 1) = digN (x.2 - 1) ++ 47 :: tailT t := by
    rw [show 6 + (digN x.1).length + 1 = 6 + ((digN x.1).length + 1) by omega, ← List.drop_drop, d6, drop_cat (n := 1) rfl]; rfl
  have d8 : l.drop (6 + (digN x.1).length + 1 + (digN (x.2 - 1)).length + 1) = tailT t := by
    rw [show 6 + (digN x.1).length + 1 + (digN (x.2 - 1)).length + 1 = (6 + (digN x.1).length + 1) + ((digN (x.2 - 1)).length + 1) by omega, ← List.drop_drop, d7, drop_cat (n := 1) rfl]; rfl
  have hp : l.take 6 = vBytes := by rw [e, List.take_append_of_le_length (by decide)]; rfl
  unfold rdL
  rw [if_neg (by rintro (h' | h'); omega; exact h' hp), d6, s1]
  simp only
  rw [if_neg (by omega), d7, s2]
  simp only
  rw [if_neg (by omega), d8]
  have e9 : (x.1, x.2 - 1 + 1) = x := Prod.ext rfl (by simp)
  by_cases ht : t = -1
  · subst ht
    have : numA 0 0 (tailT (-1)) = (0, 0) := by decide
    rw [this, if_pos rfl]
    unfold rdEnd
    rw [e9, if_pos h.2.symm]
  · have s3 := numA_num (n := t) (rest := []) (by omega) (by omega) (.inl rfl)
    have e3 : tailT t = digN t ++ [] := by unfold tailT; rw [if_neg ht, List.append_nil]
    rw [e3, s3]
    simp only
    rw [if_neg (by have := dec_pos t.toNat; unfold digN; omega)]
    unfold rdEnd
    rw [e9, if_pos h.2.symm]
theorem rdEnd_some {l : List UInt8} {f q t u : Int} {x : Int × Int} (h : rdEnd l f q t = some (x, u)) : contT x u = l := by
  unfold rdEnd at h
  split at h
  · rename_i hc
    injection h with h
    injection h with h1 h2
    rw [h1, h2] at hc
    exact hc
  · cases h
theorem rd_some {l : List UInt8} {x : Int × Int} {t : Int} (h : rdL l = some (x, t)) : RangeOf l x t := by
  unfold rdL at h
  by_cases h6 : l.length < 6 ∨ l.take 6 ≠ vBytes
  · rw [if_pos h6] at h; cases h
  · rw [if_neg h6] at h
    have hc : contT x t = l := by
      split at h
      · cases h
      · split at h
        · cases h
        · exact rdEnd_some h
    refine ⟨?_, hc.symm⟩
    cases hk : contOk x t
    · have := contT_ne.2 hk
      rw [this] at hc
      exact absurd (.inl (by rw [← hc]; decide)) h6
    · rfl
theorem rd_read (l : List UInt8) : ReadOf l (rdL l) := fun _ _ => ⟨rd_some, rd_yes⟩
set_option maxHeartbeats 8000000 in
set_option maxRecDepth 100000 in
theorem r11range_any (l : List UInt8) (w : World) (hl : l.length ≤ 100000) :
    Calls Tryz.prog 87 #[.string ⟨l.toArray⟩] w (ReadPost l w) := by
  have hP : ∀ o W, rdL l = o → Below w.heap.size w W → ReadPost l w (.returned (rangeV o)) W := fun o W ho hb => ⟨o, ho ▸ rd_read l, rfl, hb⟩
  have HPOST := Lib.hid hP
  clear hP
  have hsz : (⟨l.toArray⟩ : ByteArray).size = l.length := ba_size l
  have HNU := fun (l' : List UInt8) (hl' : l'.length ≤ 100000) W => Lib.hid (r11number_any l' W (by omega))
  obtain ⟨s, hs⟩ : ∃ s : ByteArray, (⟨l.toArray⟩ : ByteArray) = s := ⟨_, rfl⟩
  rw [hs] at hsz ⊢
  have HS := Lib.hid hs
  by_cases h6 : l.length < 6
  · have HO : Hid (rdL l = none) := by simp only [Hid]; unfold rdL; rw [if_pos (.inl h6)]
    have h6' : (l.length : Int) < 6 := by omega
    clear hs
    go_enter Tryz.func87, Tryz.ntmps87
    go_wp2_with fail
    refine bodyPost_ret (by simp [results, Tryz.results87, go_sem]; try rfl) rfl ?_
    exact HPOST.out none _ HO.out (by (repeat (first | exact Below.refl _ _ | refine bel_drewN ?_ _ | refine bel_drew ?_ | refine bel_alloc ?_ _ | refine bel_set ?_ (by simp) _)))
  have h6' : 6 ≤ s.size := by omega
  have hx0 : s.extract 0 6 = ⟨(l.take 6).toArray⟩ := by rw [ex_take, ← hs]
  by_cases hp : l.take 6 = vBytes
  rotate_left
  · have HO : Hid (rdL l = none) := by simp only [Hid]; unfold rdL; rw [if_pos (.inr hp)]
    have hpb : (l.take 6 == [98, 121, 116, 101, 115, 32]) = false := by rw [beq_eq_false_iff_ne]; exact hp
    clear hs hp
    go_enter Tryz.func87, Tryz.ntmps87
    go_wp2_with fail
    refine bodyPost_ret (by simp [results, Tryz.results87, go_sem]; try rfl) rfl ?_
    exact HPOST.out none _ HO.out (by (repeat (first | exact Below.refl _ _ | refine bel_drewN ?_ _ | refine bel_drew ?_ | refine bel_alloc ?_ _ | refine bel_set ?_ (by simp) _)))
  have hpb : (l.take 6 == [98, 121, 116, 101, 115, 32]) = true := by rw [beq_iff_eq]; exact hp
  have hx6 : s.extract 6 l.length = ⟨(l.drop 6).toArray⟩ := by rw [← hsz]; exact ex_at s l hs 6
  have HN1 := fun W => HNU (l.drop 6) (by simp only [List.length_drop]; omega) W
  have hi1 := numA_in (l.drop 6) 0 0 (by omega) (by omega)
  have HO1 : Hid (rdL l = if l.length ≤ 6 + (numA 0 0 (l.drop 6)).2 then none else
      if l.length ≤ 6 + (numA 0 0 (l.drop 6)).2 + 1 + (numA 0 0 (l.drop (6 + (numA 0 0 (l.drop 6)).2 + 1))).2 then none else
      rdEnd l (numA 0 0 (l.drop 6)).1 (numA 0 0 (l.drop (6 + (numA 0 0 (l.drop 6)).2 + 1))).1
        (if (numA 0 0 (l.drop (6 + (numA 0 0 (l.drop 6)).2 + 1 + (numA 0 0 (l.drop (6 + (numA 0 0 (l.drop 6)).2 + 1))).2 + 1))).2 = 0 then -1 else (numA 0 0 (l.drop (6 + (numA 0 0 (l.drop 6)).2 + 1 + (numA 0 0 (l.drop (6 + (numA 0 0 (l.drop 6)).2 + 1))).2 + 1))).1)) := by
    simp only [Hid]; rw [rdL, if_neg (by rintro (h' | h'); omega; exact h' hp)]
  unfold NumPost at HN1
  obtain ⟨⟨f, a⟩, hn1⟩ : ∃ p, numA 0 0 (l.drop 6) = p := ⟨_, rfl⟩
  rw [hn1] at hi1 HO1
  simp only [hn1] at HN1
  simp only [List.length_drop, Nat.zero_add] at hi1 HO1
  clear hp hn1 hs
  go_enter Tryz.func87, Tryz.ntmps87
  go_upto_region 5 with (go_at_call 130; refine (HN1 _).out.mono ?_; rintro e w1 ⟨rfl, rfl⟩)
  obtain ⟨W0, hW0⟩ : ∃ W, w.alloc (.cells #[.int .i64 0, .int .i64 0] 55) = W := ⟨_, rfl⟩
  have HZ0 : Hid (W0.heap[w.heap.size]? = some (.cells #[.int .i64 0, .int .i64 0] 55 (0, 0))) := by simp only [Hid]; rw [← hW0]; exact blk_new rfl
  have HB0 : Hid (Below w.heap.size w W0) := by simp only [Hid]; rw [← hW0]; exact bel_alloc (Below.refl _ _) _
  rw [hW0]
  clear hW0 HN1 hx6 hx0 hpb h6
  have z0 := blk_cell (i := 0) HZ0.out rfl
  have zf0 := blk_frozen (i := 0) HZ0.out
  have z1 := blk_cell (i := 1) HZ0.out rfl
  have zf1 := blk_frozen (i := 1) HZ0.out
  have zz := blk_lt HZ0.out
  by_cases hA : l.length ≤ 6 + a
  · have HO : Hid (rdL l = none) := by simp only [Hid]; rw [HO1.out, if_pos hA]
    have hA' : (l.length : Int) ≤ 6 + (a : Int) := by omega
    clear hA HO1
    go_wp2_with fail
    refine bodyPost_ret (by simp [results, Tryz.results87, go_sem, z0, z1]; try rfl) rfl ?_
    exact HPOST.out none _ HO.out (bel_set (bel_set HB0.out (Nat.le_refl _) _) (Nat.le_refl _) _)
  have hA' : ¬ (l.length : Int) ≤ 6 + (a : Int) := by omega
  have ha2 : (6 + (a : Int) + 1).toNat = 6 + a + 1 := by omega
  have ha3 : 6 + (a : Int) + 1 ≤ (l.length : Int) := by omega
  have ha4 : (0 : Int) ≤ 6 + (a : Int) + 1 := by omega
  have hx7 : s.extract (6 + a + 1) l.length = ⟨(l.drop (6 + a + 1)).toArray⟩ := by rw [← hsz]; exact ex_at s l HS.out _
  have HN2 := fun W => HNU (l.drop (6 + a + 1)) (by simp only [List.length_drop]; omega) W
  have hi2 := numA_in (l.drop (6 + a + 1)) 0 0 (by omega) (by omega)
  have HO2 : Hid (rdL l = if l.length ≤ 6 + a + 1 + (numA 0 0 (l.drop (6 + a + 1))).2 then none else
      rdEnd l f (numA 0 0 (l.drop (6 + a + 1))).1 (if (numA 0 0 (l.drop (6 + a + 1 + (numA 0 0 (l.drop (6 + a + 1))).2 + 1))).2 = 0 then -1 else (numA 0 0 (l.drop (6 + a + 1 + (numA 0 0 (l.drop (6 + a + 1))).2 + 1))).1)) := by
    simp only [Hid]; rw [HO1.out, if_neg hA]
  unfold NumPost at HN2
  obtain ⟨⟨q, b⟩, hn2⟩ : ∃ p, numA 0 0 (l.drop (6 + a + 1)) = p := ⟨_, rfl⟩
  rw [hn2] at hi2 HO2
  simp only [hn2] at HN2
  simp only [List.length_drop, Nat.zero_add] at hi2 HO2
  clear hn2 HO1 hA
  go_upto_region 9 with (go_at_call 130; refine (HN2 _).out.mono ?_; rintro e w1 ⟨rfl, hw1⟩; obtain rfl : W0 = w1 := hw1.symm)
  clear hx7 HN2 hA' ha2 ha3 ha4
  by_cases hB : l.length ≤ 6 + a + 1 + b
  · have HO : Hid (rdL l = none) := by simp only [Hid]; rw [HO2.out, if_pos hB]
    have hB' : (l.length : Int) ≤ 6 + (a : Int) + 1 + (b : Int) := by omega
    clear hB HO2
    go_wp2_with fail
    refine bodyPost_ret (by simp [results, Tryz.results87, go_sem, z0, z1]; try rfl) rfl ?_
    exact HPOST.out none _ HO.out (bel_set (bel_set HB0.out (Nat.le_refl _) _) (Nat.le_refl _) _)
  have hB' : ¬ (l.length : Int) ≤ 6 + (a : Int) + 1 + (b : Int) := by omega
  have hb2 : (6 + (a : Int) + 1 + (b : Int) + 1).toNat = 6 + a + 1 + b + 1 := by omega
  have hb3 : 6 + (a : Int) + 1 + (b : Int) + 1 ≤ (l.length : Int) := by omega
  have hb4 : (0 : Int) ≤ 6 + (a : Int) + 1 + (b : Int) + 1 := by omega
  have hx8 : s.extract (6 + a + 1 + b + 1) l.length = ⟨(l.drop (6 + a + 1 + b + 1)).toArray⟩ := by rw [← hsz]; exact ex_at s l HS.out _
  have HN3 := fun W => HNU (l.drop (6 + a + 1 + b + 1)) (by simp only [List.length_drop]; omega) W
  have hi3 := numA_in (l.drop (6 + a + 1 + b + 1)) 0 0 (by omega) (by omega)
  have HO3 : Hid (rdL l = rdEnd l f q (if (numA 0 0 (l.drop (6 + a + 1 + b + 1))).2 = 0 then -1 else (numA 0 0 (l.drop (6 + a + 1 + b + 1))).1)) := by
    simp only [Hid]; rw [HO2.out, if_neg hB]
  unfold NumPost at HN3
  obtain ⟨⟨n, c⟩, hn3⟩ : ∃ p, numA 0 0 (l.drop (6 + a + 1 + b + 1)) = p := ⟨_, rfl⟩
  rw [hn3] at hi3 HO3
  simp only [hn3] at HN3
  simp only at hi3 HO3
  clear hn3 HO2 hB
  go_upto_region 12 with (go_at_call 130; refine (HN3 _).out.mono ?_; rintro e w1 ⟨rfl, hw1⟩; obtain rfl : W0 = w1 := hw1.symm)
  clear hx8 HN3 hB' hb2 hb3 hb4 z0 zf0 z1 zf1 zz
  have hqw : IntKind.i64.wrap (q + 1) = q + 1 := IntWalk.i64_in _ (by omega)
  have HCT := fun (t : Int) W => Lib.hid (rcontent_any f (q + 1) t W (by omega) (by omega))
  have HLE := Lib.hid hl
  have hc01 : c = 0 ∨ 0 < c := by omega
  clear hi1 hi2 hi3 hl
  rcases hc01 with hc0 | hc0
  · subst hc0
    have HO4 : Hid (rdL l = rdEnd l f q (-1)) := by simp only [Hid]; rw [HO3.out, if_pos rfl]
    unfold rdEnd at HO4
    have HC := fun W => HCT (-1) W
    obtain ⟨ct, hct⟩ : ∃ t, contT (f, q + 1) (-1) = t := ⟨_, rfl⟩
    simp only [hct] at HC HO4
    clear HCT HO3 hct
    obtain ⟨q1, hq1⟩ : ∃ x, q + 1 = x := ⟨_, rfl⟩
    simp only [hq1] at HC HO4 hqw
    go_upto_region 15 with fail
    try simp only [hqw]
    obtain ⟨W1, hW1⟩ : ∃ W, W0.alloc (.cells #[.int .i64 f, .int .i64 q1] 55) = W := ⟨_, rfl⟩
    have HX1 : Hid (W1.heap[W0.heap.size]? = some (.cells #[.int .i64 f, .int .i64 q1] 55 (0, 0))) := by simp only [Hid]; rw [← hW1]; exact blk_new rfl
    have HZ1 : Hid (W1.heap[w.heap.size]? = some (.cells #[.int .i64 0, .int .i64 0] 55 (0, 0))) := by simp only [Hid]; rw [← hW1]; exact blk_skip HZ0.out
    have HB1 : Hid (Below w.heap.size w W1) := by simp only [Hid]; rw [← hW1]; exact bel_alloc HB0.out _
    try rw [hW1]
    clear hW1
    have x0 := blk_cell (i := 0) HX1.out rfl
    have x1 := blk_cell (i := 1) HX1.out rfl
    have xz := blk_lt HX1.out
    go_upto_if 70 with (go_at_call 38; refine (HC _).out.mono ?_; rintro e w2 ⟨rfl, hb2⟩)
    have HX2 := Lib.hid (blk_keep hb2 HX1.out)
    have HZ2 := Lib.hid (blk_keep hb2 HZ1.out)
    have HB2 := Lib.hid (bel_chain hb2 HB1.out)
    clear x0 x1 xz hb2
    have x0 := blk_cell (i := 0) HX2.out rfl
    have x1 := blk_cell (i := 1) HX2.out rfl
    have xz := blk_lt HX2.out
    have z0 := blk_cell (i := 0) HZ2.out rfl
    have zf0 := blk_frozen (i := 0) HZ2.out
    have z1 := blk_cell (i := 1) HZ2.out rfl
    have zf1 := blk_frozen (i := 1) HZ2.out
    have zz := blk_lt HZ2.out
    --T
    have hst : s.toList = l := by rw [← HS.out]; simp
    obtain ⟨bb, hbb⟩ : ∃ b, (ct == s.toList) = b := ⟨_, rfl⟩
    rw [hbb]
    rw [hst] at hbb
    cases bb with
    | true =>
      have hcl : ct = l := beq_iff_eq.1 hbb
      rw [if_pos hcl] at HO4
      clear hcl hst hbb
      go_wp2_with fail
      refine bodyPost_ret (by simp [results, Tryz.results87, go_sem, z0, z1]; try rfl) rfl ?_
      exact HPOST.out _ _ HO4.out (bel_set (bel_set HB2.out (Nat.le_refl _) _) (Nat.le_refl _) _)
    | false =>
      have hcl : ct ≠ l := beq_eq_false_iff_ne.1 hbb
      rw [if_neg hcl] at HO4
      clear hcl hst hbb
      go_wp2_with fail
      refine bodyPost_ret (by simp [results, Tryz.results87, go_sem, z0, z1]; try rfl) rfl ?_
      exact HPOST.out _ _ HO4.out (bel_set (bel_set HB2.out (Nat.le_refl _) _) (Nat.le_refl _) _)
  · have HO4 : Hid (rdL l = rdEnd l f q n) := by simp only [Hid]; rw [HO3.out, if_neg (by omega)]
    have hcb : ((c : Int) == 0) = false := by rw [beq_eq_false_iff_ne]; omega
    unfold rdEnd at HO4
    have HC := fun W => HCT n W
    obtain ⟨ct, hct⟩ : ∃ t, contT (f, q + 1) n = t := ⟨_, rfl⟩
    simp only [hct] at HC HO4
    clear HCT HO3 hct
    obtain ⟨q1, hq1⟩ : ∃ x, q + 1 = x := ⟨_, rfl⟩
    simp only [hq1] at HC HO4 hqw
    go_upto_region 15 with fail
    try simp only [hqw]
    obtain ⟨W1, hW1⟩ : ∃ W, W0.alloc (.cells #[.int .i64 f, .int .i64 q1] 55) = W := ⟨_, rfl⟩
    have HX1 : Hid (W1.heap[W0.heap.size]? = some (.cells #[.int .i64 f, .int .i64 q1] 55 (0, 0))) := by simp only [Hid]; rw [← hW1]; exact blk_new rfl
    have HZ1 : Hid (W1.heap[w.heap.size]? = some (.cells #[.int .i64 0, .int .i64 0] 55 (0, 0))) := by simp only [Hid]; rw [← hW1]; exact blk_skip HZ0.out
    have HB1 : Hid (Below w.heap.size w W1) := by simp only [Hid]; rw [← hW1]; exact bel_alloc HB0.out _
    try rw [hW1]
    clear hW1
    have x0 := blk_cell (i := 0) HX1.out rfl
    have x1 := blk_cell (i := 1) HX1.out rfl
    have xz := blk_lt HX1.out
    go_upto_if 70 with (go_at_call 38; refine (HC _).out.mono ?_; rintro e w2 ⟨rfl, hb2⟩)
    have HX2 := Lib.hid (blk_keep hb2 HX1.out)
    have HZ2 := Lib.hid (blk_keep hb2 HZ1.out)
    have HB2 := Lib.hid (bel_chain hb2 HB1.out)
    clear x0 x1 xz hb2
    have x0 := blk_cell (i := 0) HX2.out rfl
    have x1 := blk_cell (i := 1) HX2.out rfl
    have xz := blk_lt HX2.out
    have z0 := blk_cell (i := 0) HZ2.out rfl
    have zf0 := blk_frozen (i := 0) HZ2.out
    have z1 := blk_cell (i := 1) HZ2.out rfl
    have zf1 := blk_frozen (i := 1) HZ2.out
    have zz := blk_lt HZ2.out
    --T
    have hst : s.toList = l := by rw [← HS.out]; simp
    obtain ⟨bb, hbb⟩ : ∃ b, (ct == s.toList) = b := ⟨_, rfl⟩
    rw [hbb]
    rw [hst] at hbb
    cases bb with
    | true =>
      have hcl : ct = l := beq_iff_eq.1 hbb
      rw [if_pos hcl] at HO4
      clear hcl hst hbb
      go_wp2_with fail
      refine bodyPost_ret (by simp [results, Tryz.results87, go_sem, z0, z1]; try rfl) rfl ?_
      exact HPOST.out _ _ HO4.out (bel_set (bel_set HB2.out (Nat.le_refl _) _) (Nat.le_refl _) _)
    | false =>
      have hcl : ct ≠ l := beq_eq_false_iff_ne.1 hbb
      rw [if_neg hcl] at HO4
      clear hcl hst hbb
      go_wp2_with fail
      refine bodyPost_ret (by simp [results, Tryz.results87, go_sem, z0, z1]; try rfl) rfl ?_
      exact HPOST.out _ _ HO4.out (bel_set (bel_set HB2.out (Nat.le_refl _) _) (Nat.le_refl _) _)
end Go.Proofs.YtaaefgieklkekaaGreatDoor
namespace Go.Proofs.YtaaefgieklkekaaGreatDoor
open Go.RowKit

/-- What stands ahead of a content range; the end of the line ahead of it, too. -/
def vCRS : List UInt8 := [67, 111, 110, 116, 101, 110, 116, 45, 82, 97, 110, 103, 101, 58, 32]
def vCRE : List UInt8 := [13, 10, 67, 111, 110, 116, 101, 110, 116, 45, 82, 97, 110, 103, 101, 58, 32]
/-- What stands between a boundary and a content range. -/
def vMid : List UInt8 := [13, 10] ++ (nCT ++ [58, 32]) ++ vKind ++ [13, 10] ++ vCRS
theorem headT_eq (x : Int × Int) (total : Int) (bd : List UInt8) : headT x total vKind bd = [45, 45] ++ (bd ++ (vMid ++ (contT x total ++ [13, 10, 13, 10]))) := by
  unfold headT vMid vCRS
  simp only [List.append_assoc]
  rfl
theorem occ_get {s sub : List UInt8} {j k : Nat} {c : UInt8} (h : Lib.occAt s sub j = true) (hk : sub[k]? = some c) : s[j + k]? = some c := by
  unfold Lib.occAt at h
  obtain ⟨t, ht⟩ := List.isPrefixOf_iff_prefix.1 h
  have h2 : (s.drop j)[k]? = some c := by
    rw [← ht, List.getElem?_append_left (List.getElem?_eq_some_iff.1 hk).1]
    exact hk
  rw [List.getElem?_drop] at h2
  exact h2
theorem hd_at {bd X : List UInt8} {n : Nat} {c : UInt8} (hb : bd.all alnB = true) (hc : alnB c = false) (h45 : c ≠ 45) (h : ([45, 45] ++ (bd ++ X))[n]? = some c) : bd.length + 2 ≤ n ∧ X[n - 2 - bd.length]? = some c := by
  by_cases h2 : n < 2
  · have : ([45, 45] ++ (bd ++ X))[n]? = some 45 := by
      match n, h2 with
      | 0, _ => rfl
      | 1, _ => rfl
    rw [this] at h
    injection h with h
    exact absurd h.symm h45
  · rw [List.getElem?_append_right (by simp only [List.length_cons, List.length_nil]; omega)] at h
    simp only [List.length_cons, List.length_nil, Nat.zero_add, Nat.reduceAdd] at h
    by_cases h3 : n - 2 < bd.length
    · rw [List.getElem?_append_left h3] at h
      have hm := List.mem_of_getElem? h
      have := List.all_eq_true.1 hb c hm
      rw [hc] at this
      cases this
    · rw [List.getElem?_append_right (by omega)] at h
      exact ⟨by omega, h⟩
theorem mid_58 {k : Nat} {B : List UInt8} (hk : k < 57) (h : (vMid ++ B)[k]? = some 58) : k = 14 ∨ k = 55 := by
  rw [List.getElem?_append_left (by exact hk)] at h
  have : ∀ k : Fin 57, vMid[k.val]? = some 58 → k.val = 14 ∨ k.val = 55 := by decide
  exact this ⟨k, hk⟩ h
theorem idx_crs {bd B : List UInt8} (hb : bd.all alnB = true) : Lib.index ([45, 45] ++ (bd ++ (vMid ++ B))) vCRS = ((bd.length + 44 : Nat) : Int) := by
  refine Lib.index_first (by simp only [List.length_append, show vMid.length = 57 from rfl, List.length_cons, List.length_nil]; omega) ?_ fun j hj => ?_
  · unfold Lib.occAt
    rw [List.isPrefixOf_iff_prefix]
    refine ⟨B, ?_⟩
    have e : [45, 45] ++ (bd ++ (vMid ++ B)) = ([45, 45] ++ bd ++ vMid.take 42) ++ (vCRS ++ B) := by
      have : vMid = vMid.take 42 ++ vCRS := by decide
      simp only [List.append_assoc]
      rw [← List.append_assoc (vMid.take 42), ← this]
    rw [e, List.drop_left' (by simp only [List.length_append, List.length_take, show vMid.length = 57 from rfl, List.length_cons, List.length_nil]; omega)]
  · cases ho : Lib.occAt ([45, 45] ++ (bd ++ (vMid ++ B))) vCRS j with
    | false => rfl
    | true =>
      exfalso
      obtain ⟨a1, a2⟩ := hd_at hb (by decide) (by decide) (occ_get (k := 13) (c := 58) ho rfl)
      have hc : ([45, 45] ++ (bd ++ (vMid ++ B)))[j + 0]? = some 67 := occ_get ho rfl
      rcases mid_58 (by omega) a2 with h | h
      · have e : j = bd.length + 3 := by omega
        subst e
        have h10 : ([45, 45] ++ (bd ++ (vMid ++ B)))[bd.length + 3 + 0]? = some 10 := by
          rw [List.getElem?_append_right (by simp only [List.length_cons, List.length_nil]; omega), List.getElem?_append_right (by simp only [List.length_cons, List.length_nil]; omega)]
          have : bd.length + 3 + 0 - [45, 45].length - bd.length = 1 := by simp only [List.length_cons, List.length_nil]; omega
          simp only [List.length_cons, List.length_nil] at this ⊢
          rw [this]
          rfl
        rw [h10] at hc
        exact absurd hc (by decide)
      · omega
theorem idx_cre {bd B : List UInt8} (hb : bd.all alnB = true) : Lib.index ([45, 45] ++ (bd ++ (vMid ++ B))) vCRE = ((bd.length + 42 : Nat) : Int) := by
  refine Lib.index_first (by simp only [List.length_append, show vMid.length = 57 from rfl, List.length_cons, List.length_nil]; omega) ?_ fun j hj => ?_
  · unfold Lib.occAt
    rw [List.isPrefixOf_iff_prefix]
    refine ⟨B, ?_⟩
    have e : [45, 45] ++ (bd ++ (vMid ++ B)) = ([45, 45] ++ bd ++ vMid.take 40) ++ (vCRE ++ B) := by
      have : vMid = vMid.take 40 ++ vCRE := by decide
      simp only [List.append_assoc]
      rw [← List.append_assoc (vMid.take 40), ← this]
    rw [e, List.drop_left' (by simp only [List.length_append, List.length_take, show vMid.length = 57 from rfl, List.length_cons, List.length_nil]; omega)]
  · cases ho : Lib.occAt ([45, 45] ++ (bd ++ (vMid ++ B))) vCRE j with
    | false => rfl
    | true =>
      exfalso
      obtain ⟨a1, a2⟩ := hd_at hb (by decide) (by decide) (occ_get (k := 15) (c := 58) ho rfl)
      obtain ⟨b1, b2⟩ := hd_at hb (by decide) (by decide) (occ_get (k := 0) (c := 13) ho rfl)
      rcases mid_58 (by omega) a2 with h | h <;> omega
theorem cont_13 {x : Int × Int} {t : Int} (h : contOk x t = true) : ∀ c ∈ contT x t, c ≠ 13 := by
  intro c hc
  rw [contT_yes h] at hc
  have hd := fun n => dig_ne (n := n) (c := 13) (by decide)
  rcases List.mem_append.1 hc with hc | hc
  · exact (by decide : ∀ c ∈ vBytes, c ≠ (13 : UInt8)) c hc
  · rcases List.mem_append.1 hc with hc | hc
    · rcases List.mem_append.1 hc with hc | hc
      · exact hd _ c hc
      · rcases List.mem_cons.1 hc with rfl | hc
        · decide
        · exact hd _ c hc
    · rcases List.mem_cons.1 hc with rfl | hc
      · decide
      · unfold tailT at hc
        split at hc
        · exact (by decide : ∀ c ∈ [(42 : UInt8)], c ≠ (13 : UInt8)) c hc
        · exact hd _ c hc
/-- What the program reads the whole from. -/
def contL (t : List UInt8) : List UInt8 := (Lib.cut (Lib.cut t vCRS).2.1 [13, 10]).1
theorem contL_head {x : Int × Int} {t : Int} {bd : List UInt8} (h : contOk x t = true) (hb : bd.all alnB = true) : contL (headT x t vKind bd) = contT x t := by
  have e1 : (Lib.cut (headT x t vKind bd) vCRS).2.1 = contT x t ++ [13, 10, 13, 10] := by
    rw [headT_eq]
    unfold Lib.cut
    rw [idx_crs hb, if_pos (by omega)]
    simp only [Int.toNat_natCast]
    have e : [45, 45] ++ (bd ++ (vMid ++ (contT x t ++ [13, 10, 13, 10]))) = ([45, 45] ++ bd ++ vMid) ++ (contT x t ++ [13, 10, 13, 10]) := by simp only [List.append_assoc]
    rw [e, List.drop_left' (by simp only [List.length_append, show vMid.length = 57 from rfl, show vCRS.length = 15 from rfl, List.length_cons, List.length_nil]; omega)]
  unfold contL
  rw [e1]
  have e2 : Lib.index (contT x t ++ [13, 10, 13, 10]) [13, 10] = ((contT x t).length : Int) := by
    refine Lib.index_first (by simp) ?_ fun j hj => ?_
    · unfold Lib.occAt
      rw [List.drop_left, List.isPrefixOf_iff_prefix]
      exact ⟨[13, 10], rfl⟩
    · cases ho : Lib.occAt (contT x t ++ [13, 10, 13, 10]) [13, 10] j with
      | false => rfl
      | true =>
        exfalso
        have h1 : (contT x t ++ [13, 10, 13, 10])[j + 0]? = some 13 := occ_get ho rfl
        rw [Nat.add_zero, List.getElem?_append_left hj] at h1
        exact cont_13 h 13 (List.mem_of_getElem? h1) rfl
  unfold Lib.cut
  rw [e2, if_pos (by omega)]
  simp only [Int.toNat_natCast]
  rw [List.take_left]
/-- What the document reads the whole from. -/
def totAt (t : List UInt8) (i : Nat) : Option Int := (rdL ((t.drop (i + 17)).take (max (i + 17) (t.length - 4) - (i + 17)))).map Prod.snd
def totL (t : List UInt8) : Option Int := if Lib.index t vCRE < 0 then none else totAt t (Lib.index t vCRE).toNat
theorem totL_head {x : Int × Int} {t : Int} {bd : List UInt8} (h : contOk x t = true) (hb : bd.all alnB = true) : totL (headT x t vKind bd) = some t := by
  unfold totL
  rw [headT_eq, idx_cre hb, if_neg (by omega)]
  simp only [Int.toNat_natCast]
  unfold totAt
  have e : [45, 45] ++ (bd ++ (vMid ++ (contT x t ++ [13, 10, 13, 10]))) = ([45, 45] ++ bd ++ vMid) ++ (contT x t ++ [13, 10, 13, 10]) := by simp only [List.append_assoc]
  rw [e, List.drop_left' (by simp only [List.length_append, show vMid.length = 57 from rfl, List.length_cons, List.length_nil]; omega), List.take_left' (by simp only [List.length_append, show vMid.length = 57 from rfl, List.length_cons, List.length_nil]; omega), rd_yes ⟨h, rfl⟩]
  rfl
/-- Are parts those of several ranges of so many bytes, at a boundary? -/
structure SevAt (sz : Int) (P : List PartL) (T : Int) (bd : List UInt8) : Prop where
  ne : spansL P ≠ []
  ok : ∀ x ∈ spansL P, contOk x T = true
  bok : boundOk bd = true
  ps : P.map normP = (partsL (spansL P) T vKind bd).map normP
  sz : sz = sizeL (partsL (spansL P) T vKind bd)
/-- May an answer be that tells several ranges? -/
def SevP (sz : Int) (F : List FieldL) (P : List PartL) : Prop := ∃ T bd, (getF F nCT).getD [] = vMulti ++ bd ∧ SevAt sz P T bd
theorem bound_all {bd : List UInt8} (h : boundOk bd = true) : bd.all alnB = true := by
  unfold boundOk at h
  simp only [Bool.and_eq_true] at h
  exact h.2
theorem SevAt.head {sz T : Int} {P : List PartL} {bd : List UInt8} (h : SevAt sz P T bd) : ∃ x p r, P = p :: r ∧ p.1 = headT x T vKind bd ∧ contOk x T = true := by
  have hp := h.ps
  have hk := h.ok
  have hn := h.ne
  generalize spansL P = S at hp hk hn
  cases S with
  | nil => exact absurd rfl hn
  | cons x s =>
    unfold partsL at hp
    rw [partsF, List.cons_append, List.map_cons] at hp
    cases P with
    | nil => cases hp
    | cons p r =>
      rw [List.map_cons] at hp
      injection hp with h1 h2
      refine ⟨x, p, r, rfl, ?_, hk x (by simp)⟩
      have h3 := congrArg Prod.fst h1
      have n1 : ∀ q : PartL, (normP q).1 = q.1 := fun q => by unfold normP; split <;> rfl
      rw [n1, n1] at h3
      simpa using h3
theorem SevAt.cont {sz T : Int} {p : PartL} {r : List PartL} {bd : List UInt8} (h : SevAt sz (p :: r) T bd) : ∃ x, rdL (contL p.1) = some (x, T) := by
  obtain ⟨x, p', r', e, hp, hk⟩ := h.head
  injection e with e1 e2
  subst e1
  rw [hp, contL_head hk (bound_all h.bok)]
  exact ⟨x, rd_yes ⟨hk, rfl⟩⟩
theorem SevAt.tot {sz T : Int} {p : PartL} {r : List PartL} {bd : List UInt8} (h : SevAt sz (p :: r) T bd) : totL p.1 = some T := by
  obtain ⟨x, p', r', e, hp, hk⟩ := h.head
  injection e with e1 e2
  subst e1
  rw [hp, totL_head hk (bound_all h.bok)]
theorem SevP.nil {sz : Int} {F : List FieldL} : ¬ SevP sz F [] := fun ⟨_, _, _, h⟩ => h.ne rfl
theorem SevP.pre {sz : Int} {F : List FieldL} {P : List PartL} (h : SevP sz F P) : Lib.hasPrefix ((getF F nCT).getD []) vMulti = true := by
  obtain ⟨_, bd, e, _⟩ := h
  rw [e]
  unfold Lib.hasPrefix
  rw [List.isPrefixOf_iff_prefix]
  exact ⟨bd, rfl⟩
theorem sevP_iff {sz : Int} {F : List FieldL} {P : List PartL} (hp : Lib.hasPrefix ((getF F nCT).getD []) vMulti = true) : SevP sz F P ↔ ∃ T, SevAt sz P T (Lib.trimPrefix ((getF F nCT).getD []) vMulti) := by
  have hp' := hp
  unfold Lib.hasPrefix at hp
  obtain ⟨bd, hb⟩ := List.isPrefixOf_iff_prefix.1 hp
  have e : Lib.trimPrefix ((getF F nCT).getD []) vMulti = bd := by
    unfold Lib.trimPrefix
    rw [if_pos hp', ← hb, List.drop_left]
  rw [e]
  constructor
  · rintro ⟨T, b', h1, h2⟩
    rw [← hb] at h1
    rw [List.append_cancel_left h1]
    exact ⟨T, h2⟩
  · rintro ⟨T, h⟩
    exact ⟨T, bd, hb.symm, h⟩
/-- By what the program reads, and by what the document does. -/
theorem sev_cont {sz : Int} {p : PartL} {r : List PartL} {bd : List UInt8} {x : Int × Int} {T : Int} (h : rdL (contL p.1) = some (x, T)) : (∃ T, SevAt sz (p :: r) T bd) ↔ SevAt sz (p :: r) T bd := by
  refine ⟨fun ⟨T', h'⟩ => ?_, fun h => ⟨T, h⟩⟩
  obtain ⟨y, hy⟩ := h'.cont
  rw [h] at hy
  injection hy with hy
  injection hy with _ e
  rw [e]
  exact h'
theorem sev_cont_no {sz : Int} {p : PartL} {r : List PartL} {bd : List UInt8} (h : rdL (contL p.1) = none) : ¬ ∃ T, SevAt sz (p :: r) T bd := fun ⟨_, h'⟩ => by
  obtain ⟨y, hy⟩ := h'.cont
  rw [h] at hy
  cases hy
theorem sev_tot {sz : Int} {p : PartL} {r : List PartL} {bd : List UInt8} {T : Int} (h : totL p.1 = some T) : (∃ T, SevAt sz (p :: r) T bd) ↔ SevAt sz (p :: r) T bd := by
  refine ⟨fun ⟨T', h'⟩ => ?_, fun h => ⟨T, h⟩⟩
  have hy := h'.tot
  rw [h] at hy
  injection hy with e
  rw [e]
  exact h'
theorem sev_tot_no {sz : Int} {p : PartL} {r : List PartL} {bd : List UInt8} (h : totL p.1 = none) : ¬ ∃ T, SevAt sz (p :: r) T bd := fun ⟨_, h'⟩ => by
  have hy := h'.tot
  rw [h] at hy
  cases hy
end Go.Proofs.YtaaefgieklkekaaGreatDoor
namespace Go.Proofs.YtaaefgieklkekaaGreatDoor
open Go.RowKit

def Seg (l : List UInt8) : Prop := ∀ c ∈ l, 32 ≤ c.toNat ∧ c.toNat ≤ 126
def Vis (l : List UInt8) : Prop := ∀ c ∈ l, 33 ≤ c.toNat ∧ c.toNat ≤ 126
theorem Vis.seg {l : List UInt8} (h : Vis l) : Seg l := fun c hc => by have := h c hc; omega
theorem Seg.app {a b : List UInt8} (h : Seg a) (h' : Seg b) : Seg (a ++ b) := fun c hc => (List.mem_append.1 hc).elim (h c) (h' c)
theorem Vis.app {a b : List UInt8} (h : Vis a) (h' : Vis b) : Vis (a ++ b) := fun c hc => (List.mem_append.1 hc).elim (h c) (h' c)
/-- No blank stands at its ends. -/
structure Ends (l : List UInt8) : Prop where
  hd : l.head? ≠ some 32
  lt : l.getLast? ≠ some 32
theorem Vis.ends {l : List UInt8} (h : Vis l) : Ends l := ⟨fun e => by have := h 32 (List.mem_of_mem_head? (by rw [e]; rfl)); revert this; decide, fun e => by have := h 32 (List.mem_of_getLast? e); revert this; decide⟩
theorem head_app {a b : List UInt8} (h : a ≠ []) : (a ++ b).head? = a.head? := by
  cases a with
  | nil => exact absurd rfl h
  | cons c r => rfl
theorem last_app {a b : List UInt8} (h : b ≠ []) : (a ++ b).getLast? = b.getLast? := by
  rw [List.getLast?_append, List.getLast?_eq_some_getLast h]
  rfl
theorem Ends.app {a b : List UInt8} (ha : a ≠ []) (hb : b ≠ []) (h1 : a.head? ≠ some 32) (h2 : b.getLast? ≠ some 32) : Ends (a ++ b) := by
  refine ⟨?_, ?_⟩
  · rw [head_app ha]; exact h1
  · rw [last_app hb]; exact h2
theorem dw_self {l : List UInt8} (h : ∀ c, l.head? = some c → blankB c = false) : l.dropWhile blankB = l := by
  cases l with
  | nil => rfl
  | cons c r => rw [List.dropWhile_cons, h c rfl]; rfl
theorem seg_blank {l : List UInt8} (hs : Seg l) {c : UInt8} (hc : c ∈ l) (h : c ≠ 32) : blankB c = false := by
  have h9 : c ≠ 9 := fun e => by subst e; have := hs 9 hc; revert this; decide
  unfold blankB
  rw [beq_eq_false_iff_ne.2 h, beq_eq_false_iff_ne.2 h9]
  rfl
theorem trim_self {l : List UInt8} (hs : Seg l) (he : Ends l) : trimL l = l := by
  unfold trimL
  rw [dw_self (l := l.reverse), List.reverse_reverse, dw_self]
  · intro c hc
    exact seg_blank hs (List.mem_of_mem_head? (by rw [hc]; rfl)) fun e => he.hd (by rw [hc, e])
  · intro c hc
    rw [List.head?_reverse] at hc
    exact seg_blank hs (List.mem_of_getLast? hc) fun e => he.lt (by rw [hc, e])
theorem field_ok {n l : List UInt8} (hn : n.length ≤ 200) (ht : tokOk n = true) (hl : l.length ≤ 8192) (hs : Seg l) (he : Ends l) : fieldOk n l = true := by
  refine fieldOk_yes hn hl ht (by rw [trim_self hs he]; exact beq_self_eq_true _) ?_
  rw [List.all_eq_true]
  intro c hc
  have := hs c hc
  unfold valB
  simp only [Bool.or_eq_true, Bool.and_eq_true, decide_eq_true_eq]
  exact .inl this
theorem vis_dig (n : Int) : Vis (digN n) := fun c hc => by
  have := dig_all c hc
  unfold digB at this
  simp only [Bool.and_eq_true, decide_eq_true_eq] at this
  omega
theorem vis_tag {t : List UInt8} {wk : Bool} (h : tagOk t = true) : Vis (tagT t wk) ∧ (tagT t wk).length ≤ 104 := by
  rw [tagOk_eq] at h
  simp only [Bool.and_eq_true, decide_eq_true_eq] at h
  have hv : Vis t := fun c hc => by
    have := List.all_eq_true.1 h.2 c hc
    unfold tagB at this
    simp only [Bool.and_eq_true, decide_eq_true_eq] at this
    omega
  have hq : Vis ([34] ++ t ++ [34]) := ((by unfold Vis; decide : Vis [34]).app hv).app (by unfold Vis; decide : Vis [34])
  unfold tagT
  split
  · exact ⟨(by unfold Vis; decide : Vis [87, 47]).app hq, by simp only [List.length_append, List.length_cons, List.length_nil]; omega⟩
  · exact ⟨hq, by simp only [List.length_append, List.length_cons, List.length_nil]; omega⟩
theorem vis_name3 {t : List UInt8} (h : Vis t) (k : Int) : Vis (name3 t k) := fun c hc => h c (List.mem_of_mem_drop (List.mem_of_mem_take hc))
theorem vis_dgt (n : Int) : 33 ≤ (dgt n).toNat ∧ (dgt n).toNat ≤ 126 := by
  unfold dgt
  have : (n % 10).toNat < 10 := by omega
  have h : ∀ k : Fin 10, 33 ≤ (UInt8.ofNat (48 + k.val)).toNat ∧ (UInt8.ofNat (48 + k.val)).toNat ≤ 126 := by decide
  exact h ⟨_, this⟩
theorem vis_two (n : Int) : Vis (twoD n) := fun c hc => by
  unfold twoD at hc
  simp only [List.mem_cons, List.not_mem_nil, or_false] at hc
  rcases hc with rfl | rfl <;> exact vis_dgt _
theorem vis_four (n : Int) : Vis (fourD n) := fun c hc => by
  unfold fourD at hc
  simp only [List.mem_cons, List.not_mem_nil, or_false] at hc
  rcases hc with rfl | rfl | rfl | rfl <;> exact vis_dgt _
theorem date_ok (tick : Int) : Seg (dateT tick) ∧ Ends (dateT tick) := by
  have hw := vis_name3 (t := weekT) (by unfold Vis; decide) (dayN (tick / 86400)).week
  have hy := vis_name3 (t := yearT) (by unfold Vis; decide) ((dayN (tick / 86400)).month - 1)
  have s1 : Seg [44, 32] := by unfold Seg; decide
  have s2 : Seg [32] := by unfold Seg; decide
  have s3 : Seg [58] := by unfold Seg; decide
  have s4 : Seg [32, 71, 77, 84] := by unfold Seg; decide
  refine ⟨?_, ?_⟩
  · unfold dateT
    exact ((((((((((((hw.seg.app s1).app (vis_two _).seg).app s2).app hy.seg).app s2).app (vis_four _).seg).app s2).app (vis_two _).seg).app s3).app (vis_two _).seg).app s3).app (vis_two _).seg).app s4
  · unfold dateT
    refine ⟨?_, ?_⟩
    · generalize name3 weekT (dayN (tick / 86400)).week = a at hw
      simp only [List.append_assoc]
      cases a with
      | nil => simp
      | cons c r =>
        rw [List.cons_append, List.head?_cons]
        intro e
        injection e with e
        have := hw c (by simp)
        rw [e] at this
        revert this
        decide
    · rw [last_app (by simp)]
      decide
theorem join_seg {sep : List UInt8} (hs : Seg sep) : ∀ (L : List (List UInt8)), (∀ x ∈ L, Vis x) → Seg (joinB sep L)
  | [], _ => fun c hc => by simp [joinB] at hc
  | x :: r, h => by
    rw [joinB]
    refine (h x (by simp)).seg.app fun c hc => ?_
    obtain ⟨y, hy, hc⟩ := List.mem_flatMap.1 hc
    exact hs.app (h y (by simp [hy])).seg c hc
theorem flat_last {sep : List UInt8} : ∀ (r : List (List UInt8)), (∀ x ∈ r, Vis x ∧ x ≠ []) → (r.flatMap fun y => sep ++ y).getLast? ≠ some 32
  | [], _ => by simp
  | y :: r, h => by
    rw [List.flatMap_cons]
    by_cases hr : (r.flatMap fun y => sep ++ y) = []
    · rw [hr, List.append_nil, last_app (h y (by simp)).2]
      exact (h y (by simp)).1.ends.lt
    · rw [last_app hr]
      exact flat_last r fun x hx => h x (by simp [hx])
theorem join_ends {sep : List UInt8} : ∀ (L : List (List UInt8)), (∀ x ∈ L, Vis x ∧ x ≠ []) → Ends (joinB sep L)
  | [], _ => ⟨by simp [joinB], by simp [joinB]⟩
  | x :: r, h => by
    rw [joinB]
    have hx := h x (by simp)
    by_cases hr : (r.flatMap fun y => sep ++ y) = []
    · rw [hr, List.append_nil]; exact hx.1.ends
    · exact Ends.app hx.2 hr hx.1.ends.hd (flat_last r fun y hy => h y (by simp [hy]))
theorem joinB_len {sep : List UInt8} {n : Nat} : ∀ (L : List (List UInt8)), (∀ x ∈ L, x.length ≤ n) → (joinB sep L).length ≤ L.length * (sep.length + n)
  | [], _ => by simp [joinB]
  | x :: r, h => by
    have hx := h x (by simp)
    have hf : ∀ r : List (List UInt8), (∀ x ∈ r, x.length ≤ n) → (r.flatMap fun y => sep ++ y).length ≤ r.length * (sep.length + n) := by
      intro r
      induction r with
      | nil => intro _; simp
      | cons y r ih =>
        intro h
        have h1 := h y (by simp)
        have h2 := ih fun x hx => h x (by simp [hx])
        rw [List.flatMap_cons, List.length_append, List.length_append, List.length_cons, Nat.succ_mul]
        omega
    have := hf r fun y hy => h y (by simp [hy])
    rw [joinB, List.length_append, List.length_cons, Nat.succ_mul]
    omega
theorem ctl_ok {m : MetaL} (hok : MetaOk m) : Seg (ctlT m) ∧ Ends (ctlT m) ∧ (ctlT m).length ≤ 1000 := by
  have hv : ∀ x ∈ ctlL m, (Vis x ∧ x ≠ []) ∧ x.length ≤ 60 := by
    have k1 := digN_len' (n := m.fresh) (by have := hok.fr; omega)
    have k2 := digN_len' (n := m.wh) (by have := hok.wh; omega)
    have k3 := digN_len' (n := m.er) (by have := hok.er; omega)
    have a0 : (Vis vNoStore ∧ vNoStore ≠ []) ∧ vNoStore.length ≤ 60 := ⟨⟨by unfold Vis; decide, by decide⟩, by decide⟩
    have a1 : (Vis (vShared ++ digN m.fresh) ∧ vShared ++ digN m.fresh ≠ []) ∧ (vShared ++ digN m.fresh).length ≤ 60 := ⟨⟨(by unfold Vis; decide : Vis vShared).app (vis_dig _), by simp [vShared]⟩, by rw [List.length_append, show vShared.length = 9 from rfl]; omega⟩
    have a2 : (Vis (vWhile ++ digN m.wh) ∧ vWhile ++ digN m.wh ≠ []) ∧ (vWhile ++ digN m.wh).length ≤ 60 := ⟨⟨(by unfold Vis; decide : Vis vWhile).app (vis_dig _), by simp [vWhile]⟩, by rw [List.length_append, show vWhile.length = 23 from rfl]; omega⟩
    have a3 : (Vis (vError ++ digN m.er) ∧ vError ++ digN m.er ≠ []) ∧ (vError ++ digN m.er).length ≤ 60 := ⟨⟨(by unfold Vis; decide : Vis vError).app (vis_dig _), by simp [vError]⟩, by rw [List.length_append, show vError.length = 15 from rfl]; omega⟩
    intro x hx
    unfold ctlL at hx
    simp only [List.mem_append, List.mem_singleton] at hx
    rcases hx with ((hx | rfl) | hx) | hx
    · split at hx
      · simp at hx
      · rw [List.mem_singleton] at hx; subst hx; exact a0
    · exact a1
    · split at hx
      · simp at hx
      · rw [List.mem_singleton] at hx; subst hx; exact a2
    · split at hx
      · simp at hx
      · rw [List.mem_singleton] at hx; subst hx; exact a3
  have hl : (ctlL m).length ≤ 4 := by
    unfold ctlL
    simp only [List.length_append, List.length_cons, List.length_nil]
    repeat' split
    all_goals simp
  refine ⟨join_seg (by unfold Seg; decide) _ fun x hx => (hv x hx).1.1, join_ends _ fun x hx => (hv x hx).1, ?_⟩
  have h1 := joinB_len (sep := [44, 32]) (n := 60) _ fun x hx => (hv x hx).2
  have h2 : (ctlL m).length * (([44, 32] : List UInt8).length + 60) ≤ 4 * 62 := Nat.mul_le_mul hl (by decide)
  unfold ctlT
  omega
theorem keys_ok {m : MetaL} (hok : MetaOk m) : Seg (joinB [32] m.keys) ∧ Ends (joinB [32] m.keys) ∧ (joinB [32] m.keys).length ≤ 8192 := by
  have hv : ∀ x ∈ m.keys, (Vis x ∧ x ≠ []) ∧ x.length ≤ 200 := by
    intro x hx
    have h := hok.ka x hx
    rw [keyOk_eq] at h
    simp only [Bool.and_eq_true, decide_eq_true_eq] at h
    refine ⟨⟨fun c hc => ?_, fun e => by rw [e] at h; simp at h⟩, h.1.2⟩
    have := List.all_eq_true.1 h.2 c hc
    unfold keyB at this
    simp only [Bool.and_eq_true, decide_eq_true_eq] at this
    exact this
  refine ⟨join_seg (by unfold Seg; decide) _ fun x hx => (hv x hx).1.1, join_ends _ fun x hx => (hv x hx).1, ?_⟩
  have h1 := joinB_len (sep := [32]) (n := 200) _ fun x hx => (hv x hx).2
  have h2 : m.keys.length * (([32] : List UInt8).length + 200) ≤ 32 * 201 := Nat.mul_le_mul hok.kn (by decide)
  omega
theorem ten_ok {m : MetaL} (hok : MetaOk m) : Vis m.ten ∧ m.ten.length ≤ 40 := by
  have h := hok.tn
  rw [tenOk_eq] at h
  simp only [Bool.and_eq_true, decide_eq_true_eq] at h
  refine ⟨fun c hc => ?_, h.1.1⟩
  have := List.all_eq_true.1 h.2 c hc
  unfold tenB nameB at this
  simp only [Bool.or_eq_true, Bool.and_eq_true, decide_eq_true_eq] at this
  omega
/-- The names of a version's fields. -/
def metaN : List (List UInt8) := [nETag, nMod, nCtl, nAge, nKey, nTen, nLen, nHave]
theorem metaN_ok : ∀ n ∈ metaN, n.length ≤ 200 ∧ tokOk n = true ∧ likeB n nCR = false ∧ likeB n nCT = false := by decide
theorem fields_ok {m : MetaL} (hok : MetaOk m) : ∀ f ∈ fieldsL m, f.1 ∈ metaN ∧ fieldOk f.1 f.2 = true := by
  have hg : ∀ (n l : List UInt8), n ∈ metaN → l.length ≤ 8192 → Seg l → Ends l → n ∈ metaN ∧ fieldOk n l = true := fun n l hn hl hs he => ⟨hn, field_ok (metaN_ok n hn).1 (metaN_ok n hn).2.1 hl hs he⟩
  intro f hf
  unfold fieldsL at hf
  simp only [List.mem_append, List.mem_singleton] at hf
  rcases hf with (((((hf | hf) | rfl) | rfl) | hf) | hf) | hf
  · split at hf
    · simp at hf
    · rw [List.mem_singleton] at hf
      subst hf
      rename_i h0
      have ht : tagOk m.tag = true := by
        rcases hok.tg with h | h
        · exfalso; apply h0; unfold tag0; rw [h.1, h.2]; rfl
        · exact h
      have := vis_tag (wk := m.weak) ht
      exact hg nETag _ (by decide) (by simp only; omega) this.1.seg this.1.ends
  · split at hf
    · simp at hf
    · rw [List.mem_singleton] at hf
      subst hf
      have h1 := date_ok m.mo
      have h2 := dateT_len m.mo
      exact hg nMod _ (by decide) (by simp only; omega) h1.1 h1.2
  · have h := ctl_ok hok
    exact hg nCtl _ (by decide) (by simp only; omega) h.1 h.2.1
  · have h : Vis [48] := by unfold Vis; decide
    exact hg nAge _ (by decide) (by decide) h.seg h.ends
  · split at hf
    · simp at hf
    · rw [List.mem_singleton] at hf
      subst hf
      have h := keys_ok hok
      exact hg nKey _ (by decide) h.2.2 h.1 h.2.1
  · split at hf
    · simp at hf
    · rw [List.mem_singleton] at hf
      subst hf
      have h := ten_ok hok
      exact hg nTen _ (by decide) (by simp only; omega) h.1.seg h.1.ends
  · have kl := digN_len' (n := m.len) (by have := hok.ln; omega)
    have kh := digN_len' (n := m.hv) (by have := hok.hv; omega)
    split at hf
    · simp only [List.mem_cons, List.not_mem_nil, or_false] at hf
      rcases hf with rfl | rfl
      · have h : Vis [42] := by unfold Vis; decide
        exact hg nLen _ (by decide) (by decide) h.seg h.ends
      · exact hg nHave _ (by decide) (by simp only; omega) (vis_dig _).seg (vis_dig _).ends
    · rw [List.mem_singleton] at hf
      subst hf
      exact hg nLen _ (by decide) (by simp only; omega) (vis_dig _).seg (vis_dig _).ends
theorem cr_ok {l : List UInt8} (hl : l.length ≤ 8192) (hs : Seg l) (he : Ends l) : fieldOk nCR l = true := field_ok (by decide) (by decide) hl hs he
theorem ct_ok {l : List UInt8} (hl : l.length ≤ 8192) (hs : Seg l) (he : Ends l) : fieldOk nCT l = true := field_ok (by decide) (by decide) hl hs he
theorem star_ok {n : Int} (h : n ≤ 9223372036854775807) : fieldOk nCR (vStar ++ digN n) = true := by
  have k := digN_len' h
  exact cr_ok (by rw [List.length_append, show vStar.length = 8 from rfl]; omega) ((by unfold Seg; decide : Seg vStar).app (vis_dig _).seg) (Ends.app (by decide) (digN_ne _) (by decide) (vis_dig _).ends.lt)
theorem vis_tail (t : Int) : Vis (tailT t) ∧ tailT t ≠ [] := by
  unfold tailT
  split
  · exact ⟨by unfold Vis; decide, by decide⟩
  · exact ⟨vis_dig _, digN_ne _⟩
theorem content_ok {x : Int × Int} {t : Int} (h : contOk x t = true) : fieldOk nCR (contT x t) = true := by
  have k := contT_len h
  refine cr_ok (by omega) ?_ ?_
  · rw [contT_yes h]
    exact (by unfold Seg; decide : Seg vBytes).app (((vis_dig _).seg.app ((by unfold Seg; decide : Seg [45]).app (vis_dig _).seg)).app ((by unfold Seg; decide : Seg [47]).app (vis_tail t).1.seg))
  · have e : contT x t = (vBytes ++ ((digN x.1 ++ 45 :: digN (x.2 - 1)) ++ [47])) ++ tailT t := by rw [contT_yes h]; simp only [List.append_assoc, List.cons_append, List.nil_append]
    rw [e]
    exact Ends.app (by simp [vBytes]) (vis_tail t).2 (by simp [vBytes]) (vis_tail t).1.ends.lt
theorem vis_bound (seed : Int) : Vis (boundT seed) ∧ boundT seed ≠ [] := by
  have hk := boundT_ok seed
  have hl := boundT_len seed
  refine ⟨fun c hc => ?_, fun e => by rw [e] at hl; cases hl⟩
  have := List.all_eq_true.1 (bound_all hk) c hc
  unfold alnB at this
  simp only [Bool.or_eq_true, Bool.and_eq_true, decide_eq_true_eq] at this
  omega
theorem multi_ok (seed : Int) : fieldOk nCT (vMulti ++ boundT seed) = true := by
  have hl := boundT_len seed
  exact ct_ok (by rw [List.length_append, show vMulti.length = 31 from rfl]; omega) ((by unfold Seg; decide : Seg vMulti).app (vis_bound seed).1.seg) (Ends.app (by decide) (vis_bound seed).2 (by decide) (vis_bound seed).1.ends.lt)
theorem getF_skip : ∀ {a b : List FieldL} {n : List UInt8}, (∀ f ∈ a, likeB f.1 n = false) → getF (a ++ b) n = getF b n
  | [], b, n, _ => rfl
  | f :: r, b, n, h => by
    rw [List.cons_append, getF, h f (by simp), getF_skip fun g hg => h g (by simp [hg])]
    rfl
theorem get_cr {m : MetaL} (hok : MetaOk m) (v : List UInt8) : getF (fieldsL m ++ [(nCR, v)]) nCR = some v := by
  rw [getF_skip fun f hf => (metaN_ok f.1 (fields_ok hok f hf).1).2.2.1, getF, show likeB nCR nCR = true from by decide]
  rfl
theorem get_ct {m : MetaL} (hok : MetaOk m) (v : List UInt8) : getF (fieldsL m ++ [(nCT, v)]) nCT = some v := by
  rw [getF_skip fun f hf => (metaN_ok f.1 (fields_ok hok f hf).1).2.2.2, getF, show likeB nCT nCT = true from by decide]
  rfl
end Go.Proofs.YtaaefgieklkekaaGreatDoor
namespace Go.Proofs.YtaaefgieklkekaaGreatDoor
open Go.RowKit

/-- How many bytes there are by the first text; or that none tells it. -/
def TotPost (P : List PartL) (w : World) (e : Ending) (w' : World) : Prop := ∃ (n : Int) (o : Bool), e = .returned (.tuple #[.int .i64 n, .bool o]) ∧ (o = true → ∃ p r, P = p :: r ∧ totL p.1 = some n) ∧ (o = false → ∀ p r, P = p :: r → totL p.1 = none) ∧ Below w.heap.size w w'
theorem tot_none {P : List PartL} {w w' : World} {n : Int} (h : ∀ p r, P = p :: r → totL p.1 = none) (hb : Below w.heap.size w w') : TotPost P w (.returned (.tuple #[.int .i64 n, .bool false])) w' := ⟨n, false, rfl, (fun h => by cases h), fun _ => h, hb⟩
theorem tot_some {p : PartL} {r : List PartL} {w w' : World} {n : Int} (h : totL p.1 = some n) (hb : Below w.heap.size w w') : TotPost (p :: r) w (.returned (.tuple #[.int .i64 n, .bool true])) w' := ⟨n, true, rfl, (fun _ => ⟨p, r, rfl, h⟩), (fun h => by cases h), hb⟩
theorem totL_hit {t : List UInt8} {k : Nat} (h : Lib.NoOcc t vCRE k) (hk : k ≤ t.length) (ho : Lib.occAt t vCRE k = true) : totL t = totAt t k := by
  unfold totL
  rw [Lib.index_hit h hk ho, if_neg (by omega), Int.toNat_natCast]
theorem totL_past {t : List UInt8} {k : Nat} (h : Lib.NoOcc t vCRE k) (hk : t.length < k + 17) : totL t = none := by
  unfold totL
  rw [Lib.index_past (by decide) h hk, if_pos (by omega)]
theorem ex_mid15 (s : ByteArray) (l : List UInt8) (hs : (⟨l.toArray⟩ : ByteArray) = s) (a b : Nat) : s.extract a b = ⟨((l.drop a).take (b - a)).toArray⟩ := by
  rw [← hs]
  apply ByteArray.ext
  simp
set_option maxHeartbeats 8000000 in
set_option maxRecDepth 100000 in
theorem rtotal_any (st sz : Int) (FA : Option Addr) (fk fc : Nat) (PA : Option Addr) (pc pk : Nat) (P : List PartL) (w : World) (hpk : pk = P.length) (h : SpG encPt 3 w PA pc P) (hl : P.length ≤ 1000) (hpt : ∀ p ∈ P, p.1.length ≤ 100000) :
    Calls Tryz.prog 88 #[.agg #[.int .i64 st, .slice FA fk fc, .slice PA pk pc, .int .i64 sz]] w (TotPost P w) := by
  subst hpk
  have HH := Lib.hid h
  clear h
  cases P with
  | nil =>
    go_enter Tryz.func88, Tryz.ntmps88
    go_wp2_with fail
    go_loopw [6] (fun i wr => i = .int .i64 0 ∧ wr = w.alloc (.cells #[.int .i64 st, .slice FA fk fc, .slice PA 0 pc, .int .i64 sz] 43)) (fun i _ => (intOf i).toNat)
    case atStart => exact ⟨rfl, rfl⟩
    case round =>
      obtain ⟨rfl, rfl⟩ := hrel
      go_wp2_with fail
      refine bodyPost_ret (by simp [results, Tryz.results88, go_sem]; try rfl) rfl ?_
      exact tot_none (fun p r e => by cases e) (bel_alloc (Below.refl _ _) _)
  | cons p r =>
    obtain ⟨t, y1, y2⟩ := p
    obtain ⟨b0, off0, e0, hb0, hc0⟩ := HH.out.at' 0 (by simp)
    have c0 := hc0 0 (.string ⟨t.toArray⟩) rfl
    simp only [Nat.add_zero, Nat.zero_mul] at c0
    have htl : t.length ≤ 100000 := hpt _ List.mem_cons_self
    have hpos : (0 : Int) < (((t, y1, y2) :: r).length : Int) := by simp only [List.length_cons]; omega
    obtain ⟨m, hm⟩ : ∃ m, ((t, y1, y2) :: r).length = m := ⟨_, rfl⟩
    rw [hm] at hpos ⊢
    have HRG := fun (l' : List UInt8) (hl' : l'.length ≤ 100000) W => Lib.hid (r11range_any l' W hl')
    have hsz : (⟨t.toArray⟩ : ByteArray).size = t.length := ba_size t
    obtain ⟨s, hs⟩ : ∃ s : ByteArray, (⟨t.toArray⟩ : ByteArray) = s := ⟨_, rfl⟩
    rw [hs] at hsz c0
    have HS := Lib.hid hs
    have HSZ := Lib.hid hsz
    subst e0
    clear hc0 hl hpt hm hs HH
    go_enter Tryz.func88, Tryz.ntmps88
    go_wp2_with fail
    go_loopw [6] (fun i wr => ∃ k : Nat, k ≤ t.length ∧ i = .int .i64 (k : Int) ∧ Lib.NoOcc t vCRE k ∧ wr = w.alloc (.cells #[.int .i64 st, .slice FA fk fc, .slice (some ⟨b0, off0, none⟩) m pc, .int .i64 sz] 43)) (fun i _ => t.length - (intOf i).toNat)
    case atStart => exact ⟨0, Nat.zero_le _, rfl, Lib.NoOcc.zero _ _, rfl⟩
    case round =>
      obtain ⟨k, hk, rfl, hno, rfl⟩ := hrel
      have HN := Lib.hid hno
      clear hno
      by_cases hin : k + 17 ≤ t.length
      · have h1 : (k : Int) + 17 ≤ (t.length : Int) := by omega
        have h2 : ((k : Int) + 17).toNat = k + 17 := by omega
        have h3 : (k : Int) ≤ (k : Int) + 17 := by omega
        have h4 : (0 : Int) ≤ (k : Int) + 17 := by omega
        have h5 : (4 : Int) ≤ (t.length : Int) := by omega
        have hx := ex_mid15 s t HS.out k (k + 17)
        rw [Nat.add_sub_cancel_left] at hx
        have HOC := Lib.hid (Lib.occAt_iff_take t vCRE k hin)
        cases hoc : Lib.occAt t vCRE k with
        | false =>
          have HN2 := Lib.hid (HN.out.succ hoc)
          have hb : ((t.drop k).take 17 == [13, 10, 67, 111, 110, 116, 101, 110, 116, 45, 82, 97, 110, 103, 101, 58, 32]) = false := by rw [hoc] at HOC; exact HOC.out.symm
          clear hoc HOC
          go_wp2_with fail
          go_roundw
          case rel => exact ⟨k + 1, by omega, by go_num, HN2.out, trivial⟩
          case measure => simp [intOf]; omega
        | true =>
          have HT := Lib.hid (totL_hit HN.out hk hoc)
          have hb : ((t.drop k).take 17 == [13, 10, 67, 111, 110, 116, 101, 110, 116, 45, 82, 97, 110, 103, 101, 58, 32]) = true := by rw [hoc] at HOC; exact HOC.out.symm
          clear hoc HOC
          obtain ⟨M, hM⟩ : ∃ M : Nat, M = max (k + 17) (t.length - 4) := ⟨_, rfl⟩
          have m1 : max ((k : Int) + 17) ((t.length : Int) - 4) = (M : Int) := by omega
          have m2 : M ≤ t.length := by omega
          have m3 : k + 17 ≤ M := by omega
          have hx2 := ex_mid15 s t HS.out (k + 17) M
          have HT2 : Hid (totL t = (rdL ((t.drop (k + 17)).take (M - (k + 17)))).map Prod.snd) := by simp only [Hid]; rw [HT.out]; unfold totAt; rw [hM]
          have htx : ((t.drop (k + 17)).take (M - (k + 17))).length ≤ 100000 := by rw [List.length_take, List.length_drop]; omega
          obtain ⟨tx, htxx⟩ : ∃ l, (t.drop (k + 17)).take (M - (k + 17)) = l := ⟨_, rfl⟩
          rw [htxx] at hx2 HT2 htx
          have HR := fun W => HRG tx htx W
          obtain ⟨o, ho⟩ : ∃ o, rdL tx = o := ⟨_, rfl⟩
          have HR2 : ∀ W, Hid (Calls Tryz.prog 87 #[.string ⟨tx.toArray⟩] W fun e w' => e = .returned (rangeV o) ∧ Below W.heap.size W w') := fun W => by
            refine Lib.hid ((HR W).out.mono ?_)
            rintro e w' ⟨o', ho', rfl, hb⟩
            rw [ho'.uniq (rd_read _), ho]
            exact ⟨rfl, hb⟩
          rw [ho] at HT2
          clear HR HRG ho hM HT htxx htx HN
          unfold rangeV at HR2
          cases o with
          | none =>
            simp only at HR2
            go_wp2_with (go_at_call 87; refine (HR2 _).out.mono ?_; rintro e w1 ⟨rfl, hb1⟩)
            refine bodyPost_ret (by simp [results, Tryz.results88, go_sem]; try rfl) rfl ?_
            exact tot_none (fun p r' e => by injection e with e1 e2; rw [← e1]; exact HT2.out) (bel_alloc (bel_chain hb1 (bel_alloc (Below.refl _ _) _)) _)
          | some xT =>
            obtain ⟨⟨u1, u2⟩, T⟩ := xT
            simp only at HR2
            go_wp2_with (go_at_call 87; refine (HR2 _).out.mono ?_; rintro e w1 ⟨rfl, hb1⟩)
            refine bodyPost_ret (by simp [results, Tryz.results88, go_sem]; try rfl) rfl ?_
            exact tot_some HT2.out (bel_alloc (bel_chain hb1 (bel_alloc (Below.refl _ _) _)) _)
      · have h1 : ¬ (k : Int) + 17 ≤ (t.length : Int) := by omega
        have HT := Lib.hid (totL_past HN.out (by omega))
        clear hin HN
        go_wp2_with fail
        refine bodyPost_ret (by simp [results, Tryz.results88, go_sem]; try rfl) rfl ?_
        exact tot_none (fun p r' e => by injection e with e1 e2; rw [← e1]; exact HT.out) (bel_alloc (Below.refl _ _) _)
end Go.Proofs.YtaaefgieklkekaaGreatDoor
