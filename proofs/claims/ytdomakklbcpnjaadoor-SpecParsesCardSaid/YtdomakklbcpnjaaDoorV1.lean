/- Contracts of the reference on texts of ranges: number, item, small, bare. -/
import Derived.Test.YtdomakklbcpnjaaDoorS10
import Derived.Laws.IdiomStrings
namespace Go.Proofs.YtdomakklbcpnjaaDoor
open Go.RowKit

set_option maxHeartbeats 2000000 in
set_option maxRecDepth 100000 in
theorem r4number_any (s : ByteArray) (w : World) (hs : s.size ≤ 9223372036854775807) :
    Calls Tryd.prog 121 #[.string s] w fun e w' => e = .returned (.int .i64 ((numL s.data.toList).getD (-1))) ∧ w = w' := by
  obtain ⟨l, hl⟩ : ∃ l, l = s.data.toList := ⟨_, rfl⟩
  have hsz : s.size = l.length := by rw [hl, Array.length_toList]; rfl
  rw [← hl]
  have HL := Lib.hid hl
  clear hl
  by_cases h1 : l.length < 1 ∨ 18 < l.length
  · have HN : Hid (numL l = none) := by simp only [Hid, numL]; rw [if_pos h1]
    have HZ := Lib.hid hsz
    rcases h1 with h1 | h1
    · have hz : s.size < 1 := by omega
      clear hsz h1
      go_enter Tryd.func121, Tryd.ntmps121
      go_wp2_with fail
      go_ret
      exact ⟨ret_int (by rw [HN.out]; rfl), rfl⟩
    · have hz : 18 < s.size := by omega
      clear hsz h1
      go_enter Tryd.func121, Tryd.ntmps121
      go_wp2_with fail
      go_ret
      exact ⟨ret_int (by rw [HN.out]; rfl), rfl⟩
  · have hz1 : 1 ≤ s.size := by omega
    have hz2 : s.size ≤ 18 := by omega
    have HN : Hid (numL l = numFrom 0 l) := by simp only [Hid, numL]; rw [if_neg h1]
    have HZ := Lib.hid hsz
    clear hsz h1
    rw [HN.out]
    clear HN
    go_enter Tryd.func121, Tryd.ntmps121
    go_wp2_with fail
    go_loop [3, 4] (fun n i => ∃ (k : Nat) (acc : Int), k ≤ s.size ∧ i = .int .i64 k ∧ n = .int .i64 acc ∧ 0 ≤ acc ∧ acc < 10 ^ k ∧ numFrom acc (l.drop k) = numFrom 0 l) (fun _ i => s.size - (intOf i).toNat)
    case atStart => exact ⟨0, 0, Nat.zero_le _, rfl, rfl, by omega, by decide, rfl⟩
    case round =>
      obtain ⟨k, acc, hk, rfl, rfl, ha0, ha1, he⟩ := hrel
      have HE := Lib.hid he
      have HA := Lib.hid ha1
      clear he ha1
      by_cases hlt : k < s.size
      · have hkl : k < l.length := by have := HZ.out; omega
        have ha2 : acc ≤ 100000000000000000 := by have := HA.out; have := pow_le17 (k := k) (by omega); omega
        have HS := Lib.hid (numFrom_step (acc := acc) hkl)
        have hc : s[k] = l[k] := by simp only [HL.out]; rfl
        have HC := Lib.hid hc
        clear hc
        have hcb : (s[k]).toNat < 256 := UInt8.toNat_lt _
        by_cases hd : digB l[k] = true
        · have hd2 := dig_toNat hd
          rw [← HC.out] at hd2
          obtain ⟨hd3, hd4⟩ := hd2
          have HT : Hid (numFrom (acc * 10 + (((s[k]).toNat : Int) - 48)) (l.drop (k + 1)) = numFrom 0 l) := by
            simp only [Hid]; rw [← HE.out, HS.out, if_pos hd, HC.out]
          have HP : Hid (acc * 10 + (((s[k]).toNat : Int) - 48) < 10 ^ (k + 1)) := by
            have := HA.out
            simp only [Hid]; rw [Int.pow_succ]; omega
          clear HS HE HA hd
          go_wp2_with fail
          go_round
          case rel => exact ⟨k + 1, acc * 10 + (((s[k]).toNat : Int) - 48), by omega, by go_num, by go_num, by omega, HP.out, HT.out⟩
          case measure => simp [intOf]; omega
        · have HT : Hid (numFrom 0 l = none) := by simp only [Hid]; rw [← HE.out, HS.out, if_neg hd]
          have hd2 : (s[k]).toNat < 48 ∨ 57 < (s[k]).toNat := by
            rw [HC.out]; simp [digB] at hd; omega
          clear HS HE HA hd
          rcases hd2 with hd2 | hd2
          · go_wp2_with fail
            go_ret
            exact ⟨ret_int (by rw [HT.out]; rfl), rfl⟩
          · have hd3 : 48 ≤ (s[k]).toNat := by omega
            go_wp2_with fail
            go_ret
            exact ⟨ret_int (by rw [HT.out]; rfl), rfl⟩
      · have HT : Hid (numFrom 0 l = some acc) := by
          have := HZ.out
          simp only [Hid]; rw [← HE.out, List.drop_eq_nil_of_le (by omega)]; rfl
        go_wp2_with fail
        go_ret
        exact ⟨ret_int (by rw [HT.out]; rfl), rfl⟩

/-- A text without the blanks behind it. -/
def rtL (l : List UInt8) : List UInt8 := (l.reverse.dropWhile blankB).reverse
theorem rtL_snoc (l : List UInt8) (c : UInt8) : rtL (l ++ [c]) = if blankB c = true then rtL l else l ++ [c] := by
  unfold rtL
  rw [List.reverse_append]
  cases h : blankB c <;> simp [h]
theorem rtL_cons (c : UInt8) : ∀ (l : List UInt8), rtL (c :: l) = if (blankB c && (rtL l).isEmpty) = true then [] else c :: rtL l := by
  intro l
  unfold rtL
  rw [List.reverse_cons, List.dropWhile_append]
  cases h : (List.dropWhile blankB l.reverse).isEmpty
  · have : (List.dropWhile blankB l.reverse).reverse.isEmpty = false := by simpa using h
    simp [this]
  · have h2 : List.dropWhile blankB l.reverse = [] := List.isEmpty_iff.1 h
    rw [h2]
    cases h3 : blankB c <;> simp [h3]
theorem trim_comm : ∀ (l : List UInt8), rtL (l.dropWhile blankB) = (rtL l).dropWhile blankB
  | [] => rfl
  | c :: r => by
    have ih := trim_comm r
    rw [rtL_cons]
    cases h : blankB c
    · simp [h, rtL_cons]
    · cases h2 : (rtL r).isEmpty
      · simp [h, ih]
      · have h3 : rtL r = [] := List.isEmpty_iff.1 h2
        simp [h, ih, h3]
theorem trimL_eq (l : List UInt8) : trimL l = rtL (l.dropWhile blankB) := by rw [trim_comm]; rfl
/-- What the reference makes of an item. -/
theorem item_none {l : List UInt8} (h : ∀ c ∈ l, c ≠ 45) : itemL l = none := by unfold itemL; rw [cutD_none h]
theorem num_pos (l : List UInt8) : decide (0 ≤ (numL l).getD (-1)) = (numL l).isSome := by
  cases h : numL l with
  | none => rfl
  | some x => simpa using (numL_range h).1
theorem item_first {a b : List UInt8} (h : ∀ c ∈ a, c ≠ 45) (ha : a.length = 0) : (itemL (a ++ 45 :: b)).isSome = decide (0 ≤ (numL b).getD (-1)) ∧ ∀ y, itemL (a ++ 45 :: b) = some y → y = (-1, (numL b).getD (-1)) := by
  obtain rfl : a = [] := List.eq_nil_of_length_eq_zero ha
  unfold itemL
  rw [cutD_some h, num_pos]
  simp only
  cases hb : numL b with
  | none => exact ⟨rfl, fun y hy => by cases hy⟩
  | some x => exact ⟨rfl, fun y hy => by injection hy with hy; exact hy.symm⟩
theorem item_last {a b : List UInt8} (h : ∀ c ∈ a, c ≠ 45) (ha : 0 < a.length) (hb : b.length = 0) : (itemL (a ++ 45 :: b)).isSome = decide (0 ≤ (numL a).getD (-1)) ∧ ∀ y, itemL (a ++ 45 :: b) = some y → y = ((numL a).getD (-1), -1) := by
  obtain rfl : b = [] := List.eq_nil_of_length_eq_zero hb
  unfold itemL
  rw [cutD_some h, num_pos]
  cases a with
  | nil => simp at ha
  | cons c a =>
    simp only
    cases hb : numL (c :: a) with
    | none => exact ⟨rfl, fun y hy => by cases hy⟩
    | some x => exact ⟨rfl, fun y hy => by injection hy with hy; exact hy.symm⟩
theorem item_both {a b : List UInt8} (h : ∀ c ∈ a, c ≠ 45) (ha : 0 < a.length) (hb : 0 < b.length) : (itemL (a ++ 45 :: b)).isSome = (decide (0 ≤ (numL a).getD (-1)) && decide ((numL a).getD (-1) ≤ (numL b).getD (-1))) ∧ ∀ y, itemL (a ++ 45 :: b) = some y → y = ((numL a).getD (-1), (numL b).getD (-1)) := by
  unfold itemL
  rw [cutD_some h, num_pos]
  cases a with
  | nil => simp at ha
  | cons c a =>
    cases b with
    | nil => simp at hb
    | cons d b =>
      simp only
      cases h1 : numL (c :: a) with
      | none => exact ⟨rfl, fun y hy => by cases hy⟩
      | some x =>
        have hx := (numL_range h1).1
        cases h2 : numL (d :: b) with
        | none => exact ⟨by simp; omega, fun y hy => by cases hy⟩
        | some z =>
          by_cases hxz : x ≤ z
          · simp [hxz]
          · simp [hxz]

/-- What the reference's item hands back. -/
def ItemPost (l : List UInt8) (w : World) (e : Ending) (w' : World) : Prop := ∃ p1 p2, e = .returned (.tuple #[.agg #[.int .i64 p1, .int .i64 p2], .bool (itemL l).isSome]) ∧ (∀ y, itemL l = some y → y = (p1, p2)) ∧ Below w.heap.size w w'
theorem num_as (l : List UInt8) (x : Int) (h : (numL l).getD (-1) = x) (w : World) (hl : l.length ≤ 1000000) : Calls Tryd.prog 121 #[.string ⟨l.toArray⟩] w fun e w' => e = .returned (.int .i64 x) ∧ w' = w := by
  have h1 := r4number_any ⟨l.toArray⟩ w (by rw [ba_size]; omega)
  rw [← h]
  exact h1.mono fun _ _ ⟨a, b⟩ => ⟨a, b.symm⟩
theorem cut_at {l : List UInt8} {k : Nat} (hlt : k < l.length) (hd : l[k] = 45) : l = l.take k ++ 45 :: l.drop (k + 1) := by
  have h := List.drop_eq_getElem_cons hlt
  rw [hd] at h
  rw [← h, List.take_append_drop]
theorem take_no {l : List UInt8} {k : Nat} {q : UInt8} (hlt : k < l.length) (hd : l[k] ≠ q) (h : ∀ c ∈ l.take k, c ≠ q) : ∀ c ∈ l.take (k + 1), c ≠ q := by
  intro c hc
  rw [List.take_succ_eq_append_getElem hlt] at hc
  rcases List.mem_append.1 hc with hc | hc
  · exact h c hc
  · simp at hc; rw [hc]; exact hd
theorem item_ret1 {l a b : List UInt8} {y : Int} {w w' : World} (hE : l = a ++ 45 :: b) (hN : ∀ c ∈ a, c ≠ 45) (ha : a.length = 0) (hY : (numL b).getD (-1) = y) (hb : Below w.heap.size w w') : ItemPost l w (.returned (.tuple #[.agg #[.int .i64 (-1), .int .i64 y], .bool (decide (0 ≤ y))])) w' := by
  subst hE
  obtain ⟨h1, h2⟩ := item_first (b := b) hN ha
  rw [hY] at h1 h2
  exact ⟨-1, y, by rw [h1], h2, hb⟩
theorem item_ret2 {l a b : List UInt8} {x : Int} {w w' : World} (hE : l = a ++ 45 :: b) (hN : ∀ c ∈ a, c ≠ 45) (ha : 0 < a.length) (hbl : b.length = 0) (hX : (numL a).getD (-1) = x) (hb : Below w.heap.size w w') : ItemPost l w (.returned (.tuple #[.agg #[.int .i64 x, .int .i64 (-1)], .bool (decide (0 ≤ x))])) w' := by
  subst hE
  obtain ⟨h1, h2⟩ := item_last hN ha hbl
  rw [hX] at h1 h2
  exact ⟨x, -1, by rw [h1], h2, hb⟩
theorem item_ret3 {l a b : List UInt8} {x y : Int} {t : Bool} {w w' : World} (hE : l = a ++ 45 :: b) (hN : ∀ c ∈ a, c ≠ 45) (ha : 0 < a.length) (hbl : 0 < b.length) (hX : (numL a).getD (-1) = x) (hY : (numL b).getD (-1) = y) (ht : t = (decide (0 ≤ x) && decide (x ≤ y))) (hb : Below w.heap.size w w') : ItemPost l w (.returned (.tuple #[.agg #[.int .i64 x, .int .i64 y], .bool t])) w' := by
  subst hE
  obtain ⟨h1, h2⟩ := item_both hN ha hbl
  rw [hX, hY] at h1 h2
  exact ⟨x, y, by rw [h1, ht], h2, hb⟩
theorem item_ret0 {l : List UInt8} {w w' : World} (hI : itemL l = none) (hb : Below w.heap.size w w') : ItemPost l w (.returned (.tuple #[.agg #[.int .i64 0, .int .i64 0], .bool false])) w' :=
  ⟨0, 0, by rw [hI]; rfl, (fun y hy => by rw [hI] at hy; cases hy), hb⟩
theorem drop_blank {t : List UInt8} (h : 0 < t.length) (hb : blankB t[0] = true) : t.tail.dropWhile blankB = t.dropWhile blankB := by
  cases t with
  | nil => simp at h
  | cons c r => simp at hb; simp [hb]
theorem drop_stop {t : List UInt8} (h : 0 < t.length) (hb : blankB t[0] = false) : t.dropWhile blankB = t := by
  cases t with
  | nil => simp at h
  | cons c r => simp at hb; simp [hb]
theorem last_cat {u : List UInt8} (h : 0 < u.length) : u = u.take (u.length - 1) ++ [u[u.length - 1]] := by
  rw [← List.take_succ_eq_append_getElem, List.take_of_length_le (by omega)]
theorem rt_blank {u : List UInt8} (h : 0 < u.length) (hb : blankB u[u.length - 1] = true) : rtL (u.take (u.length - 1)) = rtL u := by
  have e := rtL_snoc (u.take (u.length - 1)) u[u.length - 1]
  rw [← last_cat h, if_pos hb] at e
  exact e.symm
theorem rt_stop {u : List UInt8} (h : 0 < u.length) (hb : blankB u[u.length - 1] = false) : rtL u = u := by
  have e := rtL_snoc (u.take (u.length - 1)) u[u.length - 1]
  rw [← last_cat h, if_neg (by rw [hb]; simp)] at e
  exact e
theorem eq_nat {c : UInt8} {n : Nat} (_h : n < 256) : (((c.toNat : Nat) : Int) == (n : Int)) = decide (c.toNat = n) := by
  rw [Bool.eq_iff_iff]; simp; omega
theorem blank_of {c : UInt8} : blankB c = (decide (c.toNat = 32) || decide (c.toNat = 9)) := by
  unfold blankB
  rw [Bool.eq_iff_iff]
  simp [← UInt8.toNat_inj]
set_option maxHeartbeats 4000000 in
set_option maxRecDepth 100000 in
theorem r4item_any (l : List UInt8) (w : World) (hl : l.length ≤ 100000) :
    Calls Tryd.prog 82 #[.string ⟨l.toArray⟩] w (ItemPost l w) := by
  have hz : (⟨l.toArray⟩ : ByteArray).size = l.length := ba_size l
  go_enter Tryd.func82, Tryd.ntmps82
  go_wp2_with fail
  go_loop [4, 5, 6] (fun i _ _ => ∃ k : Nat, k ≤ l.length ∧ i = .int .i64 k ∧ ∀ c ∈ l.take k, c ≠ 45) (fun i _ _ => l.length - (intOf i).toNat)
  case atStart => exact ⟨0, Nat.zero_le _, rfl, by simp⟩
  case round =>
    obtain ⟨k, hk, rfl, hno⟩ := hrel
    have HNO := Lib.hid hno
    clear hno
    by_cases hlt : k < l.length
    · have hc : (⟨l.toArray⟩ : ByteArray)[k]'(by rw [ba_size]; exact hlt) = l[k] := rfl
      by_cases hd : l[k] = 45
      · have hcd : (((((⟨l.toArray⟩ : ByteArray)[k]'(by rw [ba_size]; exact hlt)).toNat : Nat) : Int) != 45) = false := by rw [hc, hd]; rfl
        have HE := Lib.hid (cut_at hlt hd)
        obtain ⟨a, ha⟩ : ∃ a, l.take k = a := ⟨_, rfl⟩
        obtain ⟨b, hb⟩ : ∃ b, l.drop (k + 1) = b := ⟨_, rfl⟩
        have hal : a.length = k := by rw [← ha]; simp; omega
        have hbl : b.length = l.length - (k + 1) := by rw [← hb]; simp
        have e1 : (⟨l.toArray⟩ : ByteArray).extract 0 k = ⟨a.toArray⟩ := by rw [← ha]; exact ex_take ⟨l.toArray⟩ k
        have e2 : (⟨l.toArray⟩ : ByteArray).extract (k + 1) l.length = ⟨b.toArray⟩ := by rw [← hb]; have := ex_drop ⟨l.toArray⟩ (k + 1); rwa [ba_size] at this
        rw [ha, hb] at HE
        rw [ha] at HNO
        obtain ⟨x, hx⟩ : ∃ x, (numL a).getD (-1) = x := ⟨_, rfl⟩
        obtain ⟨y, hy⟩ : ∃ y, (numL b).getD (-1) = y := ⟨_, rfl⟩
        have HX := Lib.hid hx
        have HY := Lib.hid hy
        have HAL := Lib.hid hal
        have HBL := Lib.hid hbl
        have HA1 : Hid (a.length ≤ 1000000) := by simp only [Hid]; omega
        have HB1 : Hid (b.length ≤ 1000000) := by simp only [Hid]; omega
        have hk0 : (0 : Int) ≤ (k : Int) := by omega
        have hk1 : (k : Int) ≤ (l.length : Int) := by omega
        have hk2 : (0 : Int) ≤ (k : Int) + 1 := by omega
        have hk3 : (k : Int) + 1 ≤ (l.length : Int) := by omega
        have wk : IntKind.i64.wrap ((k : Int) + 1) = (k : Int) + 1 := IntWalk.i64_in _ (by omega)
        have wt : ((k : Int) + 1).toNat = k + 1 := by omega
        clear hx hy ha hb hd hc hal hbl
        go_wp2_with fail
        go_quiet ((first | (go_at_call_of 121 (Value.string ⟨a.toArray⟩); exact Calls.quiet_of_same (num_as a x HX.out _ HA1.out)) | (go_at_call_of 121 (Value.string ⟨b.toArray⟩); exact Calls.quiet_of_same (num_as b y HY.out _ HB1.out)) | (trace_state; fail)))
        by_cases h0 : k = 0
        · have t0 : ((k : Int) == 0) = true := by simp; omega
          go_wp2_with fail
          refine bodyPost_ret (by simp [results, Tryd.results82, go_sem]; try rfl) rfl ?_
          exact item_ret1 HE.out HNO.out (by rw [HAL.out]; exact h0) HY.out (by (repeat (first | exact Below.refl _ _ | refine bel_drewN ?_ _ | refine bel_drew ?_ | refine bel_alloc ?_ _ | refine bel_set ?_ (by simp) _)))
        · have t0 : ((k : Int) == 0) = false := by simp; omega
          by_cases h1 : k + 1 = l.length
          · have t1 : ((k : Int) + 1 == (l.length : Int)) = true := by simp; omega
            go_wp2_with fail
            refine bodyPost_ret (by simp [results, Tryd.results82, go_sem]; try rfl) rfl ?_
            exact item_ret2 HE.out HNO.out (by rw [HAL.out]; omega) (by rw [HBL.out]; omega) HX.out (by (repeat (first | exact Below.refl _ _ | refine bel_drewN ?_ _ | refine bel_drew ?_ | refine bel_alloc ?_ _ | refine bel_set ?_ (by simp) _)))
          · have t1 : ((k : Int) + 1 == (l.length : Int)) = false := by rw [beq_eq_false_iff_ne]; omega
            by_cases hx0 : 0 ≤ x
            · go_wp2_with fail
              refine bodyPost_ret (by simp [results, Tryd.results82, go_sem]; try rfl) rfl ?_
              exact item_ret3 HE.out HNO.out (by rw [HAL.out]; omega) (by rw [HBL.out]; omega) HX.out HY.out (by simp [hx0]) (by (repeat (first | exact Below.refl _ _ | refine bel_drewN ?_ _ | refine bel_drew ?_ | refine bel_alloc ?_ _ | refine bel_set ?_ (by simp) _)))
            · go_wp2_with fail
              refine bodyPost_ret (by simp [results, Tryd.results82, go_sem]; try rfl) rfl ?_
              exact item_ret3 HE.out HNO.out (by rw [HAL.out]; omega) (by rw [HBL.out]; omega) HX.out HY.out (by rw [decide_eq_false (show ¬ 0 ≤ x by omega)]; rfl) (by (repeat (first | exact Below.refl _ _ | refine bel_drewN ?_ _ | refine bel_drew ?_ | refine bel_alloc ?_ _ | refine bel_set ?_ (by simp) _)))
      · have hcd : (((((⟨l.toArray⟩ : ByteArray)[k]'(by rw [ba_size]; exact hlt)).toNat : Nat) : Int) != 45) = true := by
          rw [hc, bne_iff_ne]
          intro e
          apply hd
          have : (l[k]).toNat = 45 := by omega
          exact UInt8.toNat_inj.1 (by rw [this]; rfl)
        have HN := Lib.hid (take_no hlt hd HNO.out)
        clear hc hd HNO
        go_wp2_with fail
        go_round
        case rel => exact ⟨k + 1, by omega, by go_num, HN.out⟩
        case measure => simp [intOf]; omega
    · have HI : Hid (itemL l = none) := item_none (by have := HNO.out; rw [List.take_of_length_le (by omega)] at this; exact this)
      go_wp2_with fail
      refine bodyPost_ret (by simp [results, Tryd.results82, go_sem]; try rfl) rfl ?_
      exact item_ret0 HI.out (by (repeat (first | exact Below.refl _ _ | refine bel_drewN ?_ _ | refine bel_drew ?_ | refine bel_alloc ?_ _ | refine bel_set ?_ (by simp) _)))
set_option maxHeartbeats 4000000 in
set_option maxRecDepth 100000 in
theorem r4bare_any (l : List UInt8) (w : World) (hl : l.length ≤ 100000) :
    Calls Tryd.prog 81 #[.string ⟨l.toArray⟩] w fun e w' => e = .returned (.string ⟨(trimL l).toArray⟩) ∧ Below w.heap.size w w' := by
  go_enter Tryd.func81, Tryd.ntmps81
  go_wp2_with fail
  go_loop [0] (fun s => ∃ t : List UInt8, t.length ≤ l.length ∧ s = .string ⟨t.toArray⟩ ∧ t.dropWhile blankB = l.dropWhile blankB) (fun s => match s with | .string b => b.size | _ => 0)
  case atStart => exact ⟨l, Nat.le_refl _, rfl, rfl⟩
  case round =>
    obtain ⟨t, htl, rfl, ht⟩ := hrel
    have HT := Lib.hid ht
    have hz : (⟨t.toArray⟩ : ByteArray).size = t.length := ba_size t
    clear ht
    by_cases hgo : ∃ h : 0 < t.length, blankB t[0] = true
    · obtain ⟨hp, hbl⟩ := hgo
      have HT' : Hid (t.tail.dropWhile blankB = l.dropWhile blankB) := (drop_blank hp hbl).trans HT.out
      have e1 : (⟨t.toArray⟩ : ByteArray).extract 1 t.length = ⟨t.tail.toArray⟩ := by have := ex_drop ⟨t.toArray⟩ 1; rwa [ba_size, List.drop_one] at this
      rw [blank_of] at hbl
      have i0 : (⟨t.toArray⟩ : ByteArray)[0]'(by rw [ba_size]; exact hp) = t[0] := rfl
      have hp1 : (1 : Int) ≤ (t.length : Int) := by omega
      have hp0 : (0 : Int) < (t.length : Int) := by omega
      by_cases h32 : (t[0]).toNat = 32
      · have q32 : (((((⟨t.toArray⟩ : ByteArray)[0]'(by rw [ba_size]; exact hp)).toNat : Nat) : Int) == 32) = true := by rw [i0, h32]; rfl
        clear i0 h32 hbl
        go_wp2_with fail
        go_round
        case rel => exact ⟨t.tail, by simp; omega, rfl, HT'.out⟩
        case measure => simp [ba_size]; omega
      · have h9 : (t[0]).toNat = 9 := by simpa [h32] using hbl
        have q32 : (((((⟨t.toArray⟩ : ByteArray)[0]'(by rw [ba_size]; exact hp)).toNat : Nat) : Int) == 32) = false := by rw [i0, h9]; rfl
        have q9 : (((((⟨t.toArray⟩ : ByteArray)[0]'(by rw [ba_size]; exact hp)).toNat : Nat) : Int) == 9) = true := by rw [i0, h9]; rfl
        clear i0 h32 h9 hbl
        go_wp2_with fail
        go_round
        case rel => exact ⟨t.tail, by simp; omega, rfl, HT'.out⟩
        case measure => simp [ba_size]; omega
    · have HTT : Hid (rtL t = trimL l) := by
        simp only [Hid]
        rw [trimL_eq, ← HT.out]
        by_cases hp : 0 < t.length
        · rw [drop_stop hp (by rw [Bool.eq_false_iff]; exact fun h => hgo ⟨hp, h⟩)]
        · obtain rfl : t = [] := List.eq_nil_of_length_eq_zero (by omega)
          rfl
      have hst : t.length = 0 ∨ ∃ hp : 0 < t.length, (((((⟨t.toArray⟩ : ByteArray)[0]'(by rw [ba_size]; exact hp)).toNat : Nat) : Int) == 32) = false ∧ (((((⟨t.toArray⟩ : ByteArray)[0]'(by rw [ba_size]; exact hp)).toNat : Nat) : Int) == 9) = false := by
        by_cases hp : 0 < t.length
        · right
          refine ⟨hp, ?_⟩
          have hb : blankB t[0] = false := by rw [Bool.eq_false_iff]; exact fun h => hgo ⟨hp, h⟩
          rw [blank_of] at hb
          have i0 : (⟨t.toArray⟩ : ByteArray)[0]'(by rw [ba_size]; exact hp) = t[0] := rfl
          rw [i0]
          simp at hb
          constructor
          · rw [beq_eq_false_iff_ne]; omega
          · rw [beq_eq_false_iff_ne]; omega
        · exact .inl (by omega)
      clear hgo HT
      rcases hst with h0 | ⟨hp, q32, q9⟩
      case' inl =>
        have hp0 : ¬ (0 : Int) < (t.length : Int) := by omega
        go_wp2_with fail
        clear h0 hp0
      case' inr =>
        have hp0 : (0 : Int) < (t.length : Int) := by omega
        go_wp2_with fail
      all_goals
        go_loop [0] (fun s => ∃ u : List UInt8, u.length ≤ t.length ∧ s = .string ⟨u.toArray⟩ ∧ rtL u = trimL l) (fun s => match s with | .string b => b.size | _ => 0)
        case atStart => exact ⟨t, Nat.le_refl _, rfl, HTT.out⟩
        case round =>
          obtain ⟨u, hul, rfl, hu⟩ := hrel
          have HU := Lib.hid hu
          have hzu : (⟨u.toArray⟩ : ByteArray).size = u.length := ba_size u
          clear hu HTT
          by_cases hp : 0 < u.length
          · have i0 : (⟨u.toArray⟩ : ByteArray)[u.length - 1]'(by rw [ba_size]; omega) = u[u.length - 1] := rfl
            have wk : IntKind.i64.wrap ((u.length : Int) - 1) = (u.length : Int) - 1 := IntWalk.i64_in _ (by omega)
            have wt : ((u.length : Int) - 1).toNat = u.length - 1 := by omega
            have hp0 : (0 : Int) < (u.length : Int) := by omega
            have hp1 : (0 : Int) ≤ (u.length : Int) - 1 := by omega
            have hp2 : (u.length : Int) - 1 < (u.length : Int) := by omega
            have hp3 : (u.length : Int) - 1 ≤ (u.length : Int) := by omega
            have e1 : (⟨u.toArray⟩ : ByteArray).extract 0 (u.length - 1) = ⟨(u.take (u.length - 1)).toArray⟩ := ex_take ⟨u.toArray⟩ (u.length - 1)
            have hl1 : (u.take (u.length - 1)).length = u.length - 1 := by simp
            have HLE : Hid ((u.take (u.length - 1)).length ≤ t.length) := by simp only [Hid]; omega
            have HLT : Hid ((u.take (u.length - 1)).length < u.length) := by simp only [Hid]; omega
            clear hl1
            by_cases h32 : (u[u.length - 1]).toNat = 32
            · have q32 : (((((⟨u.toArray⟩ : ByteArray)[u.length - 1]'(by rw [ba_size]; omega)).toNat : Nat) : Int) == 32) = true := by rw [i0, h32]; rfl
              have HU' : Hid (rtL (u.take (u.length - 1)) = trimL l) := (rt_blank hp (by rw [blank_of, h32]; rfl)).trans HU.out
              clear i0 h32 HU
              go_wp2_with fail
              go_round
              case rel => exact ⟨u.take (u.length - 1), HLE.out, rfl, HU'.out⟩
              case measure => exact HLT.out
            · by_cases h9 : (u[u.length - 1]).toNat = 9
              · have q32 : (((((⟨u.toArray⟩ : ByteArray)[u.length - 1]'(by rw [ba_size]; omega)).toNat : Nat) : Int) == 32) = false := by rw [i0, h9]; rfl
                have q9 : (((((⟨u.toArray⟩ : ByteArray)[u.length - 1]'(by rw [ba_size]; omega)).toNat : Nat) : Int) == 9) = true := by rw [i0, h9]; rfl
                have HU' : Hid (rtL (u.take (u.length - 1)) = trimL l) := (rt_blank hp (by rw [blank_of, h9]; rfl)).trans HU.out
                clear i0 HU
                go_wp2_with fail
                go_round
                case rel => exact ⟨u.take (u.length - 1), HLE.out, rfl, HU'.out⟩
                case measure => exact HLT.out
              · have q32 : (((((⟨u.toArray⟩ : ByteArray)[u.length - 1]'(by rw [ba_size]; omega)).toNat : Nat) : Int) == 32) = false := by rw [i0, beq_eq_false_iff_ne]; omega
                have q9 : (((((⟨u.toArray⟩ : ByteArray)[u.length - 1]'(by rw [ba_size]; omega)).toNat : Nat) : Int) == 9) = false := by rw [i0, beq_eq_false_iff_ne]; omega
                have HU' : Hid (u = trimL l) := (rt_stop hp (by rw [blank_of]; simp [h32, h9])).symm.trans HU.out
                clear i0 HU
                go_wp2_with fail
                go_ret
                exact ⟨by rw [← HU'.out]; rfl, by (repeat (first | exact Below.refl _ _ | refine bel_drewN ?_ _ | refine bel_drew ?_ | refine bel_alloc ?_ _ | refine bel_set ?_ (by simp) _))⟩
          · have hp0 : ¬ (0 : Int) < (u.length : Int) := by omega
            have HU' : Hid (u = trimL l) := by
              simp only [Hid]
              rw [← HU.out]
              obtain rfl : u = [] := List.eq_nil_of_length_eq_zero (by omega)
              rfl
            go_wp2_with fail
            go_ret
            exact ⟨by rw [← HU'.out]; rfl, by (repeat (first | exact Below.refl _ _ | refine bel_drewN ?_ _ | refine bel_drew ?_ | refine bel_alloc ?_ _ | refine bel_set ?_ (by simp) _))⟩
theorem cat_one (X : List UInt8) (c : UInt8) : (⟨X.toArray⟩ ++ ⟨#[c]⟩ : ByteArray) = ⟨(X ++ [c]).toArray⟩ := ba_ext (by simp)
theorem conv_one (W : World) (c : UInt8) (n : Int) (h : n = (c.toNat : Int)) : Sem.run Tryd.prog (convert 120 9 (.slice (some ⟨W.heap.size, 0, none⟩) 1 1)) (W.alloc (.cells #[.int .u8 n] 5)) = .ok (.string ⟨#[c]⟩) (W.alloc (.cells #[.int .u8 n] 5)) := by
  subst h
  refine run_convert_bytes_back (W.alloc (.cells #[.int .u8 (c.toNat : Int)] 5)) 120 9 5 ⟨W.heap.size, 0, none⟩ 1 [c] Tryd.underlying120 Tryd.underlying5 Tryd.underlying9 ?_
  intro j hj
  simp at hj
  subst hj
  simp [Addr.add]
set_option maxHeartbeats 4000000 in
set_option maxRecDepth 100000 in
theorem r4small_any (l : List UInt8) (w : World) (hl : l.length ≤ 100000) :
    Calls Tryd.prog 80 #[.string ⟨l.toArray⟩] w fun e w' => e = .returned (.string ⟨(l.map lowB).toArray⟩) ∧ Below w.heap.size w w' := by
  have hz : (⟨l.toArray⟩ : ByteArray).size = l.length := ba_size l
  obtain ⟨m, hm⟩ : ∃ m, l.map lowB = m := ⟨_, rfl⟩
  have hml : m.length = l.length := by rw [← hm]; simp
  have HM := Lib.hid hm
  rw [hm]
  clear hm
  go_enter Tryd.func80, Tryd.ntmps80
  go_wp2_with fail
  go_loopw [3, 4, 5] (fun s i _ wr => ∃ k : Nat, k ≤ l.length ∧ i = .int .i64 k ∧ s = .string ⟨(m.take k).toArray⟩ ∧ Below w.heap.size w wr) (fun _ i _ _ => l.length - (intOf i).toNat)
  case atStart => exact ⟨0, Nat.zero_le _, rfl, rfl, Below.refl _ _⟩
  case round =>
    obtain ⟨k, hk, rfl, rfl, hbw⟩ := hrel
    have HB := Lib.hid hbw
    clear hbw
    by_cases hlt : k < l.length
    · have HN : Hid ((⟨(m.take k).toArray⟩ ++ ⟨#[lowB l[k]]⟩ : ByteArray) = ⟨(m.take (k + 1)).toArray⟩) := by
        have h1 : m[k] = lowB l[k] := by simp only [← HM.out]; simp
        simp only [Hid]; rw [cat_one, List.take_succ_eq_append_getElem (by omega), h1]
      have hcb : (l[k]).toNat < 256 := UInt8.toNat_lt _
      obtain ⟨c, hc⟩ : ∃ c, lowB l[k] = c := ⟨_, rfl⟩
      have hx : (⟨l.toArray⟩ : ByteArray)[k]'(by rw [ba_size]; exact hlt) = l[k] := rfl
      rw [hc] at HN
      by_cases h1 : 65 ≤ (l[k]).toNat
      · by_cases h2 : (l[k]).toNat ≤ 90
        · have hn : ((l[k]).toNat : Int) + 32 = (c.toNat : Int) := by
            rw [← hc]; unfold lowB; rw [if_pos ⟨h1, h2⟩, UInt8.toNat_add]; simp; omega
          have kc := fun W => conv_one W c _ hn
          clear hc hn
          go_wp2_with fail
          go_roundw
          case rel => exact ⟨k + 1, by omega, by go_num, by rw [HN.out], bel_alloc HB.out _⟩
          case measure => simp [intOf]; omega
        · have hn : ((l[k]).toNat : Int) = (c.toNat : Int) := by
            rw [← hc]; unfold lowB; rw [if_neg (by omega)]
          have kc := fun W => conv_one W c _ hn
          clear hc hn
          go_wp2_with fail
          go_roundw
          case rel => exact ⟨k + 1, by omega, by go_num, by rw [HN.out], bel_alloc HB.out _⟩
          case measure => simp [intOf]; omega
      · have hn : ((l[k]).toNat : Int) = (c.toNat : Int) := by
          rw [← hc]; unfold lowB; rw [if_neg (by omega)]
        have kc := fun W => conv_one W c _ hn
        clear hc hn
        go_wp2_with fail
        go_roundw
        case rel => exact ⟨k + 1, by omega, by go_num, by rw [HN.out], bel_alloc HB.out _⟩
        case measure => simp [intOf]; omega
    · go_wp2_with fail
      go_ret
      exact ⟨by rw [List.take_of_length_le (by omega)]; rfl, HB.out⟩
end Go.Proofs.YtdomakklbcpnjaaDoor
