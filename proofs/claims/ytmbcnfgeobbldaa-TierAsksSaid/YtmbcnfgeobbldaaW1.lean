/- Contracts of the small functions that TierAsks reaches: whether a text may be an object's or a tag's. -/
import Derived.Test.YtmbcnfgeobbldaaRows
import Derived.WalkKit
import Derived.WalkSpells
import Derived.WalkLawsBesides
import Derived.Lib.Hide
namespace Go.Proofs.Ytmbcnfgeobbldaa
open Go.RowKit

theorem ret_bool {a b : Bool} (h : a = b) : Ending.returned (.bool a) = .returned (.bool b) := by rw [h]

set_option maxHeartbeats 400000 in
theorem few_any (o m n : ByteArray) (f t : Int) (mw nw : Bool) (w : World) :
    Calls Try.prog 4 #[.agg #[.string o, .int .i64 f, .int .i64 t, .string m, .bool mw, .string n, .bool nw]] w fun e w' => e = .returned (.bool (decide (o.size ≤ 300) && decide (m.size ≤ 200) && decide (n.size ≤ 200))) ∧ w.alloc (.cells #[.string o, .int .i64 f, .int .i64 t, .string m, .bool mw, .string n, .bool nw] 27) = w' := by
  go_enter Try.func4, Try.ntmps4
  go_wp2
  all_goals
    go_ret
    refine ⟨ret_bool ?_, rfl⟩
    rw [Bool.eq_iff_iff]; simp; try omega

def okc (c : UInt8) : Bool := decide (33 ≤ c.toNat) && decide (c.toNat ≤ 126)
def okt (c : UInt8) : Bool := decide (33 ≤ c.toNat) && decide (c.toNat ≤ 126) && decide (c.toNat ≠ 34)
def objB (l : List UInt8) : Bool := decide (1 ≤ l.length) && decide (l.length ≤ 200) && (l.headD 0 == 47) && l.all okc
def tagB (l : List UInt8) : Bool := decide (1 ≤ l.length) && decide (l.length ≤ 100) && l.all okt

theorem all_take_succ (p : UInt8 → Bool) (s : ByteArray) (k : Nat) (h : k < s.size) : (s.data.toList.take (k + 1)).all p = ((s.data.toList.take k).all p && p s[k]) := by
  rw [List.take_succ_eq_append_getElem (by simpa using h), List.all_append]; simp; rfl
theorem all_step {p : UInt8 → Bool} {s : ByteArray} {k : Nat} (h : k < s.size) (ha : (s.data.toList.take k).all p = true) (hp : p s[k] = true) : (s.data.toList.take (k + 1)).all p = true := by
  rw [all_take_succ p s k h, ha, hp]; rfl
theorem head_eq (s : ByteArray) (h : 0 < s.size) : s.data.toList.headD 0 = s[0] := by
  obtain ⟨⟨l⟩⟩ := s
  cases l with
  | nil => simp [ByteArray.size] at h
  | cons a l => rfl
theorem all_false_of (p : UInt8 → Bool) (s : ByteArray) (k : Nat) (h : k < s.size) (hp : p s[k] = false) : s.data.toList.all p = false := by
  rw [List.all_eq_false]
  refine ⟨s[k], ?_, by simp [hp]⟩
  rw [ByteArray.getElem_eq_getElem_data]
  simp only [Array.mem_toList_iff]
  exact Array.getElem_mem _
theorem len_eq (s : ByteArray) : s.data.toList.length = s.size := rfl
theorem all_end {p : UInt8 → Bool} {s : ByteArray} {k : Nat} (h : ¬ k < s.size) (ha : (s.data.toList.take k).all p = true) : s.data.toList.all p = true := by
  rw [List.take_of_length_le (by rw [len_eq]; omega)] at ha; exact ha

set_option maxHeartbeats 400000 in
theorem objA (s : ByteArray) (w : World) :
    Calls Try.prog 10 #[.string s] w fun e w' => e = .returned (.bool (objB s.data.toList)) ∧ w = w' := by
  have hl := len_eq s
  by_cases h1 : 1 ≤ s.size ∧ s.size ≤ 200
  · obtain ⟨h1, h2⟩ := h1
    have hh := head_eq s (by omega)
    by_cases h3 : s[0] = 47
    · have hb : (((s[0].toNat : Int)) != 47) = false := by simp [h3]
      have H : Hid (objB s.data.toList = s.data.toList.all okc) := by
        simp only [Hid]; unfold objB; rw [hl, hh]; simp [h1, h2, h3]
      clear hl hh h3
      go_enter Try.func10, Try.ntmps10
      go_wp2
      go_loop [3, 19] (fun _ i => ∃ k : Nat, k ≤ s.size ∧ i = .int .i64 k ∧ (s.data.toList.take k).all okc = true) (fun _ i => s.size - (intOf i).toNat)
      case atStart => exact ⟨0, Nat.zero_le _, rfl, by simp⟩
      case round =>
        obtain ⟨k, hk, rfl, hal⟩ := hrel
        have HA := Lib.hid hal
        clear hal hb
        by_cases hlt : k < s.size
        · go_wp2
          · go_ret
            exact ⟨ret_bool (by rw [H.out, all_false_of okc s k hlt (by simp only [okc]; simp; omega)]), rfl⟩
          · go_round
            case rel => exact ⟨k + 1, by omega, by go_num, all_step hlt HA.out (by simp only [okc]; simp; omega)⟩
            case measure => simp [intOf]; omega
          · go_ret
            exact ⟨ret_bool (by rw [H.out, all_false_of okc s k hlt (by simp only [okc]; simp; omega)]), rfl⟩
        · go_wp2
          go_ret
          exact ⟨ret_bool (by rw [H.out, all_end hlt HA.out]), rfl⟩
    · have hb : (((s[0].toNat : Int)) != 47) = true := by
        rw [bne_iff_ne]; intro h; exact h3 (UInt8.toNat_inj.1 (by show s[0].toNat = 47; omega))
      have H : Hid (objB s.data.toList = false) := by
        simp only [Hid]; unfold objB; rw [hl, hh]; simp [h3]
      clear hl hh h3
      go_enter Try.func10, Try.ntmps10
      go_wp2
      go_ret
      exact ⟨ret_bool (by rw [H.out]), rfl⟩
  · have H : Hid (objB s.data.toList = false) := by
      simp only [Hid]; unfold objB; rw [hl]
      by_cases h2 : 1 ≤ s.size
      · have : ¬ s.size ≤ 200 := fun h => h1 ⟨h2, h⟩
        simp [this]
      · simp [h2]
    clear hl
    by_cases h2 : s.size < 1
    all_goals
      go_enter Try.func10, Try.ntmps10
      go_wp2
      go_ret
      exact ⟨ret_bool (by rw [H.out]), rfl⟩

set_option maxHeartbeats 400000 in
theorem objR (s : ByteArray) (w : World) :
    Calls Try.prog 14 #[.string s] w fun e w' => e = .returned (.bool (objB s.data.toList)) ∧ w = w' := by
  have hl := len_eq s
  by_cases h1 : 1 ≤ s.size ∧ s.size ≤ 200
  · obtain ⟨h1, h2⟩ := h1
    have hh := head_eq s (by omega)
    by_cases h3 : s[0] = 47
    · have hb : (((s[0].toNat : Int)) != 47) = false := by simp [h3]
      have H : Hid (objB s.data.toList = s.data.toList.all okc) := by
        simp only [Hid]; unfold objB; rw [hl, hh]; simp [h1, h2, h3]
      clear hl hh h3
      go_enter Try.func14, Try.ntmps14
      go_wp2
      go_loop [3] (fun i => ∃ k : Nat, k ≤ s.size ∧ i = .int .i64 k ∧ (s.data.toList.take k).all okc = true) (fun i => s.size - (intOf i).toNat)
      case atStart => exact ⟨0, Nat.zero_le _, rfl, by simp⟩
      case round =>
        obtain ⟨k, hk, rfl, hal⟩ := hrel
        have HA := Lib.hid hal
        clear hal hb
        by_cases hlt : k < s.size
        · go_wp2
          · go_ret
            exact ⟨ret_bool (by rw [H.out, all_false_of okc s k hlt (by simp only [okc]; simp; omega)]), rfl⟩
          · go_round
            case rel => exact ⟨k + 1, by omega, by go_num, all_step hlt HA.out (by simp only [okc]; simp; omega)⟩
            case measure => simp [intOf]; omega
          · go_ret
            exact ⟨ret_bool (by rw [H.out, all_false_of okc s k hlt (by simp only [okc]; simp; omega)]), rfl⟩
        · go_wp2
          go_ret
          exact ⟨ret_bool (by rw [H.out, all_end hlt HA.out]), rfl⟩
    · have hb : (((s[0].toNat : Int)) != 47) = true := by
        rw [bne_iff_ne]; intro h; exact h3 (UInt8.toNat_inj.1 (by show s[0].toNat = 47; omega))
      have H : Hid (objB s.data.toList = false) := by
        simp only [Hid]; unfold objB; rw [hl, hh]; simp [h3]
      clear hl hh h3
      go_enter Try.func14, Try.ntmps14
      go_wp2
      go_ret
      exact ⟨ret_bool (by rw [H.out]), rfl⟩
  · have H : Hid (objB s.data.toList = false) := by
      simp only [Hid]; unfold objB; rw [hl]
      by_cases h2 : 1 ≤ s.size
      · have : ¬ s.size ≤ 200 := fun h => h1 ⟨h2, h⟩
        simp [this]
      · simp [h2]
    clear hl
    by_cases h2 : s.size < 1
    all_goals
      go_enter Try.func14, Try.ntmps14
      go_wp2
      go_ret
      exact ⟨ret_bool (by rw [H.out]), rfl⟩

set_option maxHeartbeats 400000 in
theorem tagA (s : ByteArray) (wk : Bool) (w : World) :
    Calls Try.prog 12 #[.agg #[.string s, .bool wk]] w fun e w' => e = .returned (.bool (tagB s.data.toList)) ∧ w.alloc (.cells #[.string s, .bool wk] 25) = w' := by
  have hl := len_eq s
  by_cases h1 : 1 ≤ s.size ∧ s.size ≤ 100
  · obtain ⟨h1, h2⟩ := h1
    have H : Hid (tagB s.data.toList = s.data.toList.all okt) := by
      simp only [Hid]; unfold tagB; rw [hl]; simp [h1, h2]
    clear hl
    go_enter Try.func12, Try.ntmps12
    go_wp2
    go_loop [3, 4, 18] (fun _ _ i => ∃ k : Nat, k ≤ s.size ∧ i = .int .i64 k ∧ (s.data.toList.take k).all okt = true) (fun _ _ i => s.size - (intOf i).toNat)
    case atStart => exact ⟨0, Nat.zero_le _, rfl, by simp⟩
    case round =>
      obtain ⟨k, hk, rfl, hal⟩ := hrel
      have HA := Lib.hid hal
      clear hal
      by_cases hlt : k < s.size
      · by_cases h4 : okt s[k] = true
        · have HB := Lib.hid h4
          have h5 : 33 ≤ s[k].toNat ∧ s[k].toNat ≤ 126 ∧ s[k].toNat ≠ 34 := by
            simp [okt] at h4; refine ⟨h4.1.1, h4.1.2, h4.2⟩
          obtain ⟨h5, h6, h7⟩ := h5
          have h8 : ((s[k].toNat : Int) == 34) = false := by rw [beq_eq_false_iff_ne]; omega
          clear h4 h7
          go_wp2
          go_round
          case rel => exact ⟨k + 1, by omega, by go_num, all_step hlt HA.out HB.out⟩
          case measure => simp [intOf]; omega
        · have HB : Hid (okt s[k] = false) := by simp only [Hid]; simpa using h4
          have h5 : s[k].toNat < 33 ∨ 126 < s[k].toNat ∨ s[k].toNat = 34 := by
            simp [okt] at h4; omega
          clear h4
          have fin : Hid (tagB s.data.toList = false) := by simp only [Hid]; rw [H.out]; exact all_false_of okt s k hlt HB.out
          by_cases h6 : s[k].toNat < 33
          · clear h5
            go_wp2
            go_ret
            exact ⟨ret_bool (by rw [fin.out]), rfl⟩
          · by_cases h7 : s[k].toNat = 34
            · have h8 : ((s[k].toNat : Int) == 34) = true := by rw [beq_iff_eq]; omega
              clear h5 h7
              go_wp2
              go_ret
              exact ⟨ret_bool (by rw [fin.out]), rfl⟩
            · have h8 : ((s[k].toNat : Int) == 34) = false := by rw [beq_eq_false_iff_ne]; omega
              have h9 : 126 < s[k].toNat := by omega
              clear h5 h7
              go_wp2
              go_ret
              exact ⟨ret_bool (by rw [fin.out]), rfl⟩
      · go_wp2
        go_ret
        exact ⟨ret_bool (by rw [H.out, all_end hlt HA.out]), rfl⟩
  · have H : Hid (tagB s.data.toList = false) := by
      simp only [Hid]; unfold tagB; rw [hl]
      by_cases h2 : 1 ≤ s.size
      · have : ¬ s.size ≤ 100 := fun h => h1 ⟨h2, h⟩
        simp [this]
      · simp [h2]
    clear hl
    by_cases h2 : s.size < 1
    all_goals
      go_enter Try.func12, Try.ntmps12
      go_wp2
      go_ret
      exact ⟨ret_bool (by rw [H.out]), rfl⟩

set_option maxHeartbeats 400000 in
theorem tagR (s : ByteArray) (wk : Bool) (w : World) :
    Calls Try.prog 16 #[.agg #[.string s, .bool wk]] w fun e w' => e = .returned (.bool (tagB s.data.toList)) ∧ w.alloc (.cells #[.string s, .bool wk] 25) = w' := by
  have hl := len_eq s
  by_cases h1 : 1 ≤ s.size ∧ s.size ≤ 100
  · obtain ⟨h1, h2⟩ := h1
    have H : Hid (tagB s.data.toList = s.data.toList.all okt) := by
      simp only [Hid]; unfold tagB; rw [hl]; simp [h1, h2]
    clear hl
    go_enter Try.func16, Try.ntmps16
    go_wp2
    go_loop [3, 4] (fun i _ => ∃ k : Nat, k ≤ s.size ∧ i = .int .i64 k ∧ (s.data.toList.take k).all okt = true) (fun i _ => s.size - (intOf i).toNat)
    case atStart => exact ⟨0, Nat.zero_le _, rfl, by simp⟩
    case round =>
      obtain ⟨k, hk, rfl, hal⟩ := hrel
      have HA := Lib.hid hal
      clear hal
      by_cases hlt : k < s.size
      · by_cases h4 : okt s[k] = true
        · have HB := Lib.hid h4
          have h5 : 33 ≤ s[k].toNat ∧ s[k].toNat ≤ 126 ∧ s[k].toNat ≠ 34 := by
            simp [okt] at h4; refine ⟨h4.1.1, h4.1.2, h4.2⟩
          obtain ⟨h5, h6, h7⟩ := h5
          have h8 : ((s[k].toNat : Int) == 34) = false := by rw [beq_eq_false_iff_ne]; omega
          clear h4 h7
          go_wp2
          go_round
          case rel => exact ⟨k + 1, by omega, by go_num, all_step hlt HA.out HB.out⟩
          case measure => simp [intOf]; omega
        · have HB : Hid (okt s[k] = false) := by simp only [Hid]; simpa using h4
          have h5 : s[k].toNat < 33 ∨ 126 < s[k].toNat ∨ s[k].toNat = 34 := by
            simp [okt] at h4; omega
          clear h4
          have fin : Hid (tagB s.data.toList = false) := by simp only [Hid]; rw [H.out]; exact all_false_of okt s k hlt HB.out
          by_cases h6 : s[k].toNat < 33
          · clear h5
            go_wp2
            go_ret
            exact ⟨ret_bool (by rw [fin.out]), rfl⟩
          · by_cases h7 : s[k].toNat = 34
            · have h8 : ((s[k].toNat : Int) == 34) = true := by rw [beq_iff_eq]; omega
              clear h5 h7
              go_wp2
              go_ret
              exact ⟨ret_bool (by rw [fin.out]), rfl⟩
            · have h8 : ((s[k].toNat : Int) == 34) = false := by rw [beq_eq_false_iff_ne]; omega
              have h9 : 126 < s[k].toNat := by omega
              clear h5 h7
              go_wp2
              go_ret
              exact ⟨ret_bool (by rw [fin.out]), rfl⟩
      · go_wp2
        go_ret
        exact ⟨ret_bool (by rw [H.out, all_end hlt HA.out]), rfl⟩
  · have H : Hid (tagB s.data.toList = false) := by
      simp only [Hid]; unfold tagB; rw [hl]
      by_cases h2 : 1 ≤ s.size
      · have : ¬ s.size ≤ 100 := fun h => h1 ⟨h2, h⟩
        simp [this]
      · simp [h2]
    clear hl
    by_cases h2 : s.size < 1
    all_goals
      go_enter Try.func16, Try.ntmps16
      go_wp2
      go_ret
      exact ⟨ret_bool (by rw [H.out]), rfl⟩

def rightB (f t : Int) : Bool := decide (0 ≤ f) && decide (f ≤ t) && decide (t ≤ 4611686018427387904)
set_option maxHeartbeats 400000 in
theorem spanRight (f t : Int) (w : World) :
    Calls Try.prog 11 #[.agg #[.int .i64 f, .int .i64 t]] w fun e w' => e = .returned (.bool (rightB f t)) ∧ w.alloc (.cells #[.int .i64 f, .int .i64 t] 23) = w' := by
  go_enter Try.func11, Try.ntmps11
  go_wp2
  all_goals
    go_ret
    refine ⟨ret_bool ?_, rfl⟩
    unfold rightB
    rw [Bool.eq_iff_iff]; simp; try omega

def zeroB (s : ByteArray) (wk : Bool) : Bool := s.toList.isEmpty && !wk
set_option maxHeartbeats 400000 in
theorem zeroTag (s : ByteArray) (wk : Bool) (w : World) :
    Calls Try.prog 15 #[.agg #[.string s, .bool wk]] w fun e w' => e = .returned (.bool (zeroB s wk)) ∧ w.alloc (.cells #[.string s, .bool wk] 25) = w' := by
  go_enter Try.func15, Try.ntmps15
  go_wp2
  all_goals
    go_ret
    refine ⟨ret_bool ?_, rfl⟩
    unfold zeroB
    simp [*]

set_option maxHeartbeats 400000 in
theorem condNone (w : World) :
    Calls Try.prog 13 #[] w fun e w' => e = .returned (.agg #[.slice none 0 0, .slice none 0 0, .bool false, .bool false, .int .i64 (-1), .int .i64 (-1), .string ⟨#[]⟩, .bool false]) ∧ w.alloc (.cells #[.slice none 0 0, .slice none 0 0, .bool false, .bool false, .int .i64 (-1), .int .i64 (-1), .string ⟨#[]⟩, .bool false] 33) = w' := by
  go_enter Try.func13, Try.ntmps13
  go_wp2
  exact bodyPost_ret (v := .agg #[.slice none 0 0, .slice none 0 0, .bool false, .bool false, .int .i64 (-1), .int .i64 (-1), .string ⟨#[]⟩, .bool false]) (by simp [results, Try.results13, go_sem]) rfl ⟨rfl, rfl⟩

end Go.Proofs.Ytmbcnfgeobbldaa
