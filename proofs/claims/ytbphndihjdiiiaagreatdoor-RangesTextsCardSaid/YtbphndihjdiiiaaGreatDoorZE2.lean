/- Contracts of the document's texts of spans: Num, Number, Text, Parse. -/
import Derived.Test.YtbphndihjdiiiaaGreatDoorZE1
import Derived.Test.YtbphndihjdiiiaaGreatDoorZT12D
namespace Go.Proofs.YtbphndihjdiiiaaGreatDoor
open Go.RowKit

theorem catE {a b : List UInt8} (h : a.length + b.length ≤ 1000000) : ∀ W, (Op.stringOp .add ⟨a.toArray⟩ ⟨b.toArray⟩).run Tryz.prog W = .ok (.string ⟨(a ++ b).toArray⟩) W := fun W => by
  have := run_string_add_sum (P := Tryz.prog) W ⟨a.toArray⟩ ⟨b.toArray⟩ (by simp [ByteArray.size]; omega)
  rw [str_app] at this
  exact this
set_option maxHeartbeats 4000000 in
set_option maxRecDepth 100000 in
theorem num01_any : ∀ (m : Nat) (n : Int) (w : World), n.toNat ≤ m → 0 ≤ n → n ≤ 9223372036854775807 →
    Calls Tryz.prog 104 #[.int .i64 n] w fun e w' => e = .returned (.string ⟨(digN n).toArray⟩) ∧ Below w.heap.size w w' := by
  intro m
  induction m with
  | zero =>
    intro n w hm h0 h1
    obtain rfl : n = 0 := by omega
    have HD : Hid (digN 0 = [48]) := by simp only [Hid]; rw [digN_one (by omega) (by omega)]; rfl
    have kc := fun W => conv_one W 48 48 rfl
    go_enter Tryz.func104, Tryz.ntmps104
    go_wp2_with fail
    go_ret
    rw [HD.out]
    exact ⟨rfl, bel_alloc (Below.refl _ _) _⟩
  | succ m ih =>
    intro n w hm h0 h1
    by_cases h10 : n < 10
    · have hc : (48 : Int) + n = ((UInt8.ofNat (48 + n.toNat)).toNat : Int) := by rw [digt_toNat (by omega)]; omega
      have HD : Hid (digN n = [UInt8.ofNat (48 + n.toNat)]) := by simp only [Hid]; rw [digN_one h0 h10]
      obtain ⟨c, hcc⟩ : ∃ c, UInt8.ofNat (48 + n.toNat) = c := ⟨_, rfl⟩
      rw [hcc] at hc HD
      have kc := fun W => conv_one W c (c.toNat : Int) rfl
      have hcb : (c.toNat : Int) < 256 := by have := UInt8.toNat_lt c; omega
      clear hcc ih
      go_enter Tryz.func104, Tryz.ntmps104
      go_wp2_with fail
      go_ret
      rw [HD.out]
      exact ⟨rfl, bel_alloc (Below.refl _ _) _⟩
    · have hmod : 0 ≤ n % 10 ∧ n % 10 < 10 := by omega
      have HD : Hid (digN n = digN (n / 10) ++ digN (n % 10)) := by simp only [Hid]; rw [digN_more h10, digN_one (n := n % 10) (by omega) (by omega)]
      have hdl := digN_len' (n := n / 10) (by omega)
      have hdl2 := digN_len' (n := n % 10) (by omega)
      have hc1 := catE (a := digN (n / 10)) (b := digN (n % 10)) (by omega)
      have HI := fun W => Lib.hid (ih (n / 10) W (by omega) (by omega) (by omega))
      have HI2 := fun W => Lib.hid (ih (n % 10) W (by omega) (by omega) (by omega))
      clear ih hdl hdl2
      generalize digN (n % 10) = d2 at HI2 HD hc1
      generalize digN (n / 10) = d1 at HI HD hc1
      go_enter Tryz.func104, Tryz.ntmps104
      go_wp2_with fail
      refine (HI _).out.mono ?_
      rintro e w1 ⟨rfl, hb1⟩
      have HB := Lib.hid hb1
      clear hb1 HI
      go_wp2_with fail
      refine (HI2 _).out.mono ?_
      rintro e w2 ⟨rfl, hb2⟩
      have HB2 := Lib.hid (bel_chain hb2 HB.out)
      clear hb2 HI2 HB
      go_wp2_with fail
      go_ret
      rw [HD.out]
      exact ⟨rfl, HB2.out⟩
theorem numRF_step {acc : Int} {l : List UInt8} {k : Nat} (h : k < l.length) : numRF acc (l.drop k) = if (l[k].toNat : Int) - 48 < 0 ∨ 9 < (l[k].toNat : Int) - 48 ∨ (4611686018427387904 - ((l[k].toNat : Int) - 48)) / 10 < acc then none else numRF (10 * acc + ((l[k].toNat : Int) - 48)) (l.drop (k + 1)) := by
  rw [List.drop_eq_getElem_cons h, numRF]
theorem numR_at {l : List UInt8} (h1 : l.length ≠ 0) (h2 : ¬ 19 < l.length) (h3 : ¬ (l.headD 0 = 48 ∧ 1 < l.length)) : numR l = (numRF 0 l).getD (-1) := by
  unfold numR; rw [if_neg (by intro h; rcases h with h | h | h; exact h1 h; exact h2 h; exact h3 h)]
set_option maxHeartbeats 4000000 in
set_option maxRecDepth 100000 in
theorem number01_any (l : List UInt8) (w : World) (hl : l.length ≤ 1000000) :
    Calls Tryz.prog 106 #[.string ⟨l.toArray⟩] w fun e w' => e = .returned (.int .i64 (numR l)) ∧ w = w' := by
  have hsz : (⟨l.toArray⟩ : ByteArray).size = l.length := List.size_toArray ..
  by_cases h0 : l.length = 0
  · have HN : Hid (numR l = -1) := by simp only [Hid, numR]; rw [if_pos (.inl h0)]
    have hz : (l.length : Int) = 0 := by omega
    clear h0
    go_enter Tryz.func106, Tryz.ntmps106
    go_wp2_with fail
    go_ret
    exact ⟨ret_int HN.out.symm, rfl⟩
  have hz : ((l.length : Int) == 0) = false := by rw [beq_eq_false_iff_ne]; omega
  by_cases h1 : 19 < l.length
  · have HN : Hid (numR l = -1) := by simp only [Hid, numR]; rw [if_pos (.inr (.inl h1))]
    have hz2 : (19 : Int) < (l.length : Int) := by omega
    clear h0 h1
    go_enter Tryz.func106, Tryz.ntmps106
    go_wp2_with fail
    go_ret
    exact ⟨ret_int HN.out.symm, rfl⟩
  have hz2 : ¬ (19 : Int) < (l.length : Int) := by omega
  have hp : 0 < l.length := by omega
  obtain ⟨c0, hc0⟩ : ∃ c, (⟨l.toArray⟩ : ByteArray)[0]'(by rw [hsz]; exact hp) = c := ⟨_, rfl⟩
  have hh0 : l.headD 0 = c0 := by rw [← hc0]; cases l with
    | nil => simp at hp
    | cons a b => rfl
  by_cases h2 : c0.toNat = 48 ∧ 1 < l.length
  · have HN : Hid (numR l = -1) := by simp only [Hid, numR]; rw [if_pos (.inr (.inr ⟨by rw [hh0]; exact UInt8.toNat_inj.1 h2.1, h2.2⟩))]
    have hc48 : (c0.toNat : Int) = 48 := by omega
    have hl1 : (1 : Int) < (l.length : Int) := by omega
    clear h0 h1 h2 hh0
    go_enter Tryz.func106, Tryz.ntmps106
    go_wp2_with fail
    go_ret
    exact ⟨ret_int HN.out.symm, rfl⟩
  have HN : Hid (numR l = (numRF 0 l).getD (-1)) := numR_at h0 h1 (by rw [hh0]; rintro ⟨a, b⟩; exact h2 ⟨by rw [a]; rfl, b⟩)
  have hcase : (((c0.toNat : Int) == 48) = false) ∨ (((c0.toNat : Int) == 48) = true ∧ ¬ (1 : Int) < (l.length : Int)) := by
    by_cases e : c0.toNat = 48
    · right; exact ⟨by rw [beq_iff_eq]; omega, fun hh => h2 ⟨e, by omega⟩⟩
    · left; rw [beq_eq_false_iff_ne]; omega
  have hE := fun W => Lib.hid (end_any W)
  clear h0 h2 hh0
  rcases hcase with hcase | ⟨hcase, hcase2⟩
  all_goals
    go_enter Tryz.func106, Tryz.ntmps106
    go_wp2_with fail
    go_loopw [3, 4, 5] (fun n i _ wr => wr = w ∧ ∃ (k : Nat) (acc : Int), k ≤ l.length ∧ i = .int .i64 k ∧ n = .int .i64 acc ∧ 0 ≤ acc ∧ acc ≤ 4611686018427387904 ∧ numRF acc (l.drop k) = numRF 0 l) (fun _ i _ _ => l.length - (intOf i).toNat)
    case atStart => exact ⟨rfl, 0, 0, Nat.zero_le _, rfl, rfl, by omega, by omega, rfl⟩
    case round =>
      obtain ⟨rfl, k, acc, hk, rfl, rfl, ha0, ha1, he⟩ := hrel
      have HE := Lib.hid he
      clear he
      by_cases hlt : k < l.length
      · have HS := Lib.hid (numRF_step (acc := acc) hlt)
        obtain ⟨c, hc⟩ : ∃ c, (⟨l.toArray⟩ : ByteArray)[k]'(by rw [hsz]; exact hlt) = c := ⟨_, rfl⟩
        have hcl : l[k] = c := hc
        rw [hcl] at HS
        have hcb : c.toNat < 256 := UInt8.toNat_lt _
        clear hcl
        by_cases hd : 48 ≤ c.toNat ∧ c.toNat ≤ 57
        · obtain ⟨hd1, hd2⟩ := hd
          by_cases hov : (4611686018427387904 - ((c.toNat : Int) - 48)) / 10 < acc
          · have HT : Hid (numRF 0 l = none) := by simp only [Hid]; rw [← HE.out, HS.out, if_pos (.inr (.inr hov))]
            clear HS HE
            go_wp2_with (go_at_call 103; refine (hE _).out.mono ?_; rintro e w3 ⟨rfl, rfl⟩)
            go_ret
            exact ⟨ret_int (by rw [HN.out, HT.out]; rfl), rfl⟩
          · have HT : Hid (numRF (10 * acc + ((c.toNat : Int) - 48)) (l.drop (k + 1)) = numRF 0 l) := by
              simp only [Hid]; rw [← HE.out, HS.out, if_neg (by omega)]
            have hov2 : 10 * acc + ((c.toNat : Int) - 48) ≤ 4611686018427387904 := by omega
            clear HS HE
            go_wp2_with (go_at_call 103; refine (hE _).out.mono ?_; rintro e w3 ⟨rfl, rfl⟩)
            go_roundw
            case rel => exact ⟨by first | trivial | rfl, k + 1, 10 * acc + ((c.toNat : Int) - 48), by omega, by go_num, by go_num, by omega, hov2, HT.out⟩
            case measure => simp [intOf]; omega
        · have HT : Hid (numRF 0 l = none) := by simp only [Hid]; rw [← HE.out, HS.out, if_pos (by omega)]
          clear HS HE
          by_cases hd3 : c.toNat < 48
          · go_wp2_with fail
            go_ret
            exact ⟨ret_int (by rw [HN.out, HT.out]; rfl), rfl⟩
          · have hd4 : 57 < c.toNat := by omega
            go_wp2_with fail
            go_ret
            exact ⟨ret_int (by rw [HN.out, HT.out]; rfl), rfl⟩
      · have HT : Hid (numRF 0 l = some acc) := by
          simp only [Hid]; rw [← HE.out, List.drop_eq_nil_of_le (by omega)]; rfl
        go_wp2_with fail
        go_ret
        exact ⟨ret_int (by rw [HN.out, HT.out]; rfl), rfl⟩
/-- A span's text; empty: it may not be. -/
def tX (x : Int × Int) : List UInt8 := if okS x = true then tS x else []
set_option maxHeartbeats 4000000 in
set_option maxRecDepth 100000 in
theorem text01_any (f t : Int) (w : World) :
    Calls Tryz.prog 55 #[.agg #[.int .i64 f, .int .i64 t]] w fun e w' => e = .returned (.string ⟨(tX (f, t)).toArray⟩) ∧ Below w.heap.size w w' := by
  have hR := fun W => Lib.hid (rright_any f t W)
  cases hok : okS (f, t)
  · have HX : Hid (tX (f, t) = []) := by simp only [Hid, tX, hok]; rfl
    rw [hok] at hR
    clear hok
    go_enter Tryz.func55, Tryz.ntmps55
    go_wp2_with fail
    refine (hR _).out.mono ?_
    rintro e w1 ⟨rfl, n1, rfl⟩
    go_wp2_with fail
    go_ret
    rw [HX.out]
    exact ⟨rfl, by (repeat (first | exact Below.refl _ _ | refine bel_drewN ?_ _ | refine bel_drew ?_ | refine bel_alloc ?_ _ | refine bel_set ?_ (by simp) _))⟩
  have HX : Hid (tX (f, t) = tS (f, t)) := by simp only [Hid, tX, hok]; rfl
  have hr := (okS_iff (f, t)).1 hok
  obtain ⟨r1, r2, r3⟩ := hr
  simp only at r1 r2 r3
  rw [hok] at hR
  have hE := fun W => Lib.hid (end_any W)
  have HN1 := fun W => Lib.hid (num01_any f.toNat f W (Nat.le_refl _) r1 (by omega))
  have HN2 := fun W => Lib.hid (num01_any t.toNat t W (Nat.le_refl _) (by omega) (by omega))
  have hl1 := digN_len' (n := f) (by omega)
  have hl2 := digN_len' (n := t) (by omega)
  have hc1 := catE (a := digN f) (b := [45]) (by simp; omega)
  have hc2 := catE (a := digN f ++ [45]) (b := digN t) (by simp; omega)
  by_cases ho : t = 4611686018427387904 ∧ f ≠ 4611686018427387904
  · have HT : Hid (tS (f, t) = digN f ++ [45]) := by simp only [Hid]; rw [tS_open ho]
    obtain ⟨rfl, ho2⟩ := ho
    generalize digN f ++ [45] = d2 at hc1 HT
    generalize digN f = d1 at HN1 hc1
    clear hok hl1 hl2 hc2 HN2
    go_enter Tryz.func55, Tryz.ntmps55
    go_wp2_with fail
    refine (hR _).out.mono ?_
    rintro e w1 ⟨rfl, n1, rfl⟩
    go_wp2_with fail
    go_quiet ((go_at_call 103; exact (end_any _).mono fun e w3 h => ⟨h.1, _, h.2⟩))
    go_wp2_with fail
    refine (HN1 _).out.mono ?_
    rintro e w2 ⟨rfl, hb2⟩
    have HB2 : Hid (Below w.heap.size w w2) := bel_chain hb2 (by (repeat (first | exact Below.refl _ _ | refine bel_drewN ?_ _ | refine bel_drew ?_ | refine bel_alloc ?_ _ | refine bel_set ?_ (by simp) _)))
    clear hb2
    go_wp2_with fail
    go_ret
    rw [HX.out, HT.out]
    exact ⟨rfl, HB2.out⟩
  · have HT : Hid (tS (f, t) = digN f ++ [45] ++ digN t) := by simp only [Hid]; rw [tS_shut ho]; simp
    have hcase : (t == 4611686018427387904) = false ∨ ((t == 4611686018427387904) = true ∧ (f != 4611686018427387904) = false) := by
      by_cases e : t = 4611686018427387904
      · right; exact ⟨by rw [beq_iff_eq]; exact e, by rw [bne_eq_false_iff_eq]; exact Decidable.byContradiction fun h => ho ⟨e, h⟩⟩
      · left; rw [beq_eq_false_iff_ne]; exact e
    generalize digN f ++ [45] ++ digN t = d3 at hc2 HT
    generalize digN f ++ [45] = d2 at hc1 hc2
    generalize digN f = d1 at HN1 hc1
    generalize digN t = d4 at HN2 hc2
    clear hok hl1 hl2 ho
    rcases hcase with hcase | ⟨hcase, hcase2⟩
    all_goals
      go_enter Tryz.func55, Tryz.ntmps55
      go_wp2_with fail
      refine (hR _).out.mono ?_
      rintro e w1 ⟨rfl, n1, rfl⟩
      go_wp2_with fail
      go_quiet ((go_at_call 103; exact (end_any _).mono fun e w3 h => ⟨h.1, _, h.2⟩))
      go_wp2_with fail
      obtain ⟨V, hV⟩ : ∃ V, ((((w.alloc (.cells #[.int .i64 f, .int .i64 t] 80)).alloc (.cells #[.int .i64 f, .int .i64 t] 80)).drewN n1).drewN nq) = V := ⟨_, rfl⟩
      have HVB : Hid (V.heap[w.heap.size]? = some (.cells #[.int .i64 f, .int .i64 t] 80 (0, 0))) := by simp only [Hid]; rw [← hV]; exact blk_drewN (blk_drewN (blk_skip (blk_new rfl)))
      have HVb : Hid (Below w.heap.size w V) := by simp only [Hid]; rw [← hV]; (repeat (first | exact Below.refl _ _ | refine bel_drewN ?_ _ | refine bel_drew ?_ | refine bel_alloc ?_ _ | refine bel_set ?_ (by simp) _))
      rw [hV]
      clear hV
      have v0 := blk_cell (i := 0) HVB.out rfl
      have v1 := blk_cell (i := 1) HVB.out rfl
      have hvz := blk_lt HVB.out
      go_region_held3 (fun w' => w'.cell? ⟨w.heap.size, 0, none⟩ = some (.int .i64 f) ∧ w'.cell? ⟨w.heap.size, 1, none⟩ = some (.int .i64 t))
        (first | exact ⟨v0, v1⟩ | exact ⟨s0, s1⟩ | exact ⟨s2, s3⟩ | fail)
        (first
          | (go_at_call_of 104 (Value.int .i64 f); refine (HN1 _).out.mono ?_; rintro e w2 ⟨rfl, hb2⟩; have s0 := cell_keep hb2 v0; have s1 := cell_keep hb2 v1)
          | (go_at_call_of 104 (Value.int .i64 t); refine (HN2 _).out.mono ?_; rintro e w3 ⟨rfl, hb3⟩; have s2 := cell_keep hb3 s0; have s3 := cell_keep hb3 s1))
      go_wp2_with fail
      go_ret
      rw [HX.out, HT.out]
      exact ⟨rfl, bel_chain hb3 (bel_chain hb2 (by first | exact HVb.out | exact bel_drew HVb.out | exact bel_drewN HVb.out _))⟩
/-- What a parsed span comes to. -/
def SpanPost (v : Option (Int × Int)) (w : World) (e : Ending) (w' : World) : Prop := (match v with | some x => e = .returned (.tuple #[.agg #[.int .i64 x.1, .int .i64 x.2], .int .i64 0]) | none => e = .returned (.tuple #[.agg #[.int .i64 0, .int .i64 0], .int .i64 2])) ∧ Below w.heap.size w w'
theorem span_no {v : Option (Int × Int)} {w w' : World} (h : v = none) (hb : Below w.heap.size w w') : SpanPost v w (.returned (.tuple #[.agg #[.int .i64 0, .int .i64 0], .int .i64 2])) w' := by
  subst h; exact ⟨rfl, hb⟩
theorem span_yes {v : Option (Int × Int)} {w w' : World} {a b : Int} (h : v = some (a, b)) (hb : Below w.heap.size w w') : SpanPost v w (.returned (.tuple #[.agg #[.int .i64 a, .int .i64 b], .int .i64 0])) w' := by
  subst h; exact ⟨rfl, hb⟩
theorem tX_len (x : Int × Int) : (tX x).length ≤ 39 := by
  unfold tX
  cases h : okS x
  · simp
  · exact (tS_len h).2
theorem spanQ_at {l : List UInt8} {f t : Int} : spanQ l (some f) (some t) = if okS (f, t) = true ∧ l = tX (f, t) then some (f, t) else none := by
  unfold spanQ tX
  by_cases h : okS (f, t) = true
  · simp [h]
  · simp [h]
theorem cutD_at {l : List UInt8} {k : Nat} (hk : k < l.length) (h : ∀ c ∈ l.take k, c ≠ 45) (hd : l[k] = 45) : cutD l = some (l.take k, l.drop (k + 1)) := by
  conv => lhs; rw [cut_at hk hd]
  exact cutD_some h
set_option maxHeartbeats 8000000 in
set_option maxRecDepth 100000 in
theorem parse01_any (l : List UInt8) (w : World) (hl : l.length ≤ 100000) :
    Calls Tryz.prog 58 #[.string ⟨l.toArray⟩] w (SpanPost (spanR l) w) := by
  have hsz : (⟨l.toArray⟩ : ByteArray).size = l.length := List.size_toArray ..
  have hE := fun W => Lib.hid (end_any W)
  have HNUM := Lib.hid (fun (m : List UInt8) W (h : m.length ≤ 1000000) => number01_any m W h)
  have HTX := Lib.hid (fun f t W => text01_any f t W)
  have HRT := Lib.hid (fun f t W => rright_any f t W)
  go_enter Tryz.func58, Tryz.ntmps58
  go_wp2_with fail
  go_loopw [4] (fun i wr => wr = w.alloc (.cells #[.int .i64 0, .int .i64 0] 80) ∧ ∃ k : Nat, k ≤ l.length ∧ i = .int .i64 k ∧ ∀ c ∈ l.take k, c ≠ 45) (fun i _ => l.length - (intOf i).toNat)
  case atStart => exact ⟨rfl, 0, Nat.zero_le _, rfl, by simp⟩
  case round =>
    obtain ⟨rfl, k, hk, rfl, hno⟩ := hrel
    have HNO := Lib.hid hno
    clear hno
    by_cases hlt : k < l.length
    · obtain ⟨c, hc⟩ : ∃ c, (⟨l.toArray⟩ : ByteArray)[k]'(by rw [hsz]; exact hlt) = c := ⟨_, rfl⟩
      have hcl : l[k] = c := hc
      have hcb : c.toNat < 256 := UInt8.toNat_lt _
      by_cases hd : c.toNat = 45
      · have hd45 : c = 45 := UInt8.toNat_inj.1 hd
        have HC := Lib.hid (cutD_at hlt HNO.out (by rw [hcl]; exact hd45))
        have hd2 : ((c.toNat : Int) != 45) = false := by rw [bne_eq_false_iff_eq]; omega
        have hne : ((k : Int) == (l.length : Int)) = false := by rw [beq_eq_false_iff_ne]; omega
        have H1 := fun W => Lib.hid (HNUM.out (l.take k) W (by simp; omega))
        have H2 := fun W => Lib.hid (HNUM.out (l.drop (k + 1)) W (by simp; omega))
        have e1 := ex_take ⟨l.toArray⟩ k
        have e2 := ex_drop ⟨l.toArray⟩ (k + 1)
        simp only at e1 e2
        have HZ : Hid ((l.drop (k + 1)).length = l.length - (k + 1)) := List.length_drop ..
        obtain ⟨f, hf⟩ : ∃ f, numR (l.take k) = f := ⟨_, rfl⟩
        obtain ⟨t, ht⟩ : ∃ t, numR (l.drop (k + 1)) = t := ⟨_, rfl⟩
        have HV : Hid (spanR l = spanQ l (some f) (if l.drop (k + 1) = [] then some 4611686018427387904 else some t)) := by
          simp only [Hid]; unfold spanR; rw [HC.out]; simp only; rw [hf, ht]
        rw [hf] at H1
        rw [ht] at H2
        obtain ⟨la, hla⟩ : ∃ x, l.take k = x := ⟨_, rfl⟩
        obtain ⟨lb, hlb⟩ : ∃ x, l.drop (k + 1) = x := ⟨_, rfl⟩
        rw [hsz] at e2
        rw [hla] at e1 H1
        rw [hlb] at e2 H2 HV HZ
        clear hla hlb HC HNO hf ht hcl hd45
        by_cases hlast : k + 1 < l.length
        · have HV2 : Hid (spanR l = if okS (f, t) = true ∧ l = tX (f, t) then some (f, t) else none) := by
            simp only [Hid]
            rw [HV.out, if_neg (by intro h; have := HZ.out; rw [h] at this; simp at this; omega), spanQ_at]
          have hl1 : (k : Int) + 1 < (l.length : Int) := by omega
          clear HV HZ
          go_wp2_with ((first
            | (go_at_call_of 106 (Value.string ⟨la.toArray⟩); refine (H1 _).out.mono ?_; rintro e w3 ⟨rfl, rfl⟩)
            | (go_at_call_of 106 (Value.string ⟨lb.toArray⟩); refine (H2 _).out.mono ?_; rintro e w3 ⟨rfl, rfl⟩)
            | (go_at_call 103; refine (hE _).out.mono ?_; rintro e w3 ⟨rfl, rfl⟩)))
          refine (HRT.out f t _).mono ?_
          rintro e w4 ⟨rfl, n4, rfl⟩
          obtain ⟨V, hV⟩ : ∃ V, (((w.alloc (.cells #[.int .i64 0, .int .i64 0] 80)).alloc (.cells #[.int .i64 f, .int .i64 t] 80)).alloc (.cells #[.int .i64 f, .int .i64 t] 80)).drewN n4 = V := ⟨_, rfl⟩
          have BVR : Hid (V.heap[w.heap.size]? = some (.cells #[.int .i64 0, .int .i64 0] 80 (0, 0))) := by simp only [Hid]; rw [← hV]; exact blk_drewN (blk_skip (blk_skip (blk_new rfl)))
          have BVX : Hid (V.heap[w.heap.size + 1]? = some (.cells #[.int .i64 f, .int .i64 t] 80 (0, 0))) := by simp only [Hid]; rw [← hV]; exact blk_drewN (blk_skip (blk_new (by simp)))
          have HVb : Hid (Below w.heap.size w V) := by simp only [Hid]; rw [← hV]; (repeat (first | exact Below.refl _ _ | refine bel_drewN ?_ _ | refine bel_drew ?_ | refine bel_alloc ?_ _ | refine bel_set ?_ (by simp) _))
          rw [hV]
          clear hV
          have q1 : V.cell? ⟨w.heap.size, 0, none⟩ = some (.int .i64 0) := blk_cell BVR.out rfl
          have q2 : V.cell? ⟨w.heap.size, 1, none⟩ = some (.int .i64 0) := blk_cell BVR.out rfl
          have f1 : V.frozen? ⟨w.heap.size, 0, none⟩ = false := blk_frozen BVR.out
          have f2 : V.frozen? ⟨w.heap.size, 1, none⟩ = false := blk_frozen BVR.out
          have q3 : w.heap.size < V.heap.size := blk_lt BVR.out
          have x1 : V.cell? ⟨w.heap.size + 1, 0, none⟩ = some (.int .i64 f) := blk_cell BVX.out rfl
          have x2 : V.cell? ⟨w.heap.size + 1, 1, none⟩ = some (.int .i64 t) := blk_cell BVX.out rfl
          have x3 : w.heap.size + 1 < V.heap.size := blk_lt BVX.out
          cases hok : okS (f, t)
          · have HV3 : Hid (spanR l = none) := by simp only [Hid]; rw [HV2.out, hok]; simp
            clear HV2 hok
            go_wp2_with fail
            refine bodyPost_ret (by simp [results, Tryz.results58, go_sem, q1, q2, q3]; try rfl) rfl ?_
            exact span_no HV3.out (by repeat (first | (with_reducible exact HVb.out) | (with_reducible refine bel_alloc ?_ _) | (with_reducible refine bel_drew ?_) | (with_reducible refine bel_drewN ?_ _) | (with_reducible refine bel_set ?_ (by first | omega | (dsimp only; omega)) _)))
          · have htl := tX_len (f, t)
            go_wp2_with fail
            refine (HTX.out f t _).mono ?_
            rintro e w5 ⟨rfl, hb5⟩
            have B5R := Lib.hid (blk_keep hb5 BVR.out)
            have B5X := Lib.hid (blk_keep hb5 BVX.out)
            have HB5 := Lib.hid (bel_chain hb5 HVb.out)
            clear q1 q2 f1 f2 q3 x1 x2 x3 hb5 BVR BVX HVb
            have q1 : w5.cell? ⟨w.heap.size, 0, none⟩ = some (.int .i64 0) := blk_cell B5R.out rfl
            have q2 : w5.cell? ⟨w.heap.size, 1, none⟩ = some (.int .i64 0) := blk_cell B5R.out rfl
            have f1 : w5.frozen? ⟨w.heap.size, 0, none⟩ = false := blk_frozen B5R.out
            have f2 : w5.frozen? ⟨w.heap.size, 1, none⟩ = false := blk_frozen B5R.out
            have q3 : w.heap.size < w5.heap.size := blk_lt B5R.out
            have x1 : w5.cell? ⟨w.heap.size + 1, 0, none⟩ = some (.int .i64 f) := blk_cell B5X.out rfl
            have x2 : w5.cell? ⟨w.heap.size + 1, 1, none⟩ = some (.int .i64 t) := blk_cell B5X.out rfl
            have x3 : w.heap.size + 1 < w5.heap.size := blk_lt B5X.out
            by_cases htx : l = tX (f, t)
            · have HV3 : Hid (spanR l = some (f, t)) := by simp only [Hid]; rw [HV2.out, if_pos ⟨hok, htx⟩]
              have hbn : (tX (f, t) == l) = true := by rw [beq_iff_eq]; exact htx.symm
              clear HV2 hok htx
              go_wp2_with fail
              refine bodyPost_ret (by simp [results, Tryz.results58, go_sem, q1, q2, q3]; try rfl) rfl ?_
              exact span_yes HV3.out (by repeat (first | (with_reducible exact HB5.out) | (with_reducible refine bel_alloc ?_ _) | (with_reducible refine bel_drew ?_) | (with_reducible refine bel_drewN ?_ _) | (with_reducible refine bel_set ?_ (by first | omega | (dsimp only; omega)) _)))
            · have HV3 : Hid (spanR l = none) := by simp only [Hid]; rw [HV2.out, if_neg (fun h => htx h.2)]
              have hbn : (tX (f, t) == l) = false := by rw [beq_eq_false_iff_ne]; exact fun e => htx e.symm
              clear HV2 hok htx
              go_wp2_with fail
              refine bodyPost_ret (by simp [results, Tryz.results58, go_sem, q1, q2, q3]; try rfl) rfl ?_
              exact span_no HV3.out (by repeat (first | (with_reducible exact HB5.out) | (with_reducible refine bel_alloc ?_ _) | (with_reducible refine bel_drew ?_) | (with_reducible refine bel_drewN ?_ _) | (with_reducible refine bel_set ?_ (by first | omega | (dsimp only; omega)) _)))
        · have HV2 : Hid (spanR l = if okS (f, 4611686018427387904) = true ∧ l = tX (f, 4611686018427387904) then some (f, 4611686018427387904) else none) := by
            simp only [Hid]
            rw [HV.out, if_pos (by have := HZ.out; exact List.eq_nil_of_length_eq_zero (by omega)), spanQ_at]
          have hl1 : ¬ (k : Int) + 1 < (l.length : Int) := by omega
          clear HV HZ H2 e2
          go_wp2_with ((first
            | (go_at_call_of 106 (Value.string ⟨la.toArray⟩); refine (H1 _).out.mono ?_; rintro e w3 ⟨rfl, rfl⟩)
            | (go_at_call_of 106 (Value.string ⟨lb.toArray⟩); refine (H2 _).out.mono ?_; rintro e w3 ⟨rfl, rfl⟩)
            | (go_at_call 103; refine (hE _).out.mono ?_; rintro e w3 ⟨rfl, rfl⟩)))
          refine (HRT.out f 4611686018427387904 _).mono ?_
          rintro e w4 ⟨rfl, n4, rfl⟩
          obtain ⟨V, hV⟩ : ∃ V, (((w.alloc (.cells #[.int .i64 0, .int .i64 0] 80)).alloc (.cells #[.int .i64 f, .int .i64 4611686018427387904] 80)).alloc (.cells #[.int .i64 f, .int .i64 4611686018427387904] 80)).drewN n4 = V := ⟨_, rfl⟩
          have BVR : Hid (V.heap[w.heap.size]? = some (.cells #[.int .i64 0, .int .i64 0] 80 (0, 0))) := by simp only [Hid]; rw [← hV]; exact blk_drewN (blk_skip (blk_skip (blk_new rfl)))
          have BVX : Hid (V.heap[w.heap.size + 1]? = some (.cells #[.int .i64 f, .int .i64 4611686018427387904] 80 (0, 0))) := by simp only [Hid]; rw [← hV]; exact blk_drewN (blk_skip (blk_new (by simp)))
          have HVb : Hid (Below w.heap.size w V) := by simp only [Hid]; rw [← hV]; (repeat (first | exact Below.refl _ _ | refine bel_drewN ?_ _ | refine bel_drew ?_ | refine bel_alloc ?_ _ | refine bel_set ?_ (by simp) _))
          rw [hV]
          clear hV
          have q1 : V.cell? ⟨w.heap.size, 0, none⟩ = some (.int .i64 0) := blk_cell BVR.out rfl
          have q2 : V.cell? ⟨w.heap.size, 1, none⟩ = some (.int .i64 0) := blk_cell BVR.out rfl
          have f1 : V.frozen? ⟨w.heap.size, 0, none⟩ = false := blk_frozen BVR.out
          have f2 : V.frozen? ⟨w.heap.size, 1, none⟩ = false := blk_frozen BVR.out
          have q3 : w.heap.size < V.heap.size := blk_lt BVR.out
          have x1 : V.cell? ⟨w.heap.size + 1, 0, none⟩ = some (.int .i64 f) := blk_cell BVX.out rfl
          have x2 : V.cell? ⟨w.heap.size + 1, 1, none⟩ = some (.int .i64 4611686018427387904) := blk_cell BVX.out rfl
          have x3 : w.heap.size + 1 < V.heap.size := blk_lt BVX.out
          cases hok : okS (f, 4611686018427387904)
          · have HV3 : Hid (spanR l = none) := by simp only [Hid]; rw [HV2.out, hok]; simp
            clear HV2 hok
            go_wp2_with fail
            refine bodyPost_ret (by simp [results, Tryz.results58, go_sem, q1, q2, q3]; try rfl) rfl ?_
            exact span_no HV3.out (by repeat (first | (with_reducible exact HVb.out) | (with_reducible refine bel_alloc ?_ _) | (with_reducible refine bel_drew ?_) | (with_reducible refine bel_drewN ?_ _) | (with_reducible refine bel_set ?_ (by first | omega | (dsimp only; omega)) _)))
          · have htl := tX_len (f, 4611686018427387904)
            go_wp2_with fail
            refine (HTX.out f 4611686018427387904 _).mono ?_
            rintro e w5 ⟨rfl, hb5⟩
            have B5R := Lib.hid (blk_keep hb5 BVR.out)
            have B5X := Lib.hid (blk_keep hb5 BVX.out)
            have HB5 := Lib.hid (bel_chain hb5 HVb.out)
            clear q1 q2 f1 f2 q3 x1 x2 x3 hb5 BVR BVX HVb
            have q1 : w5.cell? ⟨w.heap.size, 0, none⟩ = some (.int .i64 0) := blk_cell B5R.out rfl
            have q2 : w5.cell? ⟨w.heap.size, 1, none⟩ = some (.int .i64 0) := blk_cell B5R.out rfl
            have f1 : w5.frozen? ⟨w.heap.size, 0, none⟩ = false := blk_frozen B5R.out
            have f2 : w5.frozen? ⟨w.heap.size, 1, none⟩ = false := blk_frozen B5R.out
            have q3 : w.heap.size < w5.heap.size := blk_lt B5R.out
            have x1 : w5.cell? ⟨w.heap.size + 1, 0, none⟩ = some (.int .i64 f) := blk_cell B5X.out rfl
            have x2 : w5.cell? ⟨w.heap.size + 1, 1, none⟩ = some (.int .i64 4611686018427387904) := blk_cell B5X.out rfl
            have x3 : w.heap.size + 1 < w5.heap.size := blk_lt B5X.out
            by_cases htx : l = tX (f, 4611686018427387904)
            · have HV3 : Hid (spanR l = some (f, 4611686018427387904)) := by simp only [Hid]; rw [HV2.out, if_pos ⟨hok, htx⟩]
              have hbn : (tX (f, 4611686018427387904) == l) = true := by rw [beq_iff_eq]; exact htx.symm
              clear HV2 hok htx
              go_wp2_with fail
              refine bodyPost_ret (by simp [results, Tryz.results58, go_sem, q1, q2, q3]; try rfl) rfl ?_
              exact span_yes HV3.out (by repeat (first | (with_reducible exact HB5.out) | (with_reducible refine bel_alloc ?_ _) | (with_reducible refine bel_drew ?_) | (with_reducible refine bel_drewN ?_ _) | (with_reducible refine bel_set ?_ (by first | omega | (dsimp only; omega)) _)))
            · have HV3 : Hid (spanR l = none) := by simp only [Hid]; rw [HV2.out, if_neg (fun h => htx h.2)]
              have hbn : (tX (f, 4611686018427387904) == l) = false := by rw [beq_eq_false_iff_ne]; exact fun e => htx e.symm
              clear HV2 hok htx
              go_wp2_with fail
              refine bodyPost_ret (by simp [results, Tryz.results58, go_sem, q1, q2, q3]; try rfl) rfl ?_
              exact span_no HV3.out (by repeat (first | (with_reducible exact HB5.out) | (with_reducible refine bel_alloc ?_ _) | (with_reducible refine bel_drew ?_) | (with_reducible refine bel_drewN ?_ _) | (with_reducible refine bel_set ?_ (by first | omega | (dsimp only; omega)) _)))
      · have HN2 := Lib.hid (take_no hlt (q := 45) (by rw [hcl]; intro e; rw [e] at hd; exact hd rfl) HNO.out)
        have hd2 : ((c.toNat : Int) != 45) = true := by rw [bne_iff_ne]; omega
        clear HNO hcl
        go_wp2_with fail
        go_roundw
        case rel => exact ⟨by first | trivial | rfl, k + 1, by omega, by go_num, HN2.out⟩
        case measure => simp [intOf]; omega
    · have hkl : k = l.length := by omega
      have HV3 : Hid (spanR l = none) := by
        have hn : ∀ c ∈ l, c ≠ 45 := by have := HNO.out; rw [hkl, List.take_length] at this; exact this
        simp only [Hid]; unfold spanR; rw [cutD_none hn]
      have hke : ((k : Int) == (l.length : Int)) = true := by rw [beq_iff_eq]; omega
      have hkn : (k == l.length) = true := by rw [beq_iff_eq]; omega
      clear HNO hkl
      go_wp2_with fail
      refine bodyPost_ret (by simp [results, Tryz.results58, go_sem]; try rfl) rfl ?_
      exact span_no HV3.out (by (repeat (first | exact Below.refl _ _ | refine bel_drewN ?_ _ | refine bel_drew ?_ | refine bel_alloc ?_ _ | refine bel_set ?_ (by simp) _)))
end Go.Proofs.YtbphndihjdiiiaaGreatDoor
