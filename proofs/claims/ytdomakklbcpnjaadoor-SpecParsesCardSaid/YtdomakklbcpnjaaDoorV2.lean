/- Contract of the reference's Parse. -/
import Derived.Test.YtdomakklbcpnjaaDoorV1
import Derived.Test.YtdomakklbcpnjaaDoorW3
namespace Go.Proofs.YtdomakklbcpnjaaDoor
open Go.RowKit

/-- What is left to do: the ranges at hand, and those of the items to come. -/
def restT (ys : List (Int × Int)) (l : List UInt8) : Option (List (Int × Int)) := (rangesL (itemsL (splitC l))).map (ys ++ ·)
theorem rangesL_cons (p : List UInt8) (r : List (List UInt8)) : rangesL (p :: r) = match itemL p, rangesL r with | some x, some y => some (x :: y) | _, _ => none := rfl
theorem itemsL_cons (p : List UInt8) (r : List (List UInt8)) : itemsL (p :: r) = (if (trimL p).isEmpty = true then [] else [trimL p]) ++ itemsL r := by
  have := itemsL_append [p] r
  rw [List.singleton_append] at this
  rw [this]
  congr 1
  have h2 := itemsL_snoc [] p
  simpa [itemsL] using h2
theorem restT_blank {ys : List (Int × Int)} {a b : List UInt8} (h : ∀ c ∈ a, c ≠ 44) (ht : (trimL a).isEmpty = true) : restT ys (a ++ 44 :: b) = restT ys b := by
  unfold restT
  rw [splitC_some h, itemsL_cons, if_pos ht, List.nil_append]
theorem restT_bad {ys : List (Int × Int)} {a b : List UInt8} (h : ∀ c ∈ a, c ≠ 44) (ht : (trimL a).isEmpty = false) (hi : itemL (trimL a) = none) : restT ys (a ++ 44 :: b) = none := by
  unfold restT
  rw [splitC_some h, itemsL_cons, ht]
  simp [rangesL, hi]
theorem restT_good {ys : List (Int × Int)} {a b : List UInt8} {x : Int × Int} (h : ∀ c ∈ a, c ≠ 44) (ht : (trimL a).isEmpty = false) (hi : itemL (trimL a) = some x) : restT ys (a ++ 44 :: b) = restT (ys ++ [x]) b := by
  unfold restT
  rw [splitC_some h, itemsL_cons, ht]
  simp only [Bool.false_eq_true, if_false, List.singleton_append]
  rw [rangesL_cons, hi]
  cases rangesL (itemsL (splitC b)) <;> simp
theorem restL_blank {ys : List (Int × Int)} {a : List UInt8} (h : ∀ c ∈ a, c ≠ 44) (ht : (trimL a).isEmpty = true) : restT ys a = some ys := by
  unfold restT
  rw [splitC_none h, itemsL_cons, if_pos ht]
  simp [itemsL, rangesL]
theorem restL_bad {ys : List (Int × Int)} {a : List UInt8} (h : ∀ c ∈ a, c ≠ 44) (ht : (trimL a).isEmpty = false) (hi : itemL (trimL a) = none) : restT ys a = none := by
  unfold restT
  rw [splitC_none h, itemsL_cons, ht]
  simp [itemsL, rangesL, hi]
theorem restL_good {ys : List (Int × Int)} {a : List UInt8} {x : Int × Int} (h : ∀ c ∈ a, c ≠ 44) (ht : (trimL a).isEmpty = false) (hi : itemL (trimL a) = some x) : restT ys a = some (ys ++ [x]) := by
  unfold restT
  rw [splitC_none h, itemsL_cons, ht]
  simp [itemsL, rangesL, hi]
theorem item_as {l : List UInt8} {w : World} (hl : l.length ≤ 100000) (b : Bool) (h : (itemL l).isSome = b) : Calls Tryd.prog 82 #[.string ⟨l.toArray⟩] w fun e w' => ∃ p1 p2, e = .returned (.tuple #[.agg #[.int .i64 p1, .int .i64 p2], .bool b]) ∧ (∀ y, itemL l = some y → y = (p1, p2)) ∧ Below w.heap.size w w' := by
  have h1 := r4item_any l w hl
  unfold ItemPost at h1
  rw [h] at h1
  exact h1
theorem ex_mid (s : List UInt8) (f k : Nat) : (⟨s.toArray⟩ : ByteArray).extract f k = ⟨((s.drop f).take (k - f)).toArray⟩ := ba_ext (by simp [ByteArray.data_extract])
theorem mid_step {l : List UInt8} {f k : Nat} (hf : f ≤ k) (hk : k < l.length) (hd : l[k] ≠ 44) (h : ∀ c ∈ (l.drop f).take (k - f), c ≠ 44) : ∀ c ∈ (l.drop f).take (k + 1 - f), c ≠ 44 := by
  have e : k + 1 - f = (k - f) + 1 := by omega
  rw [e, List.take_succ_eq_append_getElem (by simp; omega)]
  intro c hc
  rcases List.mem_append.1 hc with hc | hc
  · exact h c hc
  · simp at hc
    have e2 : f + (k - f) = k := by omega
    simp only [e2] at hc
    rw [hc]; exact hd
theorem mid_comma {l : List UInt8} {f k : Nat} (hf : f ≤ k) (hk : k < l.length) (hd : l[k] = 44) : l.drop f = (l.drop f).take (k - f) ++ 44 :: l.drop (k + 1) := by
  have e : (l.drop f).drop (k - f) = 44 :: l.drop (k + 1) := by
    rw [List.drop_drop, show f + (k - f) = k from by omega, List.drop_eq_getElem_cons hk, hd]
  rw [← e, List.take_append_drop]
theorem mid_end {l : List UInt8} {f : Nat} : (l.drop f).take (l.length - f) = l.drop f := List.take_of_length_le (by simp)
theorem ne_empty {x : List UInt8} (h : x.isEmpty = false) : ((⟨x.toArray⟩ : ByteArray) == ⟨#[]⟩) = false := by
  cases x with
  | nil => cases h
  | cons c r => rfl
theorem parseT_pos {ys : List (Int × Int)} (h : 0 < ys.length) : parseT (some ys) = if 64 < ys.length then ([], 4) else (ys, 0) := by
  cases ys with
  | nil => simp at h
  | cons x r => rfl
/-- What holds ahead of each round: the place, where the piece at hand begins, the ranges so far. -/
def ParseAt (l : List UInt8) (T : Option (List (Int × Int))) (k f : Nat) (ys : List (Int × Int)) : Prop :=
  (k ≤ l.length ∧ f ≤ k ∧ (∀ c ∈ (l.drop f).take (k - f), c ≠ 44) ∧ restT ys (l.drop f) = T) ∨ (k = l.length + 1 ∧ T = some ys)
theorem parseAt_start {l : List UInt8} (h : 6 ≤ l.length) : ParseAt l (rangesL (itemsL (splitC (l.drop 6)))) 6 6 [] := by
  refine .inl ⟨h, Nat.le_refl _, by simp, ?_⟩
  unfold restT
  cases rangesL (itemsL (splitC (l.drop 6))) <;> simp
/-- The piece at hand, what becomes of it. -/
def ParseNext (l : List UInt8) (T : Option (List (Int × Int))) (k : Nat) (ys : List (Int × Int)) (x : List UInt8) : Prop :=
  (x.isEmpty = true → ParseAt l T (k + 1) (k + 1) ys) ∧ (x.isEmpty = false → itemL x = none → T = none) ∧ (x.isEmpty = false → ∀ y, itemL x = some y → ParseAt l T (k + 1) (k + 1) (ys ++ [y]))
theorem next_comma {l : List UInt8} {T : Option (List (Int × Int))} {k f : Nat} {ys : List (Int × Int)} (hk : k < l.length) (hd : l[k] = 44) (hf : f ≤ k) (hn : ∀ c ∈ (l.drop f).take (k - f), c ≠ 44) (hT : restT ys (l.drop f) = T) : ParseNext l T k ys (trimL ((l.drop f).take (k - f))) := by
  have e := mid_comma hf hk hd
  rw [e] at hT
  refine ⟨fun h => .inl ⟨by omega, Nat.le_refl _, by simp, ?_⟩, fun h hi => ?_, fun h y hi => .inl ⟨by omega, Nat.le_refl _, by simp, ?_⟩⟩
  · rw [restT_blank hn h] at hT; exact hT
  · rw [restT_bad hn h hi] at hT; exact hT.symm
  · rw [restT_good hn h hi] at hT; exact hT
theorem next_end {l : List UInt8} {T : Option (List (Int × Int))} {f : Nat} {ys : List (Int × Int)} (hn : ∀ c ∈ (l.drop f).take (l.length - f), c ≠ 44) (hT : restT ys (l.drop f) = T) : ParseNext l T l.length ys (trimL ((l.drop f).take (l.length - f))) := by
  rw [mid_end] at hn ⊢
  refine ⟨fun h => .inr ⟨rfl, ?_⟩, fun h hi => ?_, fun h y hi => .inr ⟨rfl, ?_⟩⟩
  · rw [restL_blank hn h] at hT; exact hT.symm
  · rw [restL_bad hn h hi] at hT; exact hT.symm
  · rw [restL_good hn h hi] at hT; exact hT.symm
set_option maxHeartbeats 8000000 in
set_option maxRecDepth 100000 in
theorem r4Parse_head (l : List UInt8) (w : World) (hl : l.length ≤ 100000) (hh : headB l = true) :
    Calls Tryd.prog 34 #[.string ⟨l.toArray⟩] w (RetSpecs (parseL l) w) := by
  have h6n : 6 ≤ l.length := by simp [headB] at hh; omega
  have hm : (l.take 6).map lowB = [98, 121, 116, 101, 115, 61] := by simp only [headB, Bool.and_eq_true, decide_eq_true_eq] at hh; exact hh.2
  have hz : (⟨l.toArray⟩ : ByteArray).size = l.length := ba_size l
  have e6 : (⟨l.toArray⟩ : ByteArray).extract 0 6 = ⟨(l.take 6).toArray⟩ := ex_take ⟨l.toArray⟩ 6
  have HS := fun W => Lib.hid (r4small_any (l.take 6) W (by simp; omega))
  rw [hm] at HS
  rw [parseL_eq hh]
  have HP := Lib.hid (parseAt_start h6n)
  obtain ⟨T, hT⟩ : ∃ T, rangesL (itemsL (splitC (l.drop 6))) = T := ⟨_, rfl⟩
  rw [hT] at HP ⊢
  clear hT hm hh
  have h6 : (6 : Int) ≤ (l.length : Int) := by omega
  have hd6 : decide ((l.length : Int) < 6) = false := by simp; omega
  go_enter Tryd.func34, Tryd.ntmps34
  go_wp2_with fail
  refine (HS _).out.mono ?_
  rintro e1 w1 ⟨rfl, hb1⟩
  have HB1 := Lib.hid hb1
  clear hb1 HS
  go_wp2_with fail
  go_loopw [4, 5, 6, 7, 8, 9] (fun v f i _ _ _ wr => ∃ (k f' : Nat) (ys : List (Int × Int)) (A : Option Addr) (c : Nat), v = .slice A ys.length c ∧ f = .int .i64 f' ∧ i = .int .i64 k ∧ 6 ≤ k ∧ k ≤ l.length + 1 ∧ ys.length + 6 ≤ k ∧ ParseAt l T k f' ys ∧ OwnQ wr w1.heap.size A c ys ∧ Below w1.heap.size w1 wr) (fun _ _ i _ _ _ _ => l.length + 1 - (intOf i).toNat)
  case atStart => exact ⟨6, 6, [], none, 0, rfl, rfl, rfl, Nat.le_refl _, by omega, by simp, HP.out, OwnQ.nil _ _, Below.refl _ _⟩
  case round =>
    clear HP
    obtain ⟨k, f, ys, A, c, rfl, rfl, rfl, hk6, hk, hyl, hpa, ho, hbw⟩ := hrel
    have HO := Lib.hid ho
    have HB := Lib.hid hbw
    clear ho hbw
    rcases hpa with ⟨hkl, hf, hn, hr⟩ | ⟨hkl, hT⟩
    · by_cases hgo : ∃ h : k < l.length, l[k] ≠ 44
      · obtain ⟨hlt, hne⟩ := hgo
        have i0 : (⟨l.toArray⟩ : ByteArray)[k]'(by rw [ba_size]; exact hlt) = l[k] := rfl
        have hc : (((((⟨l.toArray⟩ : ByteArray)[k]'(by rw [ba_size]; exact hlt)).toNat : Nat) : Int) != 44) = true := by
          rw [i0, bne_iff_ne]
          intro e
          apply hne
          have : (l[k]).toNat = 44 := by omega
          exact UInt8.toNat_inj.1 (by rw [this]; rfl)
        have HPA : Hid (ParseAt l T (k + 1) f ys) := .inl ⟨by omega, by omega, mid_step hf hlt hne hn, hr⟩
        clear i0 hne hn hr
        go_wp2_with fail
        go_roundw
        case rel => exact ⟨k + 1, f, ys, A, c, rfl, rfl, by go_num, by omega, by omega, by omega, HPA.out, HO.out, HB.out⟩
        case measure => simp [intOf]; omega
      · have HNX : Hid (ParseNext l T k ys (trimL ((l.drop f).take (k - f)))) := by
          by_cases hlt : k < l.length
          · exact next_comma hlt (Classical.not_not.1 fun h => hgo ⟨hlt, h⟩) hf hn hr
          · obtain rfl : k = l.length := by omega
            exact next_end hn hr
        have e1 : (⟨l.toArray⟩ : ByteArray).extract f k = ⟨((l.drop f).take (k - f)).toArray⟩ := ex_mid l f k
        have hal : ((l.drop f).take (k - f)).length ≤ 100000 := by simp; omega
        obtain ⟨a, ha⟩ : ∃ a, (l.drop f).take (k - f) = a := ⟨_, rfl⟩
        rw [ha] at HNX e1 hal
        have HAL := Lib.hid hal
        have hst : k = l.length ∨ ∃ h : k < l.length, (((((⟨l.toArray⟩ : ByteArray)[k]'(by rw [ba_size]; exact h)).toNat : Nat) : Int) != 44) = false := by
          by_cases hlt : k < l.length
          · right
            refine ⟨hlt, ?_⟩
            have i0 : (⟨l.toArray⟩ : ByteArray)[k]'(by rw [ba_size]; exact hlt) = l[k] := rfl
            have : l[k] = 44 := Classical.not_not.1 fun h => hgo ⟨hlt, h⟩
            rw [i0, this]; rfl
          · exact .inl (by omega)
        have hf0 : (0 : Int) ≤ (f : Int) := by omega
        have hf1 : (f : Int) ≤ (k : Int) := by omega
        have hf2 : (k : Int) ≤ (l.length : Int) := by omega
        have HTL : Hid ((trimL a).length ≤ 100000) := Nat.le_trans (trimL_len a) HAL.out
        clear hgo hn hr ha hal
        rcases hst with rfl | ⟨hlt, hc⟩
        case' inl => go_wp2_with fail
        case' inr => go_wp2_with fail
        all_goals
          have HBR := fun W => Lib.hid (r4bare_any a W HAL.out)
          obtain ⟨x, hx⟩ : ∃ x, trimL a = x := ⟨_, rfl⟩
          rw [hx] at HBR HTL HNX
          clear hx
          refine (HBR _).out.mono ?_
          rintro e2 w2 ⟨rfl, hb2⟩
          have HB2 : Hid (Below w1.heap.size w1 w2) := bel_chain hb2 HB.out
          have HO2 := Lib.hid (HO.out.below hb2)
          clear hb2 HB HO HBR HAL
          obtain ⟨n1, n2, n3⟩ := HNX.out
          have N1 := Lib.hid n1
          have N2 := Lib.hid n2
          have N3 := Lib.hid n3
          clear HNX n1 n2 n3
          cases hte : x.isEmpty
          · cases hi : itemL x with
            | none =>
              have HTN := Lib.hid (N2.out hte hi)
              have his : (itemL x).isSome = false := by rw [hi]; rfl
              have HI := fun W => Lib.hid (item_as (w := W) HTL.out false his)
              clear hi his N1 N2 N3
              go_wp2_with fail
              refine (HI _).out.mono ?_
              rintro e3 w3 ⟨p1, p2, rfl, _, hb3⟩
              have HB3 := Lib.hid (bel_chain hb3 (bel_chain HB2.out HB1.out))
              clear hb3 HI
              go_wp2_with fail
              go_ret2
              rw [HTN.out]
              exact ⟨none, 0, rfl, Sp.nil _, bel_alloc HB3.out _⟩
            | some y =>
              have HTS := Lib.hid (N3.out hte y hi)
              have his : (itemL x).isSome = true := by rw [hi]; rfl
              have HI := fun W => Lib.hid (item_as (w := W) HTL.out true his)
              have HII := Lib.hid hi
              clear hi his N1 N2 N3
              go_wp2_with fail
              refine (HI _).out.mono ?_
              rintro e3 w3 ⟨p1, p2, rfl, hit, hb3⟩
              obtain rfl := hit y HII.out
              have HB3 := Lib.hid (bel_chain hb3 HB2.out)
              have HO3 := Lib.hid (HO2.out.below hb3)
              clear hb3 HI hit HII HB2 HO2
              go_wp2_with (at_builtin; refine wplQ_append (w0 := w1) rfl (.tmp 51) (.tmp 53) rfl A c ys rfl (by exact (HO3.out.alloc _).alloc _) _ p1 p2 rfl (by first | exact cell_new0 _ _ _ _ | simp [go_sem]) (by first | exact cell_new1 _ _ _ _ | simp [go_sem]) (by omega) (by exact bel_alloc (bel_alloc HB3.out _) _) ?_; intro A5 c5 w5 hown5 hbw5 _)
              go_roundw
              case rel => exact ⟨_, _, ys ++ [(p1, p2)], A5, c5, by simp, rfl, by go_num, by omega, by omega, by simp; omega, HTS.out, hown5, hbw5⟩
              case measure => simp [intOf] <;> omega
          · have hx0 : x = [] := List.isEmpty_iff.1 hte
            have HPA := Lib.hid (N1.out hte)
            subst hx0
            clear hte N1 N2 N3
            go_wp2_with fail
            go_roundw
            case rel => exact ⟨_, _, ys, A, c, rfl, rfl, by go_num, by omega, by omega, by omega, HPA.out, HO2.out, HB2.out⟩
            case measure => simp [intOf] <;> omega
    · subst hkl
      subst hT
      have hkk : ((l.length + 1 : Nat) : Int) = (l.length : Int) + 1 := by omega
      have hle : decide (((l.length + 1 : Nat) : Int) ≤ (l.length : Int)) = false := by simp; omega
      by_cases h0 : ys.length = 0
      · obtain rfl : ys = [] := List.eq_nil_of_length_eq_zero h0
        go_wp2_with fail
        go_ret2
        exact ⟨none, 0, rfl, Sp.nil _, bel_chain HB.out HB1.out⟩
      · have hl0 : ((ys.length : Int) == 0) = false := by rw [beq_eq_false_iff_ne]; omega
        have HPT := Lib.hid (parseT_pos (ys := ys) (by omega))
        by_cases h64 : 64 < ys.length
        · have HT : Hid (parseT (some ys) = ([], 4)) := by simp only [Hid]; rw [HPT.out, if_pos h64]
          have hl1 : decide ((64 : Int) < (ys.length : Int)) = true := by simp; omega
          go_wp2_with fail
          go_ret2
          rw [HT.out]
          exact ⟨none, 0, rfl, Sp.nil _, bel_chain HB.out HB1.out⟩
        · have HT : Hid (parseT (some ys) = (ys, 0)) := by simp only [Hid]; rw [HPT.out, if_neg h64]
          have hl1 : decide ((64 : Int) < (ys.length : Int)) = false := by simp; omega
          go_wp2_with fail
          go_ret2
          rw [HT.out]
          exact ⟨A, c, rfl, HO.out.sp, bel_chain HB.out HB1.out⟩
set_option maxHeartbeats 4000000 in
set_option maxRecDepth 100000 in
theorem r4Parse_no (l : List UInt8) (w : World) (hl : l.length ≤ 100000) (hh : headB l = false) :
    Calls Tryd.prog 34 #[.string ⟨l.toArray⟩] w (RetSpecs (parseL l) w) := by
  have hp : parseL l = ([], 2) := by unfold parseL; rw [hh]; rfl
  rw [hp]
  have hz : (⟨l.toArray⟩ : ByteArray).size = l.length := ba_size l
  by_cases h6n : 6 ≤ l.length
  · have e6 : (⟨l.toArray⟩ : ByteArray).extract 0 6 = ⟨(l.take 6).toArray⟩ := ex_take ⟨l.toArray⟩ 6
    have HS := fun W => Lib.hid (r4small_any (l.take 6) W (by simp; omega))
    have hne : (l.take 6).map lowB ≠ [98, 121, 116, 101, 115, 61] := by
      intro h
      have : headB l = true := by unfold headB; rw [h]; simp; exact h6n
      rw [hh] at this; cases this
    obtain ⟨m, hm⟩ : ∃ m, (l.take 6).map lowB = m := ⟨_, rfl⟩
    rw [hm] at HS hne
    clear hm
    have hmb : (m == [98, 121, 116, 101, 115, 61]) = false := by rw [beq_eq_false_iff_ne]; exact hne
    have h6 : (6 : Int) ≤ (l.length : Int) := by omega
    have hd6 : decide ((l.length : Int) < 6) = false := by simp; omega
    go_enter Tryd.func34, Tryd.ntmps34
    go_wp2_with fail
    refine (HS _).out.mono ?_
    rintro e1 w1 ⟨rfl, hb1⟩
    have HB1 := Lib.hid hb1
    clear hb1 HS
    go_wp2_with fail
    go_ret2
    exact ⟨none, 0, rfl, Sp.nil _, HB1.out⟩
  · have hd6 : decide ((l.length : Int) < 6) = true := by simp; omega
    go_enter Tryd.func34, Tryd.ntmps34
    go_wp2_with fail
    go_ret2
    exact ⟨none, 0, rfl, Sp.nil _, Below.refl _ _⟩
theorem r4Parse_any (l : List UInt8) (w : World) (hl : l.length ≤ 100000) : Calls Tryd.prog 34 #[.string ⟨l.toArray⟩] w (RetSpecs (parseL l) w) := by
  cases hh : headB l
  · exact r4Parse_no l w hl hh
  · exact r4Parse_head l w hl hh
end Go.Proofs.YtdomakklbcpnjaaDoor
