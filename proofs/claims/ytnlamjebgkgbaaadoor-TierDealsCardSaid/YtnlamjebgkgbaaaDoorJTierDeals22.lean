/- Contracts of the ring's small functions: the hash, what may be a name, the search of a place. -/
import Derived.Test.YtnlamjebgkgbaaaDoorJTierDeals21
import Derived.Laws.Bits64
namespace Go.Proofs.YtnlamjebgkgbaaaDoor
open Go.RowKit Go.Shelf Go.Sort

def hstep (h : Int) (c : UInt8) : Int := IntKind.u64.wrap (bits BinOp.xor IntKind.u64 h (IntKind.u64.wrap (c.toNat : Int)) * 1099511628211)
def hashI (l : List UInt8) : Int := l.foldl hstep 14695981039346656037
theorem hashI_step {l : List UInt8} {k : Nat} (hk : k < l.length) : hashI (l.take (k + 1)) = hstep (hashI (l.take k)) l[k] := by
  unfold hashI; rw [List.take_succ_eq_append_getElem hk, List.foldl_append]; rfl
theorem hstep_range (h : Int) (c : UInt8) : 0 ≤ hstep h c ∧ hstep h c < 18446744073709551616 := by
  unfold hstep; rw [IntKind.wrap_u64]; omega
theorem hashI_range (l : List UInt8) : 0 ≤ hashI l ∧ hashI l < 18446744073709551616 := by
  rcases Nat.eq_zero_or_pos l.length with h | h
  · obtain rfl : l = [] := List.eq_nil_of_length_eq_zero h
    unfold hashI; simp
  · have := hashI_step (l := l) (k := l.length - 1) (by omega)
    rw [List.take_of_length_le (by omega)] at this
    rw [this]; exact hstep_range _ _
def hashN (l : List UInt8) : Nat := (hashI l).toNat
theorem hashN_eq (l : List UInt8) : ((hashN l : Nat) : Int) = hashI l := by have := hashI_range l; unfold hashN; omega
theorem hashN_lt (l : List UInt8) : hashN l < 18446744073709551616 := by have := hashI_range l; unfold hashN; omega
theorem hash_any (l : List UInt8) (w : World) (hl : l.length ≤ 1000000) : Calls Tryd.prog 34 #[.string ⟨l.toArray⟩] w fun e w' => e = .returned (.int .u64 (hashN l : Int)) ∧ w' = w := by
  have hsz : (⟨l.toArray⟩ : ByteArray).size = l.length := List.size_toArray ..
  go_enter Tryd.func34, Tryd.ntmps34
  go_wp2_with fail
  go_loopw [3, 4, 7] (fun s _ i wr => wr = w ∧ ∃ k : Nat, k ≤ l.length ∧ i = .int .i64 k ∧ s = .int .u64 (hashI (l.take k))) (fun _ _ i _ => l.length - (intOf i).toNat)
  case atStart => exact ⟨rfl, 0, Nat.zero_le _, rfl, rfl⟩
  case round =>
    obtain ⟨rfl, k, hk, rfl, rfl⟩ := hrel
    by_cases hlt : k < l.length
    · have HS := Lib.hid (hashI_step hlt)
      go_wp2_with fail
      go_roundw
      case rel => exact ⟨by first | trivial | rfl, k + 1, by omega, by go_num, by rw [HS.out]; rfl⟩
      case measure => simp [intOf]; omega
    · go_wp2_with fail
      go_ret
      exact ⟨by rw [hashN_eq, List.take_of_length_le (by omega)]; rfl, rfl⟩
/-- How many of the points lie ahead of a place. -/
def firstK (h : Nat) (L : List Pt) : Nat := (L.takeWhile fun x => decide (x.1 < h)).length
theorem firstK_eq {h i : Nat} {L : List Pt} (hi : i ≤ L.length) (h1 : ∀ k (hk : k < L.length), k < i → (L[k]).1 < h) (h2 : ∀ k (hk : k < L.length), i ≤ k → h ≤ (L[k]).1) : firstK h L = i := by
  unfold firstK
  induction L generalizing i with
  | nil => simp at hi; simp [hi]
  | cons x L ih =>
    rw [List.takeWhile_cons]
    cases i with
    | zero =>
      have := h2 0 (by simp) (Nat.le_refl _)
      simp only [List.getElem_cons_zero] at this
      rw [if_neg (by simp; omega)]; rfl
    | succ i =>
      have := h1 0 (by simp) (by omega)
      simp only [List.getElem_cons_zero] at this
      rw [if_pos (by simpa using this), List.length_cons]
      have := ih (i := i) (by simpa using hi) (fun k hk hki => by have := h1 (k + 1) (by simpa using hk) (by omega); simpa using this) (fun k hk hki => by have := h2 (k + 1) (by simpa using hk) (by omega); simpa using this)
      omega
theorem firstK_le (h : Nat) (L : List Pt) : firstK h L ≤ L.length := by
  unfold firstK; exact List.Sublist.length_le (List.takeWhile_sublist _)
theorem pt_mono {L : List Pt} (hs : L.Pairwise ptLe) {i j : Nat} (hij : i ≤ j) (hj : j < L.length) : (L[i]).1 ≤ (L[j]).1 := by
  rcases Nat.lt_or_ge i j with h | h
  · rcases List.pairwise_iff_getElem.1 hs i j (by omega) hj h with h' | ⟨h', _⟩ <;> omega
  · have : i = j := by omega
    subst this; exact Nat.le_refl _
theorem own1_any (x : Pt) (h : Nat) (W : World) : Calls Tryd.prog 35 #[.agg #[.int .u64 (x.1 : Int), .string ⟨x.2.toArray⟩], .int .u64 (h : Int)] W fun e w' => e = .returned (.int .i64 (if x.1 < h then -1 else if h < x.1 then 1 else 0)) ∧ Below W.heap.size W w' := by
  have HU := fun W' => Lib.hid (cmpU_any x.1 h W')
  generalize (if x.1 < h then (-1 : Int) else if h < x.1 then 1 else 0) = r1 at HU ⊢
  go_enter Tryd.func35, Tryd.ntmps35
  go_wp2_with (go_at_call 36; refine (HU _).out.mono ?_; rintro e w1 ⟨rfl, rfl⟩)
  go_ret
  exact ⟨rfl, by (repeat (first | exact Below.refl _ _ | refine bel_drewN ?_ _ | refine bel_drew ?_ | refine bel_alloc ?_ _ | refine bel_set ?_ (by simp) _))⟩
theorem own1_as (x1 : Nat) (x2 : List UInt8) (h : Nat) (t : Bool) (ht : decide (x1 < h) = t) (W : World) : Calls Tryd.prog 35 #[.agg #[.int .u64 (x1 : Int), .string ⟨x2.toArray⟩], .int .u64 (h : Int)] W fun e w' => ∃ r, e = .returned (.int .i64 r) ∧ decide (r < 0) = t ∧ Below W.heap.size W w' :=
  Calls.mono (own1_any (x1, x2) h W) fun e w' ⟨he, hb⟩ => ⟨_, he, by
    rw [← ht]; simp only
    by_cases h1 : x1 < h
    · simp [h1]
    · by_cases h2 : h < x1 <;> simp [h1, h2], hb⟩
set_option maxHeartbeats 4000000 in
theorem bsF_any (w : World) (A : Option Addr) (c : Nat) (L : List Pt) (h : Nat) (hs : SpPt w A L) (hso : L.Pairwise ptLe) (hl : L.length ≤ 1000000) :
    Calls Tryd.prog 33 #[.slice A L.length c, .int .u64 (h : Int), .func (.func 35) #[] #[]] w fun e w' => ∃ b, e = .returned (.tuple #[.int .i64 (firstK h L : Int), .bool b]) ∧ Below w.heap.size w w' := by
  have HS := Lib.hid hs
  have HSO := Lib.hid hso
  have hlN : (L.length : Int) ≤ 1000000 := by omega
  clear hs hso
  go_enter Tryd.func33, Tryd.ntmps33
  go_wp2_with fail
  go_loopw [9, 10, 11] (fun si sj _ wr => ∃ i j : Nat, si = .int .i64 i ∧ sj = .int .i64 j ∧ i ≤ j ∧ j ≤ L.length ∧ (∀ k (hk : k < L.length), k < i → (L[k]).1 < h) ∧ (∀ k (hk : k < L.length), j ≤ k → h ≤ (L[k]).1) ∧ Below w.heap.size w wr) (fun si sj _ _ => (intOf sj).toNat - (intOf si).toNat)
  case atStart => exact ⟨0, L.length, rfl, rfl, Nat.zero_le _, Nat.le_refl _, fun k hk h0 => by omega, fun k hk h0 => by omega, Below.refl _ _⟩
  case round =>
    obtain ⟨i, j, rfl, rfl, hij, hj, hlo, hhi, hb⟩ := hrel
    have HLO := Lib.hid hlo
    have HHI := Lib.hid hhi
    have HB := Lib.hid hb
    clear hlo hhi hb
    by_cases hlt : i < j
    · obtain ⟨m, hm⟩ : ∃ m, (i + j) / 2 = m := ⟨_, rfl⟩
      have em : ((i : Int) + (j : Int)) / 2 = (m : Int) := by omega
      have him : i ≤ m ∧ m < j := by omega
      have hml : m < L.length := by omega
      have hmL : (m : Int) < (L.length : Int) := by omega
      obtain ⟨b, off, e, hbl, c1, c2⟩ := (HS.out.below HB.out).at' m hml
      have HMA := Lib.hid (fun (q : (L[m]).1 < h) k (hk : k < L.length) (hkm : k < m + 1) => Nat.lt_of_le_of_lt (pt_mono HSO.out (i := k) (j := m) (by omega) hml) q)
      have HMB := Lib.hid (fun (q : h ≤ (L[m]).1) k (hk : k < L.length) (hkm : m ≤ k) => Nat.le_trans q (pt_mono HSO.out hkm hk))
      obtain ⟨⟨x1, x2⟩, hx⟩ : ∃ x, L[m] = x := ⟨_, rfl⟩
      rw [hx] at c1 c2 HMA HMB
      simp only at c1 c2 HMA HMB
      clear hx hm
      rw [e]
      by_cases hc : x1 < h
      · have HC := fun W => Lib.hid (own1_as x1 x2 h true (by simpa using hc) W)
        go_wp2_with (go_at_call 35; refine (HC _).out.mono ?_; rintro e w1 ⟨r, rfl, hrt, hb1⟩)
        go_roundw
        case rel => exact ⟨m + 1, j, by go_num, rfl, by omega, hj, HMA.out hc, HHI.out, bel_chain hb1 HB.out⟩
        case measure => simp [intOf]; omega
      · have HC := fun W => Lib.hid (own1_as x1 x2 h false (by simpa using hc) W)
        go_wp2_with (go_at_call 35; refine (HC _).out.mono ?_; rintro e w1 ⟨r, rfl, hrt, hb1⟩)
        go_roundw
        case rel => exact ⟨i, m, rfl, by go_num, by omega, by omega, HLO.out, HMB.out (by omega), bel_chain hb1 HB.out⟩
        case measure => simp [intOf]; omega
    · obtain rfl : i = j := by omega
      have HF := Lib.hid (firstK_eq hj HLO.out HHI.out)
      clear HLO HHI HSO hlt hij
      by_cases hil : i < L.length
      · have hiL : (i : Int) < (L.length : Int) := by omega
        obtain ⟨b, off, e, hbl, c1, c2⟩ := (HS.out.below HB.out).at' i hil
        obtain ⟨⟨x1, x2⟩, hx⟩ : ∃ x, L[i] = x := ⟨_, rfl⟩
        rw [hx] at c1 c2
        simp only at c1 c2
        clear hx
        rw [e]
        have HC := fun W => Lib.hid (own1_any (x1, x2) h W)
        simp only at HC
        generalize (if x1 < h then (-1 : Int) else if h < x1 then 1 else 0) = r1 at HC
        go_wp2_with (go_at_call 35; refine (HC _).out.mono ?_; rintro e w1 ⟨rfl, hb1⟩)
        refine bodyPost_ret (by simp [results, Tryd.results33, go_sem]; try rfl) rfl ?_
        exact ⟨_, by rw [HF.out], bel_chain hb1 HB.out⟩
      · have hiL : ¬ (i : Int) < (L.length : Int) := by omega
        go_wp2_with fail
        refine bodyPost_ret (by simp [results, Tryd.results33, go_sem]; try rfl) rfl ?_
        exact ⟨.inl (by rw [HF.out]), HB.out⟩
end Go.Proofs.YtnlamjebgkgbaaaDoor
