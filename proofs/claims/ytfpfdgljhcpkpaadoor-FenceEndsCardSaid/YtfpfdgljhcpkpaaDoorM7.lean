/- Plain laws: what either, both, or only the first one of two sets has, by going through two least lists at once; short gaps closed. -/
import Derived.Test.YtfpfdgljhcpkpaaDoorM6
namespace Go.Proofs.YtfpfdgljhcpkpaaDoor

theorem inB_ofOp (a b : List (Int × Int)) (op : Int) (p : Int) : inB (ofOp a b op) p = opB op (inB a p) (inB b p) := by
  rw [Bool.eq_iff_iff, inB_iff]; exact (ofOp_inv a b op).2 p
theorem inB_cano (L : List (Int × Int)) (p : Int) : inB (cano L) p = inB L p := by
  rw [Bool.eq_iff_iff, inB_iff, inB_iff]
  exact cano_in L p
theorem canon_ext {a b : List (Int × Int)} (ha : Canon a) (hb : Canon b) (h : ∀ p, inB a p = inB b p) : a = b :=
  Canon.unique ha hb fun p => by rw [← inB_iff, ← inB_iff, h p]
theorem inB_nil (p : Int) : inB [] p = false := rfl
theorem Canon.in_mem {L : List (Int × Int)} (h : Canon L) {z : Int × Int} (hz : z ∈ L) : InS L z.1 := by
  have := h.mem hz
  exact ⟨z, hz, by rw [okS_iff]; omega, by omega, by omega⟩
theorem Canon.in_last {L : List (Int × Int)} (h : Canon L) {z : Int × Int} (hz : z ∈ L) : InS L (z.2 - 1) := by
  have := h.mem hz
  exact ⟨z, hz, by rw [okS_iff]; omega, by omega, by omega⟩
theorem Canon.cons' {x : Int × Int} {L : List (Int × Int)} (h : Canon L) (hx : goodS x = true) (hp : ∀ p, InS L p → x.2 < p) : Canon (x :: L) :=
  ⟨fun y hy => by
    rcases List.mem_cons.1 hy with rfl | hy
    · exact hx
    · exact h.good y hy, List.pairwise_cons.2 ⟨fun z hz => hp _ (h.in_mem hz), h.sep⟩⟩
theorem Canon.append {a b : List (Int × Int)} (ha : Canon a) (hb : Canon b) (h : ∀ y ∈ a, ∀ z ∈ b, y.2 < z.1) : Canon (a ++ b) :=
  ⟨fun y hy => by
    rcases List.mem_append.1 hy with hy | hy
    · exact ha.good y hy
    · exact hb.good y hy, List.pairwise_append.2 ⟨ha.sep, hb.sep, h⟩⟩
theorem Canon.rising {L : List (Int × Int)} (h : Canon L) : Rising L :=
  h.sep.imp_of_mem (fun ha _ hab => by have := h.mem ha; omega)

theorem drop_at {L : List (Int × Int)} {k : Nat} (h : k < L.length) : L.drop k = L[k] :: L.drop (k + 1) := List.drop_eq_getElem_cons h
theorem drop_end {L : List (Int × Int)} {k : Nat} (h : ¬ k < L.length) : L.drop k = [] := List.drop_eq_nil_of_le (by omega)

/-- Two lists that rise, as one. -/
def mgL : List (Int × Int) → List (Int × Int) → List (Int × Int)
  | [], b => b
  | x :: a, [] => x :: a
  | x :: a, y :: b => if x.1 ≤ y.1 then x :: mgL a (y :: b) else y :: mgL (x :: a) b
  termination_by a b => a.length + b.length
theorem mgL_nil (b : List (Int × Int)) : mgL [] b = b := by rw [mgL]
theorem mgL_nil' (a : List (Int × Int)) : mgL a [] = a := by cases a <;> rw [mgL]
theorem mgL_le {x y : Int × Int} {a b : List (Int × Int)} (h : x.1 ≤ y.1) : mgL (x :: a) (y :: b) = x :: mgL a (y :: b) := by rw [mgL, if_pos h]
theorem mgL_gt {x y : Int × Int} {a b : List (Int × Int)} (h : ¬ x.1 ≤ y.1) : mgL (x :: a) (y :: b) = y :: mgL (x :: a) b := by rw [mgL, if_neg h]
theorem mgL_inv : ∀ (n : Nat) (a b : List (Int × Int)), a.length + b.length ≤ n → Rising a → Rising b → (mgL a b).Perm (a ++ b) ∧ Rising (mgL a b)
  | n, [], b, _, _, hb => by rw [mgL_nil]; exact ⟨List.Perm.refl _, hb⟩
  | n, x :: a, [], _, ha, _ => by rw [mgL_nil']; exact ⟨by simp, ha⟩
  | 0, x :: a, y :: b, h, _, _ => by simp at h
  | n + 1, x :: a, y :: b, h, ha, hb => by
    have ha' := List.pairwise_cons.1 ha
    have hb' := List.pairwise_cons.1 hb
    by_cases hxy : x.1 ≤ y.1
    · rw [mgL_le hxy]
      obtain ⟨h1, h2⟩ := mgL_inv n a (y :: b) (by simp at h ⊢; omega) ha'.2 hb
      refine ⟨h1.cons x, List.pairwise_cons.2 ⟨fun z hz => ?_, h2⟩⟩
      rcases List.mem_append.1 (h1.mem_iff.1 hz) with hz | hz
      · exact ha'.1 z hz
      · rcases List.mem_cons.1 hz with rfl | hz
        · exact hxy
        · have := hb'.1 z hz; omega
    · rw [mgL_gt hxy]
      obtain ⟨h1, h2⟩ := mgL_inv n (x :: a) b (by simp at h ⊢; omega) ha hb'.2
      refine ⟨(h1.cons y).trans List.perm_middle.symm, List.pairwise_cons.2 ⟨fun z hz => ?_, h2⟩⟩
      rcases List.mem_append.1 (h1.mem_iff.1 hz) with hz | hz
      · rcases List.mem_cons.1 hz with rfl | hz
        · omega
        · have := ha'.1 z hz; omega
      · exact hb'.1 z hz
theorem mgL_length (a b : List (Int × Int)) (ha : Rising a) (hb : Rising b) : (mgL a b).length = a.length + b.length := by
  have := (mgL_inv _ a b (Nat.le_refl _) ha hb).1.length_eq
  simpa using this
theorem or_eq {a b : List (Int × Int)} (ha : Canon a) (hb : Canon b) : gatherL (mgL a b) = ofOp a b 1 := by
  obtain ⟨hp, hr⟩ := mgL_inv _ a b (Nat.le_refl _) ha.rising hb.rising
  have hg : ∀ x ∈ mgL a b, goodS x = true := fun x hx => by
    rcases List.mem_append.1 (hp.mem_iff.1 hx) with h | h
    · exact ha.good x h
    · exact hb.good x h
  obtain ⟨hc, hin, _⟩ := gather_inv _ hg hr
  refine Canon.unique hc (ofOp_inv a b 1).1 (fun p => ?_)
  rw [hin p, (ofOp_inv a b 1).2 p]
  have e : InS (mgL a b) p ↔ InS (a ++ b) p := by
    constructor
    · rintro ⟨x, hx, r⟩; exact ⟨x, hp.mem_iff.1 hx, r⟩
    · rintro ⟨x, hx, r⟩; exact ⟨x, hp.mem_iff.2 hx, r⟩
  rw [e, InS_append, ← inB_iff, ← inB_iff]
  simp [opB]

/-- What two spans share. -/
def meetL (x y : Int × Int) : List (Int × Int) := if max x.1 y.1 < min x.2 y.2 then [(max x.1 y.1, min x.2 y.2)] else []
def andL : List (Int × Int) → List (Int × Int) → List (Int × Int)
  | [], _ => []
  | _ :: _, [] => []
  | x :: a, y :: b => meetL x y ++ (if x.2 ≤ y.2 then andL a (y :: b) else andL (x :: a) b)
  termination_by a b => a.length + b.length
theorem andL_nil (b : List (Int × Int)) : andL [] b = [] := by rw [andL]
theorem andL_nil' (a : List (Int × Int)) : andL a [] = [] := by cases a <;> rw [andL]
theorem andL_le {x y : Int × Int} {a b : List (Int × Int)} (h : x.2 ≤ y.2) : andL (x :: a) (y :: b) = meetL x y ++ andL a (y :: b) := by rw [andL, if_pos h]
theorem andL_gt {x y : Int × Int} {a b : List (Int × Int)} (h : ¬ x.2 ≤ y.2) : andL (x :: a) (y :: b) = meetL x y ++ andL (x :: a) b := by rw [andL, if_neg h]
theorem meet_in {x y : Int × Int} (hx : goodS x = true) (hy : goodS y = true) (p : Int) : InS (meetL x y) p ↔ (x.1 ≤ p ∧ p < x.2) ∧ (y.1 ≤ p ∧ p < y.2) := by
  have gx := (goodS_iff x).1 hx
  have gy := (goodS_iff y).1 hy
  unfold meetL
  split
  · rw [InS_one, okS_iff]; simp only; omega
  · constructor
    · intro h; exact absurd h (InS_nil p)
    · intro h; omega
theorem meet_canon {x y : Int × Int} (hx : goodS x = true) (hy : goodS y = true) {L : List (Int × Int)} (hL : Canon L) (h : ∀ p, InS L p → min x.2 y.2 < p) : Canon (meetL x y ++ L) := by
  have gx := (goodS_iff x).1 hx
  have gy := (goodS_iff y).1 hy
  unfold meetL
  split
  · exact hL.cons' (by rw [goodS_iff]; simp only; omega) h
  · exact hL
theorem andL_inv : ∀ (n : Nat) (a b : List (Int × Int)), a.length + b.length ≤ n → Canon a → Canon b → Canon (andL a b) ∧ ∀ p, InS (andL a b) p ↔ InS a p ∧ InS b p
  | n, [], b, _, _, hb => by rw [andL_nil]; exact ⟨Canon.nil, fun p => by simp [InS_nil]⟩
  | n, x :: a, [], _, ha, _ => by rw [andL_nil']; exact ⟨Canon.nil, fun p => by simp [InS_nil]⟩
  | 0, x :: a, y :: b, h, _, _ => by simp at h
  | n + 1, x :: a, y :: b, h, ha, hb => by
    have gx := ha.good x (List.mem_cons_self ..)
    have gy := hb.good y (List.mem_cons_self ..)
    by_cases hxy : x.2 ≤ y.2
    · rw [andL_le hxy]
      obtain ⟨h1, h2⟩ := andL_inv n a (y :: b) (by simp at h ⊢; omega) ha.tail hb
      refine ⟨meet_canon gx gy h1 (fun p hp => ?_), fun p => ?_⟩
      · have := ha.behind ((h2 p).1 hp).1; omega
      · rw [InS_append, meet_in gx gy, h2 p, ha.in_cons, hb.in_cons]
        constructor
        · rintro (h3 | h3)
          · exact ⟨.inl h3.1, .inl h3.2⟩
          · exact ⟨.inr h3.1, h3.2⟩
        · rintro ⟨h3 | h3, h4⟩
          · rcases h4 with h4 | h4
            · exact .inl ⟨h3, h4⟩
            · have := hb.behind h4; omega
          · exact .inr ⟨h3, h4⟩
    · rw [andL_gt hxy]
      obtain ⟨h1, h2⟩ := andL_inv n (x :: a) b (by simp at h ⊢; omega) ha hb.tail
      refine ⟨meet_canon gx gy h1 (fun p hp => ?_), fun p => ?_⟩
      · have := hb.behind ((h2 p).1 hp).2; omega
      · rw [InS_append, meet_in gx gy, h2 p, ha.in_cons, hb.in_cons]
        constructor
        · rintro (h3 | h3)
          · exact ⟨.inl h3.1, .inl h3.2⟩
          · exact ⟨h3.1, .inr h3.2⟩
        · rintro ⟨h3, h4 | h4⟩
          · rcases h3 with h3 | h3
            · exact .inl ⟨h3, h4⟩
            · have := ha.behind h3; omega
          · exact .inr ⟨h3, h4⟩
theorem and_eq {a b : List (Int × Int)} (ha : Canon a) (hb : Canon b) : andL a b = ofOp a b 2 := by
  obtain ⟨hc, hin⟩ := andL_inv _ a b (Nat.le_refl _) ha hb
  refine Canon.unique hc (ofOp_inv a b 2).1 (fun p => ?_)
  rw [hin p, (ofOp_inv a b 2).2 p, ← inB_iff, ← inB_iff]
  simp [opB]
theorem andL_length : ∀ (n : Nat) (a b : List (Int × Int)), a.length + b.length ≤ n → (andL a b).length ≤ a.length + b.length
  | n, [], b, _ => by rw [andL_nil]; simp
  | n, x :: a, [], _ => by rw [andL_nil']; simp
  | 0, x :: a, y :: b, h => by simp at h
  | n + 1, x :: a, y :: b, h => by
    have hm : (meetL x y).length ≤ 1 := by unfold meetL; split <;> simp
    by_cases hxy : x.2 ≤ y.2
    · rw [andL_le hxy]
      have := andL_length n a (y :: b) (by simp at h ⊢; omega)
      simp at this ⊢; omega
    · rw [andL_gt hxy]
      have := andL_length n (x :: a) b (by simp at h ⊢; omega)
      simp at this ⊢; omega

/-- What is left of the bytes from one place to another, less some spans. -/
def pieceL (f t : Int) : List (Int × Int) := if f < t then [(f, t)] else []
def cutL (t : Int) : Int → List (Int × Int) → List (Int × Int)
  | f, [] => pieceL f t
  | f, y :: b => if y.1 < t then pieceL f y.1 ++ cutL t (max f y.2) b else pieceL f t
theorem cutL_nil (t f : Int) : cutL t f [] = pieceL f t := rfl
theorem cutL_in {t f : Int} {y : Int × Int} {b : List (Int × Int)} (h : y.1 < t) : cutL t f (y :: b) = pieceL f y.1 ++ cutL t (max f y.2) b := by rw [cutL, if_pos h]
theorem cutL_out {t f : Int} {y : Int × Int} {b : List (Int × Int)} (h : ¬ y.1 < t) : cutL t f (y :: b) = pieceL f t := by rw [cutL, if_neg h]
theorem piece_in {f t : Int} (hf : 0 ≤ f) (ht : t ≤ 4611686018427387904) (p : Int) : InS (pieceL f t) p ↔ f ≤ p ∧ p < t := by
  unfold pieceL
  split
  · rw [InS_one, okS_iff]; simp only; omega
  · constructor
    · intro h; exact absurd h (InS_nil p)
    · intro h; omega
theorem piece_canon {f t : Int} (hf : 0 ≤ f) (ht : t ≤ 4611686018427387904) : Canon (pieceL f t) := by
  unfold pieceL
  split
  · exact Canon.one (by rw [goodS_iff]; simp only; omega)
  · exact Canon.nil
theorem cutL_inv : ∀ (b : List (Int × Int)) (t f : Int), Canon b → 0 ≤ f → t ≤ 4611686018427387904 → Canon (cutL t f b) ∧ ∀ p, InS (cutL t f b) p ↔ f ≤ p ∧ p < t ∧ ¬ InS b p
  | [], t, f, _, hf, ht => by
    rw [cutL_nil]
    exact ⟨piece_canon hf ht, fun p => by rw [piece_in hf ht]; simp [InS_nil]⟩
  | y :: b, t, f, hb, hf, ht => by
    have hy := hb.head
    by_cases h : y.1 < t
    · rw [cutL_in h]
      obtain ⟨h1, h2⟩ := cutL_inv b t (max f y.2) hb.tail (by omega) ht
      refine ⟨?_, fun p => ?_⟩
      · unfold pieceL
        split
        · refine h1.cons' (by rw [goodS_iff]; simp only; omega) (fun p hp => ?_)
          have := (h2 p).1 hp
          simp only; omega
        · exact h1
      · rw [InS_append, piece_in hf (by omega), h2 p, hb.in_cons]
        constructor
        · rintro (h3 | ⟨h3, h4, h5⟩)
          · refine ⟨h3.1, by omega, ?_⟩
            rintro (h4 | h4)
            · omega
            · have := hb.behind h4; omega
          · refine ⟨by omega, h4, ?_⟩
            rintro (h6 | h6)
            · omega
            · exact h5 h6
        · rintro ⟨h3, h4, h5⟩
          by_cases h6 : p < y.1
          · exact .inl ⟨h3, h6⟩
          · have h7 : ¬ p < y.2 := fun h7 => h5 (.inl ⟨by omega, h7⟩)
            exact .inr ⟨by omega, h4, fun h8 => h5 (.inr h8)⟩
    · rw [cutL_out h]
      refine ⟨piece_canon hf ht, fun p => ?_⟩
      rw [piece_in hf ht]
      constructor
      · rintro ⟨h1, h2⟩
        refine ⟨h1, h2, fun h3 => ?_⟩
        have := hb.first h3
        omega
      · rintro ⟨h1, h2, _⟩; exact ⟨h1, h2⟩
def skipL (f : Int) (b : List (Int × Int)) : List (Int × Int) := b.dropWhile fun y => decide (y.2 ≤ f)
theorem skipL_nil (f : Int) : skipL f [] = [] := rfl
theorem skipL_yes {f : Int} {y : Int × Int} {b : List (Int × Int)} (h : y.2 ≤ f) : skipL f (y :: b) = skipL f b := by simp [skipL, List.dropWhile, h]
theorem skipL_no {f : Int} {y : Int × Int} {b : List (Int × Int)} (h : ¬ y.2 ≤ f) : skipL f (y :: b) = y :: b := by simp [skipL, List.dropWhile, h]
theorem skipL_canon (f : Int) {b : List (Int × Int)} (hb : Canon b) : Canon (skipL f b) :=
  ⟨fun x hx => hb.good x ((List.dropWhile_sublist _).mem hx), hb.sep.sublist (List.dropWhile_sublist _)⟩
theorem skipL_in (f p : Int) (h : f ≤ p) : ∀ (b : List (Int × Int)), InS (skipL f b) p ↔ InS b p
  | [] => Iff.rfl
  | y :: b => by
    by_cases hy : y.2 ≤ f
    · rw [skipL_yes hy, skipL_in f p h b, InS_cons]
      constructor
      · exact .inr
      · rintro (h1 | h1)
        · omega
        · exact h1
    · rw [skipL_no hy]
def lessL : List (Int × Int) → List (Int × Int) → List (Int × Int)
  | [], _ => []
  | x :: a, b => cutL x.2 x.1 (skipL x.1 b) ++ lessL a (skipL x.1 b)
theorem lessL_nil (b : List (Int × Int)) : lessL [] b = [] := rfl
theorem lessL_cons (x : Int × Int) (a b : List (Int × Int)) : lessL (x :: a) b = cutL x.2 x.1 (skipL x.1 b) ++ lessL a (skipL x.1 b) := rfl
theorem lessL_inv : ∀ (a b : List (Int × Int)), Canon a → Canon b → Canon (lessL a b) ∧ ∀ p, InS (lessL a b) p ↔ InS a p ∧ ¬ InS b p
  | [], b, _, _ => ⟨Canon.nil, fun p => by rw [lessL_nil]; simp [InS_nil]⟩
  | x :: a, b, ha, hb => by
    have hx := ha.head
    have hs := skipL_canon x.1 hb
    obtain ⟨c1, c2⟩ := cutL_inv (skipL x.1 b) x.2 x.1 hs hx.1 hx.2.2
    obtain ⟨l1, l2⟩ := lessL_inv a (skipL x.1 b) ha.tail hs
    rw [lessL_cons]
    refine ⟨c1.append l1 (fun y hy z hz => ?_), fun p => ?_⟩
    · have h1 := (c2 _).1 (c1.in_last hy)
      have h2 := ha.behind ((l2 _).1 (l1.in_mem hz)).1
      omega
    · rw [InS_append, c2 p, l2 p, ha.in_cons]
      constructor
      · rintro (⟨h1, h2, h3⟩ | ⟨h1, h2⟩)
        · exact ⟨.inl ⟨h1, h2⟩, fun h4 => h3 ((skipL_in _ _ h1 b).2 h4)⟩
        · have := ha.behind h1
          exact ⟨.inr h1, fun h4 => h2 ((skipL_in _ _ (by omega) b).2 h4)⟩
      · rintro ⟨h1 | h1, h2⟩
        · exact .inl ⟨h1.1, h1.2, fun h4 => h2 ((skipL_in _ _ h1.1 b).1 h4)⟩
        · have := ha.behind h1
          exact .inr ⟨h1, fun h4 => h2 ((skipL_in _ _ (by omega) b).1 h4)⟩
theorem less_eq {a b : List (Int × Int)} (ha : Canon a) (hb : Canon b) : lessL a b = ofOp a b 3 := by
  obtain ⟨hc, hin⟩ := lessL_inv a b ha hb
  refine Canon.unique hc (ofOp_inv a b 3).1 (fun p => ?_)
  rw [hin p, (ofOp_inv a b 3).2 p, ← inB_iff, ← inB_iff]
  simp [opB]

/-- Gaps that are at most so long, closed: one span at hand. -/
def nearR (gap : Int) : Int × Int → List (Int × Int) → List (Int × Int)
  | l, [] => [l]
  | l, x :: r => if x.1 - l.2 ≤ gap then nearR gap (l.1, x.2) r else l :: nearR gap x r
def nearL (gap : Int) : List (Int × Int) → List (Int × Int)
  | [] => []
  | x :: r => nearR gap x r
def gapsL (gap : Int) : List (Int × Int) → List (Int × Int)
  | [] => []
  | [_] => []
  | l :: x :: r => if x.1 - l.2 ≤ gap then (l.2, x.1) :: gapsL gap (x :: r) else gapsL gap (x :: r)
theorem nearR_nil (gap : Int) (l : Int × Int) : nearR gap l [] = [l] := rfl
theorem nearR_join {gap : Int} {l x : Int × Int} {r : List (Int × Int)} (h : x.1 - l.2 ≤ gap) : nearR gap l (x :: r) = nearR gap (l.1, x.2) r := by rw [nearR, if_pos h]
theorem nearR_new {gap : Int} {l x : Int × Int} {r : List (Int × Int)} (h : ¬ x.1 - l.2 ≤ gap) : nearR gap l (x :: r) = l :: nearR gap x r := by rw [nearR, if_neg h]
theorem gapsL_one (gap : Int) (l : Int × Int) : gapsL gap [l] = [] := rfl
theorem gapsL_yes {gap : Int} {l x : Int × Int} {r : List (Int × Int)} (h : x.1 - l.2 ≤ gap) : gapsL gap (l :: x :: r) = (l.2, x.1) :: gapsL gap (x :: r) := by rw [gapsL, if_pos h]
theorem gapsL_no {gap : Int} {l x : Int × Int} {r : List (Int × Int)} (h : ¬ x.1 - l.2 ≤ gap) : gapsL gap (l :: x :: r) = gapsL gap (x :: r) := by rw [gapsL, if_neg h]
theorem gapsL_head (gap : Int) {a b : Int × Int} (h : a.2 = b.2) : ∀ r : List (Int × Int), gapsL gap (a :: r) = gapsL gap (b :: r)
  | [] => rfl
  | x :: r => by
    by_cases h1 : x.1 - a.2 ≤ gap
    · rw [gapsL_yes h1, gapsL_yes (by rw [← h]; exact h1), h]
    · rw [gapsL_no h1, gapsL_no (by rw [← h]; exact h1)]
theorem gapsL_from (gap : Int) : ∀ (r : List (Int × Int)) (x : Int × Int), Canon (x :: r) → ∀ p, InS (gapsL gap (x :: r)) p → x.2 ≤ p
  | [], x, _, p, h => absurd h (InS_nil p)
  | y :: r, x, hc, p, h => by
    have hy := hc.tail.head
    have hs := (List.pairwise_cons.1 hc.sep).1 y (List.mem_cons_self ..)
    by_cases h1 : y.1 - x.2 ≤ gap
    · rw [gapsL_yes h1, InS_cons] at h
      rcases h with h | h
      · exact h.2.1
      · have := gapsL_from gap r y hc.tail p h; omega
    · rw [gapsL_no h1] at h
      have := gapsL_from gap r y hc.tail p h; omega
theorem nearR_inv (gap : Int) : ∀ (r : List (Int × Int)) (l : Int × Int), Canon (l :: r) → Canon (nearR gap l r) ∧ ∀ p, InS (nearR gap l r) p ↔ InS (l :: r) p ∨ InS (gapsL gap (l :: r)) p
  | [], l, hc => by
    rw [nearR_nil, gapsL_one]
    exact ⟨hc, fun p => by simp [InS_nil]⟩
  | x :: r, l, hc => by
    have hl := hc.head
    have hx := hc.tail.head
    have hs := (List.pairwise_cons.1 hc.sep).1 x (List.mem_cons_self ..)
    by_cases h : x.1 - l.2 ≤ gap
    · rw [nearR_join h, gapsL_yes h]
      have hc' : Canon ((l.1, x.2) :: r) := hc.tail.tail.cons' (by rw [goodS_iff]; simp only; omega) (fun p hp => hc.tail.behind hp)
      obtain ⟨h1, h2⟩ := nearR_inv gap r (l.1, x.2) hc'
      refine ⟨h1, fun p => ?_⟩
      rw [h2 p, gapsL_head gap (a := (l.1, x.2)) (b := x) rfl r, hc'.in_cons, hc.in_cons, hc.tail.in_cons, InS_cons, okS_iff]
      simp only
      constructor
      · rintro ((h3 | h3) | h3)
        · by_cases h4 : p < l.2
          · exact .inl (.inl ⟨h3.1, h4⟩)
          · by_cases h5 : p < x.1
            · exact .inr (.inl (by omega))
            · exact .inl (.inr (.inl (by omega)))
        · exact .inl (.inr (.inr h3))
        · exact .inr (.inr h3)
      · rintro ((h3 | h3 | h3) | h3 | h3)
        · exact .inl (.inl (by omega))
        · exact .inl (.inl (by omega))
        · exact .inl (.inr h3)
        · exact .inl (.inl (by omega))
        · exact .inr h3
    · rw [nearR_new h, gapsL_no h]
      obtain ⟨h1, h2⟩ := nearR_inv gap r x hc.tail
      have hbe : ∀ p, InS (nearR gap x r) p → l.2 < p := fun p hp => by
        rcases (h2 p).1 hp with h3 | h3
        · exact hc.behind h3
        · have := gapsL_from gap r x hc.tail p h3; omega
      have hc' := h1.cons' (hc.good l (List.mem_cons_self ..)) hbe
      refine ⟨hc', fun p => ?_⟩
      rw [hc'.in_cons, h2 p, hc.in_cons]
      constructor
      · rintro (h3 | h3 | h3)
        · exact .inl (.inl h3)
        · exact .inl (.inr h3)
        · exact .inr h3
      · rintro ((h3 | h3) | h3)
        · exact .inl h3
        · exact .inr (.inl h3)
        · exact .inr (.inr h3)
theorem near_inv (gap : Int) {L : List (Int × Int)} (hc : Canon L) : Canon (nearL gap L) ∧ nearL gap L = cano (L ++ gapsL gap L) := by
  cases L with
  | nil => exact ⟨Canon.nil, (cano_self Canon.nil).symm⟩
  | cons x r =>
    obtain ⟨h1, h2⟩ := nearR_inv gap r x hc
    exact ⟨h1, cano_eq h1 (fun p => by show InS (nearR gap x r) p ↔ _; rw [h2 p, InS_append])⟩
/-- All gaps are longer. -/
def apartL (gap : Int) : List (Int × Int) → Prop
  | [] => True
  | [_] => True
  | l :: x :: r => ¬ x.1 - l.2 ≤ gap ∧ apartL gap (x :: r)
theorem nearR_apart (gap : Int) : ∀ (r : List (Int × Int)) (l : Int × Int), apartL gap (nearR gap l r) ∧ ∃ h t, nearR gap l r = h :: t ∧ h.1 = l.1
  | [], l => ⟨trivial, l, [], rfl, rfl⟩
  | x :: r, l => by
    by_cases h : x.1 - l.2 ≤ gap
    · rw [nearR_join h]
      obtain ⟨h1, u, t, h2, h3⟩ := nearR_apart gap r (l.1, x.2)
      exact ⟨h1, u, t, h2, h3⟩
    · rw [nearR_new h]
      obtain ⟨h1, u, t, h2, h3⟩ := nearR_apart gap r x
      refine ⟨?_, l, _, rfl, rfl⟩
      rw [h2] at h1 ⊢
      exact ⟨by rw [h3]; exact h, h1⟩
theorem near_of_apart (gap : Int) : ∀ (r : List (Int × Int)) (l : Int × Int), apartL gap (l :: r) → nearR gap l r = l :: r
  | [], l, _ => rfl
  | x :: r, l, h => by rw [nearR_new h.1, near_of_apart gap r x h.2]
theorem near_near (gap : Int) (L : List (Int × Int)) : nearL gap (nearL gap L) = nearL gap L := by
  cases L with
  | nil => rfl
  | cons x r =>
    show nearL gap (nearR gap x r) = nearR gap x r
    obtain ⟨h1, u, t, h2, _⟩ := nearR_apart gap r x
    rw [h2] at h1 ⊢
    exact near_of_apart gap t u h1
theorem near_length (gap : Int) : ∀ (r : List (Int × Int)) (l : Int × Int), (nearR gap l r).length ≤ r.length + 1
  | [], l => by simp [nearR_nil]
  | x :: r, l => by
    by_cases h : x.1 - l.2 ≤ gap
    · rw [nearR_join h]; have := near_length gap r (l.1, x.2); simp; omega
    · rw [nearR_new h]; have := near_length gap r x; simp; omega
theorem gaps_length (gap : Int) : ∀ (L : List (Int × Int)), (gapsL gap L).length ≤ L.length
  | [] => by simp [gapsL]
  | [_] => by simp [gapsL]
  | l :: x :: r => by
    have := gaps_length gap (x :: r)
    by_cases h : x.1 - l.2 ≤ gap
    · rw [gapsL_yes h]; simp at this ⊢; omega
    · rw [gapsL_no h]; simp at this ⊢; omega
theorem gaps_none {gap : Int} (hg : gap < 1) : ∀ (L : List (Int × Int)), Canon L → gapsL gap L = []
  | [], _ => rfl
  | [_], _ => rfl
  | l :: x :: r, hc => by
    have hs := (List.pairwise_cons.1 hc.sep).1 x (List.mem_cons_self ..)
    rw [gapsL_no (by omega)]
    exact gaps_none hg _ hc.tail
/-- The program's Near. -/
def nearP (gap : Int) (L : List (Int × Int)) : List (Int × Int) := if gap < 1 then L else nearL gap L
theorem nearP_canon (gap : Int) {L : List (Int × Int)} (hc : Canon L) : Canon (nearP gap L) := by
  unfold nearP; split
  · exact hc
  · exact (near_inv gap hc).1
theorem nearP_eq (gap : Int) {L : List (Int × Int)} (hc : Canon L) : nearP gap L = cano (L ++ gapsL gap L) := by
  unfold nearP; split
  · rename_i h; rw [gaps_none h L hc, List.append_nil, cano_self hc]
  · exact (near_inv gap hc).2
theorem nearP_again (gap : Int) (L : List (Int × Int)) : nearP gap (nearP gap L) = nearP gap L := by
  unfold nearP; split
  · rfl
  · exact near_near gap L
theorem nearP_length (gap : Int) (L : List (Int × Int)) : (nearP gap L).length ≤ L.length := by
  unfold nearP; split
  · exact Nat.le_refl _
  · cases L with
    | nil => simp [nearL]
    | cons x r => exact near_length gap r x

/-- All of a span is in a set just if nothing is left of it less the set. -/
theorem holds_less {L : List (Int × Int)} (hc : Canon L) (x : Int × Int) : (okS x && decide ((ofOp [x] L 3).length = 0)) = holdsL L x := by
  unfold holdsL
  cases hok : okS x
  · rfl
  · have hx := (okS_iff x).1 hok
    obtain ⟨h1, h2⟩ := ofOp_inv [x] L 3
    rw [Bool.true_and, Bool.true_and, Bool.eq_iff_iff]
    simp only [decide_eq_true_eq, Bool.or_eq_true, List.any_eq_true, Bool.and_eq_true]
    have key : ∀ p, InS (ofOp [x] L 3) p ↔ (x.1 ≤ p ∧ p < x.2) ∧ ¬ InS L p := fun p => by
      rw [h2 p]
      simp only [opB, inB, List.any_cons, List.any_nil, hok]
      rw [← inB_iff]
      simp [inB]
    constructor
    · intro h0
      have e : ofOp [x] L 3 = [] := List.eq_nil_of_length_eq_zero h0
      rw [e] at key
      have all : ∀ p, x.1 ≤ p → p < x.2 → InS L p := fun p a b => Classical.byContradiction fun hn => InS_nil p ((key p).2 ⟨⟨a, b⟩, hn⟩)
      by_cases hxx : x.1 = x.2
      · exact .inl hxx
      · right
        obtain ⟨y, hy, hoy, y1, y2⟩ := all x.1 (by omega) (by omega)
        refine ⟨y, hy, y1, Classical.byContradiction fun hlt => ?_⟩
        obtain ⟨z, hz, _, z1, z2⟩ := all y.2 (by omega) (by omega)
        obtain ⟨i, hi, rfl⟩ := List.getElem_of_mem hy
        obtain ⟨j, hj, rfl⟩ := List.getElem_of_mem hz
        have gi := hc.mem (List.getElem_mem hi)
        rcases Nat.lt_trichotomy i j with hij | hij | hij
        · have := List.pairwise_iff_getElem.1 hc.sep i j hi hj hij; omega
        · subst hij; omega
        · have := List.pairwise_iff_getElem.1 hc.sep j i hj hi hij; omega
    · intro h
      have e : ofOp [x] L 3 = [] := by
        refine Canon.unique h1 Canon.nil (fun p => ⟨fun hp => ?_, fun hp => absurd hp (InS_nil p)⟩)
        obtain ⟨⟨a, b⟩, hn⟩ := (key p).1 hp
        rcases h with h | ⟨y, hy, y1, y2⟩
        · omega
        · exfalso
          have gy := hc.mem hy
          exact hn ⟨y, hy, by rw [okS_iff]; omega, by omega, by omega⟩
      rw [e]; rfl
end Go.Proofs.YtfpfdgljhcpkpaaDoor
