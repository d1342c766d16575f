/- Plain laws: the reference's way to a set: all ends, rising; then the pieces between them that are in it. -/
import Derived.Test.YtfpfdgljhcpkpaaDoorM4
namespace Go.Proofs.YtfpfdgljhcpkpaaDoor

/-- A number into a rising list, once. -/
def insertL : List Int → Int → List Int
  | [], n => [n]
  | a :: r, n => if n ≤ a then (if n < a then n :: a :: r else a :: r) else a :: insertL r n
def Strict (l : List Int) : Prop := l.Pairwise (· < ·)
theorem mem_insertL : ∀ (l : List Int) (n m : Int), m ∈ insertL l n ↔ m = n ∨ m ∈ l
  | [], n, m => by simp [insertL]
  | a :: r, n, m => by
    unfold insertL
    by_cases h : n ≤ a
    · rw [if_pos h]
      by_cases h2 : n < a
      · rw [if_pos h2]; simp
      · obtain rfl : n = a := by omega
        rw [if_neg h2]; simp
    · rw [if_neg h]
      simp only [List.mem_cons, mem_insertL r n m]
      constructor
      · rintro (h | h | h)
        · exact .inr (.inl h)
        · exact .inl h
        · exact .inr (.inr h)
      · rintro (h | h | h)
        · exact .inr (.inl h)
        · exact .inl h
        · exact .inr (.inr h)
theorem strict_insertL : ∀ (l : List Int) (n : Int), Strict l → Strict (insertL l n)
  | [], n, _ => by simp [insertL, Strict]
  | a :: r, n, h => by
    obtain ⟨h1, h2⟩ := List.pairwise_cons.1 h
    unfold insertL
    by_cases hn : n ≤ a
    · rw [if_pos hn]
      by_cases hn2 : n < a
      · rw [if_pos hn2]
        refine List.pairwise_cons.2 ⟨fun b hb => ?_, h⟩
        rcases List.mem_cons.1 hb with rfl | hb
        · exact hn2
        · have := h1 b hb; omega
      · rw [if_neg hn2]; exact h
    · rw [if_neg hn]
      refine List.pairwise_cons.2 ⟨fun b hb => ?_, strict_insertL r n h2⟩
      rcases (mem_insertL r n b).1 hb with rfl | hb
      · omega
      · exact h1 b hb
theorem length_insertL : ∀ (l : List Int) (n : Int), (insertL l n).length ≤ l.length + 1
  | [], n => by simp [insertL]
  | a :: r, n => by
    have := length_insertL r n
    unfold insertL
    by_cases hn : n ≤ a
    · rw [if_pos hn]
      by_cases hn2 : n < a
      · rw [if_pos hn2]; simp
      · rw [if_neg hn2]; simp
    · rw [if_neg hn]; simp; omega

/-- One span's two ends more. -/
def estep (out : List Int) (x : Int × Int) : List Int := if okS x = true then insertL (insertL out x.1) x.2 else out
def endsL (L : List (Int × Int)) : List Int := L.foldl estep []
theorem endsL_snoc (L : List (Int × Int)) (x : Int × Int) : endsL (L ++ [x]) = estep (endsL L) x := by simp [endsL]
theorem endsL_step {L : List (Int × Int)} {k : Nat} (h : k < L.length) : endsL (L.take (k + 1)) = estep (endsL (L.take k)) L[k] := by
  rw [List.take_succ_eq_append_getElem h, endsL_snoc]
theorem endsL_inv (L : List (Int × Int)) : Strict (endsL L) ∧ (∀ m, m ∈ endsL L ↔ ∃ x ∈ L, okS x = true ∧ (m = x.1 ∨ m = x.2)) ∧ (endsL L).length ≤ 2 * L.length := by
  have main : ∀ (n : Nat) (L : List (Int × Int)), L.length = n → Strict (endsL L) ∧ (∀ m, m ∈ endsL L ↔ ∃ x ∈ L, okS x = true ∧ (m = x.1 ∨ m = x.2)) ∧ (endsL L).length ≤ 2 * L.length := by
    intro n
    induction n with
    | zero =>
      intro L hn
      obtain rfl : L = [] := List.eq_nil_of_length_eq_zero hn
      exact ⟨List.Pairwise.nil, fun m => by simp [endsL], by simp [endsL]⟩
    | succ n ih =>
      intro L hn
      rcases nil_or_snoc L with rfl | ⟨M, x, rfl⟩
      · simp at hn
      obtain ⟨h1, h2, h3⟩ := ih M (by simpa using hn)
      rw [endsL_snoc]
      unfold estep
      by_cases ho : okS x = true
      · rw [if_pos ho]
        refine ⟨strict_insertL _ _ (strict_insertL _ _ h1), fun m => ?_, ?_⟩
        · rw [mem_insertL, mem_insertL, h2]
          constructor
          · rintro (h | h | ⟨y, hy, r⟩)
            · exact ⟨x, by simp, ho, .inr h⟩
            · exact ⟨x, by simp, ho, .inl h⟩
            · exact ⟨y, by simp [hy], r⟩
          · rintro ⟨y, hy, hoy, r⟩
            rcases List.mem_append.1 hy with hy | hy
            · exact .inr (.inr ⟨y, hy, hoy, r⟩)
            · simp at hy; subst hy
              rcases r with r | r
              · exact .inr (.inl r)
              · exact .inl r
        · have h4 := length_insertL (insertL (endsL M) x.1) x.2
          have h5 := length_insertL (endsL M) x.1
          simp; omega
      · rw [if_neg ho]
        refine ⟨h1, fun m => ?_, by simp; omega⟩
        rw [h2]
        constructor
        · rintro ⟨y, hy, r⟩; exact ⟨y, by simp [hy], r⟩
        · rintro ⟨y, hy, hoy, r⟩
          rcases List.mem_append.1 hy with hy | hy
          · exact ⟨y, hy, hoy, r⟩
          · simp at hy; subst hy; exact absurd hoy ho
  exact main L.length L rfl

/-- One piece more. -/
def ostep (g : Int → Bool) (out : List (Int × Int)) (u v : Int) : List (Int × Int) :=
  if g u = true then
    match out.reverse with
    | [] => [(u, v)]
    | l :: r => if l.2 = u then r.reverse ++ [(l.1, v)] else out ++ [(u, v)]
  else out
theorem ostep_no {g : Int → Bool} {out : List (Int × Int)} {u v : Int} (h : g u = false) : ostep g out u v = out := by simp [ostep, h]
theorem ostep_nil {g : Int → Bool} {u v : Int} (h : g u = true) : ostep g [] u v = [(u, v)] := by simp [ostep, h]
theorem ostep_join {g : Int → Bool} {i : List (Int × Int)} {l : Int × Int} {u v : Int} (h : g u = true) (hl : l.2 = u) : ostep g (i ++ [l]) u v = i ++ [(l.1, v)] := by simp [ostep, h, hl]
theorem ostep_new {g : Int → Bool} {i : List (Int × Int)} {l : Int × Int} {u v : Int} (h : g u = true) (hl : ¬ l.2 = u) : ostep g (i ++ [l]) u v = i ++ [l] ++ [(u, v)] := by simp [ostep, h, hl]

/-- The pieces between the first k + 1 ends that are in it. -/
def ofTo (g : Int → Bool) (E : List Int) : Nat → List (Int × Int)
  | 0 => []
  | k + 1 => ostep g (ofTo g E k) (E.getD k 0) (E.getD (k + 1) 0)
theorem ofTo_length (g : Int → Bool) (E : List Int) : ∀ k, (ofTo g E k).length ≤ k
  | 0 => by simp [ofTo]
  | k + 1 => by
    have := ofTo_length g E k
    unfold ofTo
    generalize ofTo g E k = out at *
    generalize E.getD k 0 = u
    generalize E.getD (k + 1) 0 = v
    cases hg : g u
    · rw [ostep_no hg]; omega
    · rcases nil_or_snoc out with rfl | ⟨i, l, rfl⟩
      · rw [ostep_nil hg]; simp
      · by_cases hl : l.2 = u
        · rw [ostep_join hg hl]; simp at this ⊢; omega
        · rw [ostep_new hg hl]; simp at this ⊢; omega
def ofL (g : Int → Bool) (E : List Int) : List (Int × Int) := ofTo g E (E.length - 1)

/-- What the pieces are: a least list; they end at the k-th end at most; a byte ahead of it is in them just if its piece's beginning is. -/
theorem ofTo_inv (g : Int → Bool) (E : List Int) (hE : Strict E) (h0 : ∀ m ∈ E, 0 ≤ m ∧ m ≤ 4611686018427387904) (hg : ∀ (k : Nat) (h : k + 1 < E.length) (p : Int), E[k] ≤ p → p < E[k + 1] → g p = g E[k]) :
    ∀ k, k + 1 ≤ E.length → Canon (ofTo g E k) ∧ (∀ y ∈ ofTo g E k, y.2 ≤ E.getD k 0) ∧ ∀ p, InS (ofTo g E k) p ↔ E.getD 0 0 ≤ p ∧ p < E.getD k 0 ∧ g p = true
  | 0, h => by
    refine ⟨Canon.nil, (fun y hy => by cases hy), fun p => ?_⟩
    simp only [ofTo]
    constructor
    · exact fun hp => absurd hp (InS_nil p)
    · intro hp; omega
  | k + 1, h => by
    obtain ⟨hc, hle, hin⟩ := ofTo_inv g E hE h0 hg k (by omega)
    have hk : k < E.length := by omega
    have hk1 : k + 1 < E.length := by omega
    have hlt : E[k] < E[k + 1] := List.pairwise_iff_getElem.1 hE k (k + 1) hk hk1 (by omega)
    have hu0 := h0 E[k] (List.getElem_mem hk)
    have hv0 := h0 E[k + 1] (List.getElem_mem hk1)
    have hgk := hg k hk1
    have hmin : E.getD 0 0 ≤ E[k] := by
      rw [List.getD_eq_getElem?_getD, List.getElem?_eq_getElem (by omega)]
      rcases Nat.eq_zero_or_pos k with rfl | hp
      · exact Int.le_refl _
      · exact Int.le_of_lt (List.pairwise_iff_getElem.1 hE 0 k (by omega) hk hp)
    have ek : E.getD k 0 = E[k] := by rw [List.getD_eq_getElem?_getD, List.getElem?_eq_getElem hk]; rfl
    have ek1 : E.getD (k + 1) 0 = E[k + 1] := by rw [List.getD_eq_getElem?_getD, List.getElem?_eq_getElem hk1]; rfl
    rw [ek] at hle hin
    simp only [ofTo, ek, ek1]
    generalize E[k + 1] = v at *
    generalize E[k] = u at *
    generalize ofTo g E k = out at *
    generalize E.getD 0 0 = m at *
    have split : ∀ p, (m ≤ p ∧ p < v ∧ g p = true) ↔ (m ≤ p ∧ p < u ∧ g p = true) ∨ (u ≤ p ∧ p < v ∧ g u = true) := by
      intro p
      constructor
      · rintro ⟨h1, h2, h3⟩
        by_cases hp : p < u
        · exact .inl ⟨h1, hp, h3⟩
        · refine .inr ⟨by omega, h2, ?_⟩
          rw [← hgk p (by omega) h2]; exact h3
      · rintro (⟨h1, h2, h3⟩ | ⟨h1, h2, h3⟩)
        · exact ⟨h1, by omega, h3⟩
        · refine ⟨by omega, h2, ?_⟩
          rw [hgk p h1 h2]; exact h3
    cases hgu : g u
    · rw [ostep_no hgu]
      refine ⟨hc, fun y hy => by have := hle y hy; omega, fun p => ?_⟩
      rw [split p, hin p, hgu]
      simp
    · have hgd : goodS (u, v) = true := by rw [goodS_iff]; simp only; omega
      have hod : okS (u, v) = true := by rw [okS_iff]; simp only; omega
      rcases nil_or_snoc out with rfl | ⟨i, l, rfl⟩
      · rw [ostep_nil hgu]
        refine ⟨Canon.one hgd, fun y hy => by simp at hy; rw [hy]; exact Int.le_refl _, fun p => ?_⟩
        rw [split p, ← hin p, InS_one, hgu, hod]
        simp [InS_nil]
      · obtain ⟨hci, hgl, hsl⟩ := hc.init
        have gl := (goodS_iff l).1 hgl
        have hol : okS l = true := by rw [okS_iff]; omega
        by_cases hl : l.2 = u
        · rw [ostep_join hgu hl]
          have hgn : goodS (l.1, v) = true := by rw [goodS_iff]; simp only; omega
          have hon : okS (l.1, v) = true := by rw [okS_iff]; simp only; omega
          refine ⟨hci.snoc hgn hsl, fun y hy => ?_, fun p => ?_⟩
          · rcases List.mem_append.1 hy with h | h
            · have := hle y (List.mem_append.2 (.inl h)); omega
            · simp at h; rw [h]; exact Int.le_refl _
          · rw [split p, ← hin p, InS_append, InS_append, InS_one, InS_one, hon, hol, hgu]
            simp only [true_and, and_true]
            constructor
            · rintro (h | h)
              · exact .inl (.inl h)
              · by_cases h2 : p < u
                · exact .inl (.inr ⟨h.1, by omega⟩)
                · exact .inr ⟨by omega, h.2⟩
            · rintro ((h | h) | h)
              · exact .inl h
              · exact .inr ⟨h.1, by omega⟩
              · exact .inr ⟨by omega, h.2⟩
        · rw [ostep_new hgu hl]
          have hll := hle l (by simp)
          refine ⟨hc.snoc hgd (fun y hy => ?_), fun y hy => ?_, fun p => ?_⟩
          · rcases List.mem_append.1 hy with h | h
            · have := hsl y h; simp only; omega
            · simp at h; rw [h]; simp only; omega
          · rcases List.mem_append.1 hy with h | h
            · have := hle y h; omega
            · simp at h; rw [h]; exact Int.le_refl _
          · rw [split p, ← hin p, InS_append, InS_one, hod, hgu]
            simp

/-- In one piece between two ends a list of spans has all bytes or none. -/
theorem in_piece {L M : List (Int × Int)} (hM : ∀ x ∈ L, x ∈ M) {k : Nat} (h : k + 1 < (endsL M).length) {p : Int} (h1 : (endsL M)[k] ≤ p) (h2 : p < (endsL M)[k + 1]) : inB L p = inB L (endsL M)[k] := by
  obtain ⟨hs, hm, _⟩ := endsL_inv M
  have none_ : ∀ m ∈ endsL M, m ≤ (endsL M)[k] ∨ (endsL M)[k + 1] ≤ m := by
    intro m hm'
    obtain ⟨j, hj, rfl⟩ := List.getElem_of_mem hm'
    rcases Nat.lt_or_ge k j with hkj | hkj
    · right
      rcases Nat.lt_or_ge (k + 1) j with h3 | h3
      · exact Int.le_of_lt (List.pairwise_iff_getElem.1 hs (k + 1) j h hj h3)
      · obtain rfl : j = k + 1 := by omega
        exact Int.le_refl _
    · left
      rcases Nat.lt_or_ge j k with h3 | h3
      · exact Int.le_of_lt (List.pairwise_iff_getElem.1 hs j k hj (by omega) h3)
      · obtain rfl : j = k := by omega
        exact Int.le_refl _
  have hlt : (endsL M)[k] < (endsL M)[k + 1] := List.pairwise_iff_getElem.1 hs k (k + 1) (by omega) h (by omega)
  generalize (endsL M)[k] = u at *
  generalize (endsL M)[k + 1] = v at *
  rw [Bool.eq_iff_iff, inB_iff, inB_iff]
  constructor
  · rintro ⟨x, hx, ho, h3, h4⟩
    have e1 := none_ x.1 ((hm _).2 ⟨x, hM x hx, ho, .inl rfl⟩)
    have e2 := none_ x.2 ((hm _).2 ⟨x, hM x hx, ho, .inr rfl⟩)
    exact ⟨x, hx, ho, by omega, by omega⟩
  · rintro ⟨x, hx, ho, h3, h4⟩
    have e1 := none_ x.1 ((hm _).2 ⟨x, hM x hx, ho, .inl rfl⟩)
    have e2 := none_ x.2 ((hm _).2 ⟨x, hM x hx, ho, .inr rfl⟩)
    exact ⟨x, hx, ho, by omega, by omega⟩

/-- The reference's set of an operation of two lists. -/
def opB (op : Int) (x y : Bool) : Bool := (op == 1 && (x || y)) || (op == 2 && x && y) || (op == 3 && x && !y)
def ofOp (a b : List (Int × Int)) (op : Int) : List (Int × Int) := ofL (fun p => opB op (inB a p) (inB b p)) (endsL (a ++ b))

theorem ofOp_inv (a b : List (Int × Int)) (op : Int) : Canon (ofOp a b op) ∧ ∀ p, InS (ofOp a b op) p ↔ opB op (inB a p) (inB b p) = true := by
  obtain ⟨hs, hm, _⟩ := endsL_inv (a ++ b)
  have h0 : ∀ m ∈ endsL (a ++ b), 0 ≤ m ∧ m ≤ 4611686018427387904 := by
    intro m h
    obtain ⟨x, _, ho, r⟩ := (hm m).1 h
    rw [okS_iff] at ho
    omega
  have hg : ∀ (k : Nat) (h : k + 1 < (endsL (a ++ b)).length) (p : Int), (endsL (a ++ b))[k] ≤ p → p < (endsL (a ++ b))[k + 1] → opB op (inB a p) (inB b p) = opB op (inB a (endsL (a ++ b))[k]) (inB b (endsL (a ++ b))[k]) := by
    intro k h p h1 h2
    rw [in_piece (fun x hx => List.mem_append.2 (.inl hx)) h h1 h2, in_piece (fun x hx => List.mem_append.2 (.inr hx)) h h1 h2]
  have inEnds : ∀ p x, x ∈ a ++ b → okS x = true → x.1 ≤ p → p < x.2 → (endsL (a ++ b)).getD 0 0 ≤ p ∧ p < (endsL (a ++ b)).getD ((endsL (a ++ b)).length - 1) 0 := by
    intro p x hx ho h1 h2
    have m1 := (hm _).2 ⟨x, hx, ho, .inl rfl⟩
    have m2 := (hm _).2 ⟨x, hx, ho, .inr rfl⟩
    obtain ⟨i, hi, e1⟩ := List.getElem_of_mem m1
    obtain ⟨j, hj, e2⟩ := List.getElem_of_mem m2
    have g0 : (endsL (a ++ b)).getD 0 0 = (endsL (a ++ b))[0]'(by omega) := by rw [List.getD_eq_getElem?_getD, List.getElem?_eq_getElem (by omega)]; rfl
    have g1 : (endsL (a ++ b)).getD ((endsL (a ++ b)).length - 1) 0 = (endsL (a ++ b))[(endsL (a ++ b)).length - 1]'(by omega) := by rw [List.getD_eq_getElem?_getD, List.getElem?_eq_getElem (by omega)]; rfl
    rw [g0, g1]
    have a1 : (endsL (a ++ b))[0]'(by omega) ≤ (endsL (a ++ b))[i] := by
      rcases Nat.eq_zero_or_pos i with rfl | hp
      · exact Int.le_refl _
      · exact Int.le_of_lt (List.pairwise_iff_getElem.1 hs 0 i (by omega) hi hp)
    have a2 : (endsL (a ++ b))[j] ≤ (endsL (a ++ b))[(endsL (a ++ b)).length - 1]'(by omega) := by
      rcases Nat.lt_or_ge j ((endsL (a ++ b)).length - 1) with hlt | hge
      · exact Int.le_of_lt (List.pairwise_iff_getElem.1 hs j _ hj (by omega) hlt)
      · have : j = (endsL (a ++ b)).length - 1 := by omega
        subst this; exact Int.le_refl _
    omega
  have hall : ∀ p, opB op (inB a p) (inB b p) = true → (endsL (a ++ b)).getD 0 0 ≤ p ∧ p < (endsL (a ++ b)).getD ((endsL (a ++ b)).length - 1) 0 := by
    intro p h
    have hor : inB a p = true ∨ inB b p = true := by
      cases ha : inB a p
      · cases hb : inB b p
        · rw [ha, hb] at h; simp [opB] at h
        · exact .inr rfl
      · exact .inl rfl
    rcases hor with h | h
    · obtain ⟨x, hx, ho, h1, h2⟩ := (inB_iff _ _).1 h
      exact inEnds p x (List.mem_append.2 (.inl hx)) ho h1 h2
    · obtain ⟨x, hx, ho, h1, h2⟩ := (inB_iff _ _).1 h
      exact inEnds p x (List.mem_append.2 (.inr hx)) ho h1 h2
  unfold ofOp ofL
  rcases Nat.eq_zero_or_pos (endsL (a ++ b)).length with hz | hp
  · rw [hz]
    refine ⟨Canon.nil, fun p => ⟨fun h => absurd h (InS_nil p), fun h => ?_⟩⟩
    have := hall p h
    rw [hz] at this
    have e : endsL (a ++ b) = [] := List.eq_nil_of_length_eq_zero hz
    rw [e] at this
    simp at this
    omega
  · obtain ⟨hc, _, hin⟩ := ofTo_inv (fun p => opB op (inB a p) (inB b p)) (endsL (a ++ b)) hs h0 hg ((endsL (a ++ b)).length - 1) (by omega)
    refine ⟨hc, fun p => ?_⟩
    rw [hin p]
    constructor
    · exact fun h => h.2.2
    · intro h
      have := hall p h
      exact ⟨this.1, this.2, h⟩
theorem ofOp_length (a b : List (Int × Int)) (op : Int) : (ofOp a b op).length ≤ 2 * (a.length + b.length) := by
  have h1 := ofTo_length (fun p => opB op (inB a p) (inB b p)) (endsL (a ++ b)) ((endsL (a ++ b)).length - 1)
  have h2 := (endsL_inv (a ++ b)).2.2
  unfold ofOp ofL
  simp at h2
  omega
end Go.Proofs.YtfpfdgljhcpkpaaDoor
