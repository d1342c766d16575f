/- Plain laws: how many bytes a set has, and how few spans the sets of two sets have. -/
import Derived.Test.YtfpfdgljhcpkpaaDoorM7
namespace Go.Proofs.YtfpfdgljhcpkpaaDoor

/-- How many of the first N bytes are so. -/
def cnt (f : Int → Bool) : Nat → Nat
  | 0 => 0
  | N + 1 => cnt f N + if f N = true then 1 else 0
theorem cnt_le {f g : Int → Bool} (h : ∀ p, f p = true → g p = true) : ∀ N, cnt f N ≤ cnt g N
  | 0 => Nat.le_refl _
  | N + 1 => by
    have h1 := cnt_le h N
    have h2 := h N
    simp only [cnt]
    cases hf : f N <;> cases hg : g N <;> simp [hf, hg] at h2 ⊢ <;> omega
theorem cnt_lt {f g : Int → Bool} (h : ∀ p, f p = true → g p = true) {q : Int} (hq : f q = false) (hq' : g q = true) : ∀ N : Nat, 0 ≤ q → q < N → cnt f N < cnt g N
  | 0, h0, h1 => by omega
  | N + 1, h0, h1 => by
    have hle := cnt_le h N
    simp only [cnt]
    by_cases e : q = N
    · rw [← e, hq, hq']; simp; omega
    · have h3 := cnt_lt h hq hq' N h0 (by omega)
      have h2 := h N
      cases hf : f N <;> cases hg : g N <;> simp [hf, hg] at h2 ⊢ <;> omega
theorem cnt_or {f g k : Int → Bool} (h : ∀ p, k p = (f p || g p)) (hd : ∀ p, f p = true → g p = false) : ∀ N, cnt k N = cnt f N + cnt g N
  | 0 => rfl
  | N + 1 => by
    have h1 := cnt_or h hd N
    have h2 := hd N
    simp only [cnt, h]
    cases hf : f N <;> cases hg : g N <;> simp [hf, hg] at h2 ⊢ <;> omega
theorem cnt_none {f : Int → Bool} (h : ∀ p, f p = false) : ∀ N, cnt f N = 0
  | 0 => rfl
  | N + 1 => by simp only [cnt, h, cnt_none h N]; rfl
theorem cnt_span (a b : Int) (h0 : 0 ≤ a) (hab : a ≤ b) : ∀ N : Nat, (cnt (fun p => decide (a ≤ p) && decide (p < b)) N : Int) = max 0 (min (N : Int) b - a)
  | 0 => by simp only [cnt]; omega
  | N + 1 => by
    have h1 := cnt_span a b h0 hab N
    simp only [cnt]
    by_cases ha : a ≤ (N : Int)
    · by_cases hb : (N : Int) < b
      · simp [ha, hb]; omega
      · simp [hb]; omega
    · simp [ha]; omega
theorem inB_cons {x : Int × Int} {L : List (Int × Int)} (h : Canon (x :: L)) (p : Int) : inB (x :: L) p = ((decide (x.1 ≤ p) && decide (p < x.2)) || inB L p) := by
  have hx := h.head
  have ho : okS x = true := by rw [okS_iff]; omega
  simp [inB, ho]
/-- The lengths of a least list's spans, all together, are its bytes. -/
theorem sum_cnt {N : Nat} : ∀ {L : List (Int × Int)}, Canon L → (∀ y ∈ L, y.2 ≤ N) → (cnt (inB L) N : Int) = sumL L
  | [], _, _ => by rw [cnt_none (fun p => inB_nil p)]; rfl
  | x :: r, hc, hN => by
    have hx := hc.head
    have h1 := sum_cnt hc.tail (fun y hy => hN y (List.mem_cons_of_mem _ hy))
    have h2 := cnt_span x.1 x.2 hx.1 (by omega) N
    have h3 := cnt_or (k := inB (x :: r)) (f := fun p => decide (x.1 ≤ p) && decide (p < x.2)) (g := inB r) (fun p => inB_cons hc p) (fun p hp => by
      cases hb : inB r p
      · rfl
      · have := hc.behind ((inB_iff _ _).1 hb)
        simp at hp; omega) N
    have h4 := hN x (List.mem_cons_self ..)
    have e : sumL (x :: r) = (x.2 - x.1) + sumL r := by simp [sumL]
    rw [e, ← h1, h3]
    omega
/-- There are no more spans than bytes. -/
theorem length_sum : ∀ {L : List (Int × Int)}, Canon L → (L.length : Int) ≤ sumL L
  | [], _ => by simp [sumL]
  | x :: r, hc => by
    have hx := hc.head
    have h1 := length_sum hc.tail
    have e : sumL (x :: r) = (x.2 - x.1) + sumL r := by simp [sumL]
    rw [e]; simp; omega

/- How many spans. -/
theorem nodup_length : ∀ {l m : List Int}, l.Nodup → (∀ x ∈ l, x ∈ m) → l.length ≤ m.length
  | [], _, _, _ => Nat.zero_le _
  | x :: l, m, hn, hs => by
    have hx : x ∈ m := hs x (List.mem_cons_self ..)
    have hn' := List.nodup_cons.1 hn
    have h1 := nodup_length (l := l) (m := m.erase x) hn'.2 (fun y hy => (List.mem_erase_of_ne (fun e => hn'.1 (by rw [← e]; exact hy))).2 (hs y (List.mem_cons_of_mem _ hy)))
    have h2 := List.length_erase_of_mem hx
    have h3 : 0 < m.length := List.length_pos_of_mem hx
    simp only [List.length_cons]; omega
theorem Canon.starts {L : List (Int × Int)} (h : Canon L) : (L.map (·.1)).Nodup := by
  rw [List.nodup_iff_pairwise_ne, List.pairwise_map]
  refine List.Pairwise.imp_of_mem (fun {a b} ha hb hab => ?_) h.sep
  have := h.mem ha
  omega
/-- Ahead of a span there is a byte that is in none. -/
theorem Canon.before_start {L : List (Int × Int)} (h : Canon L) {x : Int × Int} (hx : x ∈ L) : inB L (x.1 - 1) = false := by
  cases hb : inB L (x.1 - 1)
  · rfl
  · obtain ⟨y, hy, ho, h1, h2⟩ := (inB_iff _ _).1 hb
    exfalso
    obtain ⟨i, hi, rfl⟩ := List.getElem_of_mem hx
    obtain ⟨j, hj, rfl⟩ := List.getElem_of_mem hy
    rcases Nat.lt_trichotomy i j with hij | hij | hij
    · have := List.pairwise_iff_getElem.1 h.sep i j hi hj hij
      have := h.mem (List.getElem_mem hi)
      omega
    · subst hij; omega
    · have := List.pairwise_iff_getElem.1 h.sep j i hj hi hij
      omega
theorem inB_start {L : List (Int × Int)} {p : Int} (h1 : inB L p = true) (h0 : inB L (p - 1) = false) : p ∈ L.map (·.1) := by
  obtain ⟨y, hy, ho, ha, hb⟩ := (inB_iff _ _).1 h1
  have : y.1 = p := by
    by_cases e : y.1 = p
    · exact e
    · have : inB L (p - 1) = true := (inB_iff _ _).2 ⟨y, hy, ho, by omega, by omega⟩
      rw [h0] at this; cases this
  rw [← this]; exact List.mem_map_of_mem hy
theorem inB_end {L : List (Int × Int)} {p : Int} (h1 : inB L p = false) (h0 : inB L (p - 1) = true) : p ∈ L.map (·.2) := by
  obtain ⟨y, hy, ho, ha, hb⟩ := (inB_iff _ _).1 h0
  have : y.2 = p := by
    by_cases e : y.2 = p
    · exact e
    · have : inB L p = true := (inB_iff _ _).2 ⟨y, hy, ho, by omega, by omega⟩
      rw [h1] at this; cases this
  rw [← this]; exact List.mem_map_of_mem hy
theorem Canon.in_start {L : List (Int × Int)} (h : Canon L) {x : Int × Int} (hx : x ∈ L) : inB L x.1 = true := (inB_iff _ _).2 (h.in_mem hx)
theorem or_few (a b : List (Int × Int)) : (ofOp a b 1).length ≤ a.length + b.length := by
  have hc : Canon (ofOp a b 1) := (ofOp_inv a b 1).1
  have h := nodup_length (m := a.map (·.1) ++ b.map (·.1)) hc.starts (fun p hp => by
    obtain ⟨x, hx, rfl⟩ := List.mem_map.1 hp
    have h1 := hc.in_start hx
    have h0 := hc.before_start hx
    rw [inB_ofOp] at h1 h0
    rw [List.mem_append]
    simp [opB] at h1 h0
    rcases h1 with h1 | h1
    · exact .inl (inB_start h1 h0.1)
    · exact .inr (inB_start h1 h0.2))
  simpa using h
theorem and_few (a b : List (Int × Int)) : (ofOp a b 2).length ≤ a.length + b.length := by
  have hc : Canon (ofOp a b 2) := (ofOp_inv a b 2).1
  have h := nodup_length (m := a.map (·.1) ++ b.map (·.1)) hc.starts (fun p hp => by
    obtain ⟨x, hx, rfl⟩ := List.mem_map.1 hp
    have h1 := hc.in_start hx
    have h0 := hc.before_start hx
    rw [inB_ofOp] at h1 h0
    rw [List.mem_append]
    cases ha : inB a (x.1 - 1)
    · exact .inl (inB_start (by revert h1; simp [opB]; intro h _; exact h) ha)
    · refine .inr (inB_start (by revert h1; simp [opB]) ?_)
      revert h0; rw [ha]; simp [opB])
  simpa using h
theorem less_few (a b : List (Int × Int)) : (ofOp a b 3).length ≤ a.length + b.length := by
  have hc : Canon (ofOp a b 3) := (ofOp_inv a b 3).1
  have h := nodup_length (m := a.map (·.1) ++ b.map (·.2)) hc.starts (fun p hp => by
    obtain ⟨x, hx, rfl⟩ := List.mem_map.1 hp
    have h1 := hc.in_start hx
    have h0 := hc.before_start hx
    rw [inB_ofOp] at h1 h0
    rw [List.mem_append]
    cases ha : inB a (x.1 - 1)
    · exact .inl (inB_start (by revert h1; simp [opB]; intro h _; exact h) ha)
    · refine .inr (inB_end (by revert h1; simp [opB]) ?_)
      revert h0; rw [ha]; simp [opB])
  simpa using h
end Go.Proofs.YtfpfdgljhcpkpaaDoor
