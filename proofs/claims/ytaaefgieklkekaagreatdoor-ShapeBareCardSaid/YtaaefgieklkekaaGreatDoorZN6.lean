/- Plain laws of the document's way of making spans fewer: pair by pair, as long as two are near. -/
import Derived.Test.YtaaefgieklkekaaGreatDoorZM1
namespace Go.Proofs.YtaaefgieklkekaaGreatDoor
section
variable {g : Int} {L R : List (Int × Int)}
/-- A list of spans on its way: merged pair by pair. -/
def OnWay (g : Int) (L R : List (Int × Int)) : Prop := ∃ O : List ((Int × Int) × Nat), Folds g L O ∧ O.Pairwise (fun a b => a.2 < b.2) ∧ R = O.map Prod.fst
theorem zip_folds (L : List (Int × Int)) (h0 : 0 ≤ g) : Folds g L L.zipIdx := by
  have hm : ∀ o, o ∈ L.zipIdx → L[o.2]? = some o.1 := fun o ho => List.mk_mem_zipIdx_iff_getElem?.1 ho
  refine ⟨fun o ho => ?_, fun i hi => ?_, fun o ho => ?_, fun o ho => ?_, fun o ho p h1 h2 => ?_⟩
  · obtain ⟨h1, h2⟩ := List.getElem?_eq_some_iff.1 (hm o ho)
    exact ⟨h1, by rw [h2]; exact inP.refl _⟩
  · exact ⟨(L[i], i), List.mk_mem_zipIdx_iff_getElem?.2 (List.getElem?_eq_getElem hi), inP.refl _, Nat.le_refl _⟩
  · exact ⟨o.1, List.mem_of_getElem? (hm o ho), inP.refl _, rfl⟩
  · exact ⟨o.1, List.mem_of_getElem? (hm o ho), inP.refl _, rfl⟩
  · exact ⟨o.1, List.mem_of_getElem? (hm o ho), h1, by omega⟩
theorem zip_rise (L : List (Int × Int)) : L.zipIdx.Pairwise (fun a b => a.2 < b.2) := by
  rw [List.pairwise_iff_getElem]
  intro i j hi hj hij
  simpa using hij
theorem zip_fst (L : List (Int × Int)) : L.zipIdx.map Prod.fst = L := by
  apply List.ext_getElem?
  intro i
  simp
theorem OnWay.start (h0 : 0 ≤ g) : OnWay g L L := ⟨L.zipIdx, zip_folds L h0, zip_rise L, (zip_fst L).symm⟩
theorem OnWay.wide (hL : ∀ x ∈ L, 0 ≤ x.1 ∧ x.1 < x.2 ∧ x.2 ≤ 4611686018427387904) (h : OnWay g L R) : ∀ x ∈ R, 0 ≤ x.1 ∧ x.1 < x.2 ∧ x.2 ≤ 4611686018427387904 := by
  obtain ⟨O, hO, _, rfl⟩ := h
  intro y hy
  obtain ⟨o, ho, rfl⟩ := List.mem_map.1 hy
  have h0 := hO.wide (fun x hx => (hL x hx).2.1) ho
  obtain ⟨x, hx, _, e1⟩ := hO.lo o ho
  obtain ⟨z, hz, _, e2⟩ := hO.hi o ho
  have := hL x hx
  have := hL z hz
  omega
theorem OnWay.done (h : OnWay g L R) (hf : R.Pairwise (fun a b => ¬ nearQ g a b)) : ∃ O, Folded g L O ∧ R = O.map Prod.fst := by
  obtain ⟨O, hO, hr, rfl⟩ := h
  exact ⟨O, ⟨hO, List.pairwise_map.1 hf, hr⟩, rfl⟩
/-- Two of a list made one, where the first of them stood. -/
def joinAt (R : List (Int × Int)) (i k : Nat) (x : Int × Int) : List (Int × Int) := (R.set i x).eraseIdx k
theorem joinAt_length {i k : Nat} (x : Int × Int) (hk : k < R.length) : (joinAt R i k x).length = R.length - 1 := by
  unfold joinAt; rw [List.length_eraseIdx]; simp [hk]
theorem map_eraseAt {α β : Type} (f : α → β) : ∀ (l : List α) (k : Nat), (l.eraseIdx k).map f = (l.map f).eraseIdx k
  | [], k => by simp
  | x :: l, 0 => by simp
  | x :: l, k + 1 => by simp [map_eraseAt f l k]
theorem OnWay.join (hL : ∀ x ∈ L, x.1 < x.2) (h : OnWay g L R) {i k : Nat} (hik : i < k) (hk : k < R.length) (hn : nearQ g (R[i]'(by omega)) R[k]) : OnWay g L (joinAt R i k (hullP (R[i]'(by omega)) R[k])) := by
  obtain ⟨O, hO, hr, rfl⟩ := h
  have hkO : k < O.length := by simpa using hk
  have hiO : i < O.length := by omega
  simp only [List.getElem_map] at hn ⊢
  have hlt : (O[i]).2 < (O[k]).2 := List.pairwise_iff_getElem.1 hr i k hiO hkO hik
  refine ⟨(O.set i (hullP O[i].1 O[k].1, O[i].2)).eraseIdx k, ?_, ?_, ?_⟩
  · refine hO.merge hL (List.getElem_mem hiO) (List.getElem_mem hkO) hn (q := O[i].2) ⟨.inl rfl, Nat.le_refl _, by omega⟩ ?_ ?_ ?_
    · intro o ho
      have := List.mem_of_mem_eraseIdx ho
      rcases List.mem_or_eq_of_mem_set this with h | h
      · exact .inr h
      · exact .inl h
    · rw [List.mem_eraseIdx_iff_getElem]
      exact ⟨i, by simpa using hiO, by omega, by simp⟩
    · intro o ho
      obtain ⟨j, hj, rfl⟩ := List.getElem_of_mem ho
      by_cases h1 : j = i
      · subst h1; exact .inr (.inl rfl)
      · by_cases h2 : j = k
        · subst h2; exact .inr (.inr rfl)
        · refine .inl ?_
          rw [List.mem_eraseIdx_iff_getElem]
          exact ⟨j, by simpa using hj, h2, by rw [List.getElem_set_ne (fun e => h1 e.symm)]⟩
  · have e : (O.set i (hullP O[i].1 O[k].1, O[i].2)).Pairwise (fun a b => a.2 < b.2) := by
      have h1 : (O.map Prod.snd).Pairwise (· < ·) := List.pairwise_map.2 hr
      refine List.pairwise_map.1 (?_ : ((O.set i (hullP O[i].1 O[k].1, O[i].2)).map Prod.snd).Pairwise (· < ·))
      have e1 : (O.set i (hullP O[i].1 O[k].1, O[i].2)).map Prod.snd = O.map Prod.snd := by
        rw [List.map_set]
        apply List.ext_getElem (by simp)
        intro j h2 h3
        rw [List.getElem_set]
        split
        · rename_i e; subst e; simp
        · rfl
      rw [e1]; exact h1
    exact List.Pairwise.sublist (List.eraseIdx_sublist _ _) e
  · unfold joinAt
    rw [map_eraseAt, List.map_set]
/-- The list that is made, step by step. -/
theorem joinAt_keep {i k n : Nat} {x : Int × Int} (hn : n < R.length) (h : n ≠ k) : ((R.set i x).take (n + 1)).eraseIdx k = ((R.set i x).take n).eraseIdx k ++ [(R.set i x)[n]'(by simpa using hn)] := by
  rw [List.take_succ_eq_append_getElem (by simpa using hn)]
  rcases Nat.lt_or_ge k n with h1 | h1
  · rw [List.eraseIdx_append_of_lt_length (by simp; omega)]
  · rw [List.eraseIdx_append_of_length_le (by simp; omega)]
    have e1 : ((R.set i x).take n).eraseIdx k = (R.set i x).take n := List.eraseIdx_of_length_le (by simp; omega)
    rw [e1]
    congr 1
    exact List.eraseIdx_of_length_le (by simp; omega)
theorem joinAt_skip {i k : Nat} {x : Int × Int} (hn : k < R.length) : ((R.set i x).take (k + 1)).eraseIdx k = ((R.set i x).take k).eraseIdx k := by
  rw [List.take_succ_eq_append_getElem (by simpa using hn)]
  rw [List.eraseIdx_append_of_length_le (by simp; omega)]
  have e1 : ((R.set i x).take k).eraseIdx k = (R.set i x).take k := List.eraseIdx_of_length_le (by simp; omega)
  have e2 : k - ((R.set i x).take k).length = 0 := by simp; omega
  rw [e1, e2]; simp
theorem joinAt_all {i k : Nat} {x : Int × Int} : ((R.set i x).take R.length).eraseIdx k = joinAt R i k x := by
  unfold joinAt; rw [List.take_of_length_le (by simp)]
theorem joinAt_len {i k n : Nat} {x : Int × Int} (hn : n ≤ R.length) : (((R.set i x).take n).eraseIdx k).length = if k < n then n - 1 else n := by
  rw [List.length_eraseIdx]; simp [Nat.min_eq_left hn]
end
end Go.Proofs.YtaaefgieklkekaaGreatDoor
/- Plain laws of SpecFolded: what spans made fewer have. -/
namespace Go.Proofs.YtaaefgieklkekaaGreatDoor
section
variable {g : Int} {L : List (Int × Int)} {O : List ((Int × Int) × Nat)}
/-- A byte lies in a short hole. -/
def HoleAt (g : Int) (L : List (Int × Int)) (p : Int) : Prop := ∃ a b, InS L a ∧ InS L b ∧ a < p ∧ p < b ∧ b - a ≤ g + 1
theorem Folded.bound (hL : ∀ x ∈ L, 0 ≤ x.1 ∧ x.1 < x.2 ∧ x.2 ≤ 4611686018427387904) (h : Folded g L O) : ∀ x ∈ O.map Prod.fst, 0 ≤ x.1 ∧ x.1 < x.2 ∧ x.2 ≤ 4611686018427387904 :=
  OnWay.wide hL ⟨O, h.toFolds, h.rise, rfl⟩
theorem okS_wide {x : Int × Int} (h : 0 ≤ x.1 ∧ x.1 < x.2 ∧ x.2 ≤ 4611686018427387904) : okS x = true := by rw [okS_iff]; omega
theorem inS_of {x : Int × Int} {p : Int} (hL : ∀ x ∈ L, 0 ≤ x.1 ∧ x.1 < x.2 ∧ x.2 ≤ 4611686018427387904) (hx : x ∈ L) (h1 : x.1 ≤ p) (h2 : p < x.2) : InS L p := ⟨x, hx, okS_wide (hL x hx), h1, h2⟩
theorem hole_of (hL : ∀ x ∈ L, 0 ≤ x.1 ∧ x.1 < x.2 ∧ x.2 ≤ 4611686018427387904) (h : Folded g L O) {o : (Int × Int) × Nat} (ho : o ∈ O) {p : Int} (hp : ¬ InS L p) (h1 : o.1.1 ≤ p) : ∀ (n : Nat) (b : Int), (b - p).toNat ≤ n → InS L b → p < b → b < o.1.2 → HoleAt g L p
  | 0, b, hn, hb, hpb, hbo => by omega
  | n + 1, b, hn, hb, hpb, hbo => by
    by_cases hb1 : InS L (b - 1)
    · by_cases e : b - 1 = p
      · rw [e] at hb1; exact absurd hb1 hp
      · exact hole_of hL h ho hp h1 n (b - 1) (by omega) hb1 (by omega) (by omega)
    · obtain ⟨x, hx, x1, x2⟩ := h.mid o ho (b - 1) (by omega) (by omega)
      have hxw := hL x hx
      have hx2 : x.2 ≤ b - 1 := by
        rcases Int.lt_or_le (b - 1) x.2 with hh | hh
        · exact absurd (inS_of hL hx x1 hh) hb1
        · exact hh
      have ha : InS L (x.2 - 1) := inS_of hL hx (by omega) (by omega)
      rcases Int.lt_trichotomy (x.2 - 1) p with hh | hh | hh
      · exact ⟨x.2 - 1, b, ha, hb, hh, hpb, by omega⟩
      · rw [hh] at ha; exact absurd ha hp
      · exact hole_of hL h ho hp h1 n (x.2 - 1) (by omega) ha hh (by omega)
/-- Which bytes there are. -/
theorem Folded.in_iff (hL : ∀ x ∈ L, 0 ≤ x.1 ∧ x.1 < x.2 ∧ x.2 ≤ 4611686018427387904) (h : Folded g L O) (p : Int) : InS (O.map Prod.fst) p ↔ InS L p ∨ HoleAt g L p := by
  have hB := h.bound hL
  constructor
  · rintro ⟨s, hs, _, h1, h2⟩
    obtain ⟨o, ho, rfl⟩ := List.mem_map.1 hs
    by_cases hp : InS L p
    · exact .inl hp
    · refine .inr ?_
      obtain ⟨y, hy, hyo, hy2⟩ := h.hi o ho
      have hyw := hL y hy
      have hb : InS L (y.2 - 1) := inS_of hL hy (by omega) (by omega)
      have hne : y.2 - 1 ≠ p := fun e => hp (e ▸ hb)
      exact hole_of hL h ho hp h1 _ (y.2 - 1) (Nat.le_refl _) hb (by omega) (by omega)
  · have key : ∀ q, InS L q → ∃ o ∈ O, o.1.1 ≤ q ∧ q < o.1.2 := by
      rintro q ⟨x, hx, _, h1, h2⟩
      obtain ⟨o, ho, hin⟩ := h.toFolds.some_ hx
      unfold inP at hin
      exact ⟨o, ho, by omega, by omega⟩
    rintro (hp | ⟨a, b, ha, hb, hap, hpb, hab⟩)
    · obtain ⟨o, ho, h1, h2⟩ := key p hp
      exact ⟨o.1, List.mem_map_of_mem ho, okS_wide (hB _ (List.mem_map_of_mem ho)), h1, h2⟩
    · obtain ⟨s, hs, s1, s2⟩ := key a ha
      obtain ⟨t, ht, t1, t2⟩ := key b hb
      have e : s = t := far_ne h.far hs ht (by unfold nearQ; omega)
      subst e
      exact ⟨s.1, List.mem_map_of_mem hs, okS_wide (hB _ (List.mem_map_of_mem hs)), by omega, by omega⟩
end
theorem gaps_hole (gap : Int) : ∀ (C : List (Int × Int)), Canon C → ∀ p, InS (gapsL gap C) p → HoleAt gap C p
  | [], _, p, h => by simp [gapsL, InS] at h
  | [l], _, p, h => by simp [gapsL, InS] at h
  | l :: x :: r, hc, p, h => by
    have hl := hc.head
    have hx := hc.tail.head
    have hsep : l.2 < x.1 := (List.pairwise_cons.1 hc.sep).1 x (List.mem_cons_self ..)
    have lift : ∀ q, InS (x :: r) q → InS (l :: x :: r) q := fun q hq => (InS_cons _ _ _).2 (.inr hq)
    have rec_ : InS (gapsL gap (x :: r)) p → HoleAt gap (l :: x :: r) p := fun h => by
      obtain ⟨a, b, ha, hb, h1, h2, h3⟩ := gaps_hole gap (x :: r) hc.tail p h
      exact ⟨a, b, lift _ ha, lift _ hb, h1, h2, h3⟩
    by_cases hg : x.1 - l.2 ≤ gap
    · rw [gapsL_yes hg, InS_cons] at h
      rcases h with ⟨_, h1, h2⟩ | h
      · refine ⟨l.2 - 1, x.1, (hc.in_cons _).2 (.inl (by omega)), lift _ ((hc.tail.in_cons _).2 (.inl (by omega))), ?_, ?_, ?_⟩ <;> simp only at h1 h2 <;> omega
      · exact rec_ h
    · rw [gapsL_no hg] at h
      exact rec_ h
theorem hole_gaps (gap : Int) : ∀ (C : List (Int × Int)), Canon C → ∀ p, ¬ InS C p → HoleAt gap C p → InS (gapsL gap C) p
  | [], _, p, _, ⟨a, b, ha, _⟩ => absurd ha (InS_nil a)
  | [l], hc, p, hp, ⟨a, b, ha, hb, h1, h2, h3⟩ => by
    rw [hc.in_cons] at ha hb hp
    simp [InS_nil] at ha hb hp
    omega
  | l :: x :: r, hc, p, hp, ⟨a, b, ha, hb, h1, h2, h3⟩ => by
    have hl := hc.head
    have hx := hc.tail.head
    have hsep : l.2 < x.1 := (List.pairwise_cons.1 hc.sep).1 x (List.mem_cons_self ..)
    have hp' : ¬ InS (x :: r) p := fun h => hp ((InS_cons _ _ _).2 (.inr h))
    have up : InS (gapsL gap (x :: r)) p → InS (gapsL gap (l :: x :: r)) p := fun h => by
      by_cases hg : x.1 - l.2 ≤ gap
      · rw [gapsL_yes hg, InS_cons]; exact .inr h
      · rw [gapsL_no hg]; exact h
    have hpl : ¬ (l.1 ≤ p ∧ p < l.2) := fun h => hp ((hc.in_cons _).2 (.inl h))
    rw [hc.in_cons] at ha hb
    have hbr : InS (x :: r) b := by
      rcases hb with hb | hb
      · rcases ha with ha | ha
        · omega
        · have := hc.tail.first ha; omega
      · exact hb
    rcases ha with ha | ha
    · by_cases hpx : p < x.1
      · have hxb := hc.tail.first hbr
        have hg : x.1 - l.2 ≤ gap := by omega
        rw [gapsL_yes hg, InS_cons]
        refine .inl ⟨?_, ?_, ?_⟩
        · rw [okS_iff]; simp only; omega
        · simp only; omega
        · simp only; omega
      · have hpx2 : ¬ (x.1 ≤ p ∧ p < x.2) := fun h => hp' ((hc.tail.in_cons _).2 (.inl h))
        exact up (hole_gaps gap (x :: r) hc.tail p hp' ⟨x.2 - 1, b, (hc.tail.in_cons _).2 (.inl (by omega)), hbr, by omega, h2, by omega⟩)
    · exact up (hole_gaps gap (x :: r) hc.tail p hp' ⟨a, b, ha, hbr, h1, h2, h3⟩)
section
variable {L : List (Int × Int)} {O : List ((Int × Int) × Nat)}
theorem hole_cano (g : Int) (L : List (Int × Int)) (p : Int) : HoleAt g (cano L) p ↔ HoleAt g L p := by
  unfold HoleAt
  simp only [cano_in]
theorem hole_max (gap : Int) (L : List (Int × Int)) (p : Int) : HoleAt (max gap 0) L p ↔ HoleAt gap L p := by
  constructor
  · rintro ⟨a, b, ha, hb, h1, h2, h3⟩; exact ⟨a, b, ha, hb, h1, h2, by omega⟩
  · rintro ⟨a, b, ha, hb, h1, h2, h3⟩; exact ⟨a, b, ha, hb, h1, h2, by omega⟩
/-- The bytes of spans made fewer: those of the set with short gaps closed. -/
theorem Folded.near (gap : Int) (hL : ∀ x ∈ L, 0 ≤ x.1 ∧ x.1 < x.2 ∧ x.2 ≤ 4611686018427387904) (h : Folded (max gap 0) L O) : cano (O.map Prod.fst) = nearP gap (cano L) := by
  have hc := cano_canon L
  refine (cano_eq (nearP_canon gap hc) fun p => ?_).symm
  rw [nearP_eq gap hc, cano_in, InS_append, h.in_iff hL, cano_in, hole_max]
  constructor
  · rintro (h | h)
    · exact .inl h
    · exact .inr ((hole_cano _ _ _).1 (gaps_hole gap _ hc p h))
  · rintro (h | h)
    · exact .inl h
    · by_cases hp : InS L p
      · exact .inl hp
      · exact .inr (hole_gaps gap _ hc p (fun h => hp ((cano_in _ _).1 h)) ((hole_cano _ _ _).2 h))
theorem Folded.less (g : Int) (hL : ∀ x ∈ L, 0 ≤ x.1 ∧ x.1 < x.2 ∧ x.2 ≤ 4611686018427387904) (h : Folded g L O) : ofOp (cano L) (cano (O.map Prod.fst)) 3 = [] := by
  refine Canon.unique (ofOp_inv _ _ 3).1 Canon.nil fun p => ?_
  rw [(ofOp_inv _ _ 3).2]
  constructor
  · intro hh
    exfalso
    simp [opB] at hh
    have h1 := (inB_iff _ _).1 hh.1
    rw [cano_in] at h1
    have h2 : inB (cano (O.map Prod.fst)) p = true := (inB_iff _ _).2 ((cano_in _ _).2 ((h.in_iff hL p).2 (.inl h1)))
    rw [h2] at hh; simp at hh
  · intro hh; exact absurd hh (InS_nil p)
theorem Folded.few {g : Int} (h : Folded g L O) : O.length ≤ L.length := by
  have h1 : (O.map fun o => (o.2 : Int)).Nodup := by
    rw [List.nodup_iff_pairwise_ne, List.pairwise_map]
    exact h.rise.imp fun hab => by omega
  have := nodup_length (m := (List.range L.length).map fun n : Nat => (n : Int)) h1 (fun q hq => by
    obtain ⟨o, ho, rfl⟩ := List.mem_map.1 hq
    obtain ⟨hlt, _⟩ := h.at_ o ho
    exact List.mem_map.2 ⟨o.2, by simpa using hlt, rfl⟩)
  simpa using this
/-- Made fewer again they are the same. -/
theorem Folded.again {g : Int} {O' : List ((Int × Int) × Nat)} (h0 : 0 ≤ g) (hL : ∀ x ∈ L, x.1 < x.2) (h : Folded g L O) (h' : Folded g (O.map Prod.fst) O') : O'.map Prod.fst = O.map Prod.fst := by
  have hW : ∀ x ∈ O.map Prod.fst, x.1 < x.2 := fun x hx => by
    obtain ⟨o, ho, rfl⟩ := List.mem_map.1 hx
    exact h.toFolds.wide hL ho
  have hz : Folded g (O.map Prod.fst) (O.map Prod.fst).zipIdx := by
    refine ⟨zip_folds _ h0, ?_, zip_rise _⟩
    have := List.pairwise_map (R := fun a b => ¬ nearQ g a b) (f := Prod.fst) |>.2 h.far
    rw [List.pairwise_iff_getElem]
    intro i j hi hj hij
    have hi' : i < (O.map Prod.fst).length := by simpa using hi
    have hj' : j < (O.map Prod.fst).length := by simpa using hj
    have := List.pairwise_iff_getElem.1 this i j hi' hj' hij
    simpa using this
  rw [h'.eq hW h0 hz, zip_fst]
theorem Folded.apart {g : Int} (h : Folded g L O) {i k : Nat} (hi : i < (O.map Prod.fst).length) (hk : k < (O.map Prod.fst).length) (hne : i ≠ k) : ¬ nearQ g (O.map Prod.fst)[i] (O.map Prod.fst)[k] := by
  have hf := List.pairwise_map (R := fun a b => ¬ nearQ g a b) (f := Prod.fst) |>.2 h.far
  rcases Nat.lt_or_ge i k with h1 | h1
  · exact List.pairwise_iff_getElem.1 hf i k hi hk h1
  · intro hn
    exact List.pairwise_iff_getElem.1 hf k i hk hi (by omega) ⟨hn.2, hn.1⟩
end
end Go.Proofs.YtaaefgieklkekaaGreatDoor
