/- Plain law of the tier: whose point on the ring comes first. -/
import Derived.Test.YtnlamjebgkgbaaaDoorJTierDeals1
import Derived.Laws.Strings
namespace Go.Proofs.YtnlamjebgkgbaaaDoor

theorem less_bytes : ∀ (x y : List UInt8), Op.bytesLess x y = decide (x < y)
  | [], [] => by simp [Op.bytesLess]
  | _ :: _, [] => by simp [Op.bytesLess]
  | [], _ :: _ => by simp [Op.bytesLess]
  | a :: x, b :: y => by
    have ih := less_bytes x y
    rw [Op.bytesLess, ih]
    simp only [List.cons_lt_cons_iff]
    by_cases h1 : a < b
    · simp [h1]
    · by_cases h2 : a = b <;> simp [h1, h2]
/-- A point: where it lies, and whose it is. -/
abbrev Pt := Nat × List UInt8
/-- Round the ring from a place on. -/
def rotL (L : List Pt) (k : Nat) : List Pt := L.drop k ++ L.take k
/-- One name more, if it is new, and there are to be more. -/
def ownStep (m : Nat) (out : List (List UInt8)) (x : Pt) : List (List UInt8) := if m ≤ out.length then out else if x.2 ∈ out then out else out ++ [x.2]
def ownersL (m : Nat) (R : List Pt) : List (List UInt8) := R.foldl (ownStep m) []
theorem ownStep_full {m : Nat} : ∀ {R : List Pt} {out : List (List UInt8)}, m ≤ out.length → R.foldl (ownStep m) out = out
  | [], _, _ => rfl
  | x :: R, out, h => by rw [List.foldl_cons, show ownStep m out x = out from if_pos h]; exact ownStep_full h
theorem ownersL_step {m k : Nat} {R : List Pt} (hk : k < R.length) : ownersL m (R.take (k + 1)) = ownStep m (ownersL m (R.take k)) R[k] := by
  unfold ownersL
  rw [List.take_succ_eq_append_getElem hk, List.foldl_append]; rfl
theorem ownersL_done {m k : Nat} {R : List Pt} (h : m ≤ (ownersL m (R.take k)).length) : ownersL m R = ownersL m (R.take k) := by
  conv => lhs; rw [← List.take_append_drop k R]
  unfold ownersL at *
  rw [List.foldl_append]; exact ownStep_full h
theorem nodup_le {α : Type} [DecidableEq α] : ∀ {a b : List α}, a.Nodup → (∀ x ∈ a, x ∈ b) → a.length ≤ b.length
  | [], _, _, _ => Nat.zero_le _
  | x :: a, b, hn, hs => by
    have hx : x ∈ b := hs x (List.mem_cons_self ..)
    have h1 := List.nodup_cons.1 hn
    have := nodup_le (a := a) (b := b.erase x) h1.2 (fun y hy => (List.mem_erase_of_ne (fun e => h1.1 (by rw [← e]; exact hy))).2 (hs y (List.mem_cons_of_mem _ hy)))
    rw [List.length_erase_of_mem hx] at this
    have hb : 0 < b.length := List.length_pos_of_mem hx
    simp only [List.length_cons]; omega
theorem ownStep_eq {m : Nat} {Ns out : List (List UInt8)} {x : Pt} (hN : Ns.length ≤ m) (hn : out.Nodup) (hs : ∀ y ∈ out, y ∈ Ns) (hx : x.2 ∈ Ns) : ownStep m out x = if x.2 ∈ out then out else out ++ [x.2] := by
  unfold ownStep
  by_cases h : x.2 ∈ out
  · rw [if_pos h]; split <;> rfl
  · rw [if_neg h]
    have : (x.2 :: out).length ≤ Ns.length := nodup_le (List.nodup_cons.2 ⟨h, hn⟩) (fun y hy => by
      rcases List.mem_cons.1 hy with rfl | hy
      · exact hx
      · exact hs y hy)
    simp only [List.length_cons] at this
    rw [if_neg (by omega)]
theorem nodup_snoc {α : Type} {l : List α} {x : α} (h : l.Nodup) (hx : x ∉ l) : (l ++ [x]).Nodup := by
  rw [List.nodup_append]
  refine ⟨h, by simp, fun a ha b hb => ?_⟩
  simp at hb; subst hb
  intro e; exact hx (e ▸ ha)
/-- The names in the order of their first points. -/
theorem own_spec {m : Nat} {Ns : List (List UInt8)} (hN : Ns.length ≤ m) (up : List UInt8 → Bool) : ∀ (R : List Pt) (out : List (List UInt8)), out.Nodup → (∀ y ∈ out, y ∈ Ns) → (∀ x ∈ R, x.2 ∈ Ns) →
    (R.foldl (ownStep m) out).Nodup ∧ (∀ y, y ∈ R.foldl (ownStep m) out ↔ y ∈ out ∨ ∃ x ∈ R, x.2 = y) ∧ (R.foldl (ownStep m) out).find? up = (out.find? up).or ((R.find? fun x => up x.2).map Prod.snd)
  | [], out, hn, _, _ => ⟨hn, fun y => by simp, by simp⟩
  | x :: R, out, hn, hs, hR => by
    have hx := hR x (List.mem_cons_self ..)
    have hR' : ∀ x ∈ R, x.2 ∈ Ns := fun y hy => hR y (List.mem_cons_of_mem _ hy)
    rw [List.foldl_cons, ownStep_eq hN hn hs hx]
    by_cases h : x.2 ∈ out
    · rw [if_pos h]
      obtain ⟨h1, h2, h3⟩ := own_spec hN up R out hn hs hR'
      refine ⟨h1, fun y => ?_, ?_⟩
      · rw [h2]
        constructor
        · rintro (h' | ⟨z, hz, e⟩)
          · exact .inl h'
          · exact .inr ⟨z, List.mem_cons_of_mem _ hz, e⟩
        · rintro (h' | ⟨z, hz, e⟩)
          · exact .inl h'
          · rcases List.mem_cons.1 hz with rfl | hz
            · exact .inl (e ▸ h)
            · exact .inr ⟨z, hz, e⟩
      · rw [h3, List.find?_cons]
        cases hu : up x.2 with
        | false => rfl
        | true =>
          cases hf : out.find? up with
          | some y => rfl
          | none =>
            have := List.find?_eq_none.1 hf x.2 h
            rw [hu] at this; exact absurd rfl this
    · rw [if_neg h]
      obtain ⟨h1, h2, h3⟩ := own_spec hN up R (out ++ [x.2]) (nodup_snoc hn h) (fun y hy => by
        rcases List.mem_append.1 hy with hy | hy
        · exact hs y hy
        · simp at hy; subst hy; exact hx) hR'
      refine ⟨h1, fun y => ?_, ?_⟩
      · rw [h2]
        constructor
        · rintro (h' | ⟨z, hz, e⟩)
          · rcases List.mem_append.1 h' with h' | h'
            · exact .inl h'
            · simp at h'; exact .inr ⟨x, List.mem_cons_self .., h'.symm⟩
          · exact .inr ⟨z, List.mem_cons_of_mem _ hz, e⟩
        · rintro (h' | ⟨z, hz, e⟩)
          · exact .inl (List.mem_append_left _ h')
          · rcases List.mem_cons.1 hz with rfl | hz
            · exact .inl (List.mem_append_right _ (by simp [e]))
            · exact .inr ⟨z, hz, e⟩
      · rw [h3, List.find?_append, List.find?_cons (a := x)]
        cases hf : out.find? up with
        | some y => simp
        | none =>
          cases hu : up x.2 <;> simp [hu]
/-- How far it is from a place to another one, round the ring. -/
def wayN (h a : Nat) : Nat := (a + 18446744073709551616 - h) % 18446744073709551616
def keyLe (h : Nat) (x y : Pt) : Prop := wayN h x.1 < wayN h y.1 ∨ (wayN h x.1 = wayN h y.1 ∧ ¬ y.2 < x.2)
def ptLe (x y : Pt) : Prop := x.1 < y.1 ∨ (x.1 = y.1 ∧ ¬ y.2 < x.2)
theorem wayN_ge {h a : Nat} (h1 : h ≤ a) (h2 : a < 18446744073709551616) : wayN h a = a - h := by unfold wayN; omega
theorem wayN_lt {h a : Nat} (h1 : a < h) (h2 : h < 18446744073709551616) : wayN h a = a + 18446744073709551616 - h := by unfold wayN; omega
theorem rot_sorted {L : List Pt} {h k : Nat} (hh : h < 18446744073709551616) (hb : ∀ x ∈ L, x.1 < 18446744073709551616) (hs : L.Pairwise ptLe) (h1 : ∀ x ∈ L.take k, x.1 < h) (h2 : ∀ x ∈ L.drop k, h ≤ x.1) : (rotL L k).Pairwise (keyLe h) := by
  unfold rotL
  rw [List.pairwise_append]
  refine ⟨?_, ?_, ?_⟩
  · refine List.Pairwise.imp_of_mem (fun {x y} hx hy hxy => ?_) (List.Pairwise.sublist (List.drop_sublist k L) hs)
    have a1 := h2 x hx; have a2 := h2 y hy
    have b1 := hb x (List.mem_of_mem_drop hx); have b2 := hb y (List.mem_of_mem_drop hy)
    unfold keyLe
    rw [wayN_ge a1 b1, wayN_ge a2 b2]
    rcases hxy with h' | ⟨h', h''⟩
    · exact .inl (by omega)
    · exact .inr ⟨by omega, h''⟩
  · refine List.Pairwise.imp_of_mem (fun {x y} hx hy hxy => ?_) (List.Pairwise.sublist (List.take_sublist k L) hs)
    have a1 := h1 x hx; have a2 := h1 y hy
    unfold keyLe
    rw [wayN_lt a1 hh, wayN_lt a2 hh]
    rcases hxy with h' | ⟨h', h''⟩
    · exact .inl (by omega)
    · exact .inr ⟨by omega, h''⟩
  · intro x hx y hy
    have a1 := h2 x hx; have a2 := h1 y hy
    have b1 := hb x (List.mem_of_mem_drop hx)
    unfold keyLe
    rw [wayN_ge a1 b1, wayN_lt a2 hh]
    exact .inl (by omega)
theorem keyLe_refl (h : Nat) (x : Pt) : keyLe h x x := .inr ⟨rfl, List.lt_irrefl x.2⟩
theorem find_least {R : List Pt} {h : Nat} {p : Pt → Bool} (hs : R.Pairwise (keyLe h)) {x : Pt} (hf : R.find? p = some x) : x ∈ R ∧ p x = true ∧ ∀ y ∈ R, p y = true → keyLe h x y := by
  refine ⟨List.mem_of_find?_eq_some hf, List.find?_some hf, ?_⟩
  induction R with
  | nil => simp at hf
  | cons z R ih =>
    intro y hy hp
    rw [List.find?_cons] at hf
    cases hz : p z with
    | true =>
      simp only [hz] at hf
      injection hf with hf; subst hf
      rcases List.mem_cons.1 hy with rfl | hy
      · exact keyLe_refl _ _
      · exact (List.pairwise_cons.1 hs).1 y hy
    | false =>
      simp only [hz] at hf
      rcases List.mem_cons.1 hy with rfl | hy
      · rw [hz] at hp; cases hp
      · exact ih (List.pairwise_cons.1 hs).2 hf y hy hp
/-- The shortest way of a name. -/
def LeastW (h : Nat) (R : List Pt) (n : List UInt8) (b : Nat) : Prop := (∃ x ∈ R, x.2 = n ∧ wayN h x.1 = b) ∧ ∀ x ∈ R, x.2 = n → b ≤ wayN h x.1
theorem LeastW.unique {h : Nat} {R : List Pt} {n : List UInt8} {b c : Nat} (p : LeastW h R n b) (q : LeastW h R n c) : b = c := by
  obtain ⟨⟨x, hx, hxn, hxb⟩, h1⟩ := p
  obtain ⟨⟨y, hy, hyn, hyb⟩, h2⟩ := q
  have := h1 y hy hyn
  have := h2 x hx hxn
  omega
/-- That one is least of those that are up: by the points, and by the names' own ways. -/
theorem least_eq {h : Nat} {R : List Pt} {up : List UInt8 → Bool} {W : List UInt8 → Nat} (hW : ∀ x ∈ R, LeastW h R x.2 (W x.2)) {x : Pt} {b : List UInt8}
    (hx : x ∈ R) (hxu : up x.2 = true) (hl : ∀ y ∈ R, up y.2 = true → keyLe h x y)
    (hb : ∃ y ∈ R, y.2 = b) (hbu : up b = true) (hbl : ∀ y ∈ R, up y.2 = true → W b < W y.2 ∨ (W b = W y.2 ∧ ¬ y.2 < b)) : x.2 = b := by
  obtain ⟨y, hy, rfl⟩ := hb
  obtain ⟨⟨z, hz, hzn, hzw⟩, hzl⟩ := hW y hy
  obtain ⟨⟨u, hu, hun, huw⟩, hul⟩ := hW x hx
  have h1 := hl z hz (by rw [hzn]; exact hbu)
  have h2 := hbl x hx hxu
  have h3 := hl u hu (by rw [hun]; exact hxu)
  have h4 := hul x hx rfl
  have e : wayN h x.1 = W x.2 := by
    rcases h3 with h3 | ⟨h3, _⟩ <;> omega
  rcases h1 with h1 | ⟨h1, h1'⟩
  · rcases h2 with h2 | ⟨h2, _⟩ <;> omega
  · rcases h2 with h2 | ⟨h2, h2'⟩
    · omega
    · rw [hzn] at h1'
      exact List.le_antisymm (List.not_lt.1 h1') (List.not_lt.1 h2')
end Go.Proofs.YtnlamjebgkgbaaaDoor
