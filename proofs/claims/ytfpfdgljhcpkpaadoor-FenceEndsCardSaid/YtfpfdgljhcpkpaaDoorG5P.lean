/- Plain laws: an answer that goes on comes to its end. -/
import Derived.Test.YtfpfdgljhcpkpaaDoorG3
import Derived.Test.YtfpfdgljhcpkpaaDoorM8
namespace Go.Proofs.YtfpfdgljhcpkpaaDoor

/-- The first bytes of a set from its first one on, so many at most. -/
def firstN : List (Int × Int) → Int → List (Int × Int)
  | [], _ => []
  | x :: _, n => [(x.1, min x.2 (x.1 + n))]
theorem firstN_cons {R r : List (Int × Int)} {x1 x2 : Int} (n : Int) (e : R = (x1, x2) :: r) : firstN R n = [(x1, min x2 (x1 + n))] := by subst e; rfl
theorem firstN_canon {R : List (Int × Int)} (hc : Canon R) {n : Int} (hn : 1 ≤ n) : Canon (firstN R n) := by
  cases R with
  | nil => exact Canon.nil
  | cons x r =>
    have hx := hc.head
    exact Canon.one ((goodS_iff _).2 ⟨hx.1, by simp only; omega, by simp only; omega⟩)
theorem firstN_length (R : List (Int × Int)) (n : Int) : (firstN R n).length ≤ 1 := by cases R <;> simp [firstN]
theorem firstN_in {R r : List (Int × Int)} {x1 x2 : Int} (e : R = (x1, x2) :: r) (hc : Canon R) {n : Int} (hn : 1 ≤ n) (p : Int) : inB (firstN R n) p = (decide (x1 ≤ p) && decide (p < x2) && decide (p < x1 + n)) := by
  subst e
  have hx := hc.head
  simp only at hx
  have ho : okS (x1, min x2 (x1 + n)) = true := by rw [okS_iff]; simp only; omega
  simp only [firstN, inB, List.any_cons, List.any_nil, Bool.or_false, ho, Bool.true_and]
  rw [Bool.eq_iff_iff]; simp; omega
theorem firstN_sub {R : List (Int × Int)} (hc : Canon R) {n : Int} (hn : 1 ≤ n) (p : Int) (h : inB (firstN R n) p = true) : inB R p = true := by
  rcases nil_or R with hR | ⟨x1, x2, r, hR⟩
  · subst hR; exact h
  · rw [firstN_in hR hc hn] at h
    subst hR
    rw [inB_cons hc]
    simp at h ⊢
    exact .inl ⟨h.1.1, h.1.2⟩
theorem in_head {R r : List (Int × Int)} {x1 x2 : Int} (e : R = (x1, x2) :: r) (hc : Canon R) : inB R x1 = true ∧ 0 ≤ x1 ∧ x1 < 4611686018427387904 := by
  subst e
  have hx := hc.head
  simp only at hx
  exact ⟨hc.in_start (List.mem_cons_self ..), hx.1, by omega⟩
theorem Canon.head_lt {R r : List (Int × Int)} {x1 x2 : Int} (hc : Canon R) (e : R = (x1, x2) :: r) : x1 < x2 := by
  subst e; exact hc.head.2.1
/-- A set that has few bytes has an end. -/
theorem fin_of {L : List (Int × Int)} (_hc : Canon L) (h : lenL L ≤ 200) : lenL L = sumL L := by
  by_cases ho : ∃ x ∈ L, x.2 = 4611686018427387904
  · obtain ⟨x, hx, e⟩ := ho
    rw [lenL_open hx e] at h; omega
  · exact lenL_sum fun x hx e => ho ⟨x, hx, e⟩
/-- How far an answer is from its end. -/
def muL (N : Nat) (R H F : List (Int × Int)) : Nat := cnt (inB R) N + cnt (inB (ofOp R H 3)) N + if (wantL R H F).isEmpty = true then 0 else 1
/-- What holds ahead of each round. -/
structure EndsInv (N i : Nat) (sure : Bool) (R H F : List (Int × Int)) : Prop where
  big : (4611686018427387904 : Int) ≤ N
  kR : Canon R
  kH : Canon H
  kF : Canon F
  mu : i + muL N R H F ≤ 401
  few : cnt (inB R) N ≤ 200
  sur : sure = true → (wantL R H F).isEmpty = true
  hl : H.length ≤ 24 + 5 * i
  fl : F.length + (if (wantL R H F).isEmpty = true then 0 else 200) ≤ 224 + 5 * i
section
variable {N i : Nat} {sure : Bool} {R H F : List (Int × Int)}
theorem EndsInv.lenR (h : EndsInv N i sure R H F) : R.length ≤ 200 := by
  have h1 := length_sum h.kR
  have h2 := sum_cnt (N := N) h.kR (fun y hy => by have := h.kR.mem hy; have := h.big; omega)
  have := h.few
  omega
theorem EndsInv.lens (h : EndsInv N i sure R H F) : i ≤ 401 ∧ R.length ≤ 200 ∧ H.length ≤ 2100 ∧ F.length ≤ 2300 := by
  have h0 := h.mu
  have h1 := h.hl
  have h2 := h.fl
  refine ⟨by omega, h.lenR, by omega, by omega⟩
theorem isEmpty_false {Y : List (Int × Int)} {p : Int} (h : inB Y p = true) : Y.isEmpty = false := by
  cases Y with
  | nil => cases h
  | cons y q => rfl
theorem cnt_few {A B : List (Int × Int)} (h : ∀ p, inB A p = true → inB B p = true) : cnt (inB A) N ≤ cnt (inB B) N := cnt_le h N
theorem ends_start {s : Bool} (hN : (4611686018427387904 : Int) ≤ N) (k1 : Canon R) (k2 : Canon H) (k3 : Canon F) (hl : lenL R ≤ 200) (h2 : H.length ≤ 24) (h3 : F.length ≤ 24) (hs : (wantL R H F).isEmpty = s) : EndsInv N 0 s R H F := by
  have e := fin_of k1 hl
  have e2 := sum_cnt (N := N) k1 (fun y hy => by have := k1.mem hy; omega)
  have h4 : cnt (inB (ofOp R H 3)) N ≤ cnt (inB R) N := cnt_le (fun p hp => by rw [inB_ofOp] at hp; revert hp; simp [opB]; intro h _; exact h) N
  refine ⟨hN, k1, k2, k3, ?_, by omega, fun h => by rw [hs]; exact h, by omega, ?_⟩
  · unfold muL; split <;> omega
  · split <;> omega
/-- What stays out of want stays so. -/
theorem want_le {R' H' F' : List (Int × Int)} (h : ∀ p, inB (wantL R' H' F') p = true → inB (wantL R H F) p = true) (he : (wantL R H F).isEmpty = true) : (wantL R' H' F').isEmpty = true :=
  empty_of_sub' (wantL_canon _ _ _) h he
where
  empty_of_sub' {A B : List (Int × Int)} (hA : Canon A) (h : ∀ p, inB A p = true → inB B p = true) (hB : B.isEmpty = true) : A.isEmpty = true := by
    cases A with
    | nil => rfl
    | cons x r =>
      have h2 := h _ (hA.in_start (List.mem_cons_self ..))
      rw [isEmpty_eq hB] at h2
      cases h2
theorem ind_le {a b : Bool} (h : b = true → a = true) (k : Nat) : (if a = true then 0 else k) ≤ (if b = true then 0 else k) := by
  cases a <;> cases b <;> simp at h ⊢
/-- A round in which bytes are told. -/
theorem EndsInv.go (h : EndsInv N i sure R H F) {x1 x2 : Int} {r : List (Int × Int)} (e : R = (x1, x2) :: r) (hx : inB H x1 = true) {n : Int} (hn : 1 ≤ n) :
    EndsInv N (i + 1) sure (ofOp R (ofOp (firstN R n) H 2) 3) H F := by
  obtain ⟨T, hT⟩ : ∃ T, ofOp R (ofOp (firstN R n) H 2) 3 = T := ⟨_, rfl⟩
  have hin : ∀ p, inB T p = (inB R p && !(inB (firstN R n) p && inB H p)) := fun p => by
    rw [← hT, inB_ofOp, inB_ofOp]; simp [opB]
  have hsub : ∀ p, inB T p = true → inB R p = true := fun p hp => by rw [hin] at hp; simp at hp; exact hp.1
  have h0 := in_head e h.kR
  have hT1 : inB T x1 = false := by
    rw [hin, firstN_in e h.kR hn, hx]
    have hx12 := h.kR.head_lt e
    simp; intro _; exact ⟨hx12, by omega⟩
  have c1 : cnt (inB T) N < cnt (inB R) N := cnt_lt hsub hT1 h0.1 N h0.2.1 (by have := h.big; omega)
  have c2 : cnt (inB (ofOp T H 3)) N ≤ cnt (inB (ofOp R H 3)) N := cnt_le (fun p hp => by
    rw [inB_ofOp] at hp ⊢; simp [opB] at hp ⊢; exact ⟨hsub p hp.1, hp.2⟩) N
  have hw : ∀ p, inB (wantL T H F) p = true → inB (wantL R H F) p = true := fun p hp => by
    rw [inB_want] at hp ⊢; simp at hp ⊢; exact ⟨⟨hsub p hp.1.1, hp.1.2⟩, hp.2⟩
  have hwe := want_le hw
  have q1 := ind_le hwe 1
  have q2 := ind_le hwe 200
  have m := h.mu
  have f := h.fl
  unfold muL at m
  rw [hT]
  refine ⟨h.big, by rw [← hT]; exact ofOp_canon _ _ _, h.kH, h.kF, ?_, by have := h.few; omega, fun hs => hwe (h.sur hs), by have := h.hl; omega, by omega⟩
  unfold muL; omega
/-- A round in which bytes come. -/
theorem EndsInv.wait (h : EndsInv N i sure R H F) {x1 x2 : Int} {r : List (Int × Int)} (e : R = (x1, x2) :: r) (hx : inB H x1 = false) (hf : inB F x1 = true) {n : Int} (hn : 1 ≤ n) (hn5 : n ≤ 5) :
    EndsInv N (i + 1) sure R (ofOp H (ofOp (firstN R n) F 2) 1) (ofOp F (ofOp (firstN R n) F 2) 3) := by
  obtain ⟨C, hC⟩ : ∃ C, ofOp (firstN R n) F 2 = C := ⟨_, rfl⟩
  have hin : ∀ p, inB C p = (inB (firstN R n) p && inB F p) := fun p => by rw [← hC, inB_ofOp]; simp [opB]
  have hCc : Canon C := by rw [← hC]; exact ofOp_canon _ _ _
  have h0 := in_head e h.kR
  have hx12 := h.kR.head_lt e
  have hC1 : inB C x1 = true := by
    rw [hin, firstN_in e h.kR hn, hf]; simp; exact ⟨hx12, by omega⟩
  -- at most five bytes
  have hC5 : C.length ≤ 5 := by
    have a1 := length_sum hCc
    have a2 := sum_cnt (N := N) hCc (fun y hy => by have := hCc.mem hy; have := h.big; omega)
    have a3 : cnt (inB C) N ≤ cnt (fun p => decide (x1 ≤ p) && decide (p < x1 + n)) N := cnt_le (fun p hp => by
      rw [hin, firstN_in e h.kR hn] at hp; simp at hp ⊢; exact ⟨hp.1.1.1, hp.1.2⟩) N
    have a4 := cnt_span x1 (x1 + n) h0.2.1 (by omega) N
    omega
  rw [hC]
  have hH : ∀ p, inB (ofOp H C 1) p = (inB H p || inB C p) := fun p => by rw [inB_ofOp]; simp [opB]
  have hF : ∀ p, inB (ofOp F C 3) p = (inB F p && !inB C p) := fun p => by rw [inB_ofOp]; simp [opB]
  have c2 : cnt (inB (ofOp R (ofOp H C 1) 3)) N < cnt (inB (ofOp R H 3)) N := by
    refine cnt_lt (q := x1) (fun p hp => ?_) ?_ ?_ N h0.2.1 (by have := h.big; omega)
    · rw [inB_ofOp, hH] at hp; rw [inB_ofOp]; simp [opB] at hp ⊢; exact ⟨hp.1, hp.2.1⟩
    · rw [inB_ofOp, hH, hC1]; simp [opB]
    · rw [inB_ofOp, h0.1, hx]; rfl
  have hw : ∀ p, inB (wantL R (ofOp H C 1) (ofOp F C 3)) p = true → inB (wantL R H F) p = true := fun p hp => by
    rw [inB_want, hH, hF] at hp; rw [inB_want]; simp at hp ⊢
    refine ⟨⟨hp.1.1, hp.1.2.1⟩, ?_⟩
    cases hfp : inB F p
    · rfl
    · rcases hp.2 with h' | h'
      · rw [hfp] at h'; cases h'
      · rw [hp.1.2.2] at h'; cases h'
  have hwe := want_le hw
  have q1 := ind_le hwe 1
  have q2 := ind_le hwe 200
  have m := h.mu
  have f := h.fl
  have g1 := or_few H C
  have g2 := less_few F C
  have hl := h.hl
  unfold muL at m
  refine ⟨h.big, h.kR, ofOp_canon _ _ _, ofOp_canon _ _ _, ?_, h.few, fun hs => hwe (h.sur hs), by omega, by omega⟩
  unfold muL; omega
/-- A round in which what is wanting is asked for. -/
theorem EndsInv.ask (h : EndsInv N i sure R H F) (hw : (wantL R H F).isEmpty = false) :
    EndsInv N (i + 1) sure R H (ofOp F (ofOp R H 3) 1) := by
  have hne : (wantL R H (ofOp F (ofOp R H 3) 1)).isEmpty = true := by
    cases hY : wantL R H (ofOp F (ofOp R H 3) 1) with
    | nil => rfl
    | cons y q =>
      have hc : Canon (y :: q) := by rw [← hY]; exact wantL_canon _ _ _
      have h2 := hc.in_start (List.mem_cons_self ..)
      rw [← hY, inB_want, inB_ofOp, inB_ofOp] at h2
      simp [opB] at h2
      obtain ⟨⟨a1, a2⟩, a3, a4⟩ := h2
      rcases a4 with h' | h'
      · rw [a1] at h'; cases h'
      · rw [a2] at h'; cases h'
  have m := h.mu
  have f := h.fl
  have g1 := or_few F (ofOp R H 3)
  have hc3 : Canon (ofOp R H 3) := ofOp_canon _ _ _
  have a1 := length_sum hc3
  have a2 := sum_cnt (N := N) hc3 (fun y hy => by have := hc3.mem hy; have := h.big; omega)
  have a3 : cnt (inB (ofOp R H 3)) N ≤ cnt (inB R) N := cnt_le (fun p hp => by rw [inB_ofOp] at hp; revert hp; simp [opB]; intro h _; exact h) N
  have a4 := h.few
  unfold muL at m
  rw [hw] at m f
  simp at m f
  refine ⟨h.big, h.kR, h.kH, ofOp_canon _ _ _, ?_, h.few, fun _ => hne, by have := h.hl; omega, ?_⟩
  · unfold muL; rw [hne]; simp; omega
  · rw [hne]; simp; omega
end
end Go.Proofs.YtfpfdgljhcpkpaaDoor
