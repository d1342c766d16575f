/- Plain laws of a set's text: it is parsed as it was, and whatever is parsed is a set's text. -/
import Derived.Test.YtbphndihjdiiiaaGreatDoorZB11
import Derived.Lib.ParseIntB
namespace Go.Proofs.YtbphndihjdiiiaaGreatDoor
open Go.RowKit

/-- A span's text. -/
def tS (x : Int × Int) : List UInt8 := spT digN x
theorem tS_open {x : Int × Int} (h : x.2 = 4611686018427387904 ∧ x.1 ≠ 4611686018427387904) : tS x = digN x.1 ++ 45 :: [] := by unfold tS spT; rw [if_pos h]
theorem tS_shut {x : Int × Int} (h : ¬ (x.2 = 4611686018427387904 ∧ x.1 ≠ 4611686018427387904)) : tS x = digN x.1 ++ 45 :: digN x.2 := by unfold tS spT; rw [if_neg h, List.append_assoc]; rfl
theorem tS_byte {x : Int × Int} {c : UInt8} (h : c ∈ tS x) : c.toNat = 45 ∨ (48 ≤ c.toNat ∧ c.toNat ≤ 57) := by
  by_cases ho : x.2 = 4611686018427387904 ∧ x.1 ≠ 4611686018427387904
  · rw [tS_open ho] at h
    rcases List.mem_append.1 h with h | h
    · exact .inr (dec_dig _ c h)
    · simp at h; left; rw [h]; rfl
  · rw [tS_shut ho] at h
    rcases List.mem_append.1 h with h | h
    · exact .inr (dec_dig _ c h)
    · rcases List.mem_cons.1 h with h | h
      · left; rw [h]; rfl
      · exact .inr (dec_dig _ c h)
theorem tS_len {x : Int × Int} (h : okS x = true) : 0 < (tS x).length ∧ (tS x).length ≤ 39 := by
  rw [okS_iff] at h
  have h1 := digN_len' (n := x.1) (by omega)
  have h2 := digN_len' (n := x.2) (by omega)
  have h3 := dec_pos x.1.toNat
  unfold digN at h1 h2
  by_cases ho : x.2 = 4611686018427387904 ∧ x.1 ≠ 4611686018427387904
  · rw [tS_open ho, List.length_append, List.length_cons]; unfold digN; simp; omega
  · rw [tS_shut ho, List.length_append, List.length_cons]; unfold digN; omega
theorem digN_ne (n : Int) : digN n ≠ [] := fun e => by have := dec_pos n.toNat; unfold digN at e; rw [e] at this; simp at this
theorem parseM_append (M : Nat) : ∀ (l m : List UInt8) (acc : Nat), Lib.parseUintM M acc (l ++ m) = match Lib.parseUintM M acc l with | .ok a => Lib.parseUintM M a m | e => e
  | [], m, acc => rfl
  | c :: r, m, acc => by
    rw [List.cons_append, Lib.parseUintM, Lib.parseUintM]
    split
    · split
      · rfl
      · split
        · rfl
        · exact parseM_append M r m _
    · rfl
theorem parseM_one {M acc k : Nat} (h : k < 10) (h1 : acc < 1844674407370955162) (h2 : acc * 10 + k ≤ M) : Lib.parseUintM M acc [UInt8.ofNat (48 + k)] = .ok (acc * 10 + k) := by
  have e := digt_toNat h
  rw [Lib.parseUintM, if_pos (by omega), if_neg (by omega), e, if_neg (by omega), Lib.parseUintM]
  congr 1; omega
theorem parseM_dec (u : Nat) (h : u ≤ 9223372036854775807) : Lib.parseUintM (2 ^ 64 - 1) 0 (Lib.decDigits u) = .ok u := by
  induction u using Nat.strongRecOn with
  | ind u ih =>
    rw [Lib.decDigits]
    by_cases h0 : u < 10
    · rw [dif_pos h0, parseM_one h0 (by omega) (by omega)]; congr 1; omega
    · rw [dif_neg h0, parseM_append, ih (u / 10) (by omega) (by omega)]
      simp only
      rw [parseM_one (by omega) (by omega) (by omega)]
      congr 1; omega
theorem parse_dig {n : Int} (h0 : 0 ≤ n) (h1 : n ≤ 9223372036854775807) : Lib.parseIntB 64 (digN n) = .ok n := by
  have hd := parseM_dec n.toNat (by omega)
  have hb := dec_dig n.toNat
  have hp := dec_pos n.toNat
  unfold digN
  obtain ⟨c, r, e⟩ : ∃ c r, Lib.decDigits n.toNat = c :: r := List.exists_cons_of_length_pos hp
  have hc := hb c (by rw [e]; exact List.mem_cons_self ..)
  rw [e] at hd ⊢
  unfold Lib.parseIntB
  simp only
  rw [if_neg (by omega : ¬ (c.toNat = 43 ∨ c.toNat = 45))]
  unfold Lib.parseUintB
  rw [if_neg (by simp), hd]
  simp only
  rw [if_neg (by omega), if_neg (by omega), if_neg (by omega)]
  congr 1; omega
/-- A number, as the program reads it. -/
def numP (l : List UInt8) : Option Int := match Lib.parseIntB 64 l with
  | .ok v => some v
  | _ => none
theorem numP_dig {n : Int} (h0 : 0 ≤ n) (h1 : n ≤ 9223372036854775807) : numP (digN n) = some n := by unfold numP; rw [parse_dig h0 h1]
/-- A number, as the document reads it; -1: it is none. -/
def numRF : Int → List UInt8 → Option Int
  | acc, [] => some acc
  | acc, c :: r => if (c.toNat : Int) - 48 < 0 ∨ 9 < (c.toNat : Int) - 48 ∨ (4611686018427387904 - ((c.toNat : Int) - 48)) / 10 < acc then none else numRF (10 * acc + ((c.toNat : Int) - 48)) r
def numR (l : List UInt8) : Int := if l.length = 0 ∨ 19 < l.length ∨ (l.headD 0 = 48 ∧ 1 < l.length) then -1 else (numRF 0 l).getD (-1)
theorem numRF_append : ∀ (l m : List UInt8) (acc : Int), numRF acc (l ++ m) = match numRF acc l with | some x => numRF x m | none => none
  | [], m, acc => rfl
  | c :: r, m, acc => by
    rw [List.cons_append, numRF, numRF]
    split
    · rfl
    · exact numRF_append r m _
theorem numRF_one {acc : Int} {k : Nat} (h : k < 10) (h1 : acc * 10 + k ≤ 4611686018427387904) : numRF acc [UInt8.ofNat (48 + k)] = some (acc * 10 + k) := by
  have e := digt_toNat h
  rw [numRF, e, if_neg (by omega), numRF]
  congr 1; omega
theorem numRF_dec (u : Nat) (h : u ≤ 4611686018427387904) : numRF 0 (Lib.decDigits u) = some (u : Int) := by
  induction u using Nat.strongRecOn with
  | ind u ih =>
    rw [Lib.decDigits]
    by_cases h0 : u < 10
    · rw [dif_pos h0, numRF_one h0 (by omega)]; congr 1; omega
    · rw [dif_neg h0, numRF_append, ih (u / 10) (by omega) (by omega)]
      simp only
      rw [numRF_one (by omega) (by omega)]
      congr 1; omega
theorem dec_head : ∀ (u : Nat), 10 ≤ u → (Lib.decDigits u).headD 0 ≠ 48 := by
  intro u
  induction u using Nat.strongRecOn with
  | ind u ih =>
    intro h
    rw [Lib.decDigits, dif_neg (by omega)]
    have hp := dec_pos (u / 10)
    by_cases h1 : u / 10 < 10
    · rw [Lib.decDigits, dif_pos h1]
      intro e
      have e2 : (UInt8.ofNat (48 + u / 10)).toNat = (48 : UInt8).toNat := congrArg UInt8.toNat (by simpa using e)
      rw [digt_toNat h1] at e2
      have : (48 : UInt8).toNat = 48 := rfl
      omega
    · have := ih (u / 10) (by omega) (by omega)
      obtain ⟨c, r, e⟩ : ∃ c r, Lib.decDigits (u / 10) = c :: r := List.exists_cons_of_length_pos hp
      rw [e] at this ⊢
      exact this
theorem numR_dig {n : Int} (h0 : 0 ≤ n) (h1 : n ≤ 4611686018427387904) : numR (digN n) = n := by
  have hl := digN_len' (n := n) (by omega)
  have hp := dec_pos n.toNat
  have hh : ¬ ((digN n).headD 0 = 48 ∧ 1 < (digN n).length) := by
    rintro ⟨a, b⟩
    by_cases h : n.toNat < 10
    · unfold digN at b; rw [Lib.decDigits, dif_pos h] at b; simp at b
    · exact dec_head _ (by omega) a
  unfold numR
  have hp2 : 0 < (digN n).length := hp
  rw [if_neg (by intro h; rcases h with h | h | h
                 · omega
                 · omega
                 · exact hh h)]
  unfold digN
  rw [numRF_dec _ (by omega)]
  simp; omega
/-- A word's span, as the program reads it, and as the document does. -/
def spanQ (w : List UInt8) (f : Option Int) (t : Option Int) : Option (Int × Int) := match f, t with
  | some f, some t => if okS (f, t) = true ∧ w = tS (f, t) then some (f, t) else none
  | _, _ => none
def spanP (w : List UInt8) : Option (Int × Int) := match cutD w with
  | none => none
  | some (a, b) => spanQ w (numP a) (if b = [] then some 4611686018427387904 else numP b)
def spanR (w : List UInt8) : Option (Int × Int) := match cutD w with
  | none => none
  | some (a, b) => spanQ w (some (numR a)) (if b = [] then some 4611686018427387904 else some (numR b))
theorem spanQ_some {w : List UInt8} {f t : Option Int} {x : Int × Int} (h : spanQ w f t = some x) : okS x = true ∧ w = tS x := by
  unfold spanQ at h
  split at h
  · split at h
    · rename_i hc
      injection h with h
      rw [← h]; exact hc
    · cases h
  · cases h
theorem tS_cut (x : Int × Int) : cutD (tS x) = some (digN x.1, if x.2 = 4611686018427387904 ∧ x.1 ≠ 4611686018427387904 then [] else digN x.2) := by
  by_cases ho : x.2 = 4611686018427387904 ∧ x.1 ≠ 4611686018427387904
  · rw [tS_open ho, cutD_some dig_no, if_pos ho]
  · rw [tS_shut ho, cutD_some dig_no, if_neg ho]
theorem spanP_iff {w : List UInt8} {x : Int × Int} : spanP w = some x ↔ okS x = true ∧ w = tS x := by
  constructor
  · intro h
    unfold spanP at h
    split at h
    · cases h
    · exact spanQ_some h
  · rintro ⟨ho, rfl⟩
    have h := okS_iff x |>.1 ho
    unfold spanP
    rw [tS_cut]
    simp only
    rw [numP_dig (by omega) (by omega)]
    by_cases hop : x.2 = 4611686018427387904 ∧ x.1 ≠ 4611686018427387904
    · rw [if_pos hop, if_pos rfl]
      unfold spanQ
      simp only
      rw [if_pos (by rw [← hop.1]; exact ⟨ho, rfl⟩), ← hop.1]
    · rw [if_neg hop, if_neg (digN_ne _), numP_dig (by omega) (by omega)]
      unfold spanQ
      simp only
      rw [if_pos ⟨ho, trivial⟩]
theorem spanR_iff {w : List UInt8} {x : Int × Int} : spanR w = some x ↔ okS x = true ∧ w = tS x := by
  constructor
  · intro h
    unfold spanR at h
    split at h
    · cases h
    · exact spanQ_some h
  · rintro ⟨ho, rfl⟩
    have h := okS_iff x |>.1 ho
    unfold spanR
    rw [tS_cut]
    simp only
    rw [numR_dig (by omega) (by omega)]
    by_cases hop : x.2 = 4611686018427387904 ∧ x.1 ≠ 4611686018427387904
    · rw [if_pos hop, if_pos rfl]
      unfold spanQ
      simp only
      rw [if_pos (by rw [← hop.1]; exact ⟨ho, rfl⟩), ← hop.1]
    · rw [if_neg hop, if_neg (digN_ne _), numR_dig (by omega) (by omega)]
      unfold spanQ
      simp only
      rw [if_pos ⟨ho, trivial⟩]
theorem spanR_eq (w : List UInt8) : spanR w = spanP w := by
  cases h : spanP w with
  | some x => exact spanR_iff.2 (spanP_iff.1 h)
  | none =>
    cases h2 : spanR w with
    | none => rfl
    | some x => rw [spanP_iff.2 (spanR_iff.1 h2)] at h; cases h
/-- All words' spans. -/
def mapsP : List (List UInt8) → Option (List (Int × Int))
  | [] => some []
  | w :: r => match spanP w, mapsP r with
    | some x, some L => some (x :: L)
    | _, _ => none
theorem mapsP_iff : ∀ {ws : List (List UInt8)} {L : List (Int × Int)}, mapsP ws = some L ↔ ws = L.map tS ∧ ∀ x ∈ L, okS x = true
  | [], L => by
    unfold mapsP
    constructor
    · intro h; injection h with h; subst h; exact ⟨rfl, fun x hx => by cases hx⟩
    · rintro ⟨h, _⟩; cases L with
      | nil => rfl
      | cons x L => simp at h
  | w :: r, L => by
    unfold mapsP
    constructor
    · intro h
      split at h
      · rename_i x M h1 h2
        injection h with h; subst h
        have a := spanP_iff.1 h1
        have b := mapsP_iff.1 h2
        refine ⟨by rw [List.map_cons, ← a.2, ← b.1], fun y hy => ?_⟩
        rcases List.mem_cons.1 hy with rfl | hy
        · exact a.1
        · exact b.2 y hy
      · cases h
    · rintro ⟨h, ho⟩
      cases L with
      | nil => simp at h
      | cons x L =>
        rw [List.map_cons] at h
        injection h with h1 h2
        rw [spanP_iff.2 ⟨ho x (List.mem_cons_self ..), h1⟩, mapsP_iff.2 ⟨h2, fun y hy => ho y (List.mem_cons_of_mem _ hy)⟩]
/-- One span more, if it lies behind all others. -/
def nextP (ys : List (Int × Int)) (w : List UInt8) : Option (List (Int × Int)) := match spanP w with
  | none => none
  | some x => if x.1 = x.2 then none else match ys.getLast? with
    | none => some (ys ++ [x])
    | some l => if x.1 ≤ l.2 then none else some (ys ++ [x])
def runP : List (Int × Int) → List (List UInt8) → Option (List (Int × Int))
  | ys, [] => some ys
  | ys, w :: r => match nextP ys w with
    | none => none
    | some zs => runP zs r
theorem runP_append : ∀ (ys : List (Int × Int)) (a b : List (List UInt8)), runP ys (a ++ b) = match runP ys a with | none => none | some zs => runP zs b
  | ys, [], b => rfl
  | ys, w :: r, b => by
    rw [List.cons_append, runP, runP]
    cases nextP ys w with
    | none => rfl
    | some zs => exact runP_append zs r b
theorem runP_snoc {ys zs : List (Int × Int)} {a : List (List UInt8)} {w : List UInt8} (h : runP ys a = some zs) : runP ys (a ++ [w]) = nextP zs w := by
  rw [runP_append, h]
  simp only [runP]
  cases nextP zs w <;> rfl
theorem canon_snoc_iff {ys : List (Int × Int)} {x : Int × Int} (hc : Canon ys) (hx : okS x = true) : Canon (ys ++ [x]) ↔ x.1 ≠ x.2 ∧ ∀ l, ys.getLast? = some l → l.2 < x.1 := by
  have hxo := (okS_iff x).1 hx
  constructor
  · intro h
    obtain ⟨_, h2, h3⟩ := h.init
    have := (goodS_iff x).1 h2
    exact ⟨by omega, fun l hl => h3 l (List.mem_of_getLast? hl)⟩
  · rintro ⟨h1, h2⟩
    refine hc.snoc ((goodS_iff x).2 ⟨by omega, by omega, by omega⟩) fun y hy => ?_
    rcases nil_or_snoc ys with rfl | ⟨i, l, rfl⟩
    · cases hy
    · have hl := h2 l (by simp)
      rcases List.mem_append.1 hy with hy | hy
      · have h3 := hc.init.2.2 y hy
        have h4 := (goodS_iff l).1 hc.init.2.1
        omega
      · simp at hy; rw [hy]; exact hl
theorem nextP_iff {ys zs : List (Int × Int)} {w : List UInt8} (hc : Canon ys) : nextP ys w = some zs ↔ ∃ x, spanP w = some x ∧ zs = ys ++ [x] ∧ Canon zs := by
  unfold nextP
  cases h : spanP w with
  | none => simp
  | some x =>
    have hx := (spanP_iff.1 h).1
    have hs := canon_snoc_iff (x := x) hc hx
    simp only [Option.some.injEq, exists_eq_left']
    by_cases e : x.1 = x.2
    · rw [if_pos e]
      constructor
      · intro h; cases h
      · rintro ⟨rfl, h⟩; exact absurd e (hs.1 h).1
    · rw [if_neg e]
      cases hl : ys.getLast? with
      | none =>
        simp only
        constructor
        · intro h2; injection h2 with h2
          exact ⟨h2.symm, by rw [← h2]; exact hs.2 ⟨e, fun l h3 => by rw [hl] at h3; cases h3⟩⟩
        · rintro ⟨rfl, _⟩; rfl
      | some l =>
        simp only
        by_cases h3 : x.1 ≤ l.2
        · rw [if_pos h3]
          constructor
          · intro h; cases h
          · rintro ⟨rfl, h⟩; have := (hs.1 h).2 l hl; omega
        · rw [if_neg h3]
          constructor
          · intro h2; injection h2 with h2
            exact ⟨h2.symm, by rw [← h2]; exact hs.2 ⟨e, fun l' h4 => by rw [hl] at h4; injection h4 with h4; rw [← h4]; omega⟩⟩
          · rintro ⟨rfl, _⟩; rfl
theorem canon_pre {a b : List (Int × Int)} (h : Canon (a ++ b)) : Canon a := by
  have := h.take a.length
  rwa [List.take_left] at this
theorem runP_iff : ∀ {ws : List (List UInt8)} {ys L : List (Int × Int)}, Canon ys → (runP ys ws = some L ↔ ∃ M, mapsP ws = some M ∧ L = ys ++ M ∧ Canon L)
  | [], ys, L, hc => by
    rw [runP]
    constructor
    · intro h; injection h with h; subst h; exact ⟨[], rfl, by simp, hc⟩
    · rintro ⟨M, h1, h2, _⟩
      rw [mapsP] at h1; injection h1 with h1; subst h1
      rw [h2]; simp
  | w :: r, ys, L, hc => by
    rw [runP, mapsP]
    constructor
    · intro h
      split at h
      · cases h
      · rename_i zs hz
        obtain ⟨x, h1, h2, h3⟩ := (nextP_iff hc).1 hz
        obtain ⟨M, h4, h5, h6⟩ := (runP_iff h3).1 h
        exact ⟨x :: M, by rw [h1, h4], by rw [h5, h2]; simp, h6⟩
    · rintro ⟨M, h1, h2, h3⟩
      split at h1
      · rename_i x M' hx hM
        injection h1 with h1; subst h1
        have hc2 : Canon (ys ++ [x]) := canon_pre (b := M') (by rw [List.append_assoc]; rw [h2] at h3; exact h3)
        rw [(nextP_iff hc).2 ⟨x, hx, rfl, hc2⟩]
        exact (runP_iff hc2).2 ⟨M', hM, by rw [h2]; simp, h3⟩
      · cases h1
/-- What the program and the document read off a text. -/
def noneT : List UInt8 := [110, 111, 110, 101]
def parseSet (l : List UInt8) : Option (List (Int × Int)) := if l = noneT then some [] else runP [] (splitC l)
theorem parseSet_maps {l : List UInt8} (h : l ≠ noneT) : parseSet l = match mapsP (splitC l) with
    | none => none
    | some L => if L = cano L then some L else none := by
  unfold parseSet
  rw [if_neg h]
  cases hm : mapsP (splitC l) with
  | none =>
    cases hr : runP [] (splitC l) with
    | none => rfl
    | some L => obtain ⟨M, h1, _⟩ := (runP_iff Canon.nil).1 hr; rw [hm] at h1; cases h1
  | some L =>
    simp only
    by_cases hc : L = cano L
    · rw [if_pos hc]
      exact (runP_iff Canon.nil).2 ⟨L, hm, rfl, by rw [hc]; exact cano_canon L⟩
    · rw [if_neg hc]
      cases hr : runP [] (splitC l) with
      | none => rfl
      | some L' =>
        obtain ⟨M, h1, h2, h3⟩ := (runP_iff Canon.nil).1 hr
        rw [hm] at h1; injection h1 with h1
        rw [List.nil_append] at h2
        rw [h2, ← h1] at h3
        exact absurd (cano_self h3).symm hc
/-- A set's text. -/
def textSet (L : List (Int × Int)) : List UInt8 := if L = [] then noneT else joinT tS L
theorem splitS_join : ∀ (x : Int × Int) (L : List (Int × Int)), splitC (tS x ++ L.flatMap fun y => 44 :: tS y) = (x :: L).map tS
  | x, [] => by
    simp only [List.flatMap_nil, List.append_nil, List.map_cons, List.map_nil]
    refine splitC_none fun c hc => ?_
    have h := tS_byte hc
    exact u8_ne (k := 44) (by omega) (by omega)
  | x, y :: L => by
    rw [List.flatMap_cons, List.cons_append, splitC_some fun c hc => ?_]
    · rw [splitS_join y L]; rfl
    · have h := tS_byte hc
      exact u8_ne (k := 44) (by omega) (by omega)
theorem spanP_none : spanP noneT = none := by
  cases h : spanP noneT with
  | none => rfl
  | some x =>
    have := (spanP_iff.1 h).2
    have h2 : (110 : UInt8) ∈ tS x := by rw [← this]; exact List.mem_cons_self ..
    have h3 := tS_byte h2
    have : (110 : UInt8).toNat = 110 := rfl
    omega
theorem split_none : splitC noneT = [noneT] := splitC_none (by decide)
/-- A set's text is parsed as it was. -/
theorem parse_textSet {L : List (Int × Int)} (hc : Canon L) : parseSet (textSet L) = some L := by
  unfold textSet
  by_cases hL : L = []
  · rw [if_pos hL, hL]; unfold parseSet; rw [if_pos rfl]
  · rw [if_neg hL]
    obtain ⟨x, r, rfl⟩ := List.exists_cons_of_ne_nil hL
    have hs : splitC (joinT tS (x :: r)) = (x :: r).map tS := splitS_join x r
    have ho : ∀ y ∈ x :: r, okS y = true := fun y hy => by have := hc.mem hy; rw [okS_iff]; omega
    have hm : mapsP (splitC (joinT tS (x :: r))) = some (x :: r) := mapsP_iff.2 ⟨hs, ho⟩
    have hne : joinT tS (x :: r) ≠ noneT := fun e => by
      rw [e, split_none, mapsP, spanP_none] at hm
      cases hm
    rw [parseSet_maps hne, hm]
    simp only
    rw [if_pos (cano_self hc).symm]
def joinW : List (List UInt8) → List UInt8
  | [] => []
  | w :: r => w ++ r.flatMap fun y => 44 :: y
theorem join_split : ∀ (l : List UInt8), joinW (splitC l) = l
  | [] => rfl
  | c :: r => by
    have ih := join_split r
    have hne := splitC_ne r
    rw [splitC]
    by_cases h : c = 44
    · rw [if_pos h]
      obtain ⟨w, ws, e⟩ := List.exists_cons_of_ne_nil hne
      rw [e] at ih ⊢
      simp only [joinW, List.flatMap_cons, List.nil_append, List.cons_append] at ih ⊢
      rw [h, ih]
    · rw [if_neg h]
      obtain ⟨w, ws, e⟩ := List.exists_cons_of_ne_nil hne
      rw [e] at ih ⊢
      simp only [joinW, List.cons_append] at ih ⊢
      rw [ih]
/-- Whatever is parsed is a set's text. -/
theorem textSet_parse {l : List UInt8} {L : List (Int × Int)} (h : parseSet l = some L) : textSet L = l ∧ Canon L := by
  by_cases hl : l = noneT
  · unfold parseSet at h
    rw [if_pos hl] at h
    injection h with h; subst h
    exact ⟨by unfold textSet; rw [if_pos rfl, hl], Canon.nil⟩
  · unfold parseSet at h
    rw [if_neg hl] at h
    obtain ⟨M, h1, h2, h3⟩ := (runP_iff Canon.nil).1 h
    rw [List.nil_append] at h2; subst h2
    refine ⟨?_, h3⟩
    have h4 := (mapsP_iff.1 h1).1
    have hj := join_split l
    rw [h4] at hj
    have hne := splitC_ne l
    rw [h4] at hne
    unfold textSet
    cases L with
    | nil => simp at hne
    | cons x r =>
      rw [if_neg (by simp)]
      rw [← hj]
      unfold joinT joinW
      simp [List.flatMap_map]
theorem textSet_len {L : List (Int × Int)} (hc : Canon L) : (textSet L).length ≤ 4 + 101 * L.length := by
  unfold textSet
  by_cases hL : L = []
  · rw [if_pos hL]; simp [noneT]
  · rw [if_neg hL]
    have := joinT_length tS L (fun x hx => by have := (tS_len (x := x) (by have := hc.mem hx; rw [okS_iff]; omega)).2; omega)
    omega
end Go.Proofs.YtbphndihjdiiiaaGreatDoor
