/- Plain law of the tier: whose point on the ring comes first. The sort at points, laid at this dump. Words for slices of spans in memory, small laws on worlds, and the contracts of the two functions that tell whether a span may be. Contracts of the reference's functions that only read lists of spans: In, List, Len, First. Contracts of the sets' functions that only read: behind, Has, First, Holds, Len, Same. Contract of ranges.gather. Contracts of the reference's insert, ends and of: the pieces between all ends that are in a set. Contracts of the reference's ends and of. Contract of the reference's of: the spans of the bytes for which an operation of two sets says so. DERIVED: THE SHELF's CONTRACTS AT THIS DUMP, IN PLAIN WORDS (tools/lay-plain.mjs out of 'YtnlamjebgkgbaaaDoorShelf.lean', which tools/lay-shelf.mjs wrote): THE SAME DECLARATIONS UNDER THE SAME NAMES: 'import', 'namespace', 'open', 'def', 'theorem' AND NOTHING ELSE: no command of the shelf's: FOR A HAND-IN. Each laying: the table of numbers ('.._ren') and one theorem, a field a fact of the dump's own or the kernel's comparison; each contract: ONE APPLICATION. Contract of ranges.Of: the least list of the bytes of some spans. Contract of ranges.Of. Contracts of the builder's writing methods at this program. Contracts of the texts: of a span, of a set. Contract of a set's text. Contracts of the reference's Of, Or, And, Less; of Spans; of great. Contracts of spec's and the reference's functions on ranges that are asked: Right, All, Same, Spans, bytes. Plain laws of the texts of ranges: numbers, items, trimmed pieces. DERIVED: THE SHELF's CONTRACTS AT THIS DUMP, IN PLAIN WORDS (tools/lay-plain.mjs out of 'YtnlamjebgkgbaaaDoorShelf.lean', which tools/lay-shelf.mjs wrote): THE SAME DECLARATIONS UNDER THE SAME NAMES: 'import', 'namespace', 'open', 'def', 'theorem' AND NOTHING ELSE: no command of the shelf's: FOR A HAND-IN. Each laying: the table of numbers ('.._ren') and one theorem, a field a fact of the dump's own or the kernel's comparison; each contract: ONE APPLICATION. Contracts of the functions that read a range's text: number, Cut at '-', Trim of blanks, word, parse. Contract of spec's parse: the range of an item. Contracts of spec's word, and of Trim of blanks. Rows of ranges that are asked, of a call's own; append to them. Rows of points, and their sort. Contracts of the ring's small functions: the hash, what may be a name, the search of a place. The examples hold: wakes. -/
import Derived.Test.YtnlamjebgkgbaaaDoorJTierDowns1
import Derived.Laws.Strings
import Derived.Test.YtnlamjebgkgbaaaDoorProg
import Derived.Shelf.SlSortCmp.WholeK
import Derived.Shelf.SlSortCmp.NoneTotal
import Derived.Ground.SlsfProg
import Derived.Test.YtnlamjebgkgbaaaDoorRows
import Derived.WalkKit
import Derived.WalkSpells
import Derived.WalkLawsBesides
import Derived.Lib.Hide
import Derived.Deep.QuietTactic
import Derived.BigQuiet
import Derived.Deep.RegionHeld3
import Derived.Deep.DeepCutAuto
import Derived.Deep.LoopGhost
import Derived.Deep.Light
import Derived.Deep.AppendLies
import Derived.Laws.AppendOwnNone
import Derived.Maps.AppendAt
import Derived.RegionTactic
import Derived.OwnWalk
import Derived.IntWalk
import Derived.Shelf.Strings.Builder1
import Derived.Shelf.Small.Bits
import Derived.Shelf.Strconv.Itoa0
import Derived.Shelf.Strconv.Itoa1
import Derived.Shelf.LaysM
import Derived.Shelf.Strconv.Itoa2
import Derived.Shelf.Strconv.Itoa3
import Derived.Ground.SlgcProg
import Derived.Shelf.SlicesG.Cmp
import Derived.Lib.Builder
import Derived.Lib.AppendStr
import Derived.Lib.OthersKept
import Derived.Laws.Externs
import Derived.Lib.ItoaMem
import Derived.Laws.Concat
import Derived.Shelf.Strings.Trim
import Derived.Shelf.Strings.SlTrimAscii
import Derived.Shelf.Strings.Search1
import Derived.Shelf.Strings.Search2
import Derived.Shelf.Strings.Search3
import Derived.Outline
import Derived.Laws.Bits64
namespace Go.Proofs.YtnlamjebgkgbaaaDoor

theorem less_bytes : ∀ (x y : List UInt8), Op.bytesLess x y = decide (x < y)
  | [], [] => by simp [Op.bytesLess]
  | _ :: _, [] => by simp [Op.bytesLess]
  | [], _ :: _ => by simp [Op.bytesLess]
  | a :: x, b :: y => by
    have ih := less_bytes x y
    rw [Op.bytesLess, ih]
    simp only [List.cons_lt_cons_iff]
    by_cases h1 : a < b
    · simp [h1]
    · by_cases h2 : a = b <;> simp [h1, h2]
/-- A point: where it lies, and whose it is. -/
abbrev Pt := Nat × List UInt8
/-- Round the ring from a place on. -/
def rotL (L : List Pt) (k : Nat) : List Pt := L.drop k ++ L.take k
/-- One name more, if it is new, and there are to be more. -/
def ownStep (m : Nat) (out : List (List UInt8)) (x : Pt) : List (List UInt8) := if m ≤ out.length then out else if x.2 ∈ out then out else out ++ [x.2]
def ownersL (m : Nat) (R : List Pt) : List (List UInt8) := R.foldl (ownStep m) []
theorem ownStep_full {m : Nat} : ∀ {R : List Pt} {out : List (List UInt8)}, m ≤ out.length → R.foldl (ownStep m) out = out
  | [], _, _ => rfl
  | x :: R, out, h => by rw [List.foldl_cons, show ownStep m out x = out from if_pos h]; exact ownStep_full h
theorem ownersL_step {m k : Nat} {R : List Pt} (hk : k < R.length) : ownersL m (R.take (k + 1)) = ownStep m (ownersL m (R.take k)) R[k] := by
  unfold ownersL
  rw [List.take_succ_eq_append_getElem hk, List.foldl_append]; rfl
theorem ownersL_done {m k : Nat} {R : List Pt} (h : m ≤ (ownersL m (R.take k)).length) : ownersL m R = ownersL m (R.take k) := by
  conv => lhs; rw [← List.take_append_drop k R]
  unfold ownersL at *
  rw [List.foldl_append]; exact ownStep_full h
theorem nodup_le {α : Type} [DecidableEq α] : ∀ {a b : List α}, a.Nodup → (∀ x ∈ a, x ∈ b) → a.length ≤ b.length
  | [], _, _, _ => Nat.zero_le _
  | x :: a, b, hn, hs => by
    have hx : x ∈ b := hs x (List.mem_cons_self ..)
    have h1 := List.nodup_cons.1 hn
    have := nodup_le (a := a) (b := b.erase x) h1.2 (fun y hy => (List.mem_erase_of_ne (fun e => h1.1 (by rw [← e]; exact hy))).2 (hs y (List.mem_cons_of_mem _ hy)))
    rw [List.length_erase_of_mem hx] at this
    have hb : 0 < b.length := List.length_pos_of_mem hx
    simp only [List.length_cons]; omega
theorem ownStep_eq {m : Nat} {Ns out : List (List UInt8)} {x : Pt} (hN : Ns.length ≤ m) (hn : out.Nodup) (hs : ∀ y ∈ out, y ∈ Ns) (hx : x.2 ∈ Ns) : ownStep m out x = if x.2 ∈ out then out else out ++ [x.2] := by
  unfold ownStep
  by_cases h : x.2 ∈ out
  · rw [if_pos h]; split <;> rfl
  · rw [if_neg h]
    have : (x.2 :: out).length ≤ Ns.length := nodup_le (List.nodup_cons.2 ⟨h, hn⟩) (fun y hy => by
      rcases List.mem_cons.1 hy with rfl | hy
      · exact hx
      · exact hs y hy)
    simp only [List.length_cons] at this
    rw [if_neg (by omega)]
theorem nodup_snoc {α : Type} {l : List α} {x : α} (h : l.Nodup) (hx : x ∉ l) : (l ++ [x]).Nodup := by
  rw [List.nodup_append]
  refine ⟨h, by simp, fun a ha b hb => ?_⟩
  simp at hb; subst hb
  intro e; exact hx (e ▸ ha)
/-- The names in the order of their first points. -/
theorem own_spec {m : Nat} {Ns : List (List UInt8)} (hN : Ns.length ≤ m) (up : List UInt8 → Bool) : ∀ (R : List Pt) (out : List (List UInt8)), out.Nodup → (∀ y ∈ out, y ∈ Ns) → (∀ x ∈ R, x.2 ∈ Ns) →
    (R.foldl (ownStep m) out).Nodup ∧ (∀ y, y ∈ R.foldl (ownStep m) out ↔ y ∈ out ∨ ∃ x ∈ R, x.2 = y) ∧ (R.foldl (ownStep m) out).find? up = (out.find? up).or ((R.find? fun x => up x.2).map Prod.snd)
  | [], out, hn, _, _ => ⟨hn, fun y => by simp, by simp⟩
  | x :: R, out, hn, hs, hR => by
    have hx := hR x (List.mem_cons_self ..)
    have hR' : ∀ x ∈ R, x.2 ∈ Ns := fun y hy => hR y (List.mem_cons_of_mem _ hy)
    rw [List.foldl_cons, ownStep_eq hN hn hs hx]
    by_cases h : x.2 ∈ out
    · rw [if_pos h]
      obtain ⟨h1, h2, h3⟩ := own_spec hN up R out hn hs hR'
      refine ⟨h1, fun y => ?_, ?_⟩
      · rw [h2]
        constructor
        · rintro (h' | ⟨z, hz, e⟩)
          · exact .inl h'
          · exact .inr ⟨z, List.mem_cons_of_mem _ hz, e⟩
        · rintro (h' | ⟨z, hz, e⟩)
          · exact .inl h'
          · rcases List.mem_cons.1 hz with rfl | hz
            · exact .inl (e ▸ h)
            · exact .inr ⟨z, hz, e⟩
      · rw [h3, List.find?_cons]
        cases hu : up x.2 with
        | false => rfl
        | true =>
          cases hf : out.find? up with
          | some y => rfl
          | none =>
            have := List.find?_eq_none.1 hf x.2 h
            rw [hu] at this; exact absurd rfl this
    · rw [if_neg h]
      obtain ⟨h1, h2, h3⟩ := own_spec hN up R (out ++ [x.2]) (nodup_snoc hn h) (fun y hy => by
        rcases List.mem_append.1 hy with hy | hy
        · exact hs y hy
        · simp at hy; subst hy; exact hx) hR'
      refine ⟨h1, fun y => ?_, ?_⟩
      · rw [h2]
        constructor
        · rintro (h' | ⟨z, hz, e⟩)
          · rcases List.mem_append.1 h' with h' | h'
            · exact .inl h'
            · simp at h'; exact .inr ⟨x, List.mem_cons_self .., h'.symm⟩
          · exact .inr ⟨z, List.mem_cons_of_mem _ hz, e⟩
        · rintro (h' | ⟨z, hz, e⟩)
          · exact .inl (List.mem_append_left _ h')
          · rcases List.mem_cons.1 hz with rfl | hz
            · exact .inl (List.mem_append_right _ (by simp [e]))
            · exact .inr ⟨z, hz, e⟩
      · rw [h3, List.find?_append, List.find?_cons (a := x)]
        cases hf : out.find? up with
        | some y => simp
        | none =>
          cases hu : up x.2 <;> simp [hu]
/-- How far it is from a place to another one, round the ring. -/
def wayN (h a : Nat) : Nat := (a + 18446744073709551616 - h) % 18446744073709551616
def keyLe (h : Nat) (x y : Pt) : Prop := wayN h x.1 < wayN h y.1 ∨ (wayN h x.1 = wayN h y.1 ∧ ¬ y.2 < x.2)
def ptLe (x y : Pt) : Prop := x.1 < y.1 ∨ (x.1 = y.1 ∧ ¬ y.2 < x.2)
theorem wayN_ge {h a : Nat} (h1 : h ≤ a) (h2 : a < 18446744073709551616) : wayN h a = a - h := by unfold wayN; omega
theorem wayN_lt {h a : Nat} (h1 : a < h) (h2 : h < 18446744073709551616) : wayN h a = a + 18446744073709551616 - h := by unfold wayN; omega
theorem rot_sorted {L : List Pt} {h k : Nat} (hh : h < 18446744073709551616) (hb : ∀ x ∈ L, x.1 < 18446744073709551616) (hs : L.Pairwise ptLe) (h1 : ∀ x ∈ L.take k, x.1 < h) (h2 : ∀ x ∈ L.drop k, h ≤ x.1) : (rotL L k).Pairwise (keyLe h) := by
  unfold rotL
  rw [List.pairwise_append]
  refine ⟨?_, ?_, ?_⟩
  · refine List.Pairwise.imp_of_mem (fun {x y} hx hy hxy => ?_) (List.Pairwise.sublist (List.drop_sublist k L) hs)
    have a1 := h2 x hx; have a2 := h2 y hy
    have b1 := hb x (List.mem_of_mem_drop hx); have b2 := hb y (List.mem_of_mem_drop hy)
    unfold keyLe
    rw [wayN_ge a1 b1, wayN_ge a2 b2]
    rcases hxy with h' | ⟨h', h''⟩
    · exact .inl (by omega)
    · exact .inr ⟨by omega, h''⟩
  · refine List.Pairwise.imp_of_mem (fun {x y} hx hy hxy => ?_) (List.Pairwise.sublist (List.take_sublist k L) hs)
    have a1 := h1 x hx; have a2 := h1 y hy
    unfold keyLe
    rw [wayN_lt a1 hh, wayN_lt a2 hh]
    rcases hxy with h' | ⟨h', h''⟩
    · exact .inl (by omega)
    · exact .inr ⟨by omega, h''⟩
  · intro x hx y hy
    have a1 := h2 x hx; have a2 := h1 y hy
    have b1 := hb x (List.mem_of_mem_drop hx)
    unfold keyLe
    rw [wayN_ge a1 b1, wayN_lt a2 hh]
    exact .inl (by omega)
theorem keyLe_refl (h : Nat) (x : Pt) : keyLe h x x := .inr ⟨rfl, List.lt_irrefl x.2⟩
theorem find_least {R : List Pt} {h : Nat} {p : Pt → Bool} (hs : R.Pairwise (keyLe h)) {x : Pt} (hf : R.find? p = some x) : x ∈ R ∧ p x = true ∧ ∀ y ∈ R, p y = true → keyLe h x y := by
  refine ⟨List.mem_of_find?_eq_some hf, List.find?_some hf, ?_⟩
  induction R with
  | nil => simp at hf
  | cons z R ih =>
    intro y hy hp
    rw [List.find?_cons] at hf
    cases hz : p z with
    | true =>
      simp only [hz] at hf
      injection hf with hf; subst hf
      rcases List.mem_cons.1 hy with rfl | hy
      · exact keyLe_refl _ _
      · exact (List.pairwise_cons.1 hs).1 y hy
    | false =>
      simp only [hz] at hf
      rcases List.mem_cons.1 hy with rfl | hy
      · rw [hz] at hp; cases hp
      · exact ih (List.pairwise_cons.1 hs).2 hf y hy hp
/-- The shortest way of a name. -/
def LeastW (h : Nat) (R : List Pt) (n : List UInt8) (b : Nat) : Prop := (∃ x ∈ R, x.2 = n ∧ wayN h x.1 = b) ∧ ∀ x ∈ R, x.2 = n → b ≤ wayN h x.1
theorem LeastW.unique {h : Nat} {R : List Pt} {n : List UInt8} {b c : Nat} (p : LeastW h R n b) (q : LeastW h R n c) : b = c := by
  obtain ⟨⟨x, hx, hxn, hxb⟩, h1⟩ := p
  obtain ⟨⟨y, hy, hyn, hyb⟩, h2⟩ := q
  have := h1 y hy hyn
  have := h2 x hx hxn
  omega
/-- That one is least of those that are up: by the points, and by the names' own ways. -/
theorem least_eq {h : Nat} {R : List Pt} {up : List UInt8 → Bool} {W : List UInt8 → Nat} (hW : ∀ x ∈ R, LeastW h R x.2 (W x.2)) {x : Pt} {b : List UInt8}
    (hx : x ∈ R) (hxu : up x.2 = true) (hl : ∀ y ∈ R, up y.2 = true → keyLe h x y)
    (hb : ∃ y ∈ R, y.2 = b) (hbu : up b = true) (hbl : ∀ y ∈ R, up y.2 = true → W b < W y.2 ∨ (W b = W y.2 ∧ ¬ y.2 < b)) : x.2 = b := by
  obtain ⟨y, hy, rfl⟩ := hb
  obtain ⟨⟨z, hz, hzn, hzw⟩, hzl⟩ := hW y hy
  obtain ⟨⟨u, hu, hun, huw⟩, hul⟩ := hW x hx
  have h1 := hl z hz (by rw [hzn]; exact hbu)
  have h2 := hbl x hx hxu
  have h3 := hl u hu (by rw [hun]; exact hxu)
  have h4 := hul x hx rfl
  have e : wayN h x.1 = W x.2 := by
    rcases h3 with h3 | ⟨h3, _⟩ <;> omega
  rcases h1 with h1 | ⟨h1, h1'⟩
  · rcases h2 with h2 | ⟨h2, _⟩ <;> omega
  · rcases h2 with h2 | ⟨h2, h2'⟩
    · omega
    · rw [hzn] at h1'
      exact List.le_antisymm (List.not_lt.1 h1') (List.not_lt.1 h2')
end Go.Proofs.YtnlamjebgkgbaaaDoor
namespace Go.Proofs
open Go.Shelf
def Tryd.sortPt_ren : Go.Shelf.Ren := ⟨fun | 6 => 44 | 15 => 57 | 14 => 56 | 28 => 71 | 29 => 72 | 20 => 63 | 21 => 64 | 22 => 65 | 23 => 66 | 24 => 67 | 25 => 68 | 26 => 69 | 27 => 70 | 46 => 79 | 47 => 80 | 48 => 81 | 49 => 82 | 50 => 83 | 57 => 88 | n => n, fun | 22 => 89 | 24 => 92 | 25 => 111 | 3 => 3 | 39 => 112 | 0 => 0 | 53 => 137 | 55 => 90 | 4 => 4 | 46 => 131 | 45 => 130 | 50 => 33 | 5 => 5 | 9 => 9 | 66 => 148 | 70 => 152 | 76 => 158 | 77 => 159 | n => n, fun | n => n⟩
theorem Tryd.sortPt : Go.Proofs.SlLaysF0.n6 Tryd.prog Tryd.sortPt_ren := {
  mixed := by kernel_rfl
  f6 := ⟨Tryd.f44.name, by decide, Tryd.func44.trans (congrArg some (by kernel_rfl))⟩
  f14 := ⟨Tryd.f56.name, by decide, Tryd.func56.trans (congrArg some (by kernel_rfl))⟩
  f15 := Tryd.func57.trans (congrArg some (by kernel_rfl))
  f20 := ⟨Tryd.f63.name, by decide, Tryd.func63.trans (congrArg some (by kernel_rfl))⟩
  f21 := ⟨Tryd.f64.name, by decide, Tryd.func64.trans (congrArg some (by kernel_rfl))⟩
  f22 := ⟨Tryd.f65.name, by decide, Tryd.func65.trans (congrArg some (by kernel_rfl))⟩
  f23 := ⟨Tryd.f66.name, by decide, Tryd.func66.trans (congrArg some (by kernel_rfl))⟩
  f24 := ⟨Tryd.f67.name, by decide, Tryd.func67.trans (congrArg some (by kernel_rfl))⟩
  f25 := ⟨Tryd.f68.name, by decide, Tryd.func68.trans (congrArg some (by kernel_rfl))⟩
  f26 := ⟨Tryd.f69.name, by decide, Tryd.func69.trans (congrArg some (by kernel_rfl))⟩
  f27 := ⟨Tryd.f70.name, by decide, Tryd.func70.trans (congrArg some (by kernel_rfl))⟩
  f28 := Tryd.func71.trans (congrArg some (by kernel_rfl))
  f29 := Tryd.func72.trans (congrArg some (by kernel_rfl))
  f46 := ⟨Tryd.f79.name, by decide, Tryd.func79.trans (congrArg some (by kernel_rfl))⟩
  f47 := Tryd.func80.trans (congrArg some (by kernel_rfl))
  f48 := Tryd.func81.trans (congrArg some (by kernel_rfl))
  f49 := ⟨Tryd.f82.name, by decide, Tryd.func82.trans (congrArg some (by kernel_rfl))⟩
  f50 := ⟨Tryd.f83.name, by decide, Tryd.func83.trans (congrArg some (by kernel_rfl))⟩
  f57 := ⟨Tryd.f88.name, by decide, Tryd.func88.trans (congrArg some (by kernel_rfl))⟩
  t0 := Tryd.underlying0
  a0 := Tryd.isAgg0
  z0 := Tryd.sizeOf0
  v0 := Tryd.zeroValue0
  t3 := Tryd.underlying3
  a3 := Tryd.isAgg3
  z3 := Tryd.sizeOf3
  v3 := Tryd.zeroValue3
  t4 := Tryd.underlying4
  a4 := Tryd.isAgg4
  z4 := Tryd.sizeOf4
  v4 := Tryd.zeroValue4
  t5 := Tryd.underlying5
  a5 := Tryd.isAgg5
  z5 := Tryd.sizeOf5
  v5 := Tryd.zeroValue5
  t9 := Tryd.underlying9
  a9 := Tryd.isAgg9
  z9 := Tryd.sizeOf9
  v9 := Tryd.zeroValue9
  t22 := Tryd.underlying89
  a22 := Tryd.isAgg89
  z22 := Tryd.sizeOf89
  v22 := Tryd.zeroValue89
  t25 := Tryd.underlying111
  a25 := Tryd.isAgg111
  z25 := Tryd.sizeOf111
  v25 := Tryd.zeroValue111
  t39 := Tryd.underlying112
  a39 := Tryd.isAgg112
  z39 := Tryd.sizeOf112
  v39 := Tryd.zeroValue112
  t45 := Tryd.underlying130
  a45 := Tryd.isAgg130
  z45 := Tryd.sizeOf130
  v45 := Tryd.zeroValue130
  t46 := Tryd.underlying131
  a46 := Tryd.isAgg131
  z46 := Tryd.sizeOf131
  v46 := Tryd.zeroValue131
  t50 := Tryd.underlying33
  a50 := Tryd.isAgg33
  z50 := Tryd.sizeOf33
  v50 := Tryd.zeroValue33
  t53 := Tryd.underlying137
  a53 := Tryd.isAgg137
  z53 := Tryd.sizeOf137
  v53 := Tryd.zeroValue137
  t55 := Tryd.underlying90
  a55 := Tryd.isAgg90
  z55 := Tryd.sizeOf90
  v55 := Tryd.zeroValue90
  t66 := Tryd.underlying148
  a66 := Tryd.isAgg148
  z66 := Tryd.sizeOf148
  v66 := Tryd.zeroValue148
  t70 := Tryd.underlying152
  a70 := Tryd.isAgg152
  z70 := Tryd.sizeOf152
  v70 := Tryd.zeroValue152
  t76 := Tryd.underlying158
  a76 := Tryd.isAgg158
  z76 := Tryd.sizeOf158
  v76 := Tryd.zeroValue158
  t77 := Tryd.underlying159
  a77 := Tryd.isAgg159
  z77 := Tryd.sizeOf159
  v77 := Tryd.zeroValue159 }
end Go.Proofs
namespace Go.Proofs.YtnlamjebgkgbaaaDoor
open Go.RowKit

theorem ret_bool {a b : Bool} (h : a = b) : Ending.returned (.bool a) = .returned (.bool b) := by rw [h]
theorem ret_int {k : IntKind} {a b : Int} (h : a = b) : Ending.returned (.int k a) = .returned (.int k b) := by rw [h]

theorem ret_span {a b a' b' : Int} {t : Bool} (h : a = a') (h' : b = b') : Ending.returned (.tuple #[.agg #[.int .i64 a, .int .i64 b], .bool t]) = .returned (.tuple #[.agg #[.int .i64 a', .int .i64 b'], .bool t]) := by rw [h, h']

theorem bcell {W w1 : World} (hb : Below W.heap.size W w1) : (∀ b o, b < W.heap.size → w1.cell? ⟨b, o, none⟩ = W.cell? ⟨b, o, none⟩) ∧ (∀ b o, b < W.heap.size → w1.frozen? ⟨b, o, none⟩ = W.frozen? ⟨b, o, none⟩) :=
  ⟨fun b o h => hb.cell (p := ⟨b, o, none⟩) h, fun b o h => hb.frozen (p := ⟨b, o, none⟩) h⟩
theorem bel_chain {w W w' : World} (hb : Below W.heap.size W w') (h : Below w.heap.size w W) : Below w.heap.size w w' := h.trans (hb.mono h.size)
theorem bel_alloc {w W : World} (h : Below w.heap.size w W) (o : Obj) : Below w.heap.size w (W.alloc o) := h.alloc h.size o
theorem bel_set {w W : World} {p : Addr} (h : Below w.heap.size w W) (hp : w.heap.size ≤ p.block) (u : Value) : Below w.heap.size w (W.setCell p u) := h.setCell hp u
theorem bel_drew {w W : World} (h : Below w.heap.size w W) : Below w.heap.size w W.drew := h.drew
theorem bel_drewN {w W : World} (h : Below w.heap.size w W) (n : Nat) : Below w.heap.size w (W.drewN n) := ⟨h.os, h.tape, h.output, h.size, h.block⟩
theorem heap_drew' (w : World) : w.drew.heap = w.heap := rfl
theorem cell_drew' (w : World) (a : Addr) : w.drew.cell? a = w.cell? a := rfl
theorem heap_drewN' (w : World) (n : Nat) : (w.drewN n).heap = w.heap := rfl
theorem cell_drewN' (w : World) (n : Nat) (a : Addr) : (w.drewN n).cell? a = w.cell? a := rfl

theorem cell_old {w W : World} {b o : Nat} {v : Value} (hb : b < w.heap.size) (hB : Below w.heap.size w W) (h : w.cell? ⟨b, o, none⟩ = some v) : W.cell? ⟨b, o, none⟩ = some v := (hB.cell (p := ⟨b, o, none⟩) hb).trans h

theorem cell_keep {W w' : World} {b o : Nat} {v : Value} (hb : Below W.heap.size W w') (h : W.cell? ⟨b, o, none⟩ = some v) : w'.cell? ⟨b, o, none⟩ = some v := (hb.cell (p := ⟨b, o, none⟩) (World.block_lt_of_cell? W ⟨b, o, none⟩ h)).trans h

/-- The cells of a list of spans. -/
def spCells (L : List (Int × Int)) : List Value := L.flatMap fun x => [.int .i64 x.1, .int .i64 x.2]
theorem spCells_nil : spCells [] = [] := rfl
theorem spCells_append (a b : List (Int × Int)) : spCells (a ++ b) = spCells a ++ spCells b := by simp [spCells]
theorem spCells_cons (x : Int × Int) (L : List (Int × Int)) : spCells (x :: L) = .int .i64 x.1 :: .int .i64 x.2 :: spCells L := rfl
theorem spCells_one (x : Int × Int) : spCells [x] = [.int .i64 x.1, .int .i64 x.2] := rfl
theorem spCells_length (L : List (Int × Int)) : (spCells L).length = L.length * 2 := by
  induction L with
  | nil => rfl
  | cons x L ih => rw [spCells_cons]; simp [ih]; omega
theorem spCells_even (L : List (Int × Int)) : ∀ (i : Nat) (x : Int × Int), L[i]? = some x → (spCells L)[2 * i]? = some (.int .i64 x.1) ∧ (spCells L)[2 * i + 1]? = some (.int .i64 x.2) := by
  induction L with
  | nil => intro i x h; simp at h
  | cons y L ih =>
    intro i x h
    cases i with
    | zero => simp at h; subst h; exact ⟨rfl, rfl⟩
    | succ i =>
      simp at h
      have := ih i x h
      rw [spCells_cons]
      have e1 : 2 * (i + 1) = (2 * i) + 1 + 1 := by omega
      have e2 : 2 * (i + 1) + 1 = (2 * i + 1) + 1 + 1 := by omega
      rw [e1]
      exact ⟨by simpa using this.1, by simpa using this.2⟩

/-- A slice that reads as a list of spans; it lies in blocks that are there. -/
structure Sp (w : World) (A : Option Addr) (c : Nat) (L : List (Int × Int)) : Prop where
  le : L.length ≤ c
  nil_ : A = none → c = 0
  at' : 0 < L.length → ∃ b off, A = some ⟨b, off, none⟩ ∧ b < w.heap.size ∧ ∀ i x, L[i]? = some x → w.cell? ⟨b, off + i * 2, none⟩ = some (.int .i64 x.1) ∧ w.cell? ⟨b, off + i * 2 + 1, none⟩ = some (.int .i64 x.2)

section
variable {w w' : World} {A : Option Addr} {c : Nat} {L : List (Int × Int)}
theorem Sp.nil (w : World) : Sp w none 0 [] := ⟨Nat.le_refl _, fun _ => rfl, fun h => by simp at h⟩
theorem Sp.keep (h : Sp w A c L) (hs : w.heap.size ≤ w'.heap.size) (hk : ∀ b o, b < w.heap.size → w'.cell? ⟨b, o, none⟩ = w.cell? ⟨b, o, none⟩) : Sp w' A c L :=
  ⟨h.le, h.nil_, fun hn => by
    obtain ⟨b, off, e, hb, hc⟩ := h.at' hn
    exact ⟨b, off, e, by omega, fun i x hx => by rw [hk _ _ hb, hk _ _ hb]; exact hc i x hx⟩⟩
theorem Sp.below (h : Sp w A c L) (hb : Below w.heap.size w w') : Sp w' A c L := h.keep hb.size fun _ _ hp => hb.cell hp
theorem Sp.drew (h : Sp w A c L) : Sp w.drew A c L := ⟨h.le, h.nil_, h.at'⟩
theorem Sp.drewN (h : Sp w A c L) (n : Nat) : Sp (w.drewN n) A c L := ⟨h.le, h.nil_, h.at'⟩
theorem Sp.alloc (h : Sp w A c L) (o : Obj) : Sp (w.alloc o) A c L := h.below (bel_alloc (Below.refl _ _) o)
/-- What the walk asks at place k. -/
theorem Sp.at_ (h : Sp w A c L) {k : Nat} (hk : k < L.length) : ∃ b off, A = some ⟨b, off, none⟩ ∧ b < w.heap.size ∧ w.cell? ⟨b, off + k * 2, none⟩ = some (.int .i64 (L[k]).1) ∧ w.cell? ⟨b, off + k * 2 + 1, none⟩ = some (.int .i64 (L[k]).2) := by
  obtain ⟨b, off, e, hb, hc⟩ := h.at' (by omega)
  have := hc k L[k] (List.getElem?_eq_getElem hk)
  exact ⟨b, off, e, hb, this.1, this.2⟩
/-- A row of the call's own is such a slice. -/
theorem Sp.of_own {base e : Nat} {n : Nat} (h : w.ownsRow base e 2 (.slice A n c) n (spCells L)) : Sp w A c L ∧ n = L.length := by
  have hn : n = L.length := by have := h.1; rw [spCells_length] at this; omega
  refine ⟨?_, hn⟩
  rcases h.2 with ⟨hv, h0⟩ | ⟨g, cap, cur, hv, hb, hg, hnc, hcm, hcs, htake⟩
  · subst h0
    have hc : c = 0 := by injection hv
    exact ⟨by omega, fun _ => hc, fun h => by omega⟩
  · have hA : A = some ⟨g, 0, none⟩ := by injection hv
    have hc : c = cap := by injection hv
    subst hA hc
    refine ⟨by omega, (fun e => by cases e), fun _ => ⟨g, 0, rfl, (Array.getElem?_eq_some_iff.1 hg).1, fun i x hx => ?_⟩⟩
    have hcell := h.cells (g := g) rfl
    have hadd : ∀ j, (⟨g, 0, none⟩ : Addr).add j = ⟨g, j, none⟩ := fun j => by unfold Addr.add; split <;> simp_all
    have := spCells_even L i x hx
    have e1 := hcell _ _ this.1
    have e2 := hcell _ _ this.2
    rw [hadd] at e1 e2
    refine ⟨?_, ?_⟩
    · rw [show 0 + i * 2 = 2 * i from by omega]; exact e1
    · rw [show 0 + i * 2 + 1 = 2 * i + 1 from by omega]; exact e2
/-- The cells, one by one, from the slice's address on. -/
theorem Sp.cells (h : Sp w A c L) {ad : Addr} (hA : A = some ad) : ∀ j u, (spCells L)[j]? = some u → w.cell? (ad.add j) = some u := by
  intro j u hu
  have hj : j < (spCells L).length := by
    rcases Nat.lt_or_ge j (spCells L).length with h1 | h1
    · exact h1
    · rw [List.getElem?_eq_none h1] at hu; cases hu
  rw [spCells_length] at hj
  obtain ⟨b, off, e, hb, hc⟩ := h.at' (by omega)
  rw [hA] at e
  injection e with e
  subst e
  have hadd : ∀ j, (⟨b, off, none⟩ : Addr).add j = ⟨b, off + j, none⟩ := fun j => by unfold Addr.add; split <;> simp_all
  rw [hadd]
  obtain ⟨i, hi⟩ : ∃ i, j = 2 * i ∨ j = 2 * i + 1 := ⟨j / 2, by omega⟩
  have hil : i < L.length := by omega
  have hce := spCells_even L i _ (List.getElem?_eq_getElem hil)
  have hcc := hc i _ (List.getElem?_eq_getElem hil)
  rcases hi with rfl | rfl
  · rw [hce.1] at hu
    injection hu with hu
    rw [← hu, Nat.mul_comm 2 i]
    exact hcc.1
  · rw [hce.2] at hu
    injection hu with hu
    rw [← hu, Nat.mul_comm 2 i, ← Nat.add_assoc]
    exact hcc.2
end

/-- A block's cells, by their places. -/
def CellsAt (w : World) (g : Nat) (cs : Array Value) : Prop := g < w.heap.size ∧ ∀ i, w.cell? ⟨g, i, none⟩ = cs[i]?
theorem CellsAt.keep {W w' : World} {g : Nat} {cs : Array Value} (h : CellsAt W g cs) (hb : Below W.heap.size W w') : CellsAt w' g cs :=
  ⟨Nat.lt_of_lt_of_le h.1 hb.size, fun i => (hb.cell (p := ⟨g, i, none⟩) h.1).trans (h.2 i)⟩

/- Whether a span may be. -/
set_option maxHeartbeats 400000 in
theorem right_any (f t : Int) (w : World) :
    Calls Tryd.prog 27 #[.agg #[.int .i64 f, .int .i64 t]] w fun e w' => e = .returned (.bool (okS (f, t))) ∧ w.alloc (.cells #[.int .i64 f, .int .i64 t] 54) = w' := by
  go_enter Tryd.func27, Tryd.ntmps27
  go_wp2
  all_goals
    go_ret
    refine ⟨ret_bool ?_, rfl⟩
    unfold okS
    rw [Bool.eq_iff_iff]; simp; try omega

end Go.Proofs.YtnlamjebgkgbaaaDoor
namespace Go.Proofs.YtnlamjebgkgbaaaDoor
open Go.RowKit

theorem take_eq_step {a b : List (Int × Int)} {k : Nat} (ha : k < a.length) (hb : k < b.length) (h : a.take k = b.take k) (e : a[k] = b[k]) : a.take (k + 1) = b.take (k + 1) := by
  rw [List.take_succ_eq_append_getElem ha, List.take_succ_eq_append_getElem hb, h, e]
theorem ne_of_at {a b : List (Int × Int)} {k : Nat} (ha : k < a.length) (hb : k < b.length) (e : a[k] ≠ b[k]) : decide (a = b) = false := by
  simp only [decide_eq_false_iff_not]
  rintro rfl
  exact e rfl

/-- What First answers. -/
def FirstPost (L : List (Int × Int)) (p : Int) (w : World) (e : Ending) (w' : World) : Prop :=
  e = .returned (.tuple #[.agg #[.int .i64 ((firstL L p).getD (0, 0)).1, .int .i64 ((firstL L p).getD (0, 0)).2], .bool (firstL L p).isSome]) ∧ Below w.heap.size w w'

end Go.Proofs.YtnlamjebgkgbaaaDoor
namespace Go.Proofs.YtnlamjebgkgbaaaDoor
open Go.RowKit

end Go.Proofs.YtnlamjebgkgbaaaDoor
namespace Go.Proofs.YtnlamjebgkgbaaaDoor
open Go.RowKit

theorem Tryd.spanInfo : (Tryd.prog.info? 54).map (fun i => (i.zero, i.size, i.bytes)) = some (some (.agg #[.int .i64 0, .int .i64 0]), 2, 16) := by kernel_rfl

/-- A row of spans of the call's own. -/
def Own (w : World) (base : Nat) (A : Option Addr) (c : Nat) (L : List (Int × Int)) : Prop := w.ownsRow base 54 2 (.slice A L.length c) L.length (spCells L)
theorem Own.nil (w : World) (base : Nat) : Own w base none 0 [] := World.ownsRow_nil w base _ _
theorem Own.sp {w : World} {base : Nat} {A : Option Addr} {c : Nat} {L : List (Int × Int)} (h : Own w base A c L) : Sp w A c L := (Sp.of_own h).1
theorem Own.at_ {w : World} {base : Nat} {A : Option Addr} {c : Nat} {L : List (Int × Int)} (h : Own w base A c L) (hn : 0 < L.length) : ∃ g, A = some ⟨g, 0, none⟩ ∧ base ≤ g ∧ g < w.heap.size := by
  obtain ⟨g, cap, hv, hb, hlt⟩ := World.ownsRow.form h hn
  injection hv with hA
  exact ⟨g, hA, hb, hlt⟩
theorem spCells_set {i : List (Int × Int)} {l : Int × Int} {t : Int} : (spCells (i ++ [l])).set (i.length * 2 + 1) (.int .i64 t) = spCells (i ++ [(l.1, t)]) := by
  rw [spCells_append, spCells_append, List.set_append, if_neg (by rw [spCells_length]; omega), spCells_length, show i.length * 2 + 1 - i.length * 2 = 1 from by omega]
  rfl

/-- It hands back a row of spans of its own. -/
def RetSp (L : List (Int × Int)) (w : World) (e : Ending) (w' : World) : Prop := ∃ A c, e = .returned (.slice A L.length c) ∧ Own w' w.heap.size A c L ∧ Below w.heap.size w w'
/-- It hands back a set. -/
def RetSet (L : List (Int × Int)) (w : World) (e : Ending) (w' : World) : Prop := ∃ A c, e = .returned (.agg #[.slice A L.length c]) ∧ Sp w' A c L ∧ Below w.heap.size w w'
theorem Own.alloc {w : World} {base : Nat} {A : Option Addr} {c : Nat} {L : List (Int × Int)} (h : Own w base A c L) (o : Obj) : Own (w.alloc o) base A c L := World.ownsRow.alloc h o
theorem Own.drew {w : World} {base : Nat} {A : Option Addr} {c : Nat} {L : List (Int × Int)} (h : Own w base A c L) : Own w.drew base A c L := World.ownsRow.drew h
theorem Own.drewN {w : World} {base : Nat} {A : Option Addr} {c : Nat} {L : List (Int × Int)} (h : Own w base A c L) (n : Nat) : Own (w.drewN n) base A c L := h
theorem Own.below {w w' : World} {base : Nat} {A : Option Addr} {c : Nat} {L : List (Int × Int)} (h : Own w base A c L) (hb : Below w.heap.size w w') : Own w' base A c L :=
  World.ownsRow.kept (row := none) h ⟨hb.os, hb.tape, hb.output, hb.size, fun k hk _ => hb.block k hk⟩ (by cases A <;> simp [Value.ownBlock])
theorem Own.base_le {w : World} {base base' : Nat} {A : Option Addr} {c : Nat} {L : List (Int × Int)} (h : Own w base A c L) (hb : base' ≤ base) : Own w base' A c L := by
  refine ⟨h.1, ?_⟩
  rcases h.2 with h2 | ⟨g, cap, cur, hv, hg, r⟩
  · exact .inl h2
  · exact .inr ⟨g, cap, cur, hv, by omega, r⟩

theorem Own.setTo {w : World} {base g c : Nat} {i : List (Int × Int)} {l : Int × Int} (t : Int) (h : Own w base (some ⟨g, 0, none⟩) c (i ++ [l])) : Own (w.setCell ⟨g, i.length * 2 + 1, none⟩ (.int .i64 t)) base (some ⟨g, 0, none⟩) c (i ++ [(l.1, t)]) := by
  have h1 := (World.ownsRow.stored h (i.length * 2 + 1) (.int .i64 t)).1
  rw [spCells_set] at h1
  have e1 : (i ++ [l]).length = (i ++ [(l.1, t)]).length := by simp
  unfold Own
  rw [← e1]
  exact h1
theorem max_ite (a b : Int) : (if a < b then b else a) = max a b := by split <;> omega

theorem cell_new0 (W : World) (x y : Value) (t : TypeId) : (W.alloc (.cells #[x, y] t)).cell? ⟨W.heap.size, 0, none⟩ = some x := by simp [go_sem]
theorem cell_new1 (W : World) (x y : Value) (t : TypeId) : (W.alloc (.cells #[x, y] t)).cell? ⟨W.heap.size, 1, none⟩ = some y := by simp [go_sem]
end Go.Proofs.YtnlamjebgkgbaaaDoor
namespace Go.Proofs.YtnlamjebgkgbaaaDoor
open Go.RowKit

/-- A slice of numbers that reads as a list. -/
def SpI (w : World) (A : Option Addr) (c : Nat) (l : List Int) : Prop :=
  l.length ≤ c ∧ (0 < l.length → ∃ b off, A = some ⟨b, off, none⟩ ∧ b < w.heap.size ∧ ∀ i x, l[i]? = some x → w.cell? ⟨b, off + i, none⟩ = some (.int .i64 x))
theorem SpI.below {w w' : World} {A : Option Addr} {c : Nat} {l : List Int} (h : SpI w A c l) (hb : Below w.heap.size w w') : SpI w' A c l :=
  ⟨h.1, fun hn => by
    obtain ⟨b, off, e, hlt, hc⟩ := h.2 hn
    exact ⟨b, off, e, Nat.lt_of_lt_of_le hlt hb.size, fun i x hx => (hb.cell (p := ⟨b, off + i, none⟩) hlt).trans (hc i x hx)⟩⟩
theorem SpI.at_ {w : World} {A : Option Addr} {c : Nat} {l : List Int} (h : SpI w A c l) {k : Nat} (hk : k < l.length) : ∃ b off, A = some ⟨b, off, none⟩ ∧ b < w.heap.size ∧ w.cell? ⟨b, off + k, none⟩ = some (.int .i64 l[k]) := by
  obtain ⟨b, off, e, hb, hc⟩ := h.2 (by omega)
  exact ⟨b, off, e, hb, hc k _ (List.getElem?_eq_getElem hk)⟩
/-- A row of numbers of the call's own. -/
def OwnI (w : World) (base : Nat) (A : Option Addr) (c : Nat) (l : List Int) : Prop := w.ownsRow base 2 1 (.slice A l.length c) l.length (l.map (Value.int .i64))
theorem OwnI.nil (w : World) (base : Nat) : OwnI w base none 0 [] := World.ownsRow_nil w base _ _
theorem OwnI.alloc {w : World} {base : Nat} {A : Option Addr} {c : Nat} {l : List Int} (h : OwnI w base A c l) (o : Obj) : OwnI (w.alloc o) base A c l := World.ownsRow.alloc h o
theorem OwnI.drewN {w : World} {base : Nat} {A : Option Addr} {c : Nat} {l : List Int} (h : OwnI w base A c l) (n : Nat) : OwnI (w.drewN n) base A c l := h
theorem OwnI.drew {w : World} {base : Nat} {A : Option Addr} {c : Nat} {l : List Int} (h : OwnI w base A c l) : OwnI w.drew base A c l := World.ownsRow.drew h
theorem OwnI.below {w w' : World} {base : Nat} {A : Option Addr} {c : Nat} {l : List Int} (h : OwnI w base A c l) (hb : Below w.heap.size w w') : OwnI w' base A c l :=
  World.ownsRow.kept (row := none) h ⟨hb.os, hb.tape, hb.output, hb.size, fun k hk _ => hb.block k hk⟩ (by cases A <;> simp [Value.ownBlock])
theorem OwnI.base_le {w : World} {base base' : Nat} {A : Option Addr} {c : Nat} {l : List Int} (h : OwnI w base A c l) (hb : base' ≤ base) : OwnI w base' A c l := by
  refine ⟨h.1, ?_⟩
  rcases h.2 with h2 | ⟨g, cap, cur, hv, hg, r⟩
  · exact .inl h2
  · exact .inr ⟨g, cap, cur, hv, by omega, r⟩
theorem OwnI.spi {w : World} {base : Nat} {A : Option Addr} {c : Nat} {l : List Int} (h : OwnI w base A c l) : SpI w A c l := by
  rcases h.2 with ⟨hv, h0⟩ | ⟨g, cap, cur, hv, hb, hg, hnc, hcm, hcs, htake⟩
  · exact ⟨by omega, fun h => by omega⟩
  · have hA : A = some ⟨g, 0, none⟩ := by injection hv
    have hc : c = cap := by injection hv
    subst hA hc
    refine ⟨hnc, fun _ => ⟨g, 0, rfl, (Array.getElem?_eq_some_iff.1 hg).1, fun i x hx => ?_⟩⟩
    have := World.ownsRow.cells h (g := g) rfl i (.int .i64 x) (by simp [hx])
    have hadd : ∀ j, (⟨g, 0, none⟩ : Addr).add j = ⟨g, j, none⟩ := fun j => by unfold Addr.add; split <;> simp_all
    rw [hadd] at this
    simpa using this
theorem OwnI.at_ {w : World} {base : Nat} {A : Option Addr} {c : Nat} {l : List Int} (h : OwnI w base A c l) (hn : 0 < l.length) : ∃ g, A = some ⟨g, 0, none⟩ ∧ base ≤ g ∧ g < w.heap.size := by
  obtain ⟨g, cap, hv, hb, hlt⟩ := World.ownsRow.form h hn
  injection hv with hA
  exact ⟨g, hA, hb, hlt⟩
theorem OwnI.cell {w : World} {base g c : Nat} {l : List Int} (h : OwnI w base (some ⟨g, 0, none⟩) c l) {k : Nat} (hk : k < l.length) : w.cell? ⟨g, k, none⟩ = some (.int .i64 l[k]) := by
  rw [World.ownsRow.cellAt h k (by omega)]
  simp [hk]
/-- Rows of spans and rows of numbers lie in different blocks. -/
theorem own_ne {w : World} {base base' c c' g' : Nat} {A : Option Addr} {L : List (Int × Int)} {l : List Int} (h : Own w base A c L) (h' : OwnI w base' (some ⟨g', 0, none⟩) c' l) : (Value.slice A L.length c).ownBlock ≠ some g' := by
  rcases h.2 with ⟨hv, _⟩ | ⟨g, cap, cur, hv, _, hg, _⟩
  · injection hv with hA
    subst hA
    simp [Value.ownBlock]
  · injection hv with hA
    subst hA
    intro e
    have hgg : g = g' := by simpa [Value.ownBlock] using e
    subst hgg
    rcases h'.2 with ⟨hv', _⟩ | ⟨g2, cap2, cur2, hv', _, hg2, _⟩
    · cases hv'
    · injection hv' with hA'
      injection hA' with hA'
      injection hA' with hA'
      subst hA'
      rw [hg] at hg2
      injection hg2 with hg2
      injection hg2 with _ ht
      exact absurd ht (by decide)
theorem OwnI.kept {w w' : World} {base g c : Nat} {l : List Int} {row : Option Nat} (h : OwnI w base (some ⟨g, 0, none⟩) c l) (hg : w.grownBy w' row) (hne : row ≠ some g) : OwnI w' base (some ⟨g, 0, none⟩) c l :=
  World.ownsRow.kept h hg (.inr (fun e => hne (by rw [← e]; rfl)))
theorem OwnI.set {w : World} {base g c b o : Nat} {l : List Int} (h : OwnI w base (some ⟨g, 0, none⟩) c l) (hne : b ≠ g) (u : Value) : OwnI (w.setCell ⟨b, o, none⟩ u) base (some ⟨g, 0, none⟩) c l :=
  h.kept (row := some b) ⟨rfl, rfl, rfl, by simp, fun k _ hk => heap_setCell_other w ⟨b, o, none⟩ k u (fun e => hk (by simp [e]))⟩ (fun e => hne (by injection e))
/-- It hands back a row of numbers of its own. -/
def RetI (l : List Int) (w : World) (e : Ending) (w' : World) : Prop := ∃ A c, e = .returned (.slice A l.length c) ∧ OwnI w' w.heap.size A c l ∧ Below w.heap.size w w'

theorem Tryd.intInfo : (Tryd.prog.info? 2).map (fun i => (i.zero, i.size, i.bytes)) = some (some (.int .i64 0), 1, 8) := by kernel_rfl

/-- How far the insertion has come: what is out, and what is still to come. -/
def insRest (put : Bool) (r : List Int) (n : Int) : List Int := if put = true then r else insertL r n
theorem drop_cons {l : List Int} {k : Nat} (h : k < l.length) : l.drop k = l[k] :: l.drop (k + 1) := List.drop_eq_getElem_cons h

end Go.Proofs.YtnlamjebgkgbaaaDoor
namespace Go.Proofs.YtnlamjebgkgbaaaDoor
open Go.RowKit

theorem estep_yes {out : List Int} {x : Int × Int} (h : okS x = true) : estep out x = insertL (insertL out x.1) x.2 := by simp [estep, h]
theorem estep_no {out : List Int} {x : Int × Int} (h : okS x = false) : estep out x = out := by simp [estep, h]

theorem opB1 (x y : Bool) : opB 1 x y = (x || y) := by simp [opB]
theorem opB2 (x y : Bool) : opB 2 x y = (x && y) := by simp [opB]
theorem opB3 (x y : Bool) : opB 3 x y = (x && !y) := by simp [opB]
theorem getD_at {E : List Int} {k : Nat} (h : k < E.length) : E.getD k 0 = E[k] := by rw [List.getD_eq_getElem?_getD, List.getElem?_eq_getElem h]; rfl

end Go.Proofs.YtnlamjebgkgbaaaDoor
namespace Go.Proofs.YtnlamjebgkgbaaaDoor
open Go.RowKit

end Go.Proofs.YtnlamjebgkgbaaaDoor
namespace Go.Proofs
open Go.Shelf
def Tryd.lays246_ren : Go.Shelf.Ren := ⟨fun | 246 => 62 | 283 => 75 | 284 => 76 | 285 => 77 | 286 => 78 | 129 => 72 | 317 => 84 | 318 => 85 | 319 => 86 | 320 => 87 | 337 => 89 | 338 => 90 | n => n, fun | 2 => 2 | 3 => 3 | 9 => 9 | 4 => 4 | 171 => 144 | 0 => 0 | 53 => 90 | 37 => 104 | 5 => 5 | 173 => 146 | 212 => 156 | 51 => 137 | 20 => 20 | 213 => 157 | 46 => 112 | 232 => 161 | 233 => 162 | n => n, fun | 17 => 2 | 18 => 3 | 19 => 4 | n => n⟩
theorem Tryd.lays246 : Go.Proofs.Lays.n246 Tryd.prog Tryd.lays246_ren := {
  mixed := by kernel_rfl
  f129 := Tryd.func72.trans (congrArg some (by kernel_rfl))
  f246 := Tryd.func62.trans (congrArg some (by kernel_rfl))
  f283 := Tryd.func75.trans (congrArg some (by kernel_rfl))
  f284 := Tryd.func76.trans (congrArg some (by kernel_rfl))
  f285 := Tryd.func77.trans (congrArg some (by kernel_rfl))
  f286 := Tryd.func78.trans (congrArg some (by kernel_rfl))
  f317 := Tryd.func84.trans (congrArg some (by kernel_rfl))
  f318 := Tryd.func85.trans (congrArg some (by kernel_rfl))
  f319 := Tryd.func86.trans (congrArg some (by kernel_rfl))
  f320 := Tryd.func87.trans (congrArg some (by kernel_rfl))
  f337 := Tryd.func89.trans (congrArg some (by kernel_rfl))
  f338 := Tryd.func90.trans (congrArg some (by kernel_rfl))
  t0 := Tryd.underlying0
  a0 := Tryd.isAgg0
  z0 := Tryd.sizeOf0
  v0 := Tryd.zeroValue0
  t2 := Tryd.underlying2
  a2 := Tryd.isAgg2
  z2 := Tryd.sizeOf2
  v2 := Tryd.zeroValue2
  t3 := Tryd.underlying3
  a3 := Tryd.isAgg3
  z3 := Tryd.sizeOf3
  v3 := Tryd.zeroValue3
  t4 := Tryd.underlying4
  a4 := Tryd.isAgg4
  z4 := Tryd.sizeOf4
  v4 := Tryd.zeroValue4
  t5 := Tryd.underlying5
  a5 := Tryd.isAgg5
  z5 := Tryd.sizeOf5
  v5 := Tryd.zeroValue5
  t9 := Tryd.underlying9
  a9 := Tryd.isAgg9
  z9 := Tryd.sizeOf9
  v9 := Tryd.zeroValue9
  t20 := Tryd.underlying20
  a20 := Tryd.isAgg20
  z20 := Tryd.sizeOf20
  v20 := Tryd.zeroValue20
  t37 := Tryd.underlying104
  a37 := Tryd.isAgg104
  z37 := Tryd.sizeOf104
  v37 := Tryd.zeroValue104
  t46 := Tryd.underlying112
  a46 := Tryd.isAgg112
  z46 := Tryd.sizeOf112
  v46 := Tryd.zeroValue112
  t51 := Tryd.underlying137
  a51 := Tryd.isAgg137
  z51 := Tryd.sizeOf137
  v51 := Tryd.zeroValue137
  t53 := Tryd.underlying90
  a53 := Tryd.isAgg90
  z53 := Tryd.sizeOf90
  v53 := Tryd.zeroValue90
  t171 := Tryd.underlying144
  a171 := Tryd.isAgg144
  z171 := Tryd.sizeOf144
  v171 := Tryd.zeroValue144
  t173 := Tryd.underlying146
  a173 := Tryd.isAgg146
  z173 := Tryd.sizeOf146
  v173 := Tryd.zeroValue146
  t212 := Tryd.underlying156
  a212 := Tryd.isAgg156
  z212 := Tryd.sizeOf156
  v212 := Tryd.zeroValue156
  t213 := Tryd.underlying157
  a213 := Tryd.isAgg157
  z213 := Tryd.sizeOf157
  t232 := Tryd.underlying161
  a232 := Tryd.isAgg161
  z232 := Tryd.sizeOf161
  v232 := Tryd.zeroValue161
  t233 := Tryd.underlying162
  a233 := Tryd.isAgg162
  z233 := Tryd.sizeOf162
  v233 := Tryd.zeroValue162
  g17 := by kernel_rfl
  g18 := by kernel_rfl
  g19 := by kernel_rfl }
open Go.RowKit Go.Sort Go.Lib in
/-- THE ROAD WITHOUT THE TABLE: 0 <= i < 100: two constants are read, nothing is laid: no premise on the world, and the world is as it was. (LAID: no walk: one application.) -/
theorem Tryd.internal_strconv_FormatInt_10_small (i : Nat) (hi : i < 100) (w : World) :
    Calls Tryd.prog 62 #[.int .i64 i, .int .i64 10] w fun e w' => e = .returned (.string ⟨(Lib.decDigits i).toArray⟩) ∧ w' = w := Any.internal_strconv_FormatInt_10_small Tryd.lays246 i hi w
end Go.Proofs
namespace Go.Proofs.YtnlamjebgkgbaaaDoor
open Go.RowKit Go.Shelf Go.Sort

def encSp (x : Int × Int) : List Value := [.int .i64 x.1, .int .i64 x.2]
def cfSp (x y : Int × Int) : Int := Lib.compareInt x.1 y.1
theorem ltSp (x y : Int × Int) : ltOf cfSp x y = decide (x.1 < y.1) := by
  unfold ltOf cfSp Lib.compareInt
  by_cases h1 : x.1 < y.1
  · simp [h1]
  · by_cases h2 : y.1 < x.1 <;> simp [h1, h2]
theorem swoSp : SWO (ltOf cfSp) where
  irrefl x := by rw [ltSp]; simp
  trans x y z h1 h2 := by rw [ltSp] at *; simp at *; omega
  ntrans x y z h1 h2 := by rw [ltSp] at *; simp at *; omega

theorem grownBy_sortedK {w : World} {g n : Nat} {os : Array Obj} (d : Array (Int × Int)) : w.grownBy (sortWorldK encSp 2 w g 0 n d os) (some g) := by
  unfold sortWorldK putRowK
  refine ⟨rfl, rfl, rfl, by simp, fun k hk hne => ?_⟩
  rw [heap_grow_old _ _ (by simpa using hk)]
  have : g ≠ k := fun e => hne (by rw [e])
  simp [putRow, mapBlock, Sort.ahead, Array.getElem?_modify, this]
/-- A row of spans of the call's own, as the sort takes it. -/
theorem Own.holdsK {w : World} {base g c : Nat} {L : List (Int × Int)} (h : Own w base (some ⟨g, 0, none⟩) c L) : HoldsK encSp 2 w g 0 L.toArray := by
  intro j hj
  simp at hj
  have hc := World.ownsRow.cellAt h j (by omega)
  refine ⟨?_, World.ownsRow.frozenAt h _ |> fun hf => by simpa using hf⟩
  rw [Nat.zero_add, hc, get_flatK _ _ _ _ (by simpa using hj)]
  have hi : j / 2 < L.length := by omega
  have he := spCells_even L (j / 2) L[j / 2] (List.getElem?_eq_getElem hi)
  have e1 : (L.toArray)[j / 2]! = L[j / 2] := by simp [hi]
  rw [e1]
  obtain ⟨x, hx⟩ : ∃ x, L[j / 2] = x := ⟨_, rfl⟩
  rw [hx] at he ⊢
  rcases Nat.mod_two_eq_zero_or_one j with hm | hm
  · have e2 : 2 * (j / 2) = j := by omega
    rw [e2] at he
    rw [hm, he.1]; rfl
  · have e2 : 2 * (j / 2) + 1 = j := by omega
    rw [e2] at he
    rw [hm, he.2]; rfl
theorem sp_sorted {w : World} {base g c n : Nat} {L : List (Int × Int)} {d' : Array (Int × Int)} {os : Array Obj} (h : Own w base (some ⟨g, 0, none⟩) c L) (hg : g < w.heap.size) (hs : d'.size = L.length) : Sp (sortWorldK encSp 2 w g 0 n d' os) (some ⟨g, 0, none⟩) c d'.toList := by
  have hK : HoldsK encSp 2 (sortWorldK encSp 2 w g 0 n d' os) g 0 d' := by
    unfold sortWorldK
    refine holdsK_grow _ _ _ _ _ _ _ (by simp [putRowK, Sort.ahead]; exact hg) ?_
    exact holdsK_putRowK _ _ (Sort.ahead w n) g 0 L.toArray d' (holdsK_ahead _ _ _ _ _ _ _ h.holdsK) (by simp [hs])
  have hle := (Own.sp h).le
  refine ⟨by simp; omega, (fun e => by cases e), fun _ => ⟨g, 0, rfl, ?_, fun i x hx => ?_⟩⟩
  · unfold sortWorldK; simp [putRowK, Sort.ahead]; omega
  · have hi : i < d'.size := by
      rcases Nat.lt_or_ge i d'.toList.length with h1 | h1
      · simpa using h1
      · rw [List.getElem?_eq_none h1] at hx; cases hx
    have hx' : d'[i]! = x := by
      rw [List.getElem?_eq_getElem (by simpa using hi)] at hx
      injection hx with hx
      simp only [Array.getElem_toList] at hx
      rw [getElem!_pos _ i hi, hx]
    have a0 := (hK (i * 2) (by simp; omega)).1
    have a1 := (hK (i * 2 + 1) (by simp; omega)).1
    rw [get_flatK _ _ _ _ (by omega)] at a0 a1
    rw [show i * 2 / 2 = i from by omega, show i * 2 % 2 = 0 from by omega, hx'] at a0
    rw [show (i * 2 + 1) / 2 = i from by omega, show (i * 2 + 1) % 2 = 1 from by omega, hx'] at a1
    exact ⟨a0, a1⟩

/-- What the sort leaves: a slice of the same spans that rise by their beginnings. -/
def SortPost (A : Option Addr) (c : Nat) (L : List (Int × Int)) (w0 : World) (e : Ending) (w' : World) : Prop :=
  e = .returned (.tuple #[]) ∧ ∃ M : List (Int × Int), M.Perm L ∧ Rising M ∧ Sp w' A c M ∧ Below w0.heap.size w0 w'
end Go.Proofs.YtnlamjebgkgbaaaDoor
namespace Go.Proofs.YtnlamjebgkgbaaaDoor
open Go.RowKit

theorem goodS_split (f t : Int) : goodS (f, t) = (okS (f, t) && decide (f < t)) := rfl

end Go.Proofs.YtnlamjebgkgbaaaDoor
namespace Go.Proofs.YtnlamjebgkgbaaaDoor
open Go.RowKit

theorem ownsRow_kind {w : World} {B : Nat} {e : TypeId} {v : Value} {n : Nat} {xs : List Value} (h : w.ownsRow B e 1 v n xs) : ∀ g, v.ownBlock = some g → ∃ c fz, w.heap[g]? = some (.cells c e fz) := by
  intro g hg
  rcases h.2 with ⟨rfl, _⟩ | ⟨g', cap, cur, rfl, _, hgg, _⟩
  · simp [Value.ownBlock] at hg
  · simp [Value.ownBlock] at hg
    subst hg
    exact ⟨cur, _, hgg⟩
/-- A builder stays one. -/
theorem builder_below {T e : TypeId} {B b : Nat} {bs : List Value} {w w' : World} (h : Lib.IsBuilder T e B b bs w) (hb : Below w.heap.size w w') : Lib.IsBuilder T e B b bs w' := by
  have aux : ∀ p, Lib.BuilderAt T e B b p bs w → Lib.BuilderAt T e B b p bs w' := by
    rintro p ⟨hB, v, hbk, hown, hne⟩
    have hlt : b < w.heap.size := Lib.BuilderAt.lt ⟨hB, v, hbk, hown, hne⟩
    refine ⟨hB, v, (hb.block b hlt).trans hbk, ?_, hne⟩
    exact World.ownsRow.kept (row := none) hown ⟨hb.os, hb.tape, hb.output, hb.size, fun k hk _ => hb.block k hk⟩ (by cases hv : v.ownBlock <;> simp)
  exact h.elim (fun x => .inl (aux _ x)) (fun x => .inr (aux _ x))
theorem Tryd.infoByte : (Tryd.prog.info? 5).map (fun i => (i.zero, i.size, i.bytes)) = some (some (.int .u8 0), 1, 1) := by kernel_rfl

end Go.Proofs.YtnlamjebgkgbaaaDoor
namespace Go.Proofs.YtnlamjebgkgbaaaDoor
open Go.RowKit

/-- The text of a set, out of the texts of its spans. -/
def joinT (tx : Int × Int → List UInt8) : List (Int × Int) → List UInt8
  | [] => []
  | x :: L => tx x ++ L.flatMap fun y => 44 :: tx y
theorem joinT_nil (tx) : joinT tx [] = [] := rfl
theorem joinT_snoc (tx) (L : List (Int × Int)) (y : Int × Int) : joinT tx (L ++ [y]) = if L.length = 0 then tx y else joinT tx L ++ 44 :: tx y := by
  cases L with
  | nil => simp [joinT]
  | cons x L => simp [joinT]
theorem joinT_length (tx) (L : List (Int × Int)) (h : ∀ x ∈ L, (tx x).length ≤ 100) : (joinT tx L).length ≤ 101 * L.length := by
  cases L with
  | nil => simp [joinT]
  | cons x L =>
    have h1 := h x (by simp)
    have h2 : ∀ M : List (Int × Int), (∀ y ∈ M, (tx y).length ≤ 100) → (M.flatMap fun y => 44 :: tx y).length ≤ 101 * M.length := by
      intro M
      induction M with
      | nil => intro _; simp
      | cons y M ih =>
        intro hM
        have a := hM y (by simp)
        have b := ih (fun z hz => hM z (by simp [hz]))
        simp only [List.flatMap_cons, List.length_append, List.length_cons] at b ⊢
        omega
    have h3 := h2 L (fun y hy => h y (by simp [hy]))
    simp only [joinT, List.length_append, List.length_cons]
    omega

/-- A span's text, out of its numbers' texts. -/
def spT (nt : Int → List UInt8) (x : Int × Int) : List UInt8 := if x.2 = 4611686018427387904 ∧ x.1 ≠ 4611686018427387904 then nt x.1 ++ [45] else nt x.1 ++ [45] ++ nt x.2

theorem str_app (a b : List UInt8) : (⟨a.toArray⟩ : ByteArray) ++ ⟨b.toArray⟩ = ⟨(a ++ b).toArray⟩ := by
  apply ByteArray.ext
  simp

end Go.Proofs.YtnlamjebgkgbaaaDoor
namespace Go.Proofs.YtnlamjebgkgbaaaDoor
open Go.RowKit

end Go.Proofs.YtnlamjebgkgbaaaDoor
namespace Go.Proofs.YtnlamjebgkgbaaaDoor
open Go.RowKit

theorem RetSp.of {L : List (Int × Int)} {w : World} {A : Option Addr} {c : Nat} {w' : World} (h : Own w' w.heap.size A c L) (hb : Below w.heap.size w w') : RetSp L w (.returned (.slice A L.length c)) w' := ⟨A, c, rfl, h, hb⟩

/-- The slices of a list in a row. -/
def RowSl (w : World) (g : Nat) (S : List (Option Addr × Nat × Nat)) : Prop := ∀ i x, S[i]? = some x → w.cell? ⟨g, i, none⟩ = some (.slice x.1 x.2.1 x.2.2)
def greatL (S : List (Option Addr × Nat × Nat)) : Bool := S.any fun x => decide (20 < x.2.1)

end Go.Proofs.YtnlamjebgkgbaaaDoor
namespace Go.Proofs.YtnlamjebgkgbaaaDoor
open Go.RowKit

theorem allR_step {L : List (Int × Int)} {k : Nat} (h : k < L.length) (h1 : allR (L.take k) = true) (h2 : rightR L[k] = true) : allR (L.take (k + 1)) = true := by
  unfold allR at *
  rw [List.take_succ_eq_append_getElem h, List.all_append, h1]; simpa using h2
theorem allR_no {L : List (Int × Int)} {k : Nat} (h : k < L.length) (h2 : rightR L[k] = false) : allR L = false := by
  unfold allR
  rw [List.all_eq_false]
  exact ⟨L[k], List.getElem_mem h, by simp [h2]⟩
/-- What a range has of so many bytes, and whether that is any. -/
def BytesPost (n : Int) (x : Int × Int) (w : World) (e : Ending) (w' : World) : Prop :=
  e = .returned (.tuple #[.agg #[.int .i64 (spanOf n x).1, .int .i64 (spanOf n x).2], .bool (hasS (spanOf n x))]) ∧ Below w.heap.size w w'
theorem bytes_mk {n : Int} {x : Int × Int} {a b : Int} {t : Bool} {w w' : World} (h : spanOf n x = (a, b)) (ht : t = decide (a < b)) (hb : Below w.heap.size w w') : BytesPost n x w (.returned (.tuple #[.agg #[.int .i64 a, .int .i64 b], .bool t])) w' :=
  ⟨by rw [h, ht]; rfl, hb⟩
end Go.Proofs.YtnlamjebgkgbaaaDoor
namespace Go.Proofs.YtnlamjebgkgbaaaDoor

def digB (c : UInt8) : Bool := decide (48 ≤ c.toNat) && decide (c.toNat ≤ 57)
/-- The number of digits, a number being at hand already. -/
def numFrom (acc : Int) : List UInt8 → Option Int
  | [] => some acc
  | c :: r => if digB c = true then numFrom (acc * 10 + ((c.toNat : Int) - 48)) r else none
/-- The number of 1 to 18 digits. -/
def numL (l : List UInt8) : Option Int := if l.length < 1 ∨ 18 < l.length then none else numFrom 0 l
theorem numFrom_step {acc : Int} {l : List UInt8} {k : Nat} (h : k < l.length) : numFrom acc (l.drop k) = if digB l[k] = true then numFrom (acc * 10 + ((l[k].toNat : Int) - 48)) (l.drop (k + 1)) else none := by
  rw [List.drop_eq_getElem_cons h, numFrom]
theorem numFrom_range : ∀ (l : List UInt8) (acc x : Int), 0 ≤ acc → numFrom acc l = some x → 0 ≤ x ∧ x < (acc + 1) * 10 ^ l.length
  | [], acc, x, h0, h => by simp [numFrom] at h; subst h; simp; omega
  | c :: r, acc, x, h0, h => by
    rw [numFrom] at h
    split at h
    · rename_i hd
      simp [digB] at hd
      have hc : 0 ≤ (c.toNat : Int) - 48 ∧ (c.toNat : Int) - 48 ≤ 9 := by omega
      have h1 := numFrom_range r _ x (by omega) h
      refine ⟨h1.1, Int.lt_of_lt_of_le h1.2 ?_⟩
      have hp : (0 : Int) ≤ 10 ^ r.length := Int.le_of_lt (Int.pow_pos (by decide))
      rw [List.length_cons, Int.pow_succ]
      have h2 : acc * 10 + ((c.toNat : Int) - 48) + 1 ≤ (acc + 1) * 10 := by omega
      calc (acc * 10 + ((c.toNat : Int) - 48) + 1) * 10 ^ r.length ≤ ((acc + 1) * 10) * 10 ^ r.length := Int.mul_le_mul_of_nonneg_right h2 hp
        _ = (acc + 1) * (10 ^ r.length * 10) := by rw [Int.mul_assoc, Int.mul_comm 10]
    · cases h
theorem numL_range {l : List UInt8} {x : Int} (h : numL l = some x) : 0 ≤ x ∧ x ≤ 999999999999999999 := by
  unfold numL at h
  split at h
  · cases h
  · rename_i hl
    have h1 := numFrom_range l 0 x (by omega) h
    have hl' : l.length ≤ 18 := by omega
    have hp : (10 : Int) ^ l.length ≤ 10 ^ 18 := by
      have := Nat.pow_le_pow_right (n := 10) (by decide) hl'
      exact_mod_cast this
    have : (10 : Int) ^ 18 = 1000000000000000000 := by decide
    rw [this] at hp
    omega
theorem numL_nil : numL [] = none := rfl
/-- What is ahead of, and behind, the first '-'. -/
def cutD : List UInt8 → Option (List UInt8 × List UInt8)
  | [] => none
  | c :: r => if c = 45 then some ([], r) else (cutD r).map fun p => (c :: p.1, p.2)
theorem cutD_none : ∀ {l : List UInt8}, (∀ c ∈ l, c ≠ 45) → cutD l = none
  | [], _ => rfl
  | c :: r, h => by
    rw [cutD, if_neg (h c (List.mem_cons_self ..)), cutD_none (fun d hd => h d (List.mem_cons_of_mem _ hd))]; rfl
theorem cutD_some : ∀ {a b : List UInt8}, (∀ c ∈ a, c ≠ 45) → cutD (a ++ 45 :: b) = some (a, b)
  | [], b, _ => by simp [cutD]
  | c :: a, b, h => by
    rw [List.cons_append, cutD, if_neg (h c (List.mem_cons_self ..)), cutD_some (fun d hd => h d (List.mem_cons_of_mem _ hd))]; rfl
/-- The range of an item without blanks. -/
def itemL (l : List UInt8) : Option (Int × Int) :=
  match cutD l with
  | none => none
  | some ([], b) => (numL b).map fun y => (-1, y)
  | some (c :: a, []) => (numL (c :: a)).map fun x => (x, -1)
  | some (c :: a, d :: b) => match numL (c :: a), numL (d :: b) with
    | some x, some y => if x ≤ y then some (x, y) else none
    | _, _ => none
theorem itemL_right {l : List UInt8} {x : Int × Int} (h : itemL l = some x) : rightR x = true := by
  unfold itemL at h
  split at h
  · cases h
  · rename_i b _
    cases hb : numL b with
    | none => rw [hb] at h; cases h
    | some y =>
      rw [hb] at h; simp at h; subst h
      have := numL_range hb
      rw [rightR_iff]; exact ⟨(by decide : (-1 : Int) ≤ 999999999999999999), this.2, .inl ⟨rfl, this.1⟩⟩
  · rename_i c a _
    cases hb : numL (c :: a) with
    | none => rw [hb] at h; cases h
    | some y =>
      rw [hb] at h; simp at h; subst h
      have := numL_range hb
      rw [rightR_iff]; exact ⟨this.2, (by decide : (-1 : Int) ≤ 999999999999999999), .inr ⟨this.1, .inl rfl⟩⟩
  · rename_i c a d b _
    cases hb : numL (c :: a) with
    | none => rw [hb] at h; simp at h
    | some y =>
      cases hb2 : numL (d :: b) with
      | none => rw [hb, hb2] at h; simp at h
      | some z =>
        rw [hb, hb2] at h
        simp at h
        obtain ⟨h1, rfl⟩ := h
        have := numL_range hb
        have := numL_range hb2
        rw [rightR_iff]; simp only; omega
/-- A text's pieces, parted at commas. -/
def splitC : List UInt8 → List (List UInt8)
  | [] => [[]]
  | c :: r => if c = 44 then [] :: splitC r else
    match splitC r with
    | [] => [[c]]
    | p :: q => (c :: p) :: q
theorem splitC_ne (l : List UInt8) : splitC l ≠ [] := by
  cases l with
  | nil => simp [splitC]
  | cons c r =>
    rw [splitC]
    split
    · simp
    · split <;> simp
theorem splitC_none : ∀ {l : List UInt8}, (∀ c ∈ l, c ≠ 44) → splitC l = [l]
  | [], _ => rfl
  | c :: r, h => by
    rw [splitC, if_neg (h c (List.mem_cons_self ..)), splitC_none (fun d hd => h d (List.mem_cons_of_mem _ hd))]
theorem splitC_some : ∀ {a b : List UInt8}, (∀ c ∈ a, c ≠ 44) → splitC (a ++ 44 :: b) = a :: splitC b
  | [], b, _ => by simp [splitC]
  | c :: a, b, h => by
    rw [List.cons_append, splitC, if_neg (h c (List.mem_cons_self ..)), splitC_some (fun d hd => h d (List.mem_cons_of_mem _ hd))]
theorem splitC_length : ∀ (l : List UInt8), (splitC l).length ≤ l.length + 1
  | [] => by simp [splitC]
  | c :: r => by
    have := splitC_length r
    rw [splitC]
    split
    · simp; omega
    · split
      · simp
      · rename_i p q h; rw [h] at this; simp at this ⊢; omega
def blankB (c : UInt8) : Bool := c == 32 || c == 9
def trimL (l : List UInt8) : List UInt8 := (l.reverse.dropWhile blankB).reverse.dropWhile blankB
/-- The items that are no blanks. -/
def itemsL (ps : List (List UInt8)) : List (List UInt8) := (ps.map trimL).filter fun p => !p.isEmpty
/-- The ranges of items; none: one of them is none's. -/
def rangesL : List (List UInt8) → Option (List (Int × Int))
  | [] => some []
  | p :: r => match itemL p, rangesL r with
    | some x, some y => some (x :: y)
    | _, _ => none
theorem rangesL_snoc : ∀ (ps : List (List UInt8)) (p : List UInt8), rangesL (ps ++ [p]) = match rangesL ps, itemL p with | some y, some x => some (y ++ [x]) | _, _ => none
  | [], p => by simp [rangesL]; cases itemL p <;> rfl
  | q :: r, p => by
    rw [List.cons_append, rangesL, rangesL_snoc r p, rangesL]
    cases itemL q <;> cases rangesL r <;> cases itemL p <;> rfl
theorem rangesL_append (a b : List (List UInt8)) (h : rangesL a = none) : rangesL (a ++ b) = none := by
  induction a with
  | nil => simp [rangesL] at h
  | cons p r ih =>
    rw [List.cons_append, rangesL]
    rw [rangesL] at h
    cases hp : itemL p with
    | none => rfl
    | some x =>
      rw [hp] at h
      cases hr : rangesL r with
      | none => rw [ih hr]
      | some y => rw [hr] at h; cases h
/-- The word that stands ahead of the ranges, whatever its letters' size. -/
def lowB (c : UInt8) : UInt8 := if 65 ≤ c.toNat ∧ c.toNat ≤ 90 then c + 32 else c
def headB (l : List UInt8) : Bool := decide (6 ≤ l.length) && decide ((l.take 6).map lowB = [98, 121, 116, 101, 115, 61])
/-- The ranges of a value, and the number of what is wrong. -/
def parseL (l : List UInt8) : List (Int × Int) × Int :=
  if headB l = true then
    match rangesL (itemsL (splitC (l.drop 6))) with
    | none => ([], 2)
    | some [] => ([], 2)
    | some (x :: r) => if 64 < (x :: r).length then ([], 4) else (x :: r, 0)
  else ([], 2)
end Go.Proofs.YtnlamjebgkgbaaaDoor
namespace Go.Proofs
open Go.Shelf
end Go.Proofs
namespace Go.Proofs.YtnlamjebgkgbaaaDoor
open Go.RowKit

theorem ba_list (s : ByteArray) : s = ⟨s.data.toList.toArray⟩ := by cases s; simp
theorem ba_size (l : List UInt8) : (⟨l.toArray⟩ : ByteArray).size = l.length := List.size_toArray ..
theorem pow_le17 {k : Nat} (h : k ≤ 17) : (10 : Int) ^ k ≤ 100000000000000000 := by
  have h1 := Nat.pow_le_pow_right (n := 10) (by decide) h
  have h2 : (10 : Int) ^ 17 = 100000000000000000 := by decide
  have h3 : (10 : Int) ^ k ≤ 10 ^ 17 := by exact_mod_cast h1
  omega
theorem dig_toNat {c : UInt8} (h : digB c = true) : 48 ≤ c.toNat ∧ c.toNat ≤ 57 := by simpa [digB] using h
end Go.Proofs.YtnlamjebgkgbaaaDoor
/- Contracts of Cut at '-' and of spec's parse. -/
namespace Go.Proofs.YtnlamjebgkgbaaaDoor
open Go.RowKit

theorem index_cases (c : UInt8) : ∀ l : List UInt8, (Lib.indexByte l c = -1 ∧ ∀ d ∈ l, d ≠ c) ∨ ∃ k : Nat, Lib.indexByte l c = k ∧ k < l.length ∧ l = l.take k ++ c :: l.drop (k + 1) ∧ ∀ d ∈ l.take k, d ≠ c
  | [] => .inl ⟨rfl, fun _ h => by cases h⟩
  | b :: r => by
    by_cases hb : b = c
    · subst hb
      exact .inr ⟨0, by simp [Lib.indexByte], by simp, by simp, by simp⟩
    · have hb' : (b == c) = false := by simpa using hb
      rcases index_cases c r with ⟨h1, h2⟩ | ⟨k, h1, h2, h3, h4⟩
      · refine .inl ⟨by rw [Lib.indexByte, hb', h1]; rfl, fun d hd => ?_⟩
        rcases List.mem_cons.1 hd with rfl | hd
        · exact hb
        · exact h2 d hd
      · refine .inr ⟨k + 1, ?_, by simp; omega, by simp only [List.take_succ_cons, List.drop_succ_cons, List.cons_append]; rw [← h3], fun d hd => ?_⟩
        · rw [Lib.indexByte, hb', h1]
          have : ((k : Int) == -1) = false := by rw [beq_eq_false_iff_ne]; omega
          rw [this]; simp
        · rw [List.take_succ_cons] at hd
          rcases List.mem_cons.1 hd with rfl | hd
          · exact hb
          · exact h4 d hd
theorem ba_ext {a b : ByteArray} (h : a.data.toList = b.data.toList) : a = b := by
  obtain ⟨⟨a⟩⟩ := a
  obtain ⟨⟨b⟩⟩ := b
  simp at h
  subst h
  rfl
theorem ex_take (s : ByteArray) (k : Nat) : s.extract 0 k = ⟨(s.data.toList.take k).toArray⟩ := ba_ext (by simp [ByteArray.data_extract])
theorem ex_drop (s : ByteArray) (k : Nat) : s.extract k s.size = ⟨(s.data.toList.drop k).toArray⟩ := ba_ext (by
  rw [ByteArray.data_extract, Array.toList_extract]
  show List.take (s.data.size - k) (List.drop k s.data.toList) = _
  rw [List.take_of_length_le (by simp)])
theorem ret_cut {a a' b b' : ByteArray} {t : Bool} (h : a = a') (h' : b = b') : Ending.returned (.tuple #[.string a, .string b, .bool t]) = .returned (.tuple #[.string a', .string b', .bool t]) := by rw [h, h']
/-- What Cut hands back. -/
def CutPost (l : List UInt8) (w : World) (e : Ending) (w' : World) : Prop :=
  ∃ a b : List UInt8, ∃ t : Bool, e = .returned (.tuple #[.string ⟨a.toArray⟩, .string ⟨b.toArray⟩, .bool t]) ∧ cutD l = (if t = true then some (a, b) else none) ∧ Below w.heap.size w w'
end Go.Proofs.YtnlamjebgkgbaaaDoor
namespace Go.Proofs.YtnlamjebgkgbaaaDoor
open Go.RowKit

/-- What parse hands back. -/
def ParsePost (l : List UInt8) (w : World) (e : Ending) (w' : World) : Prop :=
  ∃ a b : Int, e = .returned (.tuple #[.agg #[.int .i64 a, .int .i64 b], .bool (itemL l).isSome]) ∧ (∀ x, itemL l = some x → x = (a, b)) ∧ Below w.heap.size w w'
theorem parse_no {l : List UInt8} {w w' : World} {a b : Int} (h : itemL l = none) (hb : Below w.heap.size w w') : ParsePost l w (.returned (.tuple #[.agg #[.int .i64 a, .int .i64 b], .bool false])) w' :=
  ⟨a, b, by rw [h]; rfl, (fun x hx => by rw [h] at hx; cases hx), hb⟩
theorem parse_yes {l : List UInt8} {w w' : World} {a b : Int} {t : Bool} (h : itemL l = if t = true then some (a, b) else none) (hb : Below w.heap.size w w') : ParsePost l w (.returned (.tuple #[.agg #[.int .i64 a, .int .i64 b], .bool t])) w' := by
  cases t
  · exact parse_no h hb
  · exact ⟨a, b, by rw [h]; rfl, (fun x hx => by rw [h] at hx; simp at hx; exact hx.symm), hb⟩
theorem cutD_len : ∀ {l a b : List UInt8}, cutD l = some (a, b) → a.length ≤ l.length ∧ b.length ≤ l.length
  | [], _, _, h => by cases h
  | c :: r, a, b, h => by
    rw [cutD] at h
    split at h
    · simp at h; obtain ⟨rfl, rfl⟩ := h; simp
    · cases hr : cutD r with
      | none => rw [hr] at h; cases h
      | some p =>
        rw [hr] at h
        simp at h
        obtain ⟨rfl, rfl⟩ := h
        have := cutD_len (a := p.1) (b := p.2) (l := r) (by rw [hr])
        simp; omega
theorem two_set {w : World} {g : Nat} {x y : Value} (h0 : w.cell? ⟨g, 0, none⟩ = some x) (h1 : w.cell? ⟨g, 1, none⟩ = some y) (u v : Value) :
    ((w.setCell ⟨g, 0, none⟩ u).setCell ⟨g, 1, none⟩ v).cell? ⟨g, 0, none⟩ = some u ∧ ((w.setCell ⟨g, 0, none⟩ u).setCell ⟨g, 1, none⟩ v).cell? ⟨g, 1, none⟩ = some v := by
  have l1 : g < w.heap.size := World.block_lt_of_cell? w ⟨g, 0, none⟩ h0
  exact ⟨by simp [go_sem, h0, l1], by simp [go_sem, h1, l1]⟩
/-- What the two cells of the result hold, behind one new block and behind two. -/
theorem two_read {w : World} {g : Nat} {x y : Value} (h0 : w.cell? ⟨g, 0, none⟩ = some x) (h1 : w.cell? ⟨g, 1, none⟩ = some y) :
    (∀ u v o, (((w.setCell ⟨g, 0, none⟩ u).setCell ⟨g, 1, none⟩ v).alloc o).cell? ⟨g, 0, none⟩ = some u) ∧ (∀ u v o, (((w.setCell ⟨g, 0, none⟩ u).setCell ⟨g, 1, none⟩ v).alloc o).cell? ⟨g, 1, none⟩ = some v) ∧
    (∀ u v o o', ((((w.setCell ⟨g, 0, none⟩ u).setCell ⟨g, 1, none⟩ v).alloc o).alloc o').cell? ⟨g, 0, none⟩ = some u) ∧ (∀ u v o o', ((((w.setCell ⟨g, 0, none⟩ u).setCell ⟨g, 1, none⟩ v).alloc o).alloc o').cell? ⟨g, 1, none⟩ = some v) :=
  ⟨fun u v o => cell_keep (bel_alloc (Below.refl _ _) _) (two_set h0 h1 u v).1, fun u v o => cell_keep (bel_alloc (Below.refl _ _) _) (two_set h0 h1 u v).2,
   fun u v o o' => cell_keep (bel_alloc (bel_alloc (Below.refl _ _) _) _) (two_set h0 h1 u v).1, fun u v o o' => cell_keep (bel_alloc (bel_alloc (Below.refl _ _) _) _) (two_set h0 h1 u v).2⟩
end Go.Proofs.YtnlamjebgkgbaaaDoor
namespace Go.Proofs.YtnlamjebgkgbaaaDoor
open Go.RowKit Go.Shelf

theorem contains_blank (b : UInt8) : [(32 : UInt8), 9].contains b = blankB b := by
  rw [Bool.eq_iff_iff]; simp [blankB]
theorem trimS_blank (l : List UInt8) : Lib.trimS l [32, 9] = trimL l := by
  unfold Lib.trimS Lib.trimLeftS Lib.trimRightS trimL
  have : (fun x : UInt8 => [(32 : UInt8), 9].contains x) = blankB := funext contains_blank
  rw [this]
/-- A letter, great or small, by its bits. -/
def letB (c : UInt8) (x : Nat) : Bool := !(bits BinOp.or IntKind.u8 (c.toNat : Int) 32 != (x : Int)) && !decide ((c.toNat : Int) < 65)
theorem let_98 (c : UInt8) : letB c 98 = decide (lowB c = 98) := by
  have h : ∀ n : Fin 256, letB (UInt8.ofNat n.val) 98 = decide (lowB (UInt8.ofNat n.val) = 98) := by decide +kernel
  have := h ⟨c.toNat, UInt8.toNat_lt c⟩
  simpa using this
theorem let_121 (c : UInt8) : letB c 121 = decide (lowB c = 121) := by
  have h : ∀ n : Fin 256, letB (UInt8.ofNat n.val) 121 = decide (lowB (UInt8.ofNat n.val) = 121) := by decide +kernel
  have := h ⟨c.toNat, UInt8.toNat_lt c⟩
  simpa using this
theorem let_116 (c : UInt8) : letB c 116 = decide (lowB c = 116) := by
  have h : ∀ n : Fin 256, letB (UInt8.ofNat n.val) 116 = decide (lowB (UInt8.ofNat n.val) = 116) := by decide +kernel
  have := h ⟨c.toNat, UInt8.toNat_lt c⟩
  simpa using this
theorem let_101 (c : UInt8) : letB c 101 = decide (lowB c = 101) := by
  have h : ∀ n : Fin 256, letB (UInt8.ofNat n.val) 101 = decide (lowB (UInt8.ofNat n.val) = 101) := by decide +kernel
  have := h ⟨c.toNat, UInt8.toNat_lt c⟩
  simpa using this
theorem let_115 (c : UInt8) : letB c 115 = decide (lowB c = 115) := by
  have h : ∀ n : Fin 256, letB (UInt8.ofNat n.val) 115 = decide (lowB (UInt8.ofNat n.val) = 115) := by decide +kernel
  have := h ⟨c.toNat, UInt8.toNat_lt c⟩
  simpa using this
end Go.Proofs.YtnlamjebgkgbaaaDoor
namespace Go.Proofs.YtnlamjebgkgbaaaDoor
open Go.RowKit

theorem Tryd.specInfo : (Tryd.prog.info? 57).map (fun i => (i.zero, i.size, i.bytes)) = some (some (.agg #[.int .i64 0, .int .i64 0]), 2, 16) := by kernel_rfl

/-- A row of spans of the call's own. -/
def OwnQ (w : World) (base : Nat) (A : Option Addr) (c : Nat) (L : List (Int × Int)) : Prop := w.ownsRow base 57 2 (.slice A L.length c) L.length (spCells L)
theorem OwnQ.nil (w : World) (base : Nat) : OwnQ w base none 0 [] := World.ownsRow_nil w base _ _
theorem OwnQ.sp {w : World} {base : Nat} {A : Option Addr} {c : Nat} {L : List (Int × Int)} (h : OwnQ w base A c L) : Sp w A c L := (Sp.of_own h).1
theorem OwnQ.at_ {w : World} {base : Nat} {A : Option Addr} {c : Nat} {L : List (Int × Int)} (h : OwnQ w base A c L) (hn : 0 < L.length) : ∃ g, A = some ⟨g, 0, none⟩ ∧ base ≤ g ∧ g < w.heap.size := by
  obtain ⟨g, cap, hv, hb, hlt⟩ := World.ownsRow.form h hn
  injection hv with hA
  exact ⟨g, hA, hb, hlt⟩
/-- It hands back a row of spans of its own. -/
def RetQ (L : List (Int × Int)) (w : World) (e : Ending) (w' : World) : Prop := ∃ A c, e = .returned (.slice A L.length c) ∧ OwnQ w' w.heap.size A c L ∧ Below w.heap.size w w'
theorem OwnQ.alloc {w : World} {base : Nat} {A : Option Addr} {c : Nat} {L : List (Int × Int)} (h : OwnQ w base A c L) (o : Obj) : OwnQ (w.alloc o) base A c L := World.ownsRow.alloc h o
theorem OwnQ.drew {w : World} {base : Nat} {A : Option Addr} {c : Nat} {L : List (Int × Int)} (h : OwnQ w base A c L) : OwnQ w.drew base A c L := World.ownsRow.drew h
theorem OwnQ.drewN {w : World} {base : Nat} {A : Option Addr} {c : Nat} {L : List (Int × Int)} (h : OwnQ w base A c L) (n : Nat) : OwnQ (w.drewN n) base A c L := h
theorem OwnQ.below {w w' : World} {base : Nat} {A : Option Addr} {c : Nat} {L : List (Int × Int)} (h : OwnQ w base A c L) (hb : Below w.heap.size w w') : OwnQ w' base A c L :=
  World.ownsRow.kept (row := none) h ⟨hb.os, hb.tape, hb.output, hb.size, fun k hk _ => hb.block k hk⟩ (by cases A <;> simp [Value.ownBlock])
theorem OwnQ.base_le {w : World} {base base' : Nat} {A : Option Addr} {c : Nat} {L : List (Int × Int)} (h : OwnQ w base A c L) (hb : base' ≤ base) : OwnQ w base' A c L := by
  refine ⟨h.1, ?_⟩
  rcases h.2 with h2 | ⟨g, cap, cur, hv, hg, r⟩
  · exact .inl h2
  · exact .inr ⟨g, cap, cur, hv, by omega, r⟩

/-- append of one span to a row of the call's own. -/
theorem wpQ_append {w0 w : World} {o : Oper} {a : Act} {K : Act → World → Prop} {Q : Exit → Act → World → Prop} (s x : Operand)
    (ho : o.op = .call { callee := .builtin .append, args := #[s, x], argTypes := #[43, 43] })
    (A : Option Addr) (c : Nat) (L : List (Int × Int)) (hs : a.eval s = .slice A L.length c) (hown : OwnQ w w0.heap.size A c L)
    (g : Nat) (x1 x2 : Int) (hx : a.eval x = .slice (some ⟨g, 0, none⟩) 1 1) (hc : w.cell? ⟨g, 0, none⟩ = some (.int .i64 x1)) (hc' : w.cell? ⟨g, 1, none⟩ = some (.int .i64 x2))
    (hl : L.length ≤ 2000000) (hbel : Below w0.heap.size w0 w)
    (h : ∀ A' c' w', OwnQ w' w0.heap.size A' c' (L ++ [(x1, x2)]) → Below w0.heap.size w0 w' → w.grownBy w' (Value.slice A L.length c).ownBlock → K (a.put o.dst (.slice A' (L.length + 1) c')) w') : o.wp Tryd.prog a w K Q := by
  obtain ⟨i0, hi, hz0, hz1, hz2⟩ := info_parts Tryd.specInfo
  refine wp_append_own w s x _ ho w0.heap.size 57 i0 _ 2 16 Tryd.underlying43 hi hz0 hz1 hz2 rfl (by decide) _ _ _ hs hown ⟨g, 0, none⟩ 1 1 [.int .i64 x1, .int .i64 x2] hx rfl ?_ ?_ (by simp only [maxLen]; omega) (by omega) hbel.size ?_
  · intro j u hj
    have hadd : ∀ j, (⟨g, 0, none⟩ : Addr).add j = ⟨g, j, none⟩ := fun j => by unfold Addr.add; split <;> simp_all
    rw [hadd]
    match j, hj with
    | 0, hj => simp at hj; rw [← hj]; exact hc
    | 1, hj => simp at hj; rw [← hj]; exact hc'
    | j + 2, hj => simp at hj
  · intro u hu
    simp at hu
    rcases hu with rfl | rfl <;> rfl
  · intro v' w' h1 h2 _
    have hlt := World.ownsRow.lt hown
    have hbel' : Below w0.heap.size w0 w' := hbel.grown h2 hbel.size (fun k hk => (hlt k hk).1)
    have hlen : (L ++ [(x1, x2)]).length = L.length + 1 := by simp
    have hsp : spCells L ++ [.int .i64 x1, .int .i64 x2] = spCells (L ++ [(x1, x2)]) := by rw [spCells_append]; rfl
    rw [hsp] at h1
    have hform : ∃ A' c', v' = .slice A' (L.length + 1) c' := by
      rcases h1.2 with ⟨_, hn⟩ | ⟨g', cap, cur, hv, _⟩
      · omega
      · exact ⟨_, _, hv⟩
    obtain ⟨A', c', rfl⟩ := hform
    exact h A' c' w' (by unfold OwnQ; rw [hlen]; exact h1) hbel' h2
theorem wplQ_append {w0 w : World} {ops : Array Oper} {rest : List Oper} {o : Oper} {a : Act} {Q : Exit → Act → World → Prop} (hgd : o.guard = none) (s x : Operand)
    (ho : o.op = .call { callee := .builtin .append, args := #[s, x], argTypes := #[43, 43] })
    (A : Option Addr) (c : Nat) (L : List (Int × Int)) (hs : a.eval s = .slice A L.length c) (hown : OwnQ w w0.heap.size A c L)
    (g : Nat) (x1 x2 : Int) (hx : a.eval x = .slice (some ⟨g, 0, none⟩) 1 1) (hc : w.cell? ⟨g, 0, none⟩ = some (.int .i64 x1)) (hc' : w.cell? ⟨g, 1, none⟩ = some (.int .i64 x2))
    (hl : L.length ≤ 2000000) (hbel : Below w0.heap.size w0 w)
    (h : ∀ A' c' w', OwnQ w' w0.heap.size A' c' (L ++ [(x1, x2)]) → Below w0.heap.size w0 w' → w.grownBy w' (Value.slice A L.length c).ownBlock → wpList Tryd.prog ops Q rest (a.put o.dst (.slice A' (L.length + 1) c')) w') : wpList Tryd.prog ops Q (o :: rest) a w :=
  wpList_plain hgd fun _ hK => wpQ_append s x ho A c L hs hown g x1 x2 hx hc hc' hl hbel fun A' c' w' h1 h2 h3 => hK _ _ (h A' c' w' h1 h2 h3)
theorem stepQ_append {w0 w : World} {ops : Array Oper} {o : Oper} {a : Act} {K : Act → World → Prop} {Q : Exit → Act → World → Prop} {E : Prop} (hgd : o.guard = none) (s x : Operand)
    (ho : o.op = .call { callee := .builtin .append, args := #[s, x], argTypes := #[43, 43] })
    (A : Option Addr) (c : Nat) (L : List (Int × Int)) (hs : a.eval s = .slice A L.length c) (hown : OwnQ w w0.heap.size A c L)
    (g : Nat) (x1 x2 : Int) (hx : a.eval x = .slice (some ⟨g, 0, none⟩) 1 1) (hc : w.cell? ⟨g, 0, none⟩ = some (.int .i64 x1)) (hc' : w.cell? ⟨g, 1, none⟩ = some (.int .i64 x2))
    (hl : L.length ≤ 2000000) (hbel : Below w0.heap.size w0 w)
    (h : ∀ A' c' w', OwnQ w' w0.heap.size A' c' (L ++ [(x1, x2)]) → Below w0.heap.size w0 w' → w.grownBy w' (Value.slice A L.length c).ownBlock → K (a.put o.dst (.slice A' (L.length + 1) c')) w') :
    if Region.wanted o (yielded ops a.tmps) = true then Oper.wp Tryd.prog o a w K Q else E := by
  have hw : Region.wanted o (yielded ops a.tmps) = true := by simp [Region.wanted, hgd]
  rw [if_pos hw]
  exact wpQ_append s x ho A c L hs hown g x1 x2 hx hc hc' hl hbel h

/-- append of all spans of a slice to a row of the call's own. -/
theorem wplQ_appendS {w0 w : World} {ops : Array Oper} {rest : List Oper} {o : Oper} {a : Act} {Q : Exit → Act → World → Prop} (hgd : o.guard = none) (s x : Operand)
    (ho : o.op = .call { callee := .builtin .append, args := #[s, x], argTypes := #[43, 43] })
    (A : Option Addr) (c : Nat) (L : List (Int × Int)) (hs : a.eval s = .slice A L.length c) (hown : OwnQ w w0.heap.size A c L)
    (A2 : Option Addr) (c2 : Nat) (L2 : List (Int × Int)) (hx : a.eval x = .slice A2 L2.length c2) (hsp : Sp w A2 c2 L2)
    (hl : L.length + L2.length ≤ 2000000) (hbel : Below w0.heap.size w0 w)
    (h : ∀ A' c' w', OwnQ w' w0.heap.size A' c' (L ++ L2) → Below w0.heap.size w0 w' → w.grownBy w' (Value.slice A L.length c).ownBlock → wpList Tryd.prog ops Q rest (a.put o.dst (.slice A' (L.length + L2.length) c')) w') : wpList Tryd.prog ops Q (o :: rest) a w := by
  obtain ⟨i0, hi, hz0, hz1, hz2⟩ := info_parts Tryd.specInfo
  cases hA2 : A2 with
  | none =>
    subst hA2
    have hc2 := hsp.nil_ rfl
    have hL2 : L2 = [] := List.eq_nil_of_length_eq_zero (by have := hsp.le; omega)
    subst hL2 hc2
    refine wpList_append_own_none hgd s x _ ho w0.heap.size 57 i0 2 Tryd.underlying43 hi _ _ _ hs hown hx ?_
    have := h A c w (by simpa using hown) hbel (World.grownBy.refl w _)
    simpa using this
  | some ad =>
    subst hA2
    refine wpList_append_own w hgd s x _ ho w0.heap.size 57 i0 _ 2 16 Tryd.underlying43 hi hz0 hz1 hz2 rfl (by decide) _ _ _ hs hown ad L2.length c2 (spCells L2) hx (spCells_length L2) (hsp.cells rfl) ?_ (by simp only [maxLen]; omega) (by omega) hbel.size ?_
    · intro u hu
      simp only [spCells, List.mem_flatMap] at hu
      obtain ⟨y, _, hu⟩ := hu
      simp at hu
      rcases hu with rfl | rfl <;> rfl
    · intro v' w' h1 h2 h3
      have hlt := World.ownsRow.lt hown
      have hbel' : Below w0.heap.size w0 w' := hbel.grown h2 hbel.size (fun k hk => (hlt k hk).1)
      have hlen : (L ++ L2).length = L.length + L2.length := by simp
      rw [← spCells_append] at h1
      have hform : ∃ A' c', v' = .slice A' (L.length + L2.length) c' := by
        rcases h1.2 with ⟨hv, hn⟩ | ⟨g', cap, cur, hv, _⟩
        · rw [hn]; exact ⟨_, _, hv⟩
        · exact ⟨_, _, hv⟩
      obtain ⟨A', c', rfl⟩ := hform
      exact h A' c' w' (by unfold OwnQ; rw [hlen]; exact h1) hbel' h2

end Go.Proofs.YtnlamjebgkgbaaaDoor
namespace Go.Proofs.YtnlamjebgkgbaaaDoor
open Go.RowKit Go.Shelf Go.Sort

def encP (x : Pt) : List Value := [.int .u64 (x.1 : Int), .string ⟨x.2.toArray⟩]
def ptCells (L : List Pt) : List Value := L.flatMap encP
theorem ptCells_cons (x : Pt) (r : List Pt) : ptCells (x :: r) = .int .u64 (x.1 : Int) :: .string ⟨x.2.toArray⟩ :: ptCells r := rfl
theorem ptCells_length : ∀ (L : List Pt), (ptCells L).length = L.length * 2
  | [] => rfl
  | x :: r => by rw [ptCells_cons]; simp [ptCells_length r]; omega
theorem ptCells_append (a b : List Pt) : ptCells (a ++ b) = ptCells a ++ ptCells b := by unfold ptCells; simp
theorem ptCells_at : ∀ (L : List Pt) (k : Nat) (x : Pt), L[k]? = some x → (ptCells L)[k * 2]? = some (.int .u64 (x.1 : Int)) ∧ (ptCells L)[k * 2 + 1]? = some (.string ⟨x.2.toArray⟩)
  | [], k, x, h => by simp at h
  | y :: r, 0, x, h => by simp at h; subst h; simp [ptCells_cons]
  | y :: r, k + 1, x, h => by
    have := ptCells_at r k x (by simpa using h)
    rw [ptCells_cons, show (k + 1) * 2 = k * 2 + 2 from by omega]
    simpa using this
/-- A row of points of the call's own. -/
def OwnPt (w : World) (base : Nat) (A : Option Addr) (c : Nat) (L : List Pt) : Prop := w.ownsRow base 92 2 (.slice A L.length c) L.length (ptCells L)
theorem OwnPt.nil (w : World) (base : Nat) : OwnPt w base none 0 [] := World.ownsRow_nil w base _ _
theorem OwnPt.at_ {w : World} {base : Nat} {A : Option Addr} {c : Nat} {L : List Pt} (h : OwnPt w base A c L) (hn : 0 < L.length) : ∃ g, A = some ⟨g, 0, none⟩ ∧ base ≤ g ∧ g < w.heap.size := by
  obtain ⟨g, cap, hv, hb, hlt⟩ := World.ownsRow.form h hn
  injection hv with hA
  exact ⟨g, hA, hb, hlt⟩
theorem OwnPt.alloc {w : World} {base : Nat} {A : Option Addr} {c : Nat} {L : List Pt} (h : OwnPt w base A c L) (o : Obj) : OwnPt (w.alloc o) base A c L := World.ownsRow.alloc h o
theorem OwnPt.drew {w : World} {base : Nat} {A : Option Addr} {c : Nat} {L : List Pt} (h : OwnPt w base A c L) : OwnPt w.drew base A c L := World.ownsRow.drew h
theorem OwnPt.below {w w' : World} {base : Nat} {A : Option Addr} {c : Nat} {L : List Pt} (h : OwnPt w base A c L) (hb : Below w.heap.size w w') : OwnPt w' base A c L :=
  World.ownsRow.kept (row := none) h ⟨hb.os, hb.tape, hb.output, hb.size, fun k hk _ => hb.block k hk⟩ (by cases A <;> simp [Value.ownBlock])
/-- A slice that reads as a list of points. -/
structure SpPt (w : World) (A : Option Addr) (L : List Pt) : Prop where
  at' : ∀ k (h : k < L.length), ∃ b off, A = some ⟨b, off, none⟩ ∧ b < w.heap.size ∧ w.cell? ⟨b, off + k * 2, none⟩ = some (.int .u64 ((L[k]).1 : Int)) ∧ w.cell? ⟨b, off + k * 2 + 1, none⟩ = some (.string ⟨(L[k]).2.toArray⟩)
theorem SpPt.below {w w' : World} {A : Option Addr} {L : List Pt} (h : SpPt w A L) (hb : Below w.heap.size w w') : SpPt w' A L :=
  ⟨fun k hk => by
    obtain ⟨b, off, e, hl, h1, h2⟩ := h.at' k hk
    exact ⟨b, off, e, Nat.lt_of_lt_of_le hl hb.size, cell_keep hb h1, cell_keep hb h2⟩⟩
theorem OwnPt.cells {w : World} {base g c : Nat} {L : List Pt} (h : OwnPt w base (some ⟨g, 0, none⟩) c L) {k : Nat} (hk : k < L.length) : w.cell? ⟨g, k * 2, none⟩ = some (.int .u64 ((L[k]).1 : Int)) ∧ w.cell? ⟨g, k * 2 + 1, none⟩ = some (.string ⟨(L[k]).2.toArray⟩) := by
  have hl := ptCells_length L
  obtain ⟨a, b⟩ := ptCells_at L k L[k] (List.getElem?_eq_getElem hk)
  exact ⟨(World.ownsRow.cellAt h _ (by omega)).trans a, (World.ownsRow.cellAt h _ (by omega)).trans b⟩
theorem OwnPt.spf {w : World} {base : Nat} {A : Option Addr} {c : Nat} {L : List Pt} (h : OwnPt w base A c L) : SpPt w A L :=
  ⟨fun k hk => by
    obtain ⟨g, rfl, _, hg⟩ := h.at_ (by omega)
    obtain ⟨h1, h2⟩ := h.cells hk
    exact ⟨g, 0, rfl, hg, by simpa using h1, by simpa using h2⟩⟩
theorem OwnPt.holdsK {w : World} {base g c : Nat} {L : List Pt} (h : OwnPt w base (some ⟨g, 0, none⟩) c L) : HoldsK encP 2 w g 0 L.toArray := by
  intro j hj
  simp at hj
  refine ⟨?_, World.ownsRow.frozenAt h _ |> fun hf => by simpa using hf⟩
  have hi : j / 2 < L.length := by omega
  rw [Nat.zero_add, get_flatK _ _ _ _ (by simpa using hj)]
  have e1 : (L.toArray)[j / 2]! = L[j / 2] := by simp [hi]
  rw [e1]
  obtain ⟨h1, h2⟩ := h.cells hi
  obtain ⟨x, hx⟩ : ∃ x, L[j / 2] = x := ⟨_, rfl⟩
  rw [hx] at h1 h2 ⊢
  have hm : j % 2 = 0 ∨ j % 2 = 1 := by omega
  rcases hm with hm | hm
  · rw [show j / 2 * 2 = j from by omega] at h1
    rw [hm, h1]; rfl
  · rw [show j / 2 * 2 + 1 = j from by omega] at h2
    rw [hm, h2]; rfl
theorem pt_flat (d : Array Pt) {j : Nat} (hj : j < d.size * 2) : (ptCells d.toList)[j]? = some ((flatK encP 2 d)[j]!) := by
  rw [get_flatK _ _ _ _ hj]
  have hi : j / 2 < d.size := by omega
  have e1 : d[j / 2]! = d[j / 2] := getElem!_pos d (j / 2) hi
  rw [e1]
  obtain ⟨x, hx⟩ : ∃ x, d[j / 2] = x := ⟨_, rfl⟩
  have hx' : d.toList[j / 2]? = some x := by rw [Array.getElem?_toList, Array.getElem?_eq_getElem hi, hx]
  obtain ⟨a, b⟩ := ptCells_at _ _ _ hx'
  rw [hx]
  have hm : j % 2 = 0 ∨ j % 2 = 1 := by omega
  rcases hm with h | h
  · rw [show j / 2 * 2 = j from by omega] at a; rw [a, h]; rfl
  · rw [show j / 2 * 2 + 1 = j from by omega] at b; rw [b, h]; rfl
theorem ownPt_sorted {w : World} {base g c n : Nat} {L : List Pt} {d : Array Pt} {os : Array Obj} (h : OwnPt w base (some ⟨g, 0, none⟩) c L) (hs : d.size = L.length) : OwnPt (sortWorldK encP 2 w g 0 n d os) base (some ⟨g, 0, none⟩) c d.toList := by
  have hln : d.toList.length = L.length := by simpa using hs
  unfold OwnPt at *
  rw [hln]
  refine ⟨by rw [ptCells_length]; omega, ?_⟩
  rcases h.2 with ⟨hv, _⟩ | ⟨g', cap, cur, hv, hb, hg, hnc, hcm, hcs, htake⟩
  · cases hv
  · injection hv with hv1 hv2 hv3
    injection hv1 with hv1
    injection hv1 with hv1
    subst hv1 hv3
    have hgs : g < w.heap.size := (Array.getElem?_eq_some_iff.1 hg).1
    refine .inr ⟨g, c, putCells id 0 (flatK encP 2 d) cur, rfl, hb, ?_, hnc, hcm, by simp [putCells, hcs], ?_⟩
    · unfold sortWorldK putRowK
      rw [heap_grow_old _ _ (by simpa [putRow, mapBlock, Sort.ahead] using hgs)]
      simp [putRow, mapBlock, Sort.ahead, Array.getElem?_modify, hg, onCells]
    · have hfs : (flatK encP 2 d).size = d.size * 2 := by simp [flatK]
      apply List.ext_getElem?
      intro j
      by_cases hj : j < L.length * 2
      · rw [List.getElem?_take_of_lt hj, Array.getElem?_toList, pt_flat d (by omega)]
        have hjc : j < cur.size := by rw [hcs]; omega
        simp [putCells, hjc, hfs]
        intro hh; omega
      · rw [List.getElem?_take_eq_none (by omega), List.getElem?_eq_none (by rw [ptCells_length]; omega)]
theorem grownBy_sortedPt {w : World} {g n : Nat} {os : Array Obj} (d : Array Pt) : w.grownBy (sortWorldK encP 2 w g 0 n d os) (some g) := by
  unfold sortWorldK putRowK
  refine ⟨rfl, rfl, rfl, by simp, fun k hk hne => ?_⟩
  rw [heap_grow_old _ _ (by simpa using hk)]
  have : g ≠ k := fun e => hne (by rw [e])
  simp [putRow, mapBlock, Sort.ahead, Array.getElem?_modify, this]
/-- Texts in order, as numbers. -/
def cmpT (a b : List UInt8) : Int := if a < b then -1 else if b < a then 1 else 0
def cfPt (x y : Pt) : Int := if x.1 < y.1 then -1 else if y.1 < x.1 then 1 else cmpT x.2 y.2
def ltPt (x y : Pt) : Bool := decide (x.1 < y.1) || (decide (x.1 = y.1) && decide (x.2 < y.2))
theorem ltPt_of (x y : Pt) : ltOf cfPt x y = ltPt x y := by
  unfold ltOf cfPt ltPt cmpT
  by_cases h1 : x.1 < y.1
  · simp [h1]
  · by_cases h2 : y.1 < x.1
    · have : ¬ x.1 = y.1 := by omega
      simp [h1, h2, this]
    · have : x.1 = y.1 := by omega
      by_cases h3 : x.2 < y.2
      · simp [this, h3]
      · by_cases h4 : y.2 < x.2 <;> simp [this, h3, h4]
theorem swoPt : SWO (ltOf cfPt) where
  irrefl x := by rw [ltPt_of]; unfold ltPt; simp [List.lt_irrefl]
  trans x y z h1 h2 := by
    rw [ltPt_of] at *
    unfold ltPt at *
    simp only [Bool.or_eq_true, Bool.and_eq_true, decide_eq_true_eq] at *
    rcases h1 with h1 | ⟨h1, h1'⟩ <;> rcases h2 with h2 | ⟨h2, h2'⟩
    · exact .inl (by omega)
    · exact .inl (by omega)
    · exact .inl (by omega)
    · exact .inr ⟨by omega, List.lt_trans h1' h2'⟩
  ntrans x y z h1 h2 := by
    rw [ltPt_of] at *
    unfold ltPt at *
    simp only [Bool.or_eq_false_iff, Bool.and_eq_false_iff, decide_eq_false_iff_not] at *
    obtain ⟨a1, b1⟩ := h1
    obtain ⟨a2, b2⟩ := h2
    refine ⟨by omega, ?_⟩
    by_cases e : x.1 = z.1
    · have e1 : x.1 = y.1 := by omega
      have e2 : y.1 = z.1 := by omega
      exact .inr (List.not_lt.2 (List.le_trans (List.not_lt.1 (b2.resolve_left (by simp [e2]))) (List.not_lt.1 (b1.resolve_left (by simp [e1])))))
    · exact .inl e
theorem isNaNu_any (x : Int) (W : World) : Calls Tryd.prog 48 #[.int .u64 x] W fun e w' => e = .returned (.bool false) ∧ w' = W := by
  have h : (x != x) = false := by simp
  go_enter Tryd.func48, Tryd.ntmps48
  go_wp2_with fail
  go_ret
  exact ⟨rfl, rfl⟩
theorem isNaNs_any (x : ByteArray) (W : World) : Calls Tryd.prog 58 #[.string x] W fun e w' => e = .returned (.bool false) ∧ w' = W := by
  go_enter Tryd.func58, Tryd.ntmps58
  go_wp2_with fail
  go_ret
  exact ⟨by simp, rfl⟩
theorem cmpU_any (x y : Nat) (W : World) : Calls Tryd.prog 36 #[.int .u64 (x : Int), .int .u64 (y : Int)] W fun e w' => e = .returned (.int .i64 (if x < y then -1 else if y < x then 1 else 0)) ∧ w' = W := by
  have hcon := fun z W' => isNaNu_any z W'
  go_enter Tryd.func36, Tryd.ntmps36
  by_cases h1 : x < y
  · have h1' : (x : Int) < (y : Int) := by omega
    go_wp2_with (go_at_call 48; refine (hcon _ _).mono ?_; rintro e w' ⟨rfl, rfl⟩)
    go_ret
    exact ⟨by first | rfl | (simp only [if_pos h1]; rfl), rfl⟩
  · have h1' : ¬ (x : Int) < (y : Int) := by omega
    by_cases h2 : y < x
    · have h2' : (y : Int) < (x : Int) := by omega
      go_wp2_with (go_at_call 48; refine (hcon _ _).mono ?_; rintro e w' ⟨rfl, rfl⟩)
      go_ret
      exact ⟨by first | rfl | (simp only [if_neg h1, if_pos h2]; rfl), rfl⟩
    · have h2' : ¬ (y : Int) < (x : Int) := by omega
      go_wp2_with (go_at_call 48; refine (hcon _ _).mono ?_; rintro e w' ⟨rfl, rfl⟩)
      go_ret
      exact ⟨by first | rfl | (simp only [if_neg h1, if_neg h2]; rfl), rfl⟩
theorem tx_list (l : List UInt8) : (⟨l.toArray⟩ : ByteArray).toList = l := by rw [Lib.toList_data]
theorem cmpS_any (x y : List UInt8) (W : World) : Calls Tryd.prog 47 #[.string ⟨x.toArray⟩, .string ⟨y.toArray⟩] W fun e w' => e = .returned (.int .i64 (cmpT x y)) ∧ w' = W := by
  have hcon := fun z W' => isNaNs_any z W'
  have hl : Op.bytesLess x y = decide (x < y) := less_bytes x y
  have he : (x == y) = decide (x = y) := by rw [Bool.eq_iff_iff]; simp
  go_enter Tryd.func47, Tryd.ntmps47
  by_cases h1 : x < y
  · have d1 : decide (x < y) = true := by simp [h1]
    rw [d1] at hl
    go_wp2_with (go_at_call 58; refine (hcon _ _).mono ?_; rintro e w' ⟨rfl, rfl⟩)
    go_ret
    exact ⟨by unfold cmpT; rw [if_pos h1]; rfl, rfl⟩
  · have d1 : decide (x < y) = false := by simp [h1]
    rw [d1] at hl
    by_cases h2 : y < x
    · have d2 : decide (x = y) = false := by
        rw [decide_eq_false_iff_not]; intro e; subst e; exact List.lt_irrefl x h2
      rw [d2] at he
      go_wp2_with (go_at_call 58; refine (hcon _ _).mono ?_; rintro e w' ⟨rfl, rfl⟩)
      go_ret
      exact ⟨by unfold cmpT; rw [if_neg h1, if_pos h2]; rfl, rfl⟩
    · have d2 : decide (x = y) = true := by
        rw [decide_eq_true_iff]; exact List.le_antisymm (List.not_lt.1 h2) (List.not_lt.1 h1)
      rw [d2] at he
      go_wp2_with (go_at_call 58; refine (hcon _ _).mono ?_; rintro e w' ⟨rfl, rfl⟩)
      go_ret
      exact ⟨by unfold cmpT; rw [if_neg h1, if_neg h2]; rfl, rfl⟩
theorem orInt_any (g : Nat) (a b : Int) (w : World) (h0 : w.cell? ⟨g, 0, none⟩ = some (.int .i64 a)) (h1 : w.cell? ⟨g, 1, none⟩ = some (.int .i64 b)) (c : Nat) :
    Calls Tryd.prog 46 #[.slice (some ⟨g, 0, none⟩) 2 c] w fun e w' => e = .returned (.int .i64 (if a = 0 then b else a)) ∧ w' = w := by
  go_enter Tryd.func46, Tryd.ntmps46
  go_wp2_with fail
  go_loopw [5, 8] (fun _ i wr => (i = .int .i64 0 ∨ (i = .int .i64 1 ∧ a = 0) ∨ (i = .int .i64 2 ∧ a = 0 ∧ b = 0)) ∧ wr = w) (fun _ i _ => 2 - (intOf i).toNat)
  case atStart => exact ⟨.inl rfl, rfl⟩
  case round =>
    obtain ⟨hi, rfl⟩ := hrel
    rcases hi with rfl | ⟨rfl, h2⟩ | ⟨rfl, h2, h3⟩
    · by_cases ha : a = 0
      · have hb : (a != 0) = false := by simp [ha]
        go_wp2_with fail
        go_roundw
        case rel => exact ⟨.inr (.inl ⟨by go_num, ha⟩), by first | trivial | rfl⟩
        case measure => simp [intOf]
      · have hb : (a != 0) = true := by simp [ha]
        go_wp2_with fail
        go_ret
        exact ⟨by first | rfl | simp [ha], rfl⟩
    · by_cases ha : b = 0
      · have hb : (b != 0) = false := by simp [ha]
        go_wp2_with fail
        go_roundw
        case rel => exact ⟨.inr (.inr ⟨by go_num, h2, ha⟩), by first | trivial | rfl⟩
        case measure => simp [intOf]
      · have hb : (b != 0) = true := by simp [ha]
        go_wp2_with fail
        go_ret
        exact ⟨by first | rfl | simp [h2], rfl⟩
    · go_wp2_with fail
      go_ret
      exact ⟨by first | rfl | simp [h2, h3], rfl⟩
theorem or_cf (x y : Pt) : (if (if x.1 < y.1 then (-1 : Int) else if y.1 < x.1 then 1 else 0) = 0 then cmpT x.2 y.2 else (if x.1 < y.1 then (-1 : Int) else if y.1 < x.1 then 1 else 0)) = cfPt x y := by
  unfold cfPt
  by_cases h1 : x.1 < y.1
  · simp [h1]
  · by_cases h2 : y.1 < x.1 <;> simp [h1, h2]
set_option maxHeartbeats 2000000 in
theorem add1_any (x y : Pt) (W : World) : Calls Tryd.prog 45 #[.agg #[.int .u64 (x.1 : Int), .string ⟨x.2.toArray⟩], .agg #[.int .u64 (y.1 : Int), .string ⟨y.2.toArray⟩]] W fun e w' => e = .returned (.int .i64 (cfPt x y)) ∧ ∃ q os', w' = grow (W.drewN q) os' := by
  have HU := fun W' => Lib.hid (cmpU_any x.1 y.1 W')
  have HS := fun W' => Lib.hid (cmpS_any x.2 y.2 W')
  rw [← or_cf]
  generalize (if x.1 < y.1 then (-1 : Int) else if y.1 < x.1 then 1 else 0) = r1 at HU ⊢
  generalize cmpT x.2 y.2 = r2 at HS ⊢
  have HO := fun g w h0 h1 c => Lib.hid (orInt_any g r1 r2 w h0 h1 c)
  generalize (if r1 = 0 then r2 else r1) = r3 at HO ⊢
  go_enter Tryd.func45, Tryd.ntmps45
  go_wp2_with fail
  obtain ⟨V, hV⟩ : ∃ V, World.alloc (World.alloc W (.cells #[.int .u64 (x.1 : Int), .string ⟨x.2.toArray⟩] 92)) (.cells #[.int .u64 (y.1 : Int), .string ⟨y.2.toArray⟩] 92) = V := ⟨_, rfl⟩
  have c1 : V.cell? ⟨W.heap.size, 0, none⟩ = some (.int .u64 (x.1 : Int)) := by rw [← hV]; simp [go_sem]
  have c2 : V.cell? ⟨W.heap.size, 1, none⟩ = some (.string ⟨x.2.toArray⟩) := by rw [← hV]; simp [go_sem]
  have c3 : V.cell? ⟨W.heap.size + 1, 0, none⟩ = some (.int .u64 (y.1 : Int)) := by rw [← hV]; simp [go_sem]
  have c4 : V.cell? ⟨W.heap.size + 1, 1, none⟩ = some (.string ⟨y.2.toArray⟩) := by rw [← hV]; simp [go_sem]
  have hVs : V.heap.size = W.heap.size + 2 := by rw [← hV]; simp
  have hG : ∃ q os', V = grow (W.drewN q) os' := ⟨0, _, by rw [← hV, alloc_eq_grow, alloc_eq_grow, grow_grow]; rfl⟩
  have HG := Lib.hid hG
  rw [hV]
  clear hV hG
  go_region_held3 (fun w' => w'.cell? ⟨W.heap.size, 0, none⟩ = some (.int .u64 (x.1 : Int)) ∧ w'.cell? ⟨W.heap.size, 1, none⟩ = some (.string ⟨x.2.toArray⟩) ∧ w'.cell? ⟨W.heap.size + 1, 0, none⟩ = some (.int .u64 (y.1 : Int)) ∧ w'.cell? ⟨W.heap.size + 1, 1, none⟩ = some (.string ⟨y.2.toArray⟩))
    (first | exact ⟨c1, c2, c3, c4⟩ | exact ⟨cell_keep (W := V) (by (repeat (first | exact Below.refl _ _ | refine bel_drewN ?_ _ | refine bel_drew ?_ | refine bel_alloc ?_ _ | refine bel_set ?_ (by simp) _))) c1, cell_keep (W := V) (by (repeat (first | exact Below.refl _ _ | refine bel_drewN ?_ _ | refine bel_drew ?_ | refine bel_alloc ?_ _ | refine bel_set ?_ (by simp) _))) c2, cell_keep (W := V) (by (repeat (first | exact Below.refl _ _ | refine bel_drewN ?_ _ | refine bel_drew ?_ | refine bel_alloc ?_ _ | refine bel_set ?_ (by simp) _))) c3, cell_keep (W := V) (by (repeat (first | exact Below.refl _ _ | refine bel_drewN ?_ _ | refine bel_drew ?_ | refine bel_alloc ?_ _ | refine bel_set ?_ (by simp) _))) c4⟩ | fail)
    (first
      | (go_at_call 36; refine (HU _).out.mono ?_; rintro e w1 ⟨rfl, rfl⟩)
      | (go_at_call 47; refine (HS _).out.mono ?_; rintro e w1 ⟨rfl, rfl⟩)
      | (go_at_call 46; refine (HO _ _ (by first | (rw [← hVs]; exact cell_new0 _ _ _ _) | simp [go_sem, hVs]) (by first | (rw [← hVs]; exact cell_new1 _ _ _ _) | simp [go_sem, hVs]) _).out.mono ?_; rintro e w1 ⟨rfl, rfl⟩))
  all_goals
    go_wp2_with fail
    go_ret
    refine ⟨rfl, ?_⟩
    obtain ⟨q, os', rfl⟩ := HG.out
    exact ⟨q + 1, _, by rw [alloc_eq_grow, grow_grow]; rfl⟩
theorem cmpLaysPt (blk off size : Nat) (w : World) : CmpLays Tryd.prog 45 #[] encP 2 cfPt blk off size w := fun _ _ _ _ x y => add1_any x y _
theorem perm_ofPt {d' : Array Pt} {L : List Pt} (hp : PermIn 0 L.length L.toArray d') : d'.size = L.length ∧ d'.toList.Perm L := by
  have hsz : d'.size = L.length := by have := hp.1; simpa using this
  have := hp.2.2
  have e1 : (L.toArray).size = L.length := by simp
  have x1 : d'.extract 0 L.length = d' := by rw [← hsz]; simp
  have x2 : (L.toArray).extract 0 L.length = L.toArray := by rw [← e1]; simp
  rw [x1, x2] at this
  exact ⟨hsz, by simpa using this⟩
/-- What the sort leaves of a row of points. -/
def SortPtPost (A : Option Addr) (c : Nat) (L : List Pt) (w w0 : World) (e : Ending) (w' : World) : Prop :=
  e = .returned (.tuple #[]) ∧ ∃ M : List Pt, M.Perm L ∧ M.Pairwise ptLe ∧ OwnPt w' w0.heap.size A c M ∧ w.grownBy w' (Value.slice A L.length c).ownBlock
theorem sortPt_any {w0 w : World} {A : Option Addr} {c : Nat} {L : List Pt} (h : OwnPt w w0.heap.size A c L) (h0 : 0 < L.length) (hl : L.length ≤ 1000000) :
    Calls Tryd.prog 44 #[.slice A L.length c, .func (.func 45) #[] #[]] w (SortPtPost A c L w w0) := by
  obtain ⟨g, rfl, hg1, hg2⟩ := h.at_ h0
  have eg : ∀ args w, (callFunc 45 args).run Tryd.prog w = .ok (.enter 45 args) w := enters_of Tryd.func45 (by kernel_rfl) rfl
  have hS := AnyQ.slices_SortFunc Tryd.sortPt 2 Tryd.isAgg92 Tryd.sizeOf92 encP (fun _ => rfl) (fun x v hv => by simp [encP] at hv; rcases hv with rfl | rfl <;> rfl) cfPt swoPt 45 #[] g 0 c L.toArray w eg (cmpLaysPt g 0 _ w) h.holdsK hg2 (by simp; omega)
  have e1 : (L.toArray).size = L.length := by simp
  rw [e1] at hS
  refine Calls.mono hS ?_
  rintro e w' ⟨rfl, d', n, os, hp, hs, rfl⟩
  obtain ⟨hsz, hperm⟩ := perm_ofPt hp
  refine ⟨rfl, d'.toList, hperm, ?_, ownPt_sorted h hsz, ?_⟩
  · rw [List.pairwise_iff_getElem]
    intro i j hi hj hij
    have := hs i j (Nat.zero_le _) hij (by simp at hj; omega)
    rw [ltPt_of] at this
    simp at hi hj
    rw [getElem!_pos _ j hj, getElem!_pos _ i hi] at this
    unfold ltPt at this
    simp only [Bool.or_eq_false_iff, Bool.and_eq_false_iff, decide_eq_false_iff_not] at this
    simp only [Array.getElem_toList]
    unfold ptLe
    rcases Nat.lt_trichotomy (d'[i]).1 (d'[j]).1 with h' | h' | h'
    · exact .inl h'
    · exact .inr ⟨h', this.2.resolve_left (by rw [h']; simp)⟩
    · exact absurd h' this.1
  · have := grownBy_sortedPt (w := w) (g := g) (n := n) (os := os) d'
    simpa [Value.ownBlock] using this
end Go.Proofs.YtnlamjebgkgbaaaDoor
namespace Go.Proofs.YtnlamjebgkgbaaaDoor
open Go.RowKit Go.Shelf Go.Sort

def hstep (h : Int) (c : UInt8) : Int := IntKind.u64.wrap (bits BinOp.xor IntKind.u64 h (IntKind.u64.wrap (c.toNat : Int)) * 1099511628211)
def hashI (l : List UInt8) : Int := l.foldl hstep 14695981039346656037
theorem hashI_step {l : List UInt8} {k : Nat} (hk : k < l.length) : hashI (l.take (k + 1)) = hstep (hashI (l.take k)) l[k] := by
  unfold hashI; rw [List.take_succ_eq_append_getElem hk, List.foldl_append]; rfl
theorem hstep_range (h : Int) (c : UInt8) : 0 ≤ hstep h c ∧ hstep h c < 18446744073709551616 := by
  unfold hstep; rw [IntKind.wrap_u64]; omega
theorem hashI_range (l : List UInt8) : 0 ≤ hashI l ∧ hashI l < 18446744073709551616 := by
  rcases Nat.eq_zero_or_pos l.length with h | h
  · obtain rfl : l = [] := List.eq_nil_of_length_eq_zero h
    unfold hashI; simp
  · have := hashI_step (l := l) (k := l.length - 1) (by omega)
    rw [List.take_of_length_le (by omega)] at this
    rw [this]; exact hstep_range _ _
def hashN (l : List UInt8) : Nat := (hashI l).toNat
theorem hashN_eq (l : List UInt8) : ((hashN l : Nat) : Int) = hashI l := by have := hashI_range l; unfold hashN; omega
theorem hashN_lt (l : List UInt8) : hashN l < 18446744073709551616 := by have := hashI_range l; unfold hashN; omega
theorem hash_any (l : List UInt8) (w : World) (hl : l.length ≤ 1000000) : Calls Tryd.prog 34 #[.string ⟨l.toArray⟩] w fun e w' => e = .returned (.int .u64 (hashN l : Int)) ∧ w' = w := by
  have hsz : (⟨l.toArray⟩ : ByteArray).size = l.length := List.size_toArray ..
  go_enter Tryd.func34, Tryd.ntmps34
  go_wp2_with fail
  go_loopw [3, 4, 7] (fun s _ i wr => wr = w ∧ ∃ k : Nat, k ≤ l.length ∧ i = .int .i64 k ∧ s = .int .u64 (hashI (l.take k))) (fun _ _ i _ => l.length - (intOf i).toNat)
  case atStart => exact ⟨rfl, 0, Nat.zero_le _, rfl, rfl⟩
  case round =>
    obtain ⟨rfl, k, hk, rfl, rfl⟩ := hrel
    by_cases hlt : k < l.length
    · have HS := Lib.hid (hashI_step hlt)
      go_wp2_with fail
      go_roundw
      case rel => exact ⟨by first | trivial | rfl, k + 1, by omega, by go_num, by rw [HS.out]; rfl⟩
      case measure => simp [intOf]; omega
    · go_wp2_with fail
      go_ret
      exact ⟨by rw [hashN_eq, List.take_of_length_le (by omega)]; rfl, rfl⟩
/-- How many of the points lie ahead of a place. -/
def firstK (h : Nat) (L : List Pt) : Nat := (L.takeWhile fun x => decide (x.1 < h)).length
theorem firstK_eq {h i : Nat} {L : List Pt} (hi : i ≤ L.length) (h1 : ∀ k (hk : k < L.length), k < i → (L[k]).1 < h) (h2 : ∀ k (hk : k < L.length), i ≤ k → h ≤ (L[k]).1) : firstK h L = i := by
  unfold firstK
  induction L generalizing i with
  | nil => simp at hi; simp [hi]
  | cons x L ih =>
    rw [List.takeWhile_cons]
    cases i with
    | zero =>
      have := h2 0 (by simp) (Nat.le_refl _)
      simp only [List.getElem_cons_zero] at this
      rw [if_neg (by simp; omega)]; rfl
    | succ i =>
      have := h1 0 (by simp) (by omega)
      simp only [List.getElem_cons_zero] at this
      rw [if_pos (by simpa using this), List.length_cons]
      have := ih (i := i) (by simpa using hi) (fun k hk hki => by have := h1 (k + 1) (by simpa using hk) (by omega); simpa using this) (fun k hk hki => by have := h2 (k + 1) (by simpa using hk) (by omega); simpa using this)
      omega
theorem firstK_le (h : Nat) (L : List Pt) : firstK h L ≤ L.length := by
  unfold firstK; exact List.Sublist.length_le (List.takeWhile_sublist _)
theorem pt_mono {L : List Pt} (hs : L.Pairwise ptLe) {i j : Nat} (hij : i ≤ j) (hj : j < L.length) : (L[i]).1 ≤ (L[j]).1 := by
  rcases Nat.lt_or_ge i j with h | h
  · rcases List.pairwise_iff_getElem.1 hs i j (by omega) hj h with h' | ⟨h', _⟩ <;> omega
  · have : i = j := by omega
    subst this; exact Nat.le_refl _
theorem own1_any (x : Pt) (h : Nat) (W : World) : Calls Tryd.prog 35 #[.agg #[.int .u64 (x.1 : Int), .string ⟨x.2.toArray⟩], .int .u64 (h : Int)] W fun e w' => e = .returned (.int .i64 (if x.1 < h then -1 else if h < x.1 then 1 else 0)) ∧ Below W.heap.size W w' := by
  have HU := fun W' => Lib.hid (cmpU_any x.1 h W')
  generalize (if x.1 < h then (-1 : Int) else if h < x.1 then 1 else 0) = r1 at HU ⊢
  go_enter Tryd.func35, Tryd.ntmps35
  go_wp2_with (go_at_call 36; refine (HU _).out.mono ?_; rintro e w1 ⟨rfl, rfl⟩)
  go_ret
  exact ⟨rfl, by (repeat (first | exact Below.refl _ _ | refine bel_drewN ?_ _ | refine bel_drew ?_ | refine bel_alloc ?_ _ | refine bel_set ?_ (by simp) _))⟩
theorem own1_as (x1 : Nat) (x2 : List UInt8) (h : Nat) (t : Bool) (ht : decide (x1 < h) = t) (W : World) : Calls Tryd.prog 35 #[.agg #[.int .u64 (x1 : Int), .string ⟨x2.toArray⟩], .int .u64 (h : Int)] W fun e w' => ∃ r, e = .returned (.int .i64 r) ∧ decide (r < 0) = t ∧ Below W.heap.size W w' :=
  Calls.mono (own1_any (x1, x2) h W) fun e w' ⟨he, hb⟩ => ⟨_, he, by
    rw [← ht]; simp only
    by_cases h1 : x1 < h
    · simp [h1]
    · by_cases h2 : h < x1 <;> simp [h1, h2], hb⟩
set_option maxHeartbeats 4000000 in
theorem bsF_any (w : World) (A : Option Addr) (c : Nat) (L : List Pt) (h : Nat) (hs : SpPt w A L) (hso : L.Pairwise ptLe) (hl : L.length ≤ 1000000) :
    Calls Tryd.prog 33 #[.slice A L.length c, .int .u64 (h : Int), .func (.func 35) #[] #[]] w fun e w' => ∃ b, e = .returned (.tuple #[.int .i64 (firstK h L : Int), .bool b]) ∧ Below w.heap.size w w' := by
  have HS := Lib.hid hs
  have HSO := Lib.hid hso
  have hlN : (L.length : Int) ≤ 1000000 := by omega
  clear hs hso
  go_enter Tryd.func33, Tryd.ntmps33
  go_wp2_with fail
  go_loopw [9, 10, 11] (fun si sj _ wr => ∃ i j : Nat, si = .int .i64 i ∧ sj = .int .i64 j ∧ i ≤ j ∧ j ≤ L.length ∧ (∀ k (hk : k < L.length), k < i → (L[k]).1 < h) ∧ (∀ k (hk : k < L.length), j ≤ k → h ≤ (L[k]).1) ∧ Below w.heap.size w wr) (fun si sj _ _ => (intOf sj).toNat - (intOf si).toNat)
  case atStart => exact ⟨0, L.length, rfl, rfl, Nat.zero_le _, Nat.le_refl _, fun k hk h0 => by omega, fun k hk h0 => by omega, Below.refl _ _⟩
  case round =>
    obtain ⟨i, j, rfl, rfl, hij, hj, hlo, hhi, hb⟩ := hrel
    have HLO := Lib.hid hlo
    have HHI := Lib.hid hhi
    have HB := Lib.hid hb
    clear hlo hhi hb
    by_cases hlt : i < j
    · obtain ⟨m, hm⟩ : ∃ m, (i + j) / 2 = m := ⟨_, rfl⟩
      have em : ((i : Int) + (j : Int)) / 2 = (m : Int) := by omega
      have him : i ≤ m ∧ m < j := by omega
      have hml : m < L.length := by omega
      have hmL : (m : Int) < (L.length : Int) := by omega
      obtain ⟨b, off, e, hbl, c1, c2⟩ := (HS.out.below HB.out).at' m hml
      have HMA := Lib.hid (fun (q : (L[m]).1 < h) k (hk : k < L.length) (hkm : k < m + 1) => Nat.lt_of_le_of_lt (pt_mono HSO.out (i := k) (j := m) (by omega) hml) q)
      have HMB := Lib.hid (fun (q : h ≤ (L[m]).1) k (hk : k < L.length) (hkm : m ≤ k) => Nat.le_trans q (pt_mono HSO.out hkm hk))
      obtain ⟨⟨x1, x2⟩, hx⟩ : ∃ x, L[m] = x := ⟨_, rfl⟩
      rw [hx] at c1 c2 HMA HMB
      simp only at c1 c2 HMA HMB
      clear hx hm
      rw [e]
      by_cases hc : x1 < h
      · have HC := fun W => Lib.hid (own1_as x1 x2 h true (by simpa using hc) W)
        go_wp2_with (go_at_call 35; refine (HC _).out.mono ?_; rintro e w1 ⟨r, rfl, hrt, hb1⟩)
        go_roundw
        case rel => exact ⟨m + 1, j, by go_num, rfl, by omega, hj, HMA.out hc, HHI.out, bel_chain hb1 HB.out⟩
        case measure => simp [intOf]; omega
      · have HC := fun W => Lib.hid (own1_as x1 x2 h false (by simpa using hc) W)
        go_wp2_with (go_at_call 35; refine (HC _).out.mono ?_; rintro e w1 ⟨r, rfl, hrt, hb1⟩)
        go_roundw
        case rel => exact ⟨i, m, rfl, by go_num, by omega, by omega, HLO.out, HMB.out (by omega), bel_chain hb1 HB.out⟩
        case measure => simp [intOf]; omega
    · obtain rfl : i = j := by omega
      have HF := Lib.hid (firstK_eq hj HLO.out HHI.out)
      clear HLO HHI HSO hlt hij
      by_cases hil : i < L.length
      · have hiL : (i : Int) < (L.length : Int) := by omega
        obtain ⟨b, off, e, hbl, c1, c2⟩ := (HS.out.below HB.out).at' i hil
        obtain ⟨⟨x1, x2⟩, hx⟩ : ∃ x, L[i] = x := ⟨_, rfl⟩
        rw [hx] at c1 c2
        simp only at c1 c2
        clear hx
        rw [e]
        have HC := fun W => Lib.hid (own1_any (x1, x2) h W)
        simp only at HC
        generalize (if x1 < h then (-1 : Int) else if h < x1 then 1 else 0) = r1 at HC
        go_wp2_with (go_at_call 35; refine (HC _).out.mono ?_; rintro e w1 ⟨rfl, hb1⟩)
        refine bodyPost_ret (by simp [results, Tryd.results33, go_sem]; try rfl) rfl ?_
        exact ⟨_, by rw [HF.out], bel_chain hb1 HB.out⟩
      · have hiL : ¬ (i : Int) < (L.length : Int) := by omega
        go_wp2_with fail
        refine bodyPost_ret (by simp [results, Tryd.results33, go_sem]; try rfl) rfl ?_
        exact ⟨.inl (by rw [HF.out]), HB.out⟩
end Go.Proofs.YtnlamjebgkgbaaaDoor
namespace Go.Proofs.YtnlamjebgkgbaaaDoor
open Go.RowKit

theorem spCells_get (L : List (Int × Int)) (i : Nat) (x : Int × Int) (h : L[i]? = some x) : (spCells L)[i * 2]? = some (.int .i64 x.1) ∧ (spCells L)[i * 2 + 1]? = some (.int .i64 x.2) := by
  have := spCells_even L i x h
  rw [Nat.mul_comm] at this
  exact this
/-- A row of spans that was just laid. -/
theorem Sp.built (w : World) (L : List (Int × Int)) (T : TypeId) : Sp (w.alloc (.cells (spCells L).toArray T)) (some ⟨w.heap.size, 0, none⟩) L.length L :=
  ⟨Nat.le_refl _, (fun e => by cases e), fun _ => ⟨w.heap.size, 0, rfl, by simp, fun i x hx => by
    have := spCells_get L i x hx
    have hc : ∀ j, (w.alloc (.cells (spCells L).toArray T)).cell? ⟨w.heap.size, j, none⟩ = (spCells L)[j]? := fun j => by
      rw [Lib.cell_of_heap (heap_alloc_new w _)]; simp
    rw [hc, hc, Nat.zero_add]
    exact this⟩⟩

theorem Sp.built' {w : World} {g : Nat} (L : List (Int × Int)) (T : TypeId) (hg : g = w.heap.size) : Sp (w.alloc (.cells (spCells L).toArray T)) (some ⟨g, 0, none⟩) L.length L := by
  subst hg; exact Sp.built w L T
/-- The texts of small numbers. -/
def ntS (n : Int) : List UInt8 := if 0 ≤ n ∧ n < 100 then Lib.decDigits n.toNat else []
theorem ntS_len (n : Int) : (ntS n).length ≤ 40 := by
  unfold ntS
  split
  · rename_i h
    by_cases h1 : n.toNat < 10
    · rw [Lib.decDigits_one h1]; simp
    · rw [Lib.decDigits_two h1 (by omega)]; simp
  · simp
def wakeL : List (Int × Int) := [(0, 6), (9, 4611686018427387904)]
theorem wake_cano : cano [(9, 4611686018427387904), (0, 4), (4, 6)] = wakeL := by decide
theorem wake_text : joinT (spT ntS) wakeL = [48, 45, 54, 44, 57, 45] := by
  simp [joinT, spT, ntS, wakeL, Lib.decDigits_one]

theorem wake_first : firstL wakeL 7 = some (9, 4611686018427387904) := by decide

end Go.Proofs.YtnlamjebgkgbaaaDoor
