/- Contract of shape.Spans; the chapter's examples, plain. Plain: what may be told, for the laws of heads and seeds. The chapter's examples. Contract of the law's alive. Contracts of the document's digits and content ranges. Contract of the document's Fields at age 0, where a version may be. Contracts of field's small, alike and Get. Contract of field.Get. Contracts of the document's Low, Alike, Of, Get (07). Contracts of the document's Of, Get (07). Contracts of shape.rightWhole, and of what a 200 may be. -/
import Derived.Test.YtaaefgieklkekaaGreatDoorZI20
import Derived.Test.YtaaefgieklkekaaGreatDoorZD5
import Derived.Test.YtaaefgieklkekaaGreatDoorZM1
import Derived.Test.YtaaefgieklkekaaGreatDoorZI14
import Derived.Test.YtaaefgieklkekaaGreatDoorZI10
import Derived.Deep.RegionHeld3
import Derived.Test.YtaaefgieklkekaaGreatDoorZI5
namespace Go.Proofs.YtaaefgieklkekaaGreatDoor
open Go.RowKit

/-- The spans of parts. -/
def spansL : List PartL → List (Int × Int)
  | [] => []
  | p :: r => (if p.1.isEmpty then [p.2] else []) ++ spansL r
theorem spansL_append : ∀ (a b : List PartL), spansL (a ++ b) = spansL a ++ spansL b
  | [], b => rfl
  | p :: r, b => by rw [List.cons_append, spansL, spansL, spansL_append r b, List.append_assoc]
theorem spansL_len : ∀ (P : List PartL), (spansL P).length ≤ P.length
  | [] => Nat.le_refl _
  | p :: r => by
    have := spansL_len r
    rw [spansL, List.length_append, List.length_cons]
    split <;> simp <;> omega
theorem spansL_step {P : List PartL} {k : Nat} (hk : k < P.length) : spansL (P.take (k + 1)) = spansL (P.take k) ++ (if P[k].1.isEmpty then [P[k].2] else []) := by
  rw [List.take_succ_eq_append_getElem hk, spansL_append]
  simp [spansL]
theorem spansF_eq (total : Int) (kd bd : List UInt8) : ∀ (f : Bool) (S : List (Int × Int)), spansL (partsF total kd bd f S) = S
  | _, [] => rfl
  | f, s :: r => by
    rw [partsF, spansL, spansL, spansF_eq total kd bd false r]
    have h : ((if f = true then [] else [13, 10]) ++ headT s total kd bd).isEmpty = false := by
      unfold headT; cases f <;> rfl
    simp only [h]
    rfl
theorem spansL_parts (S : List (Int × Int)) (total : Int) (kd bd : List UInt8) : spansL (partsL S total kd bd) = S := by
  unfold partsL
  rw [spansL_append, spansF_eq]
  have h : (endT bd).isEmpty = false := rfl
  simp [spansL, h]
set_option maxHeartbeats 4000000 in
set_option maxRecDepth 100000 in
theorem spans_any (st sz : Int) (FA : Option Addr) (fk fc : Nat) (PA : Option Addr) (pc pk : Nat) (P : List PartL) (w : World) (hpk : pk = P.length) (h : SpG encPt 3 w PA pc P) (hl : P.length ≤ 1000) :
    Calls Tryz.prog 15 #[.agg #[.int .i64 st, .slice FA fk fc, .slice PA pk pc, .int .i64 sz]] w (RetSp (spansL P) w) := by
  subst hpk
  have HH := Lib.hid h
  clear h
  go_enter Tryz.func15, Tryz.ntmps15
  go_wp2_with fail
  go_loopw [3, 5, 9] (fun v _ i wr => ∃ (k : Nat) (A' : Option Addr) (c' m : Nat), k ≤ P.length ∧ i = .int .i64 (k : Int) ∧ m = (spansL (P.take k)).length ∧ v = .slice A' m c' ∧ Own wr w.heap.size A' c' (spansL (P.take k)) ∧ Below w.heap.size w wr) (fun _ _ i _ => P.length - (intOf i).toNat)
  case atStart => exact ⟨0, none, 0, 0, Nat.zero_le _, rfl, rfl, rfl, Own.nil _ _, bel_alloc (Below.refl _ _) _⟩
  case round =>
    obtain ⟨k, A', c', m, hk, rfl, hm, rfl, hown, hbw⟩ := hrel
    have HO := Lib.hid hown
    have HB := Lib.hid hbw
    have HM := Lib.hid hm
    have hml : m ≤ 1000 := by have := spansL_len (P.take k); rw [hm]; rw [List.length_take] at this; omega
    clear hown hbw hm
    by_cases hlt : k < P.length
    · obtain ⟨b, off, e, hb, hc⟩ := (HH.out.below HB.out).at' k hlt
      have c0 := hc 0 _ rfl
      have c1 := hc 1 _ rfl
      have c2 := hc 2 _ rfl
      simp only [Nat.add_zero] at c0
      have HST := Lib.hid (spansL_step hlt)
      obtain ⟨⟨t, x1, x2⟩, hx⟩ : ∃ p, P[k] = p := ⟨_, rfl⟩
      rw [hx] at c0 c1 c2 HST
      simp only at c0 c1 c2 HST
      clear hx hc
      rw [e]
      cases hte : t.isEmpty with
      | false =>
        have HS : Hid (spansL (P.take (k + 1)) = spansL (P.take k)) := by simp only [Hid]; rw [HST.out, hte]; simp
        go_wp2_with fail
        go_roundw
        case rel => exact ⟨k + 1, A', c', m, by omega, by go_num, by rw [HS.out]; exact HM.out, rfl, by rw [HS.out]; exact HO.out.alloc _, bel_alloc HB.out _⟩
        case measure => simp [intOf]; omega
      | true =>
        have HS : Hid (spansL (P.take (k + 1)) = spansL (P.take k) ++ [(x1, x2)]) := by simp only [Hid]; rw [HST.out, hte]; simp
        have HM' := HM.out
        obtain ⟨G, hG⟩ : ∃ G, spansL (P.take k) = G := ⟨_, rfl⟩
        rw [hG] at HO HS HM'
        subst HM'
        clear hG HM HST
        go_wp2_with (at_builtin; refine wpl_append (w0 := w) rfl (.tmp 16) (.tmp 19) rfl A' c' G rfl (by exact (HO.out.alloc _).alloc _) _ x1 x2 rfl (by first | exact cell_new0 _ _ _ _ | simp [go_sem]) (by first | exact cell_new1 _ _ _ _ | simp [go_sem]) (by omega) (by exact bel_alloc (bel_alloc HB.out _) _) ?_; intro A2 c2' w2 hown2 hbw2 _)
        go_roundw
        case rel => exact ⟨k + 1, A2, c2', G.length + 1, by omega, by go_num, by rw [HS.out]; simp, rfl, by rw [HS.out]; exact hown2, hbw2⟩
        case measure => simp [intOf]; omega
    · have hke : k = P.length := by omega
      rw [hke, List.take_length] at HM HO
      have HM' := HM.out
      generalize spansL P = G at *
      subst HM'
      clear HM hke
      go_wp2_with fail
      go_ret
      exact ⟨A', c', rfl, HO.out, HB.out⟩
def exMeta : MetaL := ⟨[], false, -1, 10, 10, 0, 0, 0, [], [], false⟩
theorem exMeta_ok : MetaOk exMeta := (metaOk_iff _).1 (by decide)
theorem exA_res : resL 10 [(0, 1), (8, -1)] = [(0, 2), (8, 10)] := by decide
theorem exB_res : resL 10 [(0, 4), (5, 5)] = [(0, 5), (5, 6)] := by decide
theorem exD_res : resL 10 [(10, -1)] = [] := by decide
theorem exA_fold : Folded 0 [(0, 2), (8, 10)] [((0, 2), 0), ((8, 10), 1)] := by
  refine ⟨⟨fun o ho => ?_, fun i hi => ?_, fun o ho => ?_, fun o ho => ?_, fun o ho p h1 h2 => ?_⟩, ?_, ?_⟩
  · simp at ho; rcases ho with rfl | rfl <;> simp [inP]
  · simp at hi
    have : i = 0 ∨ i = 1 := by omega
    rcases this with rfl | rfl <;> simp [inP]
  · simp at ho; rcases ho with rfl | rfl <;> simp [inP]
  · simp at ho; rcases ho with rfl | rfl <;> simp [inP]
  · simp at ho; rcases ho with rfl | rfl <;> simp at h1 h2 ⊢ <;> omega
  · simp [nearQ]
  · simp
theorem exB_fold : Folded 0 [(0, 5), (5, 6)] [((0, 6), 0)] := by
  refine ⟨⟨fun o ho => ?_, fun i hi => ?_, fun o ho => ?_, fun o ho => ?_, fun o ho p h1 h2 => ?_⟩, ?_, ?_⟩
  · simp at ho; subst ho; simp [inP]
  · simp at hi
    have : i = 0 ∨ i = 1 := by omega
    rcases this with rfl | rfl <;> simp [inP]
  · simp at ho; subst ho; simp [inP]
  · simp at ho; subst ho; simp [inP]
  · simp at ho; subst ho; simp at h1 h2 ⊢; omega
  · simp
  · simp
theorem exA_map {O : List ((Int × Int) × Nat)} (h : Folded 0 [(0, 2), (8, 10)] O) : O.map Prod.fst = [(0, 2), (8, 10)] := by
  rw [h.eq (by simp) (by decide) exA_fold]; rfl
theorem exB_map {O : List ((Int × Int) × Nat)} (h : Folded 0 [(0, 5), (5, 6)] O) : O.map Prod.fst = [(0, 6)] := by
  rw [h.eq (by simp) (by decide) exB_fold]; rfl
end Go.Proofs.YtaaefgieklkekaaGreatDoor
namespace Go.Proofs.YtaaefgieklkekaaGreatDoor
open Go.RowKit

/-- May an answer be told? -/
def AnsP (r : ReqL) (m : MetaL) (o cs seed : Int) (a : AnsL) : Prop :=
  if o = 3 then a = ⟨304, fieldsL m, [], 0⟩ else if o = 4 then a = ⟨412, fieldsL m, [], 0⟩ else if countB r m o cs = true then ∃ O, Folded 0 (resL m.hv r.L) O ∧ a = rangedA m (O.map Prod.fst) seed else a = wholeA m r.hd
theorem shape_told {r : ReqL} {m : MetaL} {o cs seed : Int} {w w' : World} {e : Ending} (h : ShapePost r m o cs seed w e w') : ∃ a, AnsP r m o cs seed a ∧ RetAns a w e w' := by
  unfold ShapePost at h
  unfold AnsP
  by_cases h3 : o = 3
  · rw [if_pos h3] at h; exact ⟨_, by rw [if_pos h3], h⟩
  · rw [if_neg h3] at h
    by_cases h4 : o = 4
    · rw [if_pos h4] at h; exact ⟨_, by rw [if_neg h3, if_pos h4], h⟩
    · rw [if_neg h4] at h
      by_cases hc : countB r m o cs = true
      · rw [if_pos hc] at h
        obtain ⟨O, hO, h⟩ := h
        exact ⟨_, by rw [if_neg h3, if_neg h4, if_pos hc]; exact ⟨O, hO, rfl⟩, h⟩
      · rw [if_neg hc] at h; exact ⟨_, by rw [if_neg h3, if_neg h4, if_neg hc], h⟩
theorem rangedA_len (m : MetaL) (O : List (Int × Int)) (seed : Int) (h : O.length ≤ 70) : (rangedA m O seed).fs.length ≤ 11 ∧ (rangedA m O seed).ps.length ≤ 141 := by
  have hf := fieldsL_len m
  match O, h with
  | [], _ => exact ⟨by simp only [rangedA, List.length_append, List.length_cons, List.length_nil]; omega, by simp [rangedA]⟩
  | [s], _ => exact ⟨by simp only [rangedA, List.length_append, List.length_cons, List.length_nil]; omega, by simp [rangedA]⟩
  | s :: t :: r, h => exact ⟨by simp only [rangedA, List.length_append, List.length_cons, List.length_nil]; omega, by simp only [rangedA, partsL_len]; omega⟩
theorem AnsP.len {r : ReqL} {m : MetaL} {o cs seed : Int} {a : AnsL} (h : AnsP r m o cs seed a) (hl : r.L.length ≤ 70) : a.fs.length ≤ 1000 ∧ a.ps.length ≤ 1000 := by
  have hf := fieldsL_len m
  unfold AnsP at h
  split at h
  · subst h; exact ⟨by simp only; omega, by simp⟩
  · split at h
    · subst h; exact ⟨by simp only; omega, by simp⟩
    · split at h
      · obtain ⟨O, hO, rfl⟩ := h
        have h1 : (O.map Prod.fst).length ≤ 70 := by
          have h2 := hO.few
          have h3 := resL_length m.hv r.L
          rw [List.length_map]; omega
        have h4 := rangedA_len m _ seed h1
        omega
      · subst h
        refine ⟨by simp only [wholeA]; omega, ?_⟩
        simp only [wholeA]
        split <;> simp
theorem rangedA_st (m : MetaL) (O : List (Int × Int)) (seed : Int) : (rangedA m O seed).st = 416 ∧ (rangedA m O seed).ps = [] ∧ (rangedA m O seed).sz = 0 ∨ (rangedA m O seed).st = 206 := by
  match O with
  | [] => exact .inl ⟨rfl, rfl, rfl⟩
  | [s] => exact .inr rfl
  | s :: t :: r => exact .inr rfl
/-- The statuses, and the bodies that aren't. -/
theorem AnsP.bare {r : ReqL} {m : MetaL} {o cs seed : Int} {a : AnsL} (h : AnsP r m o cs seed a) : ((a.st == 304) = (o == 3)) ∧ ((a.st == 412) = (o == 4)) ∧ (a.st ≠ 200 → a.st ≠ 206 → a.ps = [] ∧ a.sz = 0) := by
  unfold AnsP at h
  split at h
  · rename_i h3; subst h; subst h3; exact ⟨rfl, rfl, fun _ _ => ⟨rfl, rfl⟩⟩
  · rename_i h3
    have e3 : (o == 3) = false := by rw [beq_eq_false_iff_ne]; exact h3
    split at h
    · rename_i h4; subst h; subst h4; exact ⟨rfl, rfl, fun _ _ => ⟨rfl, rfl⟩⟩
    · rename_i h4
      have e4 : (o == 4) = false := by rw [beq_eq_false_iff_ne]; exact h4
      rw [e3, e4]
      split at h
      · obtain ⟨O, hO, rfl⟩ := h
        rcases rangedA_st m (O.map Prod.fst) seed with ⟨h1, h2, h3⟩ | h1
        · rw [h1]; exact ⟨rfl, rfl, fun _ _ => ⟨h2, h3⟩⟩
        · rw [h1]; exact ⟨rfl, rfl, fun _ h => absurd rfl h⟩
      · subst h; exact ⟨rfl, rfl, fun h => absurd rfl h⟩
theorem AnsP.head {r : ReqL} {m : MetaL} {o cs seed : Int} {a : AnsL} (hh : r.hd = true) (h : AnsP r m o cs seed a) : a.ps = [] ∧ (o ≤ 2 → a.st = 200 ∧ a.sz = m.len) := by
  have hc : countB r m o cs = false := by unfold countB; rw [hh]; simp
  unfold AnsP at h
  rw [hc, if_neg (by simp : ¬ false = true)] at h
  split at h
  · subst h; exact ⟨rfl, fun _ => by omega⟩
  · split at h
    · subst h; exact ⟨rfl, fun _ => by omega⟩
    · subst h; exact ⟨by simp [wholeA, hh], fun _ => ⟨rfl, rfl⟩⟩
theorem sizeF_bound {total : Int} {kd b1 b2 : List UInt8} (hb : b1.length = b2.length) : ∀ (L : List (Int × Int)) (f : Bool) (n : Int), sizeF n (partsF total kd b1 f L ++ [(endT b1, (0, 0))]) = sizeF n (partsF total kd b2 f L ++ [(endT b2, (0, 0))])
  | [], f, n => by
    simp only [partsF, List.nil_append, sizeF]
    have e1 : endT b1 ≠ [] := by simp [endT]
    have e2 : endT b2 ≠ [] := by simp [endT]
    rw [if_pos e1, if_pos e2]
    simp [endT, hb]
  | x :: r, f, n => by
    simp only [partsF, List.cons_append, sizeF]
    have e1 : (if f = true then [] else [13, 10]) ++ headT x total kd b1 ≠ [] := by simp [headT]
    have e2 : (if f = true then [] else [13, 10]) ++ headT x total kd b2 ≠ [] := by simp [headT]
    have e3 : ((if f = true then [] else [13, 10]) ++ headT x total kd b1).length = ((if f = true then [] else [13, 10]) ++ headT x total kd b2).length := by
      simp [headT, hb]
    rw [if_pos e1, if_pos e2, e3]
    simp only [ne_eq, not_true_eq_false, if_false]
    split
    · rfl
    · exact sizeF_bound hb r false _
theorem rangedA_seeds (m : MetaL) (O : List (Int × Int)) {s1 s2 : Int} (h1 : -9223372036854775808 ≤ s1 ∧ s1 ≤ 9223372036854775807) (h2 : -9223372036854775808 ≤ s2 ∧ s2 ≤ 9223372036854775807) :
    (rangedA m O s1).st = (rangedA m O s2).st ∧ (rangedA m O s1).sz = (rangedA m O s2).sz ∧ spansL (rangedA m O s1).ps = spansL (rangedA m O s2).ps ∧ (rangedA m O s1).ps.length = (rangedA m O s2).ps.length ∧ (((rangedA m O s1).fs = (rangedA m O s2).fs ∧ (rangedA m O s1).ps.map normP = (rangedA m O s2).ps.map normP) ↔ ((rangedA m O s1).ps.length < 2 ∨ s1 = s2)) := by
  match O with
  | [] => exact ⟨rfl, rfl, rfl, rfl, fun _ => .inl (by simp [rangedA]), fun _ => ⟨rfl, rfl⟩⟩
  | [s] => exact ⟨rfl, rfl, rfl, rfl, fun _ => .inl (by simp [rangedA]), fun _ => ⟨rfl, rfl⟩⟩
  | s :: t :: r =>
    refine ⟨rfl, ?_, ?_, ?_, ?_, ?_⟩
    · simp only [rangedA, sizeL, partsL]
      exact sizeF_bound (by rw [boundT_len, boundT_len]) _ _ _
    · simp only [rangedA, spansL_parts]
    · simp only [rangedA, partsL_len]
    · rintro ⟨hf, _⟩
      right
      simp only [rangedA] at hf
      have h3 := List.append_cancel_left hf
      injection h3 with h3
      injection h3 with _ h3
      exact boundT_inj h1 h2 (List.append_cancel_left h3)
    · rintro (hl | rfl)
      · simp only [rangedA, partsL_len, List.length_cons] at hl
        omega
      · exact ⟨rfl, rfl⟩
theorem AnsP.seeds {r : ReqL} {m : MetaL} {o cs s1 s2 : Int} {a b : AnsL} (hr : ∀ x ∈ resL m.hv r.L, x.1 < x.2) (h1 : -9223372036854775808 ≤ s1 ∧ s1 ≤ 9223372036854775807) (h2 : -9223372036854775808 ≤ s2 ∧ s2 ≤ 9223372036854775807) (ha : AnsP r m o cs s1 a) (hb : AnsP r m o cs s2 b) :
    a.st = b.st ∧ a.sz = b.sz ∧ spansL a.ps = spansL b.ps ∧ a.ps.length = b.ps.length ∧ (SameA a.st a.sz b.st b.sz a.fs b.fs a.ps b.ps ↔ (a.ps.length < 2 ∨ s1 = s2)) := by
  have same : ∀ x : AnsL, x.ps.length < 2 → x.st = x.st ∧ x.sz = x.sz ∧ spansL x.ps = spansL x.ps ∧ x.ps.length = x.ps.length ∧ (SameA x.st x.sz x.st x.sz x.fs x.fs x.ps x.ps ↔ (x.ps.length < 2 ∨ s1 = s2)) := fun x hx => ⟨rfl, rfl, rfl, rfl, fun _ => .inl hx, fun _ => ⟨rfl, rfl, rfl, rfl⟩⟩
  unfold AnsP at ha hb
  split at ha
  · rename_i h3; rw [if_pos h3] at hb; subst ha hb; exact same _ (by simp)
  · rename_i h3
    rw [if_neg h3] at hb
    split at ha
    · rename_i h4; rw [if_pos h4] at hb; subst ha hb; exact same _ (by simp)
    · rename_i h4
      rw [if_neg h4] at hb
      split at ha
      · rename_i hc
        rw [if_pos hc] at hb
        obtain ⟨O, hO, rfl⟩ := ha
        obtain ⟨O', hO', rfl⟩ := hb
        have e := hO.eq hr (by decide) hO'
        subst e
        obtain ⟨a1, a2, a3, a4, a5⟩ := rangedA_seeds m (O.map Prod.fst) h1 h2
        exact ⟨a1, a2, a3, a4, fun h => a5.1 ⟨h.2.2.1, h.2.2.2⟩, fun h => ⟨a1, a2, (a5.2 h).1, (a5.2 h).2⟩⟩
      · rename_i hc
        rw [if_neg hc] at hb
        subst ha hb
        exact same _ (by simp only [wholeA]; split <;> simp)
end Go.Proofs.YtaaefgieklkekaaGreatDoor
namespace Go.Proofs.YtaaefgieklkekaaGreatDoor
open Go.RowKit

theorem shape_counts {r : ReqL} {m : MetaL} {cs seed : Int} {w w' : World} {e : Ending} (h : ShapePost r m 1 cs seed w e w') (hc : countB r m 1 cs = true) : RangedPost m (resL m.hv r.L) seed w e w' := by
  unfold ShapePost at h
  rw [if_neg (by decide), if_neg (by decide), if_pos hc] at h
  exact h
def exReq (A : Option Addr) (c : Nat) (L : List (Int × Int)) : ReqL := ⟨false, ⟨#[]⟩, A, c, L, none, 0, 0, none, 0, 0, false, false, 0, 0, ⟨#[]⟩, false⟩
def exMC : Array Value := #[.string ⟨#[]⟩, .bool false, .int .i64 (-1), .int .i64 10, .int .i64 10, .int .i64 0, .int .i64 0, .int .i64 0, .slice none 0 0, .string ⟨#[]⟩, .bool false]
def exCC : Array Value := #[.int .i64 0, .int .i64 0, .int .i64 0, .int .i64 4, .int .i64 0, .int .i64 0, .int .i64 0, .int .i64 0, .int .i64 0, .int .i64 0]
set_option maxHeartbeats 4000000 in
set_option maxRecDepth 100000 in
theorem ask_any (A : Option Addr) (c : Nat) (L : List (Int × Int)) (mb cb : Nat) (w : World) (hs : Sp w A c L) (hR : allR L = true) (hl : L.length ≤ 70) (h0 : L ≠ []) (hc : costB 10 4 L = false) (hm : w.heap[mb]? = some (.cells exMC 32 (0, 0))) (hcc : w.heap[cb]? = some (.cells exCC 34 (0, 0))) (henv : Env w) :
    Calls Tryz.prog 27 #[.slice A L.length c, .pointer (some ⟨mb, 0, none⟩), .pointer (some ⟨cb, 0, none⟩)] w (fun e w' => ∃ O, Folded 0 (resL 10 L) O ∧ RetAns (rangedA exMeta (O.map Prod.fst) 1) w e w') := by
  have HSH := fun W hW (hb : Below w.heap.size w W) => Lib.hid (shape_any (exReq A c L) exMeta none 0 1 0 0 0 4 0 0 0 0 0 0 1 W hW hR hl (SpG.nil W) exMeta_ok (henv.below hb) (by decide) (by decide))
  have HCB : Hid (countB (exReq A c L) exMeta 1 4 = true) := by
    simp only [Hid, countB, exReq]
    cases L with
    | nil => exact absurd rfl h0
    | cons a r => rw [show exMeta.hv = 10 from rfl, hc]; rfl
  have HM := Lib.hid hm
  have HC := Lib.hid hcc
  have HS := Lib.hid hs
  unfold exReq reqA metaV cfgV at HSH
  unfold exMeta at HSH
  simp only at HSH
  have hmz := blk_lt hm
  have hcz := blk_lt hcc
  have v0 : w.cell? ⟨mb, 0, none⟩ = some (.string ⟨#[]⟩) := blk_cell (i := 0) hm rfl
  have v1 : w.cell? ⟨mb, 1, none⟩ = some (.bool false) := blk_cell (i := 1) hm rfl
  have v2 : w.cell? ⟨mb, 2, none⟩ = some (.int .i64 (-1)) := blk_cell (i := 2) hm rfl
  have v3 : w.cell? ⟨mb, 3, none⟩ = some (.int .i64 10) := blk_cell (i := 3) hm rfl
  have v4 : w.cell? ⟨mb, 4, none⟩ = some (.int .i64 10) := blk_cell (i := 4) hm rfl
  have v5 : w.cell? ⟨mb, 5, none⟩ = some (.int .i64 0) := blk_cell (i := 5) hm rfl
  have v6 : w.cell? ⟨mb, 6, none⟩ = some (.int .i64 0) := blk_cell (i := 6) hm rfl
  have v7 : w.cell? ⟨mb, 7, none⟩ = some (.int .i64 0) := blk_cell (i := 7) hm rfl
  have v8 : w.cell? ⟨mb, 8, none⟩ = some (.slice none 0 0) := blk_cell (i := 8) hm rfl
  have v9 : w.cell? ⟨mb, 9, none⟩ = some (.string ⟨#[]⟩) := blk_cell (i := 9) hm rfl
  have v10 : w.cell? ⟨mb, 10, none⟩ = some (.bool false) := blk_cell (i := 10) hm rfl
  have q0 : w.cell? ⟨cb, 0, none⟩ = some (.int .i64 0) := blk_cell (i := 0) hcc rfl
  have q1 : w.cell? ⟨cb, 1, none⟩ = some (.int .i64 0) := blk_cell (i := 1) hcc rfl
  have q2 : w.cell? ⟨cb, 2, none⟩ = some (.int .i64 0) := blk_cell (i := 2) hcc rfl
  have q3 : w.cell? ⟨cb, 3, none⟩ = some (.int .i64 4) := blk_cell (i := 3) hcc rfl
  have q4 : w.cell? ⟨cb, 4, none⟩ = some (.int .i64 0) := blk_cell (i := 4) hcc rfl
  have q5 : w.cell? ⟨cb, 5, none⟩ = some (.int .i64 0) := blk_cell (i := 5) hcc rfl
  have q6 : w.cell? ⟨cb, 6, none⟩ = some (.int .i64 0) := blk_cell (i := 6) hcc rfl
  have q7 : w.cell? ⟨cb, 7, none⟩ = some (.int .i64 0) := blk_cell (i := 7) hcc rfl
  have q8 : w.cell? ⟨cb, 8, none⟩ = some (.int .i64 0) := blk_cell (i := 8) hcc rfl
  have q9 : w.cell? ⟨cb, 9, none⟩ = some (.int .i64 0) := blk_cell (i := 9) hcc rfl
  clear hs hm hcc henv hc h0 hR hl
  go_enter Tryz.func27, Tryz.ntmps27
  go_wp2_with fail
  refine (HSH _ (HS.out.below (bel_alloc (Below.refl _ _) _)) (bel_alloc (Below.refl _ _) _)).out.mono ?_
  rintro e w1 h1
  obtain ⟨O, hO, GA, gc, gk, PA, pc, pk, hgk, hpk, rfl, hg, hp, hb⟩ := shape_counts h1 HCB.out
  have HX := Lib.hid (blk_keep hb (blk_new (w := w) (o := .cells #[.int .i64 0, .slice none 0 0, .slice none 0 0, .int .i64 0] 43) rfl))
  have HGK := Lib.hid hgk
  have HPK := Lib.hid hpk
  clear hgk hpk v0 v1 v2 v3 v4 v5 v6 v7 v8 v9 v10 q0 q1 q2 q3 q4 q5 q6 q7 q8 q9 hmz hcz HSH HM HC
  have x0 := blk_cell (i := 0) HX.out rfl
  have xf0 := blk_frozen (i := 0) HX.out
  have x1 := blk_cell (i := 1) HX.out rfl
  have xf1 := blk_frozen (i := 1) HX.out
  have x2 := blk_cell (i := 2) HX.out rfl
  have xf2 := blk_frozen (i := 2) HX.out
  have x3 := blk_cell (i := 3) HX.out rfl
  have xf3 := blk_frozen (i := 3) HX.out
  have xz := blk_lt HX.out
  go_wp2_with fail
  refine bodyPost_ret (by simp [results, Tryz.results27, go_sem, x0, x1, x2, x3]; try rfl) rfl ?_
  have g0 := HX.out
  have g1 := blk_set (i := 0) (v := .int .i64 (rangedA exMeta (O.map Prod.fst) 1).st) g0
  have g2 := blk_set (i := 1) (v := .slice GA gk gc) g1
  have g3 := blk_set (i := 2) (v := .slice PA pk pc) g2
  exact ⟨O, hO, GA, gc, gk, PA, pc, pk, HGK.out, HPK.out, rfl, (((hg.set_ty g0 (by decide) _).set_ty g1 (by decide) _).set_ty g2 (by decide) _).set_ty g3 (by decide) _, (((hp.set_ty g0 (by decide) _).set_ty g1 (by decide) _).set_ty g2 (by decide) _).set_ty g3 (by decide) _, bel_set (bel_set (bel_set (bel_set (bel_chain hb (bel_alloc (Below.refl _ _) _)) (Nat.le_refl _) _) (Nat.le_refl _) _) (Nat.le_refl _) _) (Nat.le_refl _) _⟩
end Go.Proofs.YtaaefgieklkekaaGreatDoor
namespace Go.Proofs.YtaaefgieklkekaaGreatDoor
open Go.RowKit

def AskPost (st : Int) (S : List (Int × Int)) (n : Nat) (w : World) (e : Ending) (w' : World) : Prop :=
  ∃ GA gc gk PA pc pk sz P, e = .returned (.agg #[.int .i64 st, .slice GA gk gc, .slice PA pk pc, .int .i64 sz]) ∧ pk = n ∧ P.length = n ∧ spansL P = S ∧ SpG encPt 3 w' PA pc P ∧ Below w.heap.size w w'
theorem ask_post {a : AnsL} {w w' : World} {e : Ending} (h : RetAns a w e w') : AskPost a.st (spansL a.ps) a.ps.length w e w' := by
  obtain ⟨GA, gc, gk, PA, pc, pk, hgk, hpk, rfl, hg, hp, hb⟩ := h
  exact ⟨GA, gc, gk, PA, pc, pk, _, a.ps, rfl, hpk, rfl, rfl, hp.sp, hb⟩
theorem askA_any (A : Option Addr) (c : Nat) (mb cb : Nat) (w : World) (hs : Sp w A c [(0, 1), (8, -1)]) (hm : w.heap[mb]? = some (.cells exMC 32 (0, 0))) (hcc : w.heap[cb]? = some (.cells exCC 34 (0, 0))) (henv : Env w) :
    Calls Tryz.prog 27 #[.slice A 2 c, .pointer (some ⟨mb, 0, none⟩), .pointer (some ⟨cb, 0, none⟩)] w (AskPost 206 [(0, 2), (8, 10)] 5 w) := by
  have h1 := ask_any A c [(0, 1), (8, -1)] mb cb w hs (by decide) (by decide) (by decide) (by decide) hm hcc henv
  rw [show List.length ([(0, 1), (8, -1)] : List (Int × Int)) = 2 from rfl] at h1
  refine h1.mono ?_
  rintro e w' ⟨O, hO, h⟩
  rw [exA_res] at hO
  have hm := exA_map hO
  rw [hm] at h
  have h2 := ask_post h
  have e1 : spansL (rangedA exMeta [(0, 2), (8, 10)] 1).ps = [(0, 2), (8, 10)] := by rw [rangedA_two (by decide)]; exact spansL_parts _ _ _ _
  have e2 : (rangedA exMeta [(0, 2), (8, 10)] 1).ps.length = 5 := by rw [rangedA_two (by decide)]; exact partsL_len _ _ _ _
  rw [e1, e2] at h2
  exact h2
theorem askB_any (A : Option Addr) (c : Nat) (mb cb : Nat) (w : World) (hs : Sp w A c [(0, 4), (5, 5)]) (hm : w.heap[mb]? = some (.cells exMC 32 (0, 0))) (hcc : w.heap[cb]? = some (.cells exCC 34 (0, 0))) (henv : Env w) :
    Calls Tryz.prog 27 #[.slice A 2 c, .pointer (some ⟨mb, 0, none⟩), .pointer (some ⟨cb, 0, none⟩)] w (AskPost 206 [(0, 6)] 1 w) := by
  have h1 := ask_any A c [(0, 4), (5, 5)] mb cb w hs (by decide) (by decide) (by decide) (by decide) hm hcc henv
  rw [show List.length ([(0, 4), (5, 5)] : List (Int × Int)) = 2 from rfl] at h1
  refine h1.mono ?_
  rintro e w' ⟨O, hO, h⟩
  rw [exB_res] at hO
  have hm := exB_map hO
  rw [hm] at h
  have h2 := ask_post h
  have e1 : spansL (rangedA exMeta [(0, 6)] 1).ps = [(0, 6)] := by rfl
  have e2 : (rangedA exMeta [(0, 6)] 1).ps.length = 1 := by rfl
  rw [e1, e2] at h2
  exact h2
theorem askD_any (A : Option Addr) (c : Nat) (mb cb : Nat) (w : World) (hs : Sp w A c [(10, -1)]) (hm : w.heap[mb]? = some (.cells exMC 32 (0, 0))) (hcc : w.heap[cb]? = some (.cells exCC 34 (0, 0))) (henv : Env w) :
    Calls Tryz.prog 27 #[.slice A 1 c, .pointer (some ⟨mb, 0, none⟩), .pointer (some ⟨cb, 0, none⟩)] w (AskPost 416 [] 0 w) := by
  have h1 := ask_any A c [(10, -1)] mb cb w hs (by decide) (by decide) (by decide) (by decide) hm hcc henv
  rw [show List.length ([(10, -1)] : List (Int × Int)) = 1 from rfl] at h1
  refine h1.mono ?_
  rintro e w' ⟨O, hO, h⟩
  rw [exD_res] at hO
  have hm := (folded_nil hO).2 rfl
  rw [hm] at h
  have h2 := ask_post h
  have e1 : spansL (rangedA exMeta [] 1).ps = [] := by rfl
  have e2 : (rangedA exMeta [] 1).ps.length = 0 := by rfl
  rw [e1, e2] at h2
  exact h2
set_option maxHeartbeats 16000000 in
set_option maxRecDepth 100000 in
theorem alive_any (w : World) (henv : Env w) : Calls Tryz.prog 9 #[] w fun e w' => e = .returned (.bool true) ∧ Below w.heap.size w w' := by
  have HE := Lib.hid henv
  clear henv
  go_enter Tryz.func9, Tryz.ntmps9
  go_upto_region 4 with fail
  obtain ⟨W0, hW0⟩ : ∃ W0, (w.alloc (.cells #[.string ⟨#[]⟩, .bool false, .int .i64 (-1), .int .i64 10, .int .i64 10, .int .i64 0, .int .i64 0, .int .i64 0, .slice none 0 0, .string ⟨#[]⟩, .bool false] 32)).alloc (.cells #[.int .i64 0, .int .i64 0, .int .i64 0, .int .i64 4, .int .i64 0, .int .i64 0, .int .i64 0, .int .i64 0, .int .i64 0, .int .i64 0] 34) = W0 := ⟨_, rfl⟩
  have HM0 : Hid (W0.heap[w.heap.size]? = some (.cells exMC 32 (0, 0))) := by simp only [Hid]; rw [← hW0]; exact blk_skip (blk_new rfl)
  have HC0 : Hid (W0.heap[w.heap.size + 1]? = some (.cells exCC 34 (0, 0))) := by simp only [Hid]; rw [← hW0]; exact blk_new (by simp)
  have HB0 : Hid (Below w.heap.size w W0) := by simp only [Hid]; rw [← hW0]; (repeat (first | exact Below.refl _ _ | refine bel_drewN ?_ _ | refine bel_drew ?_ | refine bel_alloc ?_ _ | refine bel_set ?_ (by simp) _))
  rw [hW0]
  clear hW0
  have HL2 : ∀ A c A' c' W, Sp W A c [(0, 2), (8, 10)] → Sp W A' c' [(0, 2), (8, 10)] → Hid (Calls Tryz.prog 14 #[.slice A 2 c, .slice A' 2 c'] W fun e w' => e = .returned (.bool true) ∧ Below W.heap.size W w') := fun A c A' c' W h h' => by
    have h1 := rlist_same A c _ A' c' W h h' (by decide)
    rw [show List.length ([(0, 2), (8, 10)] : List (Int × Int)) = 2 from rfl] at h1
    exact Lib.hid h1
  have HL1 : ∀ A c A' c' W, Sp W A c [(0, 6)] → Sp W A' c' [(0, 6)] → Hid (Calls Tryz.prog 14 #[.slice A 1 c, .slice A' 1 c'] W fun e w' => e = .returned (.bool true) ∧ Below W.heap.size W w') := fun A c A' c' W h h' => by
    have h1 := rlist_same A c _ A' c' W h h' (by decide)
    rw [show List.length ([(0, 6)] : List (Int × Int)) = 1 from rfl] at h1
    exact Lib.hid h1
  go_wp2_with fail
  refine (askA_any (some ⟨W0.heap.size, 0, none⟩) 2 w.heap.size (w.heap.size + 1) _ (Sp.built' (w := W0) [(0, 1), (8, -1)] 60 rfl) (blk_skip HM0.out) (blk_skip HC0.out) (HE.out.below (bel_alloc HB0.out _))).mono ?_
  rintro e w1 ⟨GA1, gc1, gk1, PA1, pc1, pk1, sz1, P1, rfl, hpk1, hP1, hS1, hp1, hb1⟩
  have HM1 := Lib.hid (blk_keep hb1 (blk_skip HM0.out))
  have HC1 := Lib.hid (blk_keep hb1 (blk_skip HC0.out))
  have HB1 := Lib.hid (bel_chain hb1 (bel_alloc HB0.out _))
  have HP1_1 := Lib.hid hp1
  subst hpk1
  have HN1 := Lib.hid hP1
  have HS1 := Lib.hid hS1
  clear hp1 hb1 hP1 hS1
  go_wp2_with fail
  refine (askB_any (some ⟨w1.heap.size, 0, none⟩) 2 w.heap.size (w.heap.size + 1) _ (Sp.built' (w := w1) [(0, 4), (5, 5)] 60 rfl) (blk_skip HM1.out) (blk_skip HC1.out) (HE.out.below (bel_alloc HB1.out _))).mono ?_
  rintro e w2 ⟨GA2, gc2, gk2, PA2, pc2, pk2, sz2, P2, rfl, hpk2, hP2, hS2, hp2, hb2⟩
  have HM2 := Lib.hid (blk_keep hb2 (blk_skip HM1.out))
  have HC2 := Lib.hid (blk_keep hb2 (blk_skip HC1.out))
  have HB2 := Lib.hid (bel_chain hb2 (bel_alloc HB1.out _))
  have HP2_2 := Lib.hid hp2
  subst hpk2
  have HN2 := Lib.hid hP2
  have HS2 := Lib.hid hS2
  have HP1_2 := Lib.hid (HP1_1.out.below (bel_chain hb2 (bel_alloc (Below.refl _ _) _)))
  clear hp2 hb2 hP2 hS2
  go_wp2_with fail
  refine (askD_any (some ⟨w2.heap.size, 0, none⟩) 1 w.heap.size (w.heap.size + 1) _ (Sp.built' (w := w2) [(10, -1)] 60 rfl) (blk_skip HM2.out) (blk_skip HC2.out) (HE.out.below (bel_alloc HB2.out _))).mono ?_
  rintro e w3 ⟨GA3, gc3, gk3, PA3, pc3, pk3, sz3, P3, rfl, hpk3, hP3, hS3, hp3, hb3⟩
  have HM3 := Lib.hid (blk_keep hb3 (blk_skip HM2.out))
  have HC3 := Lib.hid (blk_keep hb3 (blk_skip HC2.out))
  have HB3 := Lib.hid (bel_chain hb3 (bel_alloc HB2.out _))
  have HP3_3 := Lib.hid hp3
  subst hpk3
  have HN3 := Lib.hid hP3
  have HS3 := Lib.hid hS3
  have HP1_3 := Lib.hid (HP1_2.out.below (bel_chain hb3 (bel_alloc (Below.refl _ _) _)))
  have HP2_3 := Lib.hid (HP2_2.out.below (bel_chain hb3 (bel_alloc (Below.refl _ _) _)))
  clear hp3 hb3 hP3 hS3
  have HSP1 : ∀ W, SpG encPt 3 W PA1 pc1 P1 → Hid (Calls Tryz.prog 15 #[.agg #[.int .i64 206, .slice GA1 gk1 gc1, .slice PA1 5 pc1, .int .i64 sz1]] W fun e w' => ∃ A c, e = .returned (.slice A 2 c) ∧ Sp w' A c [(0, 2), (8, 10)] ∧ Below W.heap.size W w') := fun W h => by
    refine Lib.hid ((spans_any 206 sz1 GA1 gk1 gc1 PA1 pc1 5 P1 W HN1.out.symm h (by rw [HN1.out]; decide)).mono ?_)
    rintro e w' ⟨A, c, rfl, ho, hb⟩
    rw [HS1.out] at ho ⊢
    exact ⟨A, c, rfl, ho.sp, hb⟩
  have HSP2 : ∀ W, SpG encPt 3 W PA2 pc2 P2 → Hid (Calls Tryz.prog 15 #[.agg #[.int .i64 206, .slice GA2 gk2 gc2, .slice PA2 1 pc2, .int .i64 sz2]] W fun e w' => ∃ A c, e = .returned (.slice A 1 c) ∧ Sp w' A c [(0, 6)] ∧ Below W.heap.size W w') := fun W h => by
    refine Lib.hid ((spans_any 206 sz2 GA2 gk2 gc2 PA2 pc2 1 P2 W HN2.out.symm h (by rw [HN2.out]; decide)).mono ?_)
    rintro e w' ⟨A, c, rfl, ho, hb⟩
    rw [HS2.out] at ho ⊢
    exact ⟨A, c, rfl, ho.sp, hb⟩
  go_upto_region 5 with fail
  obtain ⟨W4, hW4⟩ : ∃ W4, ((w3.alloc (.cells #[.int .i64 206, .slice GA1 gk1 gc1, .slice PA1 5 pc1, .int .i64 sz1] 43)).alloc (.cells #[.int .i64 206, .slice GA2 gk2 gc2, .slice PA2 1 pc2, .int .i64 sz2] 43)).alloc (.cells #[.int .i64 416, .slice GA3 gk3 gc3, .slice PA3 0 pc3, .int .i64 sz3] 43) = W4 := ⟨_, rfl⟩
  have HX4 : Hid (W4.heap[w3.heap.size]? = some (.cells #[.int .i64 206, .slice GA1 gk1 gc1, .slice PA1 5 pc1, .int .i64 sz1] 43 (0, 0))) := by simp only [Hid]; rw [← hW4]; exact blk_skip (blk_skip (blk_new rfl))
  have HY4 : Hid (W4.heap[w3.heap.size + 1]? = some (.cells #[.int .i64 206, .slice GA2 gk2 gc2, .slice PA2 1 pc2, .int .i64 sz2] 43 (0, 0))) := by simp only [Hid]; rw [← hW4]; exact blk_skip (blk_new (by simp))
  have HZ4 : Hid (W4.heap[w3.heap.size + 1 + 1]? = some (.cells #[.int .i64 416, .slice GA3 gk3 gc3, .slice PA3 0 pc3, .int .i64 sz3] 43 (0, 0))) := by simp only [Hid]; rw [← hW4]; exact blk_new (by simp)
  have HB4 : Hid (Below w.heap.size w W4) := by simp only [Hid]; rw [← hW4]; exact bel_alloc (bel_alloc (bel_alloc HB3.out _) _) _
  have HP1_4 : Hid (SpG encPt 3 W4 PA1 pc1 P1) := by simp only [Hid]; rw [← hW4]; exact ((HP1_3.out.alloc _).alloc _).alloc _
  have HP2_4 : Hid (SpG encPt 3 W4 PA2 pc2 P2) := by simp only [Hid]; rw [← hW4]; exact ((HP2_3.out.alloc _).alloc _).alloc _
  rw [hW4]
  clear hW4 HE HM0 HC0 HM1 HC1 HM2 HC2 HM3 HC3 HB0 HB1 HB2 HB3 HP1_1 HP1_2 HP1_3 HP2_2 HP2_3 HP3_3
  have x0 := blk_cell (i := 0) HX4.out rfl
  have x1 := blk_cell (i := 1) HX4.out rfl
  have x2 := blk_cell (i := 2) HX4.out rfl
  have x3 := blk_cell (i := 3) HX4.out rfl
  have y0 := blk_cell (i := 0) HY4.out rfl
  have y1 := blk_cell (i := 1) HY4.out rfl
  have y2 := blk_cell (i := 2) HY4.out rfl
  have y3 := blk_cell (i := 3) HY4.out rfl
  have z0 := blk_cell (i := 0) HZ4.out rfl
  have z1 := blk_cell (i := 1) HZ4.out rfl
  have z2 := blk_cell (i := 2) HZ4.out rfl
  have z3 := blk_cell (i := 3) HZ4.out rfl
  go_wp2_with (first
    | (go_at_call 14; refine (HL1 A7 c7 (some ⟨w7.heap.size, 0, none⟩) 1 _ ((HS7.out).below (bel_alloc (Below.refl _ _) _)) (Sp.built' (w := w7) [(0, 6)] 55 rfl)).out.mono ?_; rintro e w8 ⟨rfl, h8⟩
       have HZ8 := Lib.hid (blk_keep h8 (blk_skip HZ7.out))
       have HB8 := Lib.hid (bel_chain h8 (bel_alloc HB7.out _))
       clear z0 z1 z2 z3
       have z0 := blk_cell (i := 0) HZ8.out rfl
       have z1 := blk_cell (i := 1) HZ8.out rfl
       have z2 := blk_cell (i := 2) HZ8.out rfl
       have z3 := blk_cell (i := 3) HZ8.out rfl)
    | (go_at_call 15; refine (HSP2 _ HP2_6.out).out.mono ?_; rintro e w7 ⟨A7, c7, rfl, hs7, h7⟩
       have HS7 := Lib.hid hs7
       have HZ7 := Lib.hid (blk_keep h7 HZ6.out)
       have HB7 := Lib.hid (bel_chain h7 HB6.out)
       clear z0 z1 z2 z3 hs7
       have z0 := blk_cell (i := 0) HZ7.out rfl
       have z1 := blk_cell (i := 1) HZ7.out rfl
       have z2 := blk_cell (i := 2) HZ7.out rfl
       have z3 := blk_cell (i := 3) HZ7.out rfl)
    | (go_at_call 14; refine (HL2 A5 c5 (some ⟨w5.heap.size, 0, none⟩) 2 _ ((HS5.out).below (bel_alloc (Below.refl _ _) _)) (Sp.built' (w := w5) [(0, 2), (8, 10)] 55 rfl)).out.mono ?_; rintro e w6 ⟨rfl, h6⟩
       have HY6 := Lib.hid (blk_keep h6 (blk_skip HY5.out))
       have HZ6 := Lib.hid (blk_keep h6 (blk_skip HZ5.out))
       have HB6 := Lib.hid (bel_chain h6 (bel_alloc HB5.out _))
       have HP2_6 := Lib.hid ((HP2_5.out.alloc _).below h6)
       clear y0 y1 y2 y3 z0 z1 z2 z3
       have y0 := blk_cell (i := 0) HY6.out rfl
       have y1 := blk_cell (i := 1) HY6.out rfl
       have y2 := blk_cell (i := 2) HY6.out rfl
       have y3 := blk_cell (i := 3) HY6.out rfl
       have z0 := blk_cell (i := 0) HZ6.out rfl
       have z1 := blk_cell (i := 1) HZ6.out rfl
       have z2 := blk_cell (i := 2) HZ6.out rfl
       have z3 := blk_cell (i := 3) HZ6.out rfl)
    | (go_at_call 15; refine (HSP1 _ HP1_4.out).out.mono ?_; rintro e w5 ⟨A5, c5, rfl, hs5, h5⟩
       have HS5 := Lib.hid hs5
       have HY5 := Lib.hid (blk_keep h5 HY4.out)
       have HZ5 := Lib.hid (blk_keep h5 HZ4.out)
       have HB5 := Lib.hid (bel_chain h5 HB4.out)
       have HP2_5 := Lib.hid (HP2_4.out.below h5)
       clear y0 y1 y2 y3 z0 z1 z2 z3 hs5
       have y0 := blk_cell (i := 0) HY5.out rfl
       have y1 := blk_cell (i := 1) HY5.out rfl
       have y2 := blk_cell (i := 2) HY5.out rfl
       have y3 := blk_cell (i := 3) HY5.out rfl
       have z0 := blk_cell (i := 0) HZ5.out rfl
       have z1 := blk_cell (i := 1) HZ5.out rfl
       have z2 := blk_cell (i := 2) HZ5.out rfl
       have z3 := blk_cell (i := 3) HZ5.out rfl))
  go_ret
  exact ⟨rfl, HB8.out⟩
end Go.Proofs.YtaaefgieklkekaaGreatDoor
namespace Go.Proofs.YtaaefgieklkekaaGreatDoor
open Go.RowKit

theorem ex_dec {n : Int} (h0 : 0 ≤ n) (h1 : n < 10) : (⟨#[48, 49, 50, 51, 52, 53, 54, 55, 56, 57]⟩ : ByteArray).extract n.toNat (n + 1).toNat = ⟨(digN n).toArray⟩ := by
  have e : n = 0 ∨ n = 1 ∨ n = 2 ∨ n = 3 ∨ n = 4 ∨ n = 5 ∨ n = 6 ∨ n = 7 ∨ n = 8 ∨ n = 9 := by omega
  rw [digN_one h0 h1]
  rcases e with rfl | rfl | rfl | rfl | rfl | rfl | rfl | rfl | rfl | rfl <;> decide
set_option maxHeartbeats 4000000 in
set_option maxRecDepth 100000 in
theorem rdigits14_any : ∀ (m : Nat) (n : Int) (w : World), n.toNat ≤ m → 0 ≤ n → n ≤ 9223372036854775807 →
    Calls Tryz.prog 64 #[.int .i64 n] w fun e w' => e = .returned (.string ⟨(digN n).toArray⟩) ∧ Below w.heap.size w w' := by
  intro m
  induction m with
  | zero =>
    intro n w hm h0 h1
    obtain rfl : n = 0 := by omega
    have HD : Hid (digN 0 = [48]) := by simp only [Hid]; rw [digN_one (by omega) (by omega)]; rfl
    have kc := fun W => conv_one W 48 48 rfl
    go_enter Tryz.func64, Tryz.ntmps64
    go_wp2_with fail
    go_ret
    rw [HD.out]
    exact ⟨rfl, bel_alloc (Below.refl _ _) _⟩
  | succ m ih =>
    intro n w hm h0 h1
    have hmod : 0 ≤ n % 10 ∧ n % 10 < 10 := by omega
    have hc : (48 : Int) + n % 10 = ((UInt8.ofNat (48 + (n % 10).toNat)).toNat : Int) := by rw [digt_toNat (by omega)]; omega
    obtain ⟨c, hcc⟩ : ∃ c, UInt8.ofNat (48 + (n % 10).toNat) = c := ⟨_, rfl⟩
    have hc' : (48 : Int) + n % 10 = (c.toNat : Int) := by rw [← hcc]; exact hc
    have kc := fun W => conv_one W c (c.toNat : Int) rfl
    have hcb : (c.toNat : Int) < 256 := by have := UInt8.toNat_lt c; omega
    by_cases h10 : n < 10
    · have HD : Hid (digN n = [c]) := by simp only [Hid]; rw [digN_one h0 h10, ← hcc, show n % 10 = n from by omega]
      clear hc hcc ih
      go_enter Tryz.func64, Tryz.ntmps64
      go_wp2_with fail
      go_ret
      rw [HD.out]
      exact ⟨rfl, bel_alloc (Below.refl _ _) _⟩
    · have HD : Hid (digN n = digN (n / 10) ++ [c]) := by simp only [Hid]; rw [digN_more h10, hcc]
      have hdl := digN_len' (n := n / 10) (by omega)
      have HI := fun W => Lib.hid (ih (n / 10) W (by omega) (by omega) (by omega))
      clear hc hcc ih
      go_enter Tryz.func64, Tryz.ntmps64
      go_wp2_with fail
      refine (HI _).out.mono ?_
      rintro e w1 ⟨rfl, hb1⟩
      have HB := Lib.hid hb1
      clear hb1 HI
      go_wp2_with fail
      go_ret
      rw [HD.out, ← cat_one]
      exact ⟨rfl, bel_chain HB.out (bel_alloc (Below.refl _ _) _)⟩
set_option maxHeartbeats 4000000 in
set_option maxRecDepth 100000 in
theorem rdigits15_any : ∀ (m : Nat) (n : Int) (w : World), n.toNat ≤ m → 0 ≤ n → n ≤ 9223372036854775807 →
    Calls Tryz.prog 37 #[.int .i64 n] w fun e w' => e = .returned (.string ⟨(digN n).toArray⟩) ∧ ∃ m, w' = w.drewN m := by
  intro m
  induction m with
  | zero =>
    intro n w hm h0 h1
    obtain rfl : n = 0 := by omega
    have HD : Hid ((⟨#[48]⟩ : ByteArray) = ⟨(digN 0).toArray⟩) := by simp only [Hid]; rw [digN_one (by omega) (by omega)]; rfl
    have hx : (⟨#[48, 49, 50, 51, 52, 53, 54, 55, 56, 57]⟩ : ByteArray).extract 0 1 = ⟨#[48]⟩ := by decide
    go_enter Tryz.func37, Tryz.ntmps37
    go_wp2_with fail
    go_ret
    rw [← HD.out]
    exact ⟨rfl, 0, rfl⟩
  | succ m ih =>
    intro n w hm h0 h1
    by_cases h10 : n < 10
    · have hx := ex_dec h0 h10
      have hn1 : 0 ≤ n + 1 := by omega
      have hn2 : n + 1 ≤ 10 := by omega
      have hn3 : n ≤ n + 1 := by omega
      have hwr : IntKind.i64.wrap (n + 1) = n + 1 := IntWalk.i64_in _ (by omega)
      have hb1 : (n + 1).toNat ≤ 10 := by omega
      have hb2 : n.toNat ≤ (n + 1).toNat := by omega
      clear ih hm
      generalize digN n = d at hx
      go_enter Tryz.func37, Tryz.ntmps37
      go_wp2_with fail
      go_ret
      exact ⟨by first | rfl | rw [hx], 0, rfl⟩
    · have hmod : 0 ≤ n % 10 ∧ n % 10 < 10 := by omega
      have hx := ex_dec hmod.1 hmod.2
      have HD : Hid (digN n = digN (n / 10) ++ digN (n % 10)) := by simp only [Hid]; rw [digN_more h10, digN_one (n := n % 10) (by omega) (by omega)]
      have hdl := digN_len' (n := n / 10) (by omega)
      have hdl2 := digN_len' (n := n % 10) (by omega)
      have hc1 := catE (a := digN (n / 10)) (b := digN (n % 10)) (by omega)
      have HI := fun W => Lib.hid (ih (n / 10) W (by omega) (by omega) (by omega))
      have hq1 : 0 ≤ n % 10 + 1 := by omega
      have hq2 : n % 10 + 1 ≤ 10 := by omega
      have hq3 : n % 10 ≤ n % 10 + 1 := by omega
      have hq0 := hmod.1
      have hwr : IntKind.i64.wrap (n % 10 + 1) = n % 10 + 1 := IntWalk.i64_in _ (by omega)
      have hb1 : (n % 10 + 1).toNat ≤ 10 := by omega
      have hb2 : (n % 10).toNat ≤ (n % 10 + 1).toNat := by omega
      clear ih hdl hdl2 hm hmod
      generalize digN (n % 10) = d2 at HD hc1 hx
      generalize digN (n / 10) = d1 at HI HD hc1
      go_enter Tryz.func37, Tryz.ntmps37
      go_wp2_with fail
      go_quiet ((go_at_call 37; exact Calls.quiet_of (HI _).out))
      go_wp2_with fail
      go_ret
      rw [HD.out]
      exact ⟨rfl, _, rfl⟩
set_option maxHeartbeats 4000000 in
set_option maxRecDepth 100000 in
theorem rdigits11_any : ∀ (m : Nat) (n : Int) (w : World), n.toNat ≤ m → 0 ≤ n → n ≤ 9223372036854775807 →
    Calls Tryz.prog 67 #[.int .i64 n] w fun e w' => e = .returned (.string ⟨(digN n).toArray⟩) ∧ ∃ m, w' = w.drewN m := by
  intro m
  induction m with
  | zero =>
    intro n w hm h0 h1
    obtain rfl : n = 0 := by omega
    have HD : Hid ((⟨#[48]⟩ : ByteArray) = ⟨(digN 0).toArray⟩) := by simp only [Hid]; rw [digN_one (by omega) (by omega)]; rfl
    have hx : (⟨#[48, 49, 50, 51, 52, 53, 54, 55, 56, 57]⟩ : ByteArray).extract 0 1 = ⟨#[48]⟩ := by decide
    go_enter Tryz.func67, Tryz.ntmps67
    go_wp2_with fail
    go_ret
    rw [← HD.out]
    exact ⟨rfl, 0, rfl⟩
  | succ m ih =>
    intro n w hm h0 h1
    by_cases h10 : n < 10
    · have hx := ex_dec h0 h10
      have hn1 : 0 ≤ n + 1 := by omega
      have hn2 : n + 1 ≤ 10 := by omega
      have hn3 : n ≤ n + 1 := by omega
      have hwr : IntKind.i64.wrap (n + 1) = n + 1 := IntWalk.i64_in _ (by omega)
      have hb1 : (n + 1).toNat ≤ 10 := by omega
      have hb2 : n.toNat ≤ (n + 1).toNat := by omega
      clear ih hm
      generalize digN n = d at hx
      go_enter Tryz.func67, Tryz.ntmps67
      go_wp2_with fail
      go_ret
      exact ⟨by first | rfl | rw [hx], 0, rfl⟩
    · have hmod : 0 ≤ n % 10 ∧ n % 10 < 10 := by omega
      have hx := ex_dec hmod.1 hmod.2
      have HD : Hid (digN n = digN (n / 10) ++ digN (n % 10)) := by simp only [Hid]; rw [digN_more h10, digN_one (n := n % 10) (by omega) (by omega)]
      have hdl := digN_len' (n := n / 10) (by omega)
      have hdl2 := digN_len' (n := n % 10) (by omega)
      have hc1 := catE (a := digN (n / 10)) (b := digN (n % 10)) (by omega)
      have HI := fun W => Lib.hid (ih (n / 10) W (by omega) (by omega) (by omega))
      have hq1 : 0 ≤ n % 10 + 1 := by omega
      have hq2 : n % 10 + 1 ≤ 10 := by omega
      have hq3 : n % 10 ≤ n % 10 + 1 := by omega
      have hq0 := hmod.1
      have hwr : IntKind.i64.wrap (n % 10 + 1) = n % 10 + 1 := IntWalk.i64_in _ (by omega)
      have hb1 : (n % 10 + 1).toNat ≤ 10 := by omega
      have hb2 : (n % 10).toNat ≤ (n % 10 + 1).toNat := by omega
      clear ih hdl hdl2 hm hmod
      generalize digN (n % 10) = d2 at HD hc1 hx
      generalize digN (n / 10) = d1 at HI HD hc1
      go_enter Tryz.func67, Tryz.ntmps67
      go_wp2_with fail
      go_quiet ((go_at_call 67; exact Calls.quiet_of (HI _).out))
      go_wp2_with fail
      go_ret
      rw [HD.out]
      exact ⟨rfl, _, rfl⟩
set_option maxHeartbeats 16000000 in
set_option maxRecDepth 100000 in
theorem rcontent_any (f t total : Int) (w : World) (hfw : f ≤ 9223372036854775807) (htw : t ≤ 9223372036854775807) :
    Calls Tryz.prog 38 #[.agg #[.int .i64 f, .int .i64 t], .int .i64 total] w fun e w' => e = .returned (.string ⟨(contT (f, t) total).toArray⟩) ∧ Below w.heap.size w w' := by
  have HR := fun W => Lib.hid (rright_any f t W)
  by_cases h0 : okS (f, t) = false
  · have HV : Hid (contT (f, t) total = []) := contT_no (by unfold contOk; rw [h0]; rfl)
    rw [h0] at HR
    clear h0
    go_enter Tryz.func38, Tryz.ntmps38
    go_wp2_with (go_at_call 49; refine (HR _).out.mono ?_; rintro e w1 ⟨rfl, n1, rfl⟩)
    go_ret
    rw [HV.out]
    exact ⟨rfl, by (repeat (first | exact Below.refl _ _ | refine bel_drewN ?_ _ | refine bel_drew ?_ | refine bel_alloc ?_ _ | refine bel_set ?_ (by simp) _))⟩
  have h0t : okS (f, t) = true := by revert h0; cases okS (f, t) <;> simp
  clear h0
  rw [h0t] at HR
  obtain ⟨r1, r2, r3⟩ := (okS_iff (f, t)).1 h0t
  simp only at r1 r2 r3
  by_cases h1 : f = t
  · have HV : Hid (contT (f, t) total = []) := contT_no (by unfold contOk; rw [decide_eq_true h1]; simp)
    clear h0t
    subst h1
    go_enter Tryz.func38, Tryz.ntmps38
    go_wp2_with (go_at_call 49; refine (HR _).out.mono ?_; rintro e w1 ⟨rfl, n1, rfl⟩)
    go_ret
    rw [HV.out]
    exact ⟨rfl, by (repeat (first | exact Below.refl _ _ | refine bel_drewN ?_ _ | refine bel_drew ?_ | refine bel_alloc ?_ _ | refine bel_set ?_ (by simp) _))⟩
  have h1l : ¬ t ≤ f := by omega
  by_cases h2 : t = 4611686018427387904
  · have HV : Hid (contT (f, t) total = []) := contT_no (by unfold contOk; rw [decide_eq_true h2]; simp)
    clear h0t
    subst h2
    go_enter Tryz.func38, Tryz.ntmps38
    go_wp2_with (go_at_call 49; refine (HR _).out.mono ?_; rintro e w1 ⟨rfl, n1, rfl⟩)
    go_ret
    rw [HV.out]
    exact ⟨rfl, by (repeat (first | exact Below.refl _ _ | refine bel_drewN ?_ _ | refine bel_drew ?_ | refine bel_alloc ?_ _ | refine bel_set ?_ (by simp) _))⟩
  have h2l : ¬ (4611686018427387904 : Int) ≤ t := by omega
  by_cases h3 : total < -1
  · have HV : Hid (contT (f, t) total = []) := contT_no (by unfold contOk; rw [decide_eq_false (show ¬ -1 ≤ total by omega)]; simp)
    clear h0t
    go_enter Tryz.func38, Tryz.ntmps38
    go_wp2_with (go_at_call 49; refine (HR _).out.mono ?_; rintro e w1 ⟨rfl, n1, rfl⟩)
    go_ret
    rw [HV.out]
    exact ⟨rfl, by (repeat (first | exact Below.refl _ _ | refine bel_drewN ?_ _ | refine bel_drew ?_ | refine bel_alloc ?_ _ | refine bel_set ?_ (by simp) _))⟩
  by_cases h4 : (4611686018427387904 : Int) ≤ total
  · have HV : Hid (contT (f, t) total = []) := contT_no (by unfold contOk; rw [decide_eq_false (show ¬ total ≤ 4611686018427387903 by omega)]; simp)
    clear h0t
    go_enter Tryz.func38, Tryz.ntmps38
    go_wp2_with (go_at_call 49; refine (HR _).out.mono ?_; rintro e w1 ⟨rfl, n1, rfl⟩)
    go_ret
    rw [HV.out]
    exact ⟨rfl, by (repeat (first | exact Below.refl _ _ | refine bel_drewN ?_ _ | refine bel_drew ?_ | refine bel_alloc ?_ _ | refine bel_set ?_ (by simp) _))⟩
  by_cases h6 : 0 ≤ total ∧ total < t
  · obtain ⟨h6, h7⟩ := h6
    have HV : Hid (contT (f, t) total = []) := contT_no (by unfold contOk; rw [decide_eq_false (show ¬ total = -1 by omega), decide_eq_false (show ¬ t ≤ total by omega)]; simp)
    clear h0t
    go_enter Tryz.func38, Tryz.ntmps38
    go_wp2_with (go_at_call 49; refine (HR _).out.mono ?_; rintro e w1 ⟨rfl, n1, rfl⟩)
    go_ret
    rw [HV.out]
    exact ⟨rfl, by (repeat (first | exact Below.refl _ _ | refine bel_drewN ?_ _ | refine bel_drew ?_ | refine bel_alloc ?_ _ | refine bel_set ?_ (by simp) _))⟩
  have F : ∀ (n : Int) (W : World), 0 ≤ n → n ≤ 9223372036854775807 → Calls Tryz.prog 67 #[.int .i64 n] W fun e w' => e = .returned (.string ⟨(digN n).toArray⟩) ∧ ∃ m, w' = W.drewN m := fun n W h0 h1 => rdigits11_any n.toNat n W (Nat.le_refl _) h0 h1
  have F1 : ∀ W, Hid (Calls Tryz.prog 67 #[.int .i64 f] W fun e w' => e = .returned (.string ⟨(digN f).toArray⟩) ∧ ∃ m, w' = W.drewN m) := fun W => Lib.hid (F f W r1 (by omega))
  have F2 : ∀ W, Hid (Calls Tryz.prog 67 #[.int .i64 (t - 1)] W fun e w' => e = .returned (.string ⟨(digN (t - 1)).toArray⟩) ∧ ∃ m, w' = W.drewN m) := fun W => Lib.hid (F (t - 1) W (by omega) (by omega))
  have hl1 := digN_len' (n := f) (by omega)
  have hl2 := digN_len' (n := t - 1) (by omega)
  have hc1 := catE (a := [98, 121, 116, 101, 115, 32]) (b := digN f) (by simp only [List.length_cons, List.length_nil]; omega)
  have hc2 := catE (a := [98, 121, 116, 101, 115, 32] ++ digN f) (b := [45]) (by simp only [List.length_append, List.length_cons, List.length_nil]; omega)
  have hc3 := catE (a := [98, 121, 116, 101, 115, 32] ++ digN f ++ [45]) (b := digN (t - 1)) (by simp only [List.length_append, List.length_cons, List.length_nil]; omega)
  have hc4 := catE (a := [98, 121, 116, 101, 115, 32] ++ digN f ++ [45] ++ digN (t - 1)) (b := [47]) (by simp only [List.length_append, List.length_cons, List.length_nil]; omega)
  have hwr : IntKind.i64.wrap (t - 1) = t - 1 := IntWalk.i64_in _ (by omega)
  by_cases h5 : total = -1
  · subst h5
    have HV : Hid (contT (f, t) (-1) = [98, 121, 116, 101, 115, 32] ++ digN f ++ [45] ++ digN (t - 1) ++ [47] ++ [42]) := by simp only [Hid]; unfold contT; rw [if_pos (contOk_yes h0t h1 h2 (by omega) (by omega) (.inl rfl)), if_pos rfl]; rfl
    have hc5 := catE (a := [98, 121, 116, 101, 115, 32] ++ digN f ++ [45] ++ digN (t - 1) ++ [47]) (b := [42]) (by simp only [List.length_append, List.length_cons, List.length_nil]; omega)
    generalize [98, 121, 116, 101, 115, 32] ++ digN f ++ [45] ++ digN (t - 1) ++ [47] ++ [42] = x5 at hc5 HV
    generalize [98, 121, 116, 101, 115, 32] ++ digN f ++ [45] ++ digN (t - 1) ++ [47] = x4 at hc4 hc5
    generalize [98, 121, 116, 101, 115, 32] ++ digN f ++ [45] ++ digN (t - 1) = x3 at hc3 hc4
    generalize [98, 121, 116, 101, 115, 32] ++ digN f ++ [45] = x2 at hc2 hc3
    generalize [98, 121, 116, 101, 115, 32] ++ digN f = x1 at hc1 hc2
    generalize digN f = d1 at F1 hc1
    generalize digN (t - 1) = d2 at F2 hc3
    clear F hl1 hl2 h0t h6 r2 r3
    go_enter Tryz.func38, Tryz.ntmps38
    go_wp2_with (go_at_call 49; refine (HR _).out.mono ?_; rintro e w1 ⟨rfl, n1, hw1⟩
                 have HVB : Hid (w1.heap[w.heap.size]? = some (.cells #[.int .i64 f, .int .i64 t] 55 (0, 0))) := by simp only [Hid]; rw [← hw1]; exact blk_skip (blk_new rfl)
                 have HVb : Hid (Below w.heap.size w w1) := by simp only [Hid]; rw [← hw1]; (repeat (first | exact Below.refl _ _ | refine bel_drewN ?_ _ | refine bel_drew ?_ | refine bel_alloc ?_ _ | refine bel_set ?_ (by simp) _))
                 clear hw1
                 have v0 := blk_cell (i := 0) HVB.out rfl
                 have v1 := blk_cell (i := 1) HVB.out rfl)
    clear HR
    go_quiet ((first | (go_at_call_of 67 (Value.int .i64 f); exact Calls.quiet_of (F1 _).out) | (go_at_call_has 67 (Value.int .i64 (t - 1)); exact Calls.quiet_of (F2 _).out)))
    go_wp2_with fail
    go_ret
    rw [HV.out]
    exact ⟨rfl, by first | exact bel_drewN (bel_drewN HVb.out _) _ | exact bel_drewN HVb.out _ | exact HVb.out⟩
  · have HV : Hid (contT (f, t) total = [98, 121, 116, 101, 115, 32] ++ digN f ++ [45] ++ digN (t - 1) ++ [47] ++ digN total) := by simp only [Hid]; unfold contT; rw [if_pos (contOk_yes h0t h1 h2 (by omega) (by omega) (.inr (by omega))), if_neg h5]; rfl
    have h50 : 0 ≤ total := by omega
    have h7 : ¬ total < t := by omega
    have F3 : ∀ W, Hid (Calls Tryz.prog 67 #[.int .i64 total] W fun e w' => e = .returned (.string ⟨(digN total).toArray⟩) ∧ ∃ m, w' = W.drewN m) := fun W => Lib.hid (F total W (by omega) (by omega))
    have hl3 := digN_len' (n := total) (by omega)
    have hc5 := catE (a := [98, 121, 116, 101, 115, 32] ++ digN f ++ [45] ++ digN (t - 1) ++ [47]) (b := digN total) (by simp only [List.length_append, List.length_cons, List.length_nil]; omega)
    generalize [98, 121, 116, 101, 115, 32] ++ digN f ++ [45] ++ digN (t - 1) ++ [47] ++ digN total = x5 at hc5 HV
    generalize [98, 121, 116, 101, 115, 32] ++ digN f ++ [45] ++ digN (t - 1) ++ [47] = x4 at hc4 hc5
    generalize [98, 121, 116, 101, 115, 32] ++ digN f ++ [45] ++ digN (t - 1) = x3 at hc3 hc4
    generalize [98, 121, 116, 101, 115, 32] ++ digN f ++ [45] = x2 at hc2 hc3
    generalize [98, 121, 116, 101, 115, 32] ++ digN f = x1 at hc1 hc2
    generalize digN f = d1 at F1 hc1
    generalize digN (t - 1) = d2 at F2 hc3
    generalize digN total = d3 at F3 hc5
    clear F hl1 hl2 hl3 h0t h6 r2 r3
    go_enter Tryz.func38, Tryz.ntmps38
    go_wp2_with (go_at_call 49; refine (HR _).out.mono ?_; rintro e w1 ⟨rfl, n1, hw1⟩
                 have HVB : Hid (w1.heap[w.heap.size]? = some (.cells #[.int .i64 f, .int .i64 t] 55 (0, 0))) := by simp only [Hid]; rw [← hw1]; exact blk_skip (blk_new rfl)
                 have HVb : Hid (Below w.heap.size w w1) := by simp only [Hid]; rw [← hw1]; (repeat (first | exact Below.refl _ _ | refine bel_drewN ?_ _ | refine bel_drew ?_ | refine bel_alloc ?_ _ | refine bel_set ?_ (by simp) _))
                 clear hw1
                 have v0 := blk_cell (i := 0) HVB.out rfl
                 have v1 := blk_cell (i := 1) HVB.out rfl)
    clear HR
    go_quiet ((first | (go_at_call_of 67 (Value.int .i64 f); exact Calls.quiet_of (F1 _).out) | (go_at_call_has 67 (Value.int .i64 (t - 1)); exact Calls.quiet_of (F2 _).out)))
    go_wp2_with (go_at_call 67; refine (F3 _).out.mono ?_; rintro e w4 ⟨rfl, m4, rfl⟩)
    go_ret
    rw [HV.out]
    exact ⟨rfl, by first | exact bel_drewN (bel_drewN HVb.out _) _ | exact bel_drewN HVb.out _ | exact HVb.out⟩
end Go.Proofs.YtaaefgieklkekaaGreatDoor
namespace Go.Proofs.YtaaefgieklkekaaGreatDoor
open Go.RowKit

set_option maxHeartbeats 32000000 in
set_option maxRecDepth 100000 in
theorem rfields14_any (m : MetaL) (A : Option Addr) (c : Nat) (w : World) (hks : SpG encT 1 w A c m.keys) (hok : MetaOk m) :
    Calls Tryz.prog 33 #[metaV m A c, .int .i64 0] w (FieldsPost m w) := by
  have HRT := fun W (hW : SpG encT 1 W A c m.keys) => Lib.hid (rright14_yes m A c W hW hok)
  have HCO := fun W => Lib.hid (rctlOf_any m A c W hok.fr hok.wh hok.er)
  have HCT := fun W => Lib.hid (rctlText_any m.fresh (offN m.wh) (offN m.er) (!m.keep) W hok.fr (by have := hok.wh; unfold offN; split <;> omega) (by have := hok.er; unfold offN; split <;> omega))
  rw [rule_ctl m ⟨hok.fr.1, hok.wh.1, hok.er.1⟩] at HCT
  obtain ⟨ct, hct⟩ : ∃ ct, ctlT m = ct := ⟨_, rfl⟩
  rw [hct] at HCT
  have HF : Hid (fieldsL m = (if tag0 m = true then [] else [(nETag, tagT m.tag m.weak)]) ++ (if m.mo = -1 then [] else [(nMod, dateT m.mo)]) ++ [(nCtl, ct)] ++ [(nAge, [48])] ++ (if m.keys = [] then [] else [(nKey, joinB [32] m.keys)]) ++ (if m.ten = [] then [] else [(nTen, m.ten)]) ++ (if m.len = -1 then [(nLen, [42]), (nHave, digN m.hv)] else [(nLen, digN m.len)])) := by simp only [Hid]; rw [← hct]; rfl
  obtain ⟨L1, K1⟩ : ∃ L, Hid (L = if tag0 m = true then [] else [(nETag, tagT m.tag m.weak)]) := ⟨_, Lib.hid rfl⟩
  obtain ⟨L2, K2⟩ : ∃ L, Hid (L = L1 ++ if m.mo = -1 then [] else [(nMod, dateT m.mo)]) := ⟨_, Lib.hid rfl⟩
  obtain ⟨L3, K3⟩ : ∃ L, Hid (L = L2 ++ [(nCtl, ct)]) := ⟨_, Lib.hid rfl⟩
  obtain ⟨L4, K4⟩ : ∃ L, Hid (L = L3 ++ [(nAge, [48])]) := ⟨_, Lib.hid rfl⟩
  obtain ⟨L5, K5⟩ : ∃ L, Hid (L = L4 ++ if m.keys = [] then [] else [(nKey, joinB [32] m.keys)]) := ⟨_, Lib.hid rfl⟩
  obtain ⟨L6, K6⟩ : ∃ L, Hid (L = L5 ++ if m.ten = [] then [] else [(nTen, m.ten)]) := ⟨_, Lib.hid rfl⟩
  obtain ⟨L7, K7⟩ : ∃ L, Hid (L = L6 ++ if m.len = -1 then [(nLen, [42]), (nHave, digN m.hv)] else [(nLen, digN m.len)]) := ⟨_, Lib.hid rfl⟩
  have N1 : Hid (L1.length ≤ 1) := by simp only [Hid]; rw [K1.out]; split <;> simp
  have N2 : Hid (L2.length ≤ 2) := by simp only [Hid]; rw [K2.out, List.length_append]; have := N1.out; split <;> simp <;> omega
  have N3 : Hid (L3.length ≤ 3) := by simp only [Hid]; rw [K3.out, List.length_append]; have := N2.out; simp; omega
  have N4 : Hid (L4.length ≤ 4) := by simp only [Hid]; rw [K4.out, List.length_append]; have := N3.out; simp; omega
  have N5 : Hid (L5.length ≤ 5) := by simp only [Hid]; rw [K5.out, List.length_append]; have := N4.out; split <;> simp <;> omega
  have N6 : Hid (L6.length ≤ 6) := by simp only [Hid]; rw [K6.out, List.length_append]; have := N5.out; split <;> simp <;> omega
  have HL : Hid (fieldsL m = L7) := by simp only [Hid]; rw [HF.out, K7.out, K6.out, K5.out, K4.out, K3.out, K2.out, K1.out]
  clear HF
  have HP : Hid (∀ A c k w', k = L7.length → OwnG 78 encFd 2 w' w.heap.size A c L7 → Below w.heap.size w w' → FieldsPost m w (.returned (.tuple #[.slice A k c, .int .i64 0])) w') := by
    simp only [Hid]; intro A c k w' h1 h2 h3; rw [← HL.out] at h1 h2; exact ⟨A, c, k, h1, rfl, h2, h3⟩
  obtain ⟨P, hP⟩ : ∃ P, FieldsPost m w = P := ⟨_, rfl⟩
  rw [hP] at HP ⊢
  clear hct HL hP
  have HOK := Lib.hid hok
  have HK0 := Lib.hid hks
  have HN := fun n W (h0 : 0 ≤ n) (h1 : n ≤ 9223372036854775807) => Lib.hid (rdigits14_any n.toNat n W (Nat.le_refl _) h0 h1)
  have HN0 : ∀ W, Hid (Calls Tryz.prog 64 #[.int .i64 0] W fun e w' => e = .returned (.string ⟨#[48]⟩) ∧ Below W.heap.size W w') := fun W => by
    have h := (HN 0 W (Int.le_refl _) (by decide)).out
    rw [digN0] at h
    exact Lib.hid h
  clear hok hks
  obtain ⟨tg, wk, mo, ln, hv, fr, wh, er, ks, tn, kp⟩ := m
  simp only at K1 K2 K5 K6 K7 HK0 HRT HCO
  unfold metaV at HRT HCO ⊢
  simp only at HRT HCO ⊢
  go_enter Tryz.func33, Tryz.ntmps33
  go_upto_region 4 with (go_at_call 31; refine (HRT _ (HK0.out.alloc _)).out.mono ?_; rintro e w1 ⟨rfl, hb1⟩)
  have HR : Hid (w1.heap[w.heap.size]? = some (.cells #[.string ⟨tg.toArray⟩, .bool wk, .int .i64 mo, .int .i64 ln, .int .i64 hv, .int .i64 fr, .int .i64 wh, .int .i64 er, .slice A ks.length c, .string ⟨tn.toArray⟩, .bool kp] 32 (0, 0))) := blk_keep hb1 (blk_new rfl)
  have HB : Hid (Below w.heap.size w w1) := bel_chain hb1 (bel_alloc (Below.refl _ _) _)
  have HO : Hid (OwnG 78 encFd 2 w1 w.heap.size none 0 []) := OwnG.nil _ _
  clear hb1 HRT
  have HTN : Hid (∀ W, Calls Tryz.prog 56 #[.agg #[.string ⟨tg.toArray⟩, .bool wk]] W fun e w' => e = .returned (.bool (tag0 ⟨tg, wk, mo, ln, hv, fr, wh, er, ks, tn, kp⟩)) ∧ Below W.heap.size W w') := fun W => by
    have h := rnone_any tg wk W
    have e : (tg.isEmpty && !wk) = tag0 ⟨tg, wk, mo, ln, hv, fr, wh, er, ks, tn, kp⟩ := by unfold tag0; cases tg <;> simp
    rw [e] at h; exact h
  have r0 := blk_cell (i := 0) HR.out rfl
  have r1 := blk_cell (i := 1) HR.out rfl
  have r2 := blk_cell (i := 2) HR.out rfl
  have r3 := blk_cell (i := 3) HR.out rfl
  have r4 := blk_cell (i := 4) HR.out rfl
  have r5 := blk_cell (i := 5) HR.out rfl
  have r6 := blk_cell (i := 6) HR.out rfl
  have r7 := blk_cell (i := 7) HR.out rfl
  have r8 := blk_cell (i := 8) HR.out rfl
  have r9 := blk_cell (i := 9) HR.out rfl
  have r10 := blk_cell (i := 10) HR.out rfl
  go_upto_if 25 with (go_at_call 56; refine (HTN.out _).mono ?_; rintro e wt ⟨rfl, hbt⟩)
  have HRt := Lib.hid (blk_keep hbt HR.out)
  have HOt := Lib.hid (HO.out.below hbt)
  have HBt := Lib.hid (bel_chain hbt HB.out)
  clear hbt HR HB HO r0 r1 r2 r3 r4 r5 r6 r7 r8 r9 r10
  have HR := Lib.hid HRt.out
  have HB := Lib.hid HBt.out
  have HO := Lib.hid HOt.out
  clear HRt HBt HOt
  have r0 := blk_cell (i := 0) HR.out rfl
  have r1 := blk_cell (i := 1) HR.out rfl
  have r2 := blk_cell (i := 2) HR.out rfl
  have r3 := blk_cell (i := 3) HR.out rfl
  have r4 := blk_cell (i := 4) HR.out rfl
  have r5 := blk_cell (i := 5) HR.out rfl
  have r6 := blk_cell (i := 6) HR.out rfl
  have r7 := blk_cell (i := 7) HR.out rfl
  have r8 := blk_cell (i := 8) HR.out rfl
  have r9 := blk_cell (i := 9) HR.out rfl
  have r10 := blk_cell (i := 10) HR.out rfl
  have HTO : Hid (tag0 ⟨tg, wk, mo, ln, hv, fr, wh, er, ks, tn, kp⟩ = false → tagOk tg = true) := by
    intro h
    rcases HOK.out.tg with h1 | h1
    · simp only at h1
      rw [h1.1, h1.2] at h
      simp [tag0] at h
    · exact h1
  obtain ⟨tz, htz⟩ : ∃ z, tag0 ⟨tg, wk, mo, ln, hv, fr, wh, er, ks, tn, kp⟩ = z := ⟨_, rfl⟩
  rw [htz] at HTO K1
  try rw [htz]
  clear HTN htz
  go_cut [6] (fun s6 wx => RowSt 78 encFd 2 w w.heap.size #[.string ⟨tg.toArray⟩, .bool wk, .int .i64 mo, .int .i64 ln, .int .i64 hv, .int .i64 fr, .int .i64 wh, .int .i64 er, .slice A ks.length c, .string ⟨tn.toArray⟩, .bool kp] 32 L1 s6 wx)
  case first =>
    cases tz with
    | true =>
      have E : L1 = [] := K1.out
      go_wp2_with fail
      go_meet
      exact ⟨⟨_, _, _, rfl, by rw [E]; rfl, by rw [E]; exact HO.out⟩, HR.out, HB.out⟩
    | false =>
      have E : L1 = [([69, 84, 97, 103], tagT tg wk)] := K1.out
      have hto := HTO.out rfl
      have HTT := fun W => Lib.hid (rtagText_any tg wk W (by have := (tagOk_len hto).2; omega))
      rw [show tagTx tg wk = tagT tg wk from if_pos hto] at HTT
      obtain ⟨tt, htt⟩ : ∃ t, tagT tg wk = t := ⟨_, rfl⟩
      rw [htt] at HTT E
      clear hto htt
      go_wp2_with (first
        | (go_at_call 60; refine (HTT _).out.mono ?_; rintro e x1 ⟨rfl, hb1⟩
           have HR1 := Lib.hid (blk_keep hb1 HR.out)
           have HO1 := Lib.hid (HO.out.below hb1)
           have HB1 := Lib.hid (bel_chain hb1 HB.out)
           clear hb1)
        | (at_builtin; go_must (refine wplG_row (w0 := w) elemFd rfl (.tmp 26) (.tmp 31) rfl none 0 0 [] rfl #[.string ⟨#[69, 84, 97, 103]⟩, .string ⟨tt.toArray⟩] _ rfl HO1.out [([69, 84, 97, 103], tt)] 1 rfl rfl rfl Nat.zero_lt_one 1 rfl (by decide) HB1.out ?_; intro A2 c2 w2 hown2 hbw2 hg2)))
      go_meet
      exact ⟨⟨A2, c2, 1, rfl, by rw [E]; rfl, by rw [E]; exact hown2⟩, blk_keepG (blk_skip HR1.out) hg2 (by simp [Value.ownBlock]), hbw2⟩
  case rest =>
  obtain ⟨⟨A1, c1, m1, rfl, hm1, ho1⟩, hr1, hb1⟩ := hcut
  clear HR HB HO r0 r1 r2 r3 r4 r5 r6 r7 r8 r9 r10
  have HR := Lib.hid hr1
  have HB := Lib.hid hb1
  have HO := Lib.hid ho1
  have M1 : Hid (m1 = L1.length) := hm1
  clear hr1 hb1 ho1 hm1
  have r0 := blk_cell (i := 0) HR.out rfl
  have r1 := blk_cell (i := 1) HR.out rfl
  have r2 := blk_cell (i := 2) HR.out rfl
  have r3 := blk_cell (i := 3) HR.out rfl
  have r4 := blk_cell (i := 4) HR.out rfl
  have r5 := blk_cell (i := 5) HR.out rfl
  have r6 := blk_cell (i := 6) HR.out rfl
  have r7 := blk_cell (i := 7) HR.out rfl
  have r8 := blk_cell (i := 8) HR.out rfl
  have r9 := blk_cell (i := 9) HR.out rfl
  have r10 := blk_cell (i := 10) HR.out rfl
  clear HTO
  go_upto_if 35 with fail
  go_cut [6] (fun s6 wx => RowSt 78 encFd 2 w w.heap.size #[.string ⟨tg.toArray⟩, .bool wk, .int .i64 mo, .int .i64 ln, .int .i64 hv, .int .i64 fr, .int .i64 wh, .int .i64 er, .slice A ks.length c, .string ⟨tn.toArray⟩, .bool kp] 32 L2 s6 wx)
  case first =>
    by_cases hmo : 0 ≤ mo
    · have E : L2 = L1 ++ [([76, 97, 115, 116, 45, 77, 111, 100, 105, 102, 105, 101, 100], dateT mo)] := by rw [K2.out, if_neg (by omega)]; rfl
      have HDT := fun W => Lib.hid (rdateText_any mo W hmo HOK.out.mo.2)
      obtain ⟨tt, htt⟩ : ∃ t, dateT mo = t := ⟨_, rfl⟩
      have HDT2 : ∀ W, Hid (Calls Tryz.prog 61 #[.int .i64 mo] W fun e w' => e = .returned (.tuple #[.string ⟨tt.toArray⟩, .int .i64 0]) ∧ Below W.heap.size W w') := fun W => by rw [← htt]; exact HDT W
      rw [htt] at E
      clear htt HDT
      go_wp2_with (first
        | (go_at_call 61; refine (HDT2 _).out.mono ?_; rintro e x1 ⟨rfl, hb1⟩
           have HR1 := Lib.hid (blk_keep hb1 HR.out)
           have HO1 := Lib.hid (HO.out.below hb1)
           have HB1 := Lib.hid (bel_chain hb1 HB.out)
           clear hb1)
        | (at_builtin; go_must (refine wplG_row (w0 := w) elemFd rfl (.tmp 42) (.tmp 45) rfl A1 c1 m1 L1 M1.out #[.string ⟨#[76, 97, 115, 116, 45, 77, 111, 100, 105, 102, 105, 101, 100]⟩, .string ⟨tt.toArray⟩] _ rfl HO1.out [([76, 97, 115, 116, 45, 77, 111, 100, 105, 102, 105, 101, 100], tt)] 1 rfl rfl rfl Nat.zero_lt_one (m1 + 1) rfl (by have := M1.out; have := N1.out; omega) HB1.out ?_; intro A2 c2 w2 hown2 hbw2 hg2)))
      go_meet
      exact ⟨⟨A2, c2, m1 + 1, rfl, by rw [E, List.length_append, ← M1.out]; rfl, by rw [E]; exact hown2⟩, blk_keepG (blk_skip HR1.out) hg2 (HO1.out.ne_ty HR1.out (by decide)), hbw2⟩
    · have E : L2 = L1 := by rw [K2.out, if_pos (by have := HOK.out.mo; simp only at this; omega), List.append_nil]
      go_wp2_with fail
      go_meet
      exact ⟨⟨_, _, _, rfl, by rw [E]; exact M1.out, by rw [E]; exact HO.out⟩, HR.out, HB.out⟩
  case rest =>
  obtain ⟨⟨A2, c2, m2, rfl, hm2, ho2⟩, hr2, hb2⟩ := hcut
  clear HR HB HO r0 r1 r2 r3 r4 r5 r6 r7 r8 r9 r10
  have HR := Lib.hid hr2
  have HB := Lib.hid hb2
  have HO := Lib.hid ho2
  have M2 : Hid (m2 = L2.length) := hm2
  clear hr2 hb2 ho2 hm2
  have r0 := blk_cell (i := 0) HR.out rfl
  have r1 := blk_cell (i := 1) HR.out rfl
  have r2 := blk_cell (i := 2) HR.out rfl
  have r3 := blk_cell (i := 3) HR.out rfl
  have r4 := blk_cell (i := 4) HR.out rfl
  have r5 := blk_cell (i := 5) HR.out rfl
  have r6 := blk_cell (i := 6) HR.out rfl
  have r7 := blk_cell (i := 7) HR.out rfl
  have r8 := blk_cell (i := 8) HR.out rfl
  have r9 := blk_cell (i := 9) HR.out rfl
  have r10 := blk_cell (i := 10) HR.out rfl
  go_upto_region 10 with (first
    | (go_at_call 63; refine (HCO _).out.mono ?_; rintro e x1 ⟨rfl, hb1⟩
       have HR1 := Lib.hid (blk_keep hb1 HR.out)
       have HO1 := Lib.hid (HO.out.below hb1)
       have HB1 := Lib.hid (bel_chain hb1 HB.out)
       clear hb1)
    | (go_at_call 62; refine (HCT _).out.mono ?_; rintro e x2 ⟨rfl, hb2⟩
       have HR2 := Lib.hid (blk_keep hb2 HR1.out)
       have HO2 := Lib.hid (HO1.out.below hb2)
       have HB2 := Lib.hid (bel_chain hb2 HB1.out)
       clear hb2)
    | (at_builtin; go_must (refine wplG_row (w0 := w) elemFd rfl (.tmp 47) (.tmp 52) rfl A2 c2 m2 L2 M2.out #[.string ⟨#[67, 97, 99, 104, 101, 45, 67, 111, 110, 116, 114, 111, 108]⟩, .string ⟨ct.toArray⟩] _ rfl HO2.out [([67, 97, 99, 104, 101, 45, 67, 111, 110, 116, 114, 111, 108], ct)] 1 rfl rfl rfl Nat.zero_lt_one (m2 + 1) rfl (by have := M2.out; have := N2.out; omega) HB2.out ?_; intro A3 c3 w3 hown2 hbw2 hg2)))
  have M3 : Hid (m2 + 1 = L3.length) := by simp only [Hid]; rw [K3.out, List.length_append, ← M2.out]; rfl
  have HR3 : Hid (w3.heap[w.heap.size]? = some (.cells #[.string ⟨tg.toArray⟩, .bool wk, .int .i64 mo, .int .i64 ln, .int .i64 hv, .int .i64 fr, .int .i64 wh, .int .i64 er, .slice A ks.length c, .string ⟨tn.toArray⟩, .bool kp] 32 (0, 0))) := blk_keepG (blk_skip HR2.out) hg2 (HO2.out.ne_ty HR2.out (by decide))
  have HO3 : Hid (OwnG 78 encFd 2 w3 w.heap.size A3 c3 L3) := by simp only [Hid]; rw [K3.out]; exact hown2
  have HB3 := Lib.hid hbw2
  clear hown2 hbw2 hg2 HR HB HO HR1 HO1 HB1 HR2 HO2 HB2 HCO HCT r0 r1 r2 r3 r4 r5 r6 r7 r8 r9 r10
  obtain ⟨m3, hm3⟩ : ∃ k, m2 + 1 = k := ⟨_, rfl⟩
  rw [hm3] at M3
  try rw [hm3]
  clear hm3
  have HR := Lib.hid HR3.out
  have HB := Lib.hid HB3.out
  have HO := Lib.hid HO3.out
  clear HR3 HB3 HO3
  have r0 := blk_cell (i := 0) HR.out rfl
  have r1 := blk_cell (i := 1) HR.out rfl
  have r2 := blk_cell (i := 2) HR.out rfl
  have r3 := blk_cell (i := 3) HR.out rfl
  have r4 := blk_cell (i := 4) HR.out rfl
  have r5 := blk_cell (i := 5) HR.out rfl
  have r6 := blk_cell (i := 6) HR.out rfl
  have r7 := blk_cell (i := 7) HR.out rfl
  have r8 := blk_cell (i := 8) HR.out rfl
  have r9 := blk_cell (i := 9) HR.out rfl
  have r10 := blk_cell (i := 10) HR.out rfl
  go_upto_region 11 with (first
    | (go_at_call 64; refine (HN0 _).out.mono ?_; rintro e x1 ⟨rfl, hb1⟩
       have HR1 := Lib.hid (blk_keep hb1 HR.out)
       have HO1 := Lib.hid (HO.out.below hb1)
       have HB1 := Lib.hid (bel_chain hb1 HB.out)
       clear hb1)
    | (at_builtin; go_must (refine wplG_row (w0 := w) elemFd rfl (.tmp 54) (.tmp 58) rfl A3 c3 m3 L3 M3.out #[.string ⟨#[65, 103, 101]⟩, .string ⟨#[48]⟩] _ rfl HO1.out [([65, 103, 101], [48])] 1 rfl rfl rfl Nat.zero_lt_one (m3 + 1) rfl (by have := M3.out; have := N3.out; omega) HB1.out ?_; intro A4 c4 w4 hown2 hbw2 hg2)))
  have M4 : Hid (m3 + 1 = L4.length) := by simp only [Hid]; rw [K4.out, List.length_append, ← M3.out]; rfl
  have HR3 : Hid (w4.heap[w.heap.size]? = some (.cells #[.string ⟨tg.toArray⟩, .bool wk, .int .i64 mo, .int .i64 ln, .int .i64 hv, .int .i64 fr, .int .i64 wh, .int .i64 er, .slice A ks.length c, .string ⟨tn.toArray⟩, .bool kp] 32 (0, 0))) := blk_keepG (blk_skip HR1.out) hg2 (HO1.out.ne_ty HR1.out (by decide))
  have HO3 : Hid (OwnG 78 encFd 2 w4 w.heap.size A4 c4 L4) := by simp only [Hid]; rw [K4.out]; exact hown2
  have HB3 := Lib.hid hbw2
  clear hown2 hbw2 hg2 HR HB HO HR1 HO1 HB1 HN0 r0 r1 r2 r3 r4 r5 r6 r7 r8 r9 r10
  obtain ⟨m4, hm4⟩ : ∃ k, m3 + 1 = k := ⟨_, rfl⟩
  rw [hm4] at M4
  try rw [hm4]
  clear hm4
  have HR := Lib.hid HR3.out
  have HB := Lib.hid HB3.out
  have HO := Lib.hid HO3.out
  clear HR3 HB3 HO3
  have r0 := blk_cell (i := 0) HR.out rfl
  have r1 := blk_cell (i := 1) HR.out rfl
  have r2 := blk_cell (i := 2) HR.out rfl
  have r3 := blk_cell (i := 3) HR.out rfl
  have r4 := blk_cell (i := 4) HR.out rfl
  have r5 := blk_cell (i := 5) HR.out rfl
  have r6 := blk_cell (i := 6) HR.out rfl
  have r7 := blk_cell (i := 7) HR.out rfl
  have r8 := blk_cell (i := 8) HR.out rfl
  have r9 := blk_cell (i := 9) HR.out rfl
  have r10 := blk_cell (i := 10) HR.out rfl
  have HKN : Hid (ks.length ≤ 32) := HOK.out.kn
  have HKL := Lib.hid (join_keys HOK.out.kn HOK.out.ka)
  simp only at HKL
  go_upto_if 63 with fail
  go_cut [6] (fun s6 wx => RowSt 78 encFd 2 w w.heap.size #[.string ⟨tg.toArray⟩, .bool wk, .int .i64 mo, .int .i64 ln, .int .i64 hv, .int .i64 fr, .int .i64 wh, .int .i64 er, .slice A ks.length c, .string ⟨tn.toArray⟩, .bool kp] 32 L5 s6 wx)
  case first =>
    by_cases hk0 : ks.length = 0
    · have E : L5 = L4 := by rw [K5.out, if_pos (List.eq_nil_of_length_eq_zero hk0), List.append_nil]
      have hk0' : ¬ (0 : Int) < (ks.length : Int) := by omega
      clear hk0
      go_wp2_with fail
      go_meet
      exact ⟨⟨_, _, _, rfl, by rw [E]; exact M4.out, by rw [E]; exact HO.out⟩, HR.out, HB.out⟩
    · have E : L5 = L4 ++ [([83, 117, 114, 114, 111, 103, 97, 116, 101, 45, 75, 101, 121], joinB [32] ks)] := by rw [K5.out, if_neg (fun e => hk0 (by rw [e]; rfl))]; rfl
      have hk0' : (0 : Int) < (ks.length : Int) := by omega
      have HS := Lib.hid (HK0.out.below HB.out)
      clear hk0
      go_wp2_with fail
      go_loopw [9, 10] (fun t i wr => wr = w4 ∧ ∃ k : Nat, k ≤ ks.length ∧ i = .int .i64 (k : Int) ∧ t = .string ⟨(joinB [32] (ks.take k)).toArray⟩) (fun _ i _ => ks.length - (intOf i).toNat)
      case atStart => exact ⟨rfl, 0, Nat.zero_le _, rfl, rfl⟩
      case round =>
        obtain ⟨rfl, k, hk, rfl, rfl⟩ := hrel
        have hkn := HKN.out
        by_cases hlt : k < ks.length
        · obtain ⟨b, off, e, hb, hc⟩ := HS.out.at' k hlt
          have q0 := hc 0 _ rfl
          have hJ1 := joinB_take_le [32] ks k
          have hJ2 := joinB_take_le [32] ks (k + 1)
          have hJL := HKL.out
          have HT := Lib.hid (joinB_take (sep := [32]) hlt)
          rw [HT.out] at hJ2
          obtain ⟨x, hx⟩ : ∃ x, ks[k] = x := ⟨_, rfl⟩
          rw [hx] at q0 HT hJ2
          simp only [Nat.mul_one, Nat.add_zero] at q0
          clear hc hx
          subst e
          by_cases hk0 : k = 0
          · rw [if_pos hk0] at hJ2
            have HT2 : Hid (joinB [32] (ks.take (k + 1)) = joinB [32] (ks.take k) ++ x) := by simp only [Hid]; rw [HT.out, if_pos hk0, hk0]; rfl
            have hJ0 : (joinB [32] (ks.take k)).length = 0 := by rw [hk0]; rfl
            have hc1 := catE (a := joinB [32] (ks.take k)) (b := x) (by omega)
            have hkp : ¬ (0 : Int) < (k : Int) := by omega
            clear HT hJ1 hJ2 hJL hk0 hJ0
            generalize joinB [32] (ks.take k) ++ x = x2 at hc1 HT2
            generalize joinB [32] (ks.take k) = x1 at hc1
            go_wp2_with fail
            go_roundw
            case rel => exact ⟨by first | trivial | rfl, k + 1, by omega, by go_num, by rw [HT2.out]⟩
            case measure => simp [intOf]; omega
          · rw [if_neg hk0] at hJ2
            have HT2 : Hid (joinB [32] (ks.take (k + 1)) = joinB [32] (ks.take k) ++ [32] ++ x) := by simp only [Hid]; rw [HT.out, if_neg hk0, List.append_assoc]
            simp only [List.length_append, List.length_cons, List.length_nil] at hJ2
            have hc1 := catE (a := joinB [32] (ks.take k)) (b := [32]) (by simp only [List.length_cons, List.length_nil]; omega)
            have hc2 := catE (a := joinB [32] (ks.take k) ++ [32]) (b := x) (by simp only [List.length_append, List.length_cons, List.length_nil]; omega)
            have hkp : (0 : Int) < (k : Int) := by omega
            clear HT hJ1 hJ2 hJL hk0
            generalize joinB [32] (ks.take k) ++ [32] ++ x = x3 at hc2 HT2
            generalize joinB [32] (ks.take k) ++ [32] = x2 at hc1 hc2
            generalize joinB [32] (ks.take k) = x1 at hc1
            go_wp2_with fail
            go_roundw
            case rel => exact ⟨by first | trivial | rfl, k + 1, by omega, by go_num, by rw [HT2.out]⟩
            case measure => simp [intOf]; omega
        · have hke : k = ks.length := by omega
          have HE : Hid (joinB [32] (ks.take k) = joinB [32] ks) := by simp only [Hid]; rw [hke, List.take_length]
          obtain ⟨tt, htt⟩ : ∃ t, joinB [32] (ks.take k) = t := ⟨_, rfl⟩
          rw [← HE.out, htt] at E
          rw [htt]
          have hlt' : ¬ (k : Int) < (ks.length : Int) := by omega
          clear hke HE htt
          go_wp2_with (at_builtin; go_must (refine wplG_row (w0 := w) elemFd rfl (.tmp 82) (.tmp 85) rfl A4 c4 m4 L4 M4.out #[.string ⟨#[83, 117, 114, 114, 111, 103, 97, 116, 101, 45, 75, 101, 121]⟩, .string ⟨tt.toArray⟩] _ rfl HO.out [([83, 117, 114, 114, 111, 103, 97, 116, 101, 45, 75, 101, 121], tt)] 1 rfl rfl rfl Nat.zero_lt_one (m4 + 1) rfl (by have := M4.out; have := N4.out; omega) HB.out ?_; intro A2 c2 w2 hown2 hbw2 hg2))
          go_meet
          exact ⟨⟨A2, c2, m4 + 1, rfl, by rw [E, List.length_append, ← M4.out]; rfl, by rw [E]; exact hown2⟩, blk_keepG (blk_skip HR.out) hg2 (HO.out.ne_ty HR.out (by decide)), hbw2⟩
  case rest =>
  obtain ⟨⟨A5, c5, m5, rfl, hm5, ho5⟩, hr5, hb5⟩ := hcut
  clear HR HB HO r0 r1 r2 r3 r4 r5 r6 r7 r8 r9 r10
  have HR := Lib.hid hr5
  have HB := Lib.hid hb5
  have HO := Lib.hid ho5
  have M5 : Hid (m5 = L5.length) := hm5
  clear hr5 hb5 ho5 hm5
  have r0 := blk_cell (i := 0) HR.out rfl
  have r1 := blk_cell (i := 1) HR.out rfl
  have r2 := blk_cell (i := 2) HR.out rfl
  have r3 := blk_cell (i := 3) HR.out rfl
  have r4 := blk_cell (i := 4) HR.out rfl
  have r5 := blk_cell (i := 5) HR.out rfl
  have r6 := blk_cell (i := 6) HR.out rfl
  have r7 := blk_cell (i := 7) HR.out rfl
  have r8 := blk_cell (i := 8) HR.out rfl
  have r9 := blk_cell (i := 9) HR.out rfl
  have r10 := blk_cell (i := 10) HR.out rfl
  obtain ⟨nb, hnb⟩ : ∃ b, tn.isEmpty = b := ⟨_, rfl⟩
  go_upto_if 89 with fail
  go_cut [6] (fun s6 wx => RowSt 78 encFd 2 w w.heap.size #[.string ⟨tg.toArray⟩, .bool wk, .int .i64 mo, .int .i64 ln, .int .i64 hv, .int .i64 fr, .int .i64 wh, .int .i64 er, .slice A ks.length c, .string ⟨tn.toArray⟩, .bool kp] 32 L6 s6 wx)
  case first =>
    cases nb with
    | true =>
      have ht0 : tn = [] := List.isEmpty_iff.1 hnb
      have E : L6 = L5 := by rw [K6.out, if_pos ht0, List.append_nil]
      clear ht0
      go_wp2_with fail
      go_meet
      exact ⟨⟨_, _, _, rfl, by rw [E]; exact M5.out, by rw [E]; exact HO.out⟩, HR.out, HB.out⟩
    | false =>
      have ht0 : tn ≠ [] := by intro hh; rw [hh] at hnb; simp at hnb
      have E : L6 = L5 ++ [([88, 45, 84, 101, 110, 97, 110, 116], tn)] := by rw [K6.out, if_neg ht0]; rfl
      clear ht0
      go_wp2_with (at_builtin; go_must (refine wplG_row (w0 := w) elemFd rfl (.tmp 90) (.tmp 94) rfl A5 c5 m5 L5 M5.out #[.string ⟨#[88, 45, 84, 101, 110, 97, 110, 116]⟩, .string ⟨tn.toArray⟩] _ rfl HO.out [([88, 45, 84, 101, 110, 97, 110, 116], tn)] 1 rfl rfl rfl Nat.zero_lt_one (m5 + 1) rfl (by have := M5.out; have := N5.out; omega) HB.out ?_; intro A2 c2 w2 hown2 hbw2 hg2))
      go_meet
      exact ⟨⟨A2, c2, m5 + 1, rfl, by rw [E, List.length_append, ← M5.out]; rfl, by rw [E]; exact hown2⟩, blk_keepG (blk_skip HR.out) hg2 (HO.out.ne_ty HR.out (by decide)), hbw2⟩
  case rest =>
  obtain ⟨⟨A6, c6, m6, rfl, hm6, ho6⟩, hr6, hb6⟩ := hcut
  clear HR HB HO r0 r1 r2 r3 r4 r5 r6 r7 r8 r9 r10
  have HR := Lib.hid hr6
  have HB := Lib.hid hb6
  have HO := Lib.hid ho6
  have M6 : Hid (m6 = L6.length) := hm6
  clear hr6 hb6 ho6 hm6
  have r0 := blk_cell (i := 0) HR.out rfl
  have r1 := blk_cell (i := 1) HR.out rfl
  have r2 := blk_cell (i := 2) HR.out rfl
  have r3 := blk_cell (i := 3) HR.out rfl
  have r4 := blk_cell (i := 4) HR.out rfl
  have r5 := blk_cell (i := 5) HR.out rfl
  have r6 := blk_cell (i := 6) HR.out rfl
  have r7 := blk_cell (i := 7) HR.out rfl
  have r8 := blk_cell (i := 8) HR.out rfl
  have r9 := blk_cell (i := 9) HR.out rfl
  have r10 := blk_cell (i := 10) HR.out rfl
  by_cases hl0 : 0 ≤ ln
  · have E : L7 = L6 ++ [([88, 45, 76, 101, 110, 103, 116, 104], digN ln)] := by rw [K7.out, if_neg (by omega)]; rfl
    have HD := fun W => HN ln W hl0 (by have := HOK.out.ln; simp only at this; omega)
    obtain ⟨tt, htt⟩ : ∃ t, digN ln = t := ⟨_, rfl⟩
    rw [htt] at HD E
    clear htt
    go_wp2_with (first
      | (go_at_call 64; refine (HD _).out.mono ?_; rintro e x1 ⟨rfl, hb1⟩
         have HR1 := Lib.hid (blk_keep hb1 HR.out)
         have HO1 := Lib.hid (HO.out.below hb1)
         have HB1 := Lib.hid (bel_chain hb1 HB.out)
         clear hb1)
      | (at_builtin; go_must (refine wplG_row (w0 := w) elemFd rfl (.tmp 99) (.tmp 104) rfl A6 c6 m6 L6 M6.out #[.string ⟨#[88, 45, 76, 101, 110, 103, 116, 104]⟩, .string ⟨tt.toArray⟩] _ rfl HO1.out [([88, 45, 76, 101, 110, 103, 116, 104], tt)] 1 rfl rfl rfl Nat.zero_lt_one (m6 + 1) rfl (by have := M6.out; have := N6.out; omega) HB1.out ?_; intro A2 c2 w2 hown2 hbw2 hg2)))
    exact HP.out A2 c2 (m6 + 1) _ (by rw [E, List.length_append, ← M6.out]; rfl) (by rw [E]; exact hown2) hbw2
  · have E : L7 = L6 ++ [([88, 45, 76, 101, 110, 103, 116, 104], [42])] ++ [([88, 45, 72, 97, 118, 101], digN hv)] := by rw [K7.out, if_pos (by have := HOK.out.ln; simp only at this; omega), List.append_assoc]; rfl
    have HD := fun W => HN hv W HOK.out.hv.1 (by have := HOK.out.hv; simp only at this; omega)
    obtain ⟨tt, htt⟩ : ∃ t, digN hv = t := ⟨_, rfl⟩
    try simp only at HD
    rw [htt] at HD E
    clear htt
    go_upto_region 25 with (at_builtin; go_must (refine wplG_row (w0 := w) elemFd rfl (.tmp 106) (.tmp 108) rfl A6 c6 m6 L6 M6.out #[.string ⟨#[88, 45, 76, 101, 110, 103, 116, 104]⟩, .string ⟨#[42]⟩] _ rfl HO.out [([88, 45, 76, 101, 110, 103, 116, 104], [42])] 1 rfl rfl rfl Nat.zero_lt_one (m6 + 1) rfl (by have := M6.out; have := N6.out; omega) HB.out ?_; intro A7 c7 w7 hown7 hbw7 hg7))
    have HR7 : Hid (w7.heap[w.heap.size]? = some (.cells #[.string ⟨tg.toArray⟩, .bool wk, .int .i64 mo, .int .i64 ln, .int .i64 hv, .int .i64 fr, .int .i64 wh, .int .i64 er, .slice A ks.length c, .string ⟨tn.toArray⟩, .bool kp] 32 (0, 0))) := blk_keepG (blk_skip HR.out) hg7 (HO.out.ne_ty HR.out (by decide))
    have HO7 := Lib.hid hown7
    have HB7 := Lib.hid hbw7
    have M7 : Hid (m6 + 1 = (L6 ++ [([88, 45, 76, 101, 110, 103, 116, 104], [42])]).length) := by simp only [Hid]; rw [List.length_append, ← M6.out]; rfl
    have N7 : Hid ((L6 ++ [([88, 45, 76, 101, 110, 103, 116, 104], ([42] : List UInt8))]).length ≤ 7) := by simp only [Hid]; rw [List.length_append]; have := N6.out; simp; omega
    generalize L6 ++ [([88, 45, 76, 101, 110, 103, 116, 104], [42])] = LX at E HO7 M7 N7
    clear hown7 hbw7 hg7 HR HB HO r0 r1 r2 r3 r4 r5 r6 r7 r8 r9 r10
    obtain ⟨m7, hm7⟩ : ∃ k, m6 + 1 = k := ⟨_, rfl⟩
    rw [hm7] at M7
    try rw [hm7]
    clear hm7
    have HR := Lib.hid HR7.out
    have HB := Lib.hid HB7.out
    have HO := Lib.hid HO7.out
    clear HR7 HB7 HO7
    have r3 := blk_cell (i := 3) HR.out rfl
    have r4 := blk_cell (i := 4) HR.out rfl
    go_wp2_with (first
      | (go_at_call 64; refine (HD _).out.mono ?_; rintro e x1 ⟨rfl, hb1⟩
         have HR1 := Lib.hid (blk_keep hb1 HR.out)
         have HO1 := Lib.hid (HO.out.below hb1)
         have HB1 := Lib.hid (bel_chain hb1 HB.out)
         clear hb1)
      | (at_builtin; go_must (refine wplG_row (w0 := w) elemFd rfl (.tmp 110) (.tmp 115) rfl A7 c7 m7 LX M7.out #[.string ⟨#[88, 45, 72, 97, 118, 101]⟩, .string ⟨tt.toArray⟩] _ rfl HO1.out [([88, 45, 72, 97, 118, 101], tt)] 1 rfl rfl rfl Nat.zero_lt_one (m7 + 1) rfl (by have := M7.out; have := N7.out; omega) HB1.out ?_; intro A2 c2 w2 hown2 hbw2 hg2)))
    exact HP.out A2 c2 (m7 + 1) _ (by rw [E, List.length_append, ← M7.out]; rfl) (by rw [E]; exact hown2) hbw2
end Go.Proofs.YtaaefgieklkekaaGreatDoor
namespace Go.Proofs.YtaaefgieklkekaaGreatDoor
open Go.RowKit

/-- A letter, small. -/
def lowC (c : UInt8) : UInt8 := if 65 ≤ c.toNat ∧ c.toNat ≤ 90 then c + 32 else c
def likeB (a b : List UInt8) : Bool := a.map lowC == b.map lowC
def getF : List FieldL → List UInt8 → Option (List UInt8)
  | [], _ => none
  | f :: r, n => if likeB f.1 n = true then some f.2 else getF r n
theorem low_add {c : UInt8} (h1 : 65 ≤ c.toNat) (h2 : c.toNat ≤ 90) : (lowC c).toNat = c.toNat + 32 := by
  unfold lowC
  rw [if_pos ⟨h1, h2⟩, UInt8.toNat_add]
  have : (32 : UInt8).toNat = 32 := rfl
  rw [this]; omega
theorem low_no {c : UInt8} (h : ¬ (65 ≤ c.toNat ∧ c.toNat ≤ 90)) : (lowC c).toNat = c.toNat := by unfold lowC; rw [if_neg h]
theorem small_any (c : UInt8) (w : World) : Calls Tryz.prog 160 #[.int .u8 (c.toNat : Int)] w fun e w' => e = .returned (.int .u8 ((lowC c).toNat : Int)) ∧ w' = w := by
  have hc := UInt8.toNat_lt c
  by_cases h1 : 65 ≤ c.toNat
  · by_cases h2 : c.toNat ≤ 90
    · have HV : Hid (((lowC c).toNat : Int) = (c.toNat : Int) + 32) := by simp only [Hid]; rw [low_add h1 h2]; rfl
      have w1 : IntKind.u8.wrap ((c.toNat : Int) + 97) = (c.toNat : Int) + 97 := by rw [IntKind.wrap_u8]; omega
      have w2 : IntKind.u8.wrap ((c.toNat : Int) + 97 - 65) = (c.toNat : Int) + 32 := by rw [IntKind.wrap_u8]; omega
      go_enter Tryz.func160, Tryz.ntmps160
      go_wp2_with fail
      go_ret
      exact ⟨by rw [HV.out]; first | rfl | (rw [w2]), rfl⟩
    · have HV : Hid ((lowC c).toNat = c.toNat) := low_no (by omega)
      go_enter Tryz.func160, Tryz.ntmps160
      go_wp2_with fail
      go_ret
      exact ⟨by rw [HV.out]; rfl, rfl⟩
  · have HV : Hid ((lowC c).toNat = c.toNat) := low_no (by omega)
    go_enter Tryz.func160, Tryz.ntmps160
    go_wp2_with fail
    go_ret
    exact ⟨by rw [HV.out]; rfl, rfl⟩
set_option maxHeartbeats 4000000 in
set_option maxRecDepth 100000 in
theorem alike_any (a b : List UInt8) (w : World) (ha : a.length ≤ 1000000) (_ : b.length ≤ 1000000) :
    Calls Tryz.prog 120 #[.string ⟨a.toArray⟩, .string ⟨b.toArray⟩] w fun e w' => e = .returned (.bool (likeB a b)) ∧ Below w.heap.size w w' := by
  have hsa : (⟨a.toArray⟩ : ByteArray).size = a.length := ba_size a
  have hsb : (⟨b.toArray⟩ : ByteArray).size = b.length := ba_size b
  have HSM := fun c W => Lib.hid (small_any c W)
  by_cases hll : a.length = b.length
  rotate_left
  · have hbb : ((a.length : Int) != (b.length : Int)) = true := by rw [bne_iff_ne]; omega
    have HV : Hid (likeB a b = false) := by
      simp only [Hid]; unfold likeB; rw [beq_eq_false_iff_ne]; intro e
      have := congrArg List.length e
      simp only [List.length_map] at this
      exact hll this
    clear hll
    go_enter Tryz.func120, Tryz.ntmps120
    go_wp2_with fail
    go_ret
    exact ⟨by rw [HV.out]; rfl, Below.refl _ _⟩
  have hbb : ((a.length : Int) != (b.length : Int)) = false := by rw [bne_eq_false_iff_eq]; omega
  have HLL := Lib.hid hll
  clear hll
  go_enter Tryz.func120, Tryz.ntmps120
  go_wp2_with fail
  clear hbb
  go_loopw [5, 13] (fun _ i wr => ∃ (k : Nat), k ≤ a.length ∧ i = .int .i64 (k : Int) ∧ (a.map lowC).take k = (b.map lowC).take k ∧ Below w.heap.size w wr) (fun _ i _ => a.length - (intOf i).toNat)
  case atStart => exact ⟨0, Nat.zero_le _, rfl, by simp, Below.refl _ _⟩
  case round =>
    obtain ⟨k, hk, rfl, hin, hbw⟩ := hrel
    have HI := Lib.hid hin
    have HB := Lib.hid hbw
    clear hin hbw
    by_cases hlt : k < a.length
    · have hlt' : k < b.length := by have := HLL.out; omega
      have hka : k < (⟨a.toArray⟩ : ByteArray).size := by omega
      have hkb : k < (⟨b.toArray⟩ : ByteArray).size := by omega
      have HA : Hid ((⟨a.toArray⟩ : ByteArray)[k] = a[k]) := rfl
      have HA' : Hid ((⟨b.toArray⟩ : ByteArray)[k] = b[k]) := rfl
      have ka : k < (a.map lowC).length := by simpa using hlt
      have kb : k < (b.map lowC).length := by simpa using hlt'
      have HS : Hid (lowC a[k] = lowC b[k] → (a.map lowC).take (k + 1) = (b.map lowC).take (k + 1)) := fun h => take_eq_g ka kb HI.out (by simpa using h)
      have HN : Hid (lowC a[k] ≠ lowC b[k] → likeB a b = false) := fun h => by
        unfold likeB; rw [beq_eq_false_iff_ne]; exact ne_at_g ka kb (by simpa using h)
      obtain ⟨x, hx⟩ : ∃ x, a[k] = x := ⟨_, rfl⟩
      obtain ⟨y, hy⟩ : ∃ y, b[k] = y := ⟨_, rfl⟩
      rw [hx] at HS HN HA
      rw [hy] at HS HN HA'
      have gx := HA.out
      have gy := HA'.out
      have HX := HSM x
      have HY := HSM y
      clear hx hy HI ka kb HA HA'
      by_cases e1 : lowC x = lowC y
      · have HF := Lib.hid (HS.out e1)
        have bb : (((lowC x).toNat : Int) != ((lowC y).toNat : Int)) = false := by rw [e1]; simp
        clear HS HN e1
        go_wp2_with fail
        go_region_held3 (fun _ => True)
          (exact trivial)
          (first
            | (go_at_call_of 160 (Value.int .u8 (x.toNat : Int)); refine (HX _).out.mono ?_; rintro e wx ⟨rfl, rfl⟩)
            | (go_at_call_of 160 (Value.int .u8 (y.toNat : Int)); refine (HY _).out.mono ?_; rintro e wy ⟨rfl, rfl⟩))
        all_goals
          go_wp2_with fail
          go_roundw
          case rel => exact ⟨k + 1, by omega, by go_num, HF.out, by first | exact bel_drew HB.out | exact bel_drewN HB.out _⟩
          case measure => simp [intOf]; omega
      · have HF := Lib.hid (HN.out e1)
        have bb : (((lowC x).toNat : Int) != ((lowC y).toNat : Int)) = true := by
          rw [bne_iff_ne]; intro e; exact e1 (UInt8.toNat_inj.1 (by omega))
        clear HS HN e1
        go_wp2_with fail
        go_region_held3 (fun _ => True)
          (exact trivial)
          (first
            | (go_at_call_of 160 (Value.int .u8 (x.toNat : Int)); refine (HX _).out.mono ?_; rintro e wx ⟨rfl, rfl⟩)
            | (go_at_call_of 160 (Value.int .u8 (y.toNat : Int)); refine (HY _).out.mono ?_; rintro e wy ⟨rfl, rfl⟩))
        all_goals
          go_wp2_with fail
          go_ret
          exact ⟨by rw [HF.out]; rfl, by first | exact bel_drew HB.out | exact bel_drewN HB.out _⟩
    · have hI := HI.out
      rw [List.take_of_length_le (by simp; omega), List.take_of_length_le (by have := HLL.out; simp; omega)] at hI
      have HV : Hid (likeB a b = true) := by simp only [Hid]; unfold likeB; rw [beq_iff_eq]; exact hI
      clear hI HI
      go_wp2_with fail
      go_ret
      exact ⟨by rw [HV.out]; rfl, HB.out⟩
end Go.Proofs.YtaaefgieklkekaaGreatDoor
namespace Go.Proofs.YtaaefgieklkekaaGreatDoor
open Go.RowKit

theorem getF_step {L : List FieldL} {n : List UInt8} {k : Nat} (h : k < L.length) : getF (L.drop k) n = if likeB L[k].1 n = true then some L[k].2 else getF (L.drop (k + 1)) n := by
  rw [List.drop_eq_getElem_cons h, getF]
/-- A value, and whether there is one. -/
def optT (o : Option (List UInt8)) : Value := .tuple #[.string ⟨(o.getD []).toArray⟩, .bool o.isSome]
def GetPost (L : List FieldL) (n : List UInt8) (w : World) (e : Ending) (w' : World) : Prop := e = .returned (optT (getF L n)) ∧ Below w.heap.size w w'
theorem get_ret {L : List FieldL} {n : List UInt8} {o : Option (List UInt8)} {w w' : World} (h : getF L n = o) (hb : Below w.heap.size w w') : GetPost L n w (.returned (optT o)) w' := ⟨by rw [h], hb⟩
set_option maxHeartbeats 4000000 in
set_option maxRecDepth 100000 in
theorem fget_any (A : Option Addr) (c m : Nat) (L : List FieldL) (n : List UInt8) (w : World) (hm : m = L.length) (h : SpG encFd 2 w A c L) (hl : L.length ≤ 100000) (hn : n.length ≤ 1000000) (hx : ∀ f ∈ L, f.1.length ≤ 1000000) :
    Calls Tryz.prog 74 #[.slice A m c, .string ⟨n.toArray⟩] w (GetPost L n w) := by
  subst hm
  have HH := Lib.hid h
  have HAL := fun a (ha : a.length ≤ 1000000) W => Lib.hid (alike_any a n W ha hn)
  have HX := Lib.hid hx
  have HR : Hid (∀ o W, getF L n = o → Below w.heap.size w W → GetPost L n w (.returned (optT o)) W) := fun o W ho hb => get_ret ho hb
  clear h hx
  go_enter Tryz.func74, Tryz.ntmps74
  go_wp2_with fail
  go_loopw [7, 10] (fun _ i wr => ∃ (k : Nat), k ≤ L.length ∧ i = .int .i64 (k : Int) ∧ getF (L.drop k) n = getF L n ∧ Below w.heap.size w wr) (fun _ i _ => L.length - (intOf i).toNat)
  case atStart => exact ⟨0, Nat.zero_le _, rfl, rfl, Below.refl _ _⟩
  case round =>
    obtain ⟨k, hk, rfl, hs, hbw⟩ := hrel
    have HB := Lib.hid hbw
    have HS := Lib.hid hs
    clear hbw hs
    by_cases hlt : k < L.length
    · obtain ⟨b, off, e, hb, hc⟩ := (HH.out.below HB.out).at' k hlt
      have c0 := hc 0 _ rfl
      have c1 := hc 1 _ rfl
      simp only [Nat.add_zero] at c0
      have hp := HX.out _ (List.getElem_mem hlt)
      have HF : Hid (getF L n = if likeB L[k].1 n = true then some L[k].2 else getF (L.drop (k + 1)) n) := HS.out.symm.trans (getF_step hlt)
      obtain ⟨⟨x, v⟩, hxe⟩ : ∃ p, L[k] = p := ⟨_, rfl⟩
      rw [hxe] at c0 c1 hp HF
      simp only at c0 c1 hp HF
      have HA := fun W => HAL x hp W
      clear hxe hc HS hp
      rw [e]
      cases hlk : likeB x n with
      | false =>
        rw [hlk] at HA HF
        have HF2 : Hid (getF (L.drop (k + 1)) n = getF L n) := by simp only [Hid]; rw [HF.out]; rfl
        clear HF
        go_wp2_with (first
          | (go_at_call 120; refine (HA _).out.mono ?_; rintro e w1 ⟨rfl, hb1⟩))
        go_roundw
        case rel => exact ⟨k + 1, by omega, by go_num, HF2.out, bel_chain hb1 (bel_alloc HB.out _)⟩
        case measure => simp [intOf]; omega
      | true =>
        rw [hlk] at HA HF
        have HF2 : Hid (getF L n = some v) := by simp only [Hid]; rw [HF.out]; rfl
        clear HF
        go_wp2_with (first
          | (go_at_call 120; refine (HA _).out.mono ?_; rintro e w1 ⟨rfl, hb1⟩
             have x0 := blk_cell (i := 1) (blk_keep hb1 (blk_new rfl)) rfl
             have xz := blk_lt (blk_keep hb1 (blk_new rfl))))
        go_ret2
        exact HR.out (some v) _ HF2.out (bel_chain hb1 (bel_alloc HB.out _))
    · have HF : Hid (getF L n = none) := by simp only [Hid]; rw [← HS.out, List.drop_eq_nil_of_le (by omega)]; rfl
      go_wp2_with fail
      go_ret2
      exact HR.out none _ HF.out HB.out
end Go.Proofs.YtaaefgieklkekaaGreatDoor
namespace Go.Proofs.YtaaefgieklkekaaGreatDoor
open Go.RowKit

theorem blk_frozen_at {w : World} {b i n m : Nat} {cs : Array Value} {T : TypeId} (h : w.heap[b]? = some (.cells cs T (n, m))) (hi : i < n) : w.frozen? ⟨b, i, none⟩ = false := by
  unfold World.frozen?
  simp only [h]
  simp
  omega
/-- Bytes in a new row, behind them what was laid. -/
def lowCs (l : List UInt8) (k : Nat) (z : Array Value) : Array Value := (((l.take k).map lowC ++ l.drop k).map fun c => Value.int .u8 (c.toNat : Int)).toArray ++ z
theorem lowCs_at {l : List UInt8} {k : Nat} {z : Array Value} (h : k < l.length) : (lowCs l k z)[k]? = some (.int .u8 (l[k].toNat : Int)) := by
  unfold lowCs
  rw [Array.getElem?_append_left (by simp; omega)]
  simp [List.getElem?_append_right, h, Nat.min_eq_left (Nat.le_of_lt h)]
theorem lowCs_cut {l : List UInt8} {k : Nat} {z : Array Value} (h : k < l.length) : lowCs l k z = (((l.take k).map fun c => Value.int .u8 ((lowC c).toNat : Int)) ++ Value.int .u8 (l[k].toNat : Int) :: (((l.drop (k + 1)).map fun c => Value.int .u8 (c.toNat : Int)) ++ z.toList)).toArray := by
  apply Array.ext'
  simp only [lowCs, Array.toList_append]
  rw [List.drop_eq_getElem_cons h]
  simp only [List.map_append, List.map_cons, List.map_map, List.append_assoc, List.cons_append, Function.comp_def]
theorem lowCs_next {l : List UInt8} {k : Nat} {z : Array Value} (h : k < l.length) : lowCs l (k + 1) z = (((l.take k).map fun c => Value.int .u8 ((lowC c).toNat : Int)) ++ Value.int .u8 ((lowC l[k]).toNat : Int) :: (((l.drop (k + 1)).map fun c => Value.int .u8 (c.toNat : Int)) ++ z.toList)).toArray := by
  apply Array.ext'
  simp only [lowCs, Array.toList_append]
  rw [List.take_succ_eq_append_getElem h]
  simp only [List.map_append, List.map_cons, List.map_nil, List.map_map, List.append_assoc, List.cons_append, List.nil_append, Function.comp_def]
theorem lowCs_set {l : List UInt8} {k : Nat} {z : Array Value} (h : k < l.length) : (lowCs l k z).setIfInBounds k (.int .u8 ((lowC l[k]).toNat : Int)) = lowCs l (k + 1) z := by
  rw [lowCs_cut h, lowCs_next h]
  apply Array.ext'
  rw [Array.toList_setIfInBounds]
  simp only
  rw [List.set_append_right _ _ (by simp; omega)]
  have : k - ((l.take k).map fun c => Value.int .u8 ((lowC c).toNat : Int)).length = 0 := by simp; omega
  rw [this]
  rfl
theorem lowCs_same {l : List UInt8} {k : Nat} {z : Array Value} (h : k < l.length) (he : lowC l[k] = l[k]) : lowCs l k z = lowCs l (k + 1) z := by
  rw [lowCs_cut h, lowCs_next h, he]
theorem lowCs_get {l : List UInt8} {z : Array Value} {j : Nat} (h : j < (l.map lowC).length) : (lowCs l l.length z)[j]? = some (.int .u8 ((l.map lowC)[j].toNat : Int)) := by
  have hj : j < l.length := by simpa using h
  unfold lowCs
  rw [Array.getElem?_append_left (by simp; omega)]
  simp [hj]
theorem lowCs_zero (s : ByteArray) (l : List UInt8) (hs : s = ⟨l.toArray⟩) (n : Nat) (_ : l.length ≤ n) : ∃ z, bytesRow s n = lowCs l 0 z := by
  subst hs
  refine ⟨Array.replicate (n - (⟨l.toArray⟩ : ByteArray).size) (.int .u8 0), ?_⟩
  unfold bytesRow lowCs
  simp
set_option maxHeartbeats 4000000 in
set_option maxRecDepth 100000 in
theorem rlow_any (l : List UInt8) (w : World) (hl : l.length ≤ 1000000) :
    Calls Tryz.prog 199 #[.string ⟨l.toArray⟩] w fun e w' => e = .returned (.string ⟨(l.map lowC).toArray⟩) ∧ Below w.heap.size w w' := by
  have hsz : (⟨l.toArray⟩ : ByteArray).size = l.length := ba_size l
  obtain ⟨s, hs⟩ : ∃ s : ByteArray, (⟨l.toArray⟩ : ByteArray) = s := ⟨_, rfl⟩
  rw [hs] at hsz ⊢
  have hge := grownCap_ge w s.size 0 5
  obtain ⟨cap, hcap⟩ : ∃ c, grownCap w s.size 0 5 = c := ⟨_, rfl⟩
  rw [hcap] at hge
  obtain ⟨z, hz⟩ := lowCs_zero s l hs.symm cap (by omega)
  have hcv : (convert 9 129 (.string s)).run Tryz.prog w = .ok (.slice (some ⟨w.heap.size, 0, none⟩) l.length cap) (w.drew.alloc (.cells (lowCs l 0 z) 5 ((lowCs l 0 z).size, (lowCs l 0 z).size + 1))) := by
    have h := run_bytes_of_string (P := Tryz.prog) w 9 129 5 s Tryz.underlying9 Tryz.underlying129 Tryz.underlying5
    rw [hcap, hz, hsz] at h
    exact h
  have hN : l.length ≤ (lowCs l 0 z).size := by unfold lowCs; simp
  obtain ⟨N, hNe⟩ : ∃ N, (lowCs l 0 z).size = N := ⟨_, rfl⟩
  rw [hNe] at hcv hN
  have HCB : ∀ W : World, W.heap[w.heap.size]? = some (.cells (lowCs l l.length z) 5 (N, N + 1)) → (convert 129 9 (.slice (some ⟨w.heap.size, 0, none⟩) l.length cap)).run Tryz.prog W = .ok (.string ⟨(l.map lowC).toArray⟩) W := fun W h => by
    have h1 := run_convert_bytes_back (P := Tryz.prog) W 129 9 5 ⟨w.heap.size, 0, none⟩ cap (l.map lowC) Tryz.underlying129 Tryz.underlying5 Tryz.underlying9 (fun j hj => by
      have h2 := blk_cell (i := j) h (lowCs_get hj)
      have ea : (⟨w.heap.size, 0, none⟩ : Addr).add j = ⟨w.heap.size, j, none⟩ := by
        unfold Addr.add
        split <;> simp_all
      rw [ea]
      simpa using h2)
    rw [List.length_map] at h1
    exact h1
  clear hs hsz hge hcap hz hNe
  go_enter Tryz.func199, Tryz.ntmps199
  go_upto_region 2 with fail
  obtain ⟨W1, hW1⟩ : ∃ W, (w.alloc (.cells (lowCs l 0 z) 5 (N, N + 1))).drew = W := ⟨_, rfl⟩
  have HX1 : Hid (W1.heap[w.heap.size]? = some (.cells (lowCs l 0 z) 5 (N, N + 1))) := by simp only [Hid]; rw [← hW1]; exact blk_new rfl
  have HB1 : Hid (Below w.heap.size w W1) := by simp only [Hid]; rw [← hW1]; exact bel_drew (bel_alloc (Below.refl _ _) _)
  try rw [hW1]
  clear hW1 hcv
  go_wp2_with fail
  go_loopw [4, 9] (fun _ i wr => ∃ (k : Nat), k ≤ l.length ∧ i = .int .i64 (k : Int) ∧ wr.heap[w.heap.size]? = some (.cells (lowCs l k z) 5 (N, N + 1)) ∧ Below w.heap.size w wr) (fun _ i _ => l.length - (intOf i).toNat)
  case atStart => exact ⟨0, Nat.zero_le _, rfl, HX1.out, HB1.out⟩
  case round =>
    obtain ⟨k, hk, rfl, hx, hbw⟩ := hrel
    have HX := Lib.hid hx
    have HB := Lib.hid hbw
    clear hx hbw HX1 HB1
    by_cases hlt : k < l.length
    · have HST := Lib.hid (lowCs_set (z := z) hlt)
      have HSM : Hid (lowC l[k] = l[k] → lowCs l k z = lowCs l (k + 1) z) := lowCs_same hlt
      have c0 := blk_cell HX.out (lowCs_at hlt)
      have cf := blk_frozen_at HX.out (i := k) (by omega)
      have cz := blk_lt HX.out
      obtain ⟨c, hc⟩ : ∃ c, l[k] = c := ⟨_, rfl⟩
      rw [hc] at HST HSM c0
      have hcl := UInt8.toNat_lt c
      clear hc
      by_cases h1 : 65 ≤ c.toNat
      · by_cases h2 : c.toNat ≤ 90
        · have hv : ((lowC c).toNat : Int) = (c.toNat : Int) + 32 := by rw [low_add h1 h2]; rfl
          have hw : IntKind.u8.wrap ((c.toNat : Int) + 32) = (c.toNat : Int) + 32 := by rw [IntKind.wrap_u8]; omega
          rw [hv] at HST
          clear HSM hv
          go_wp2_with fail
          go_roundw
          case rel => exact ⟨k + 1, by omega, by go_num, by rw [← HST.out]; exact blk_set HX.out, bel_set HB.out (Nat.le_refl _) _⟩
          case measure => simp [intOf]; omega
        · have HE := Lib.hid (HSM.out (UInt8.toNat_inj.1 (low_no (by omega))))
          clear HSM HST
          go_wp2_with fail
          go_roundw
          case rel => exact ⟨k + 1, by omega, by go_num, by rw [← HE.out]; exact HX.out, HB.out⟩
          case measure => simp [intOf]; omega
      · have HE := Lib.hid (HSM.out (UInt8.toNat_inj.1 (low_no (by omega))))
        clear HSM HST
        go_wp2_with fail
        go_roundw
        case rel => exact ⟨k + 1, by omega, by go_num, by rw [← HE.out]; exact HX.out, HB.out⟩
        case measure => simp [intOf]; omega
    · obtain rfl : k = l.length := by omega
      have hcb := HCB _ HX.out
      go_wp2_with fail
      go_ret
      exact ⟨rfl, HB.out⟩
set_option maxHeartbeats 4000000 in
theorem ralike_any (a b : List UInt8) (w : World) (ha : a.length ≤ 1000000) (hb : b.length ≤ 1000000) :
    Calls Tryz.prog 165 #[.string ⟨a.toArray⟩, .string ⟨b.toArray⟩] w fun e w' => e = .returned (.bool (likeB a b)) ∧ Below w.heap.size w w' := by
  have HA := fun W => Lib.hid (rlow_any a W ha)
  have HB := fun W => Lib.hid (rlow_any b W hb)
  have HV : Hid ((a.map lowC == b.map lowC) = likeB a b) := rfl
  obtain ⟨x, hx⟩ : ∃ x, a.map lowC = x := ⟨_, rfl⟩
  obtain ⟨y, hy⟩ : ∃ y, b.map lowC = y := ⟨_, rfl⟩
  simp only [hx] at HA HV
  simp only [hy] at HB HV
  clear hx hy
  go_enter Tryz.func165, Tryz.ntmps165
  go_wp2_with (first
    | (go_at_call_of 199 (Value.string ⟨b.toArray⟩); refine (HB _).out.mono ?_; rintro e w2 ⟨rfl, hb2⟩)
    | (go_at_call_of 199 (Value.string ⟨a.toArray⟩); refine (HA _).out.mono ?_; rintro e w1 ⟨rfl, hb1⟩))
  go_ret
  exact ⟨by rw [← HV.out]; rfl, bel_chain hb2 hb1⟩
end Go.Proofs.YtaaefgieklkekaaGreatDoor
namespace Go.Proofs.YtaaefgieklkekaaGreatDoor
open Go.RowKit

/-- All values of a name. -/
def allF : List FieldL → List UInt8 → List (List UInt8)
  | [], _ => []
  | f :: r, n => if likeB f.1 n = true then f.2 :: allF r n else allF r n
theorem allF_append : ∀ (a b : List FieldL) (n : List UInt8), allF (a ++ b) n = allF a n ++ allF b n
  | [], _, _ => rfl
  | f :: r, b, n => by
    rw [List.cons_append, allF, allF, allF_append r b n]
    split <;> rfl
theorem allF_take {L : List FieldL} {n : List UInt8} {k : Nat} (h : k < L.length) : allF (L.take (k + 1)) n = allF (L.take k) n ++ (if likeB L[k].1 n = true then [L[k].2] else []) := by
  rw [List.take_succ_eq_append_getElem h, allF_append, allF]
  rfl
theorem allF_len : ∀ (L : List FieldL) (n : List UInt8), (allF L n).length ≤ L.length
  | [], _ => Nat.le_refl _
  | f :: r, n => by
    have := allF_len r n
    rw [allF]; split <;> simp only [List.length_cons] <;> omega
theorem getF_all : ∀ (L : List FieldL) (n : List UInt8), getF L n = (allF L n).head?
  | [], _ => rfl
  | f :: r, n => by
    rw [getF, allF]; split
    · rfl
    · exact getF_all r n
def OfPost (L : List FieldL) (n : List UInt8) (w : World) (e : Ending) (w' : World) : Prop := ∃ A c m, m = (allF L n).length ∧ e = .returned (.slice A m c) ∧ OwnG 9 encT 1 w' w.heap.size A c (allF L n) ∧ Below w.heap.size w w'
set_option maxHeartbeats 4000000 in
set_option maxRecDepth 100000 in
theorem rfieldsOf_any (A : Option Addr) (c m : Nat) (L : List FieldL) (n : List UInt8) (w : World) (hm : m = L.length) (h : SpG encFd 2 w A c L) (hl : L.length ≤ 100000) (hn : n.length ≤ 1000000) (hx : ∀ f ∈ L, f.1.length ≤ 1000000) :
    Calls Tryz.prog 129 #[.slice A m c, .string ⟨n.toArray⟩] w (OfPost L n w) := by
  subst hm
  have HH := Lib.hid h
  have HAL := fun a (ha : a.length ≤ 1000000) W => Lib.hid (ralike_any a n W ha hn)
  have HX := Lib.hid hx
  clear h hx
  go_enter Tryz.func129, Tryz.ntmps129
  go_wp2_with fail
  go_loopw [5, 7, 10] (fun v _ i wr => ∃ (k : Nat) (B : Option Addr) (d q : Nat), k ≤ L.length ∧ i = .int .i64 (k : Int) ∧ q = (allF (L.take k) n).length ∧ v = .slice B q d ∧ OwnG 9 encT 1 wr w.heap.size B d (allF (L.take k) n) ∧ Below w.heap.size w wr) (fun _ _ i _ => L.length - (intOf i).toNat)
  case atStart => exact ⟨0, none, 0, 0, Nat.zero_le _, rfl, rfl, rfl, OwnG.nil _ _, Below.refl _ _⟩
  case round =>
    obtain ⟨k, B, d, q, hk, rfl, hq, rfl, hown, hbw⟩ := hrel
    have HB := Lib.hid hbw
    have HO := Lib.hid hown
    have HQ := Lib.hid hq
    have hql : q ≤ 100000 := by have := allF_len (L.take k) n; rw [List.length_take] at this; omega
    clear hbw hown hq
    by_cases hlt : k < L.length
    · obtain ⟨b, off, e, hb, hc⟩ := (HH.out.below HB.out).at' k hlt
      have c0 := hc 0 _ rfl
      have c1 := hc 1 _ rfl
      simp only [Nat.add_zero] at c0
      have hp := HX.out _ (List.getElem_mem hlt)
      have HS := Lib.hid (allF_take (n := n) hlt)
      obtain ⟨⟨x, v⟩, hxe⟩ : ∃ p, L[k] = p := ⟨_, rfl⟩
      rw [hxe] at c0 c1 hp HS
      simp only at c0 c1 hp HS
      have HA := fun W => HAL x hp W
      clear hxe hc hp
      rw [e]
      cases hlk : likeB x n with
      | false =>
        rw [hlk] at HA HS
        have HF2 : Hid (allF (L.take (k + 1)) n = allF (L.take k) n) := by simp only [Hid]; rw [HS.out]; simp
        clear HS
        go_wp2_with (first
          | (go_at_call 165; refine (HA _).out.mono ?_; rintro e w1 ⟨rfl, hb1⟩))
        go_roundw
        case rel => exact ⟨k + 1, B, d, q, by omega, by go_num, by rw [HF2.out]; exact HQ.out, rfl, by rw [HF2.out]; exact (HO.out.alloc _).below hb1, bel_chain hb1 (bel_alloc HB.out _)⟩
        case measure => simp [intOf]; omega
      | true =>
        rw [hlk] at HA HS
        have HF2 : Hid (allF (L.take (k + 1)) n = allF (L.take k) n ++ [v]) := by simp only [Hid]; rw [HS.out]; simp
        clear HS
        obtain ⟨G, hG⟩ : ∃ G, allF (L.take k) n = G := ⟨_, rfl⟩
        rw [hG] at HF2 HO HQ
        clear hG
        go_wp2_with (first
          | (at_builtin
             refine wplG_row (w0 := w) elemT rfl (.tmp 18) (.tmp 21) rfl B d q G HQ.out #[.string ⟨v.toArray⟩] _ rfl HO1.out [v] 1 rfl rfl rfl Nat.zero_lt_one (q + 1) rfl (by omega) HB1.out ?_
             intro A2 c2 w2 hown2 hbw2 hg2)
          | (go_at_call 165; refine (HA _).out.mono ?_; rintro e w1 ⟨rfl, hb1⟩
             have HO1 := Lib.hid ((HO.out.alloc _).below hb1)
             have HB1 := Lib.hid (bel_chain hb1 (bel_alloc HB.out _))
             have x0 := blk_cell (i := 1) (blk_keep hb1 (blk_new rfl)) rfl
             have xz := blk_lt (blk_keep hb1 (blk_new rfl))))
        go_roundw
        case rel => exact ⟨k + 1, A2, c2, q + 1, by omega, by go_num, by rw [HF2.out, List.length_append, HQ.out]; rfl, rfl, by rw [HF2.out]; exact hown2, hbw2⟩
        case measure => simp [intOf]; omega
    · obtain rfl : k = L.length := by omega
      rw [List.take_length] at HO HQ
      go_wp2_with fail
      go_ret
      exact ⟨B, d, q, HQ.out, rfl, HO.out, HB.out⟩
set_option maxHeartbeats 4000000 in
theorem rget_any (A : Option Addr) (c m : Nat) (L : List FieldL) (n : List UInt8) (w : World) (hm : m = L.length) (h : SpG encFd 2 w A c L) (hl : L.length ≤ 100000) (hn : n.length ≤ 1000000) (hx : ∀ f ∈ L, f.1.length ≤ 1000000) :
    Calls Tryz.prog 86 #[.slice A m c, .string ⟨n.toArray⟩] w (GetPost L n w) := by
  have HO := fun W hW => Lib.hid (rfieldsOf_any A c m L n W hm hW hl hn hx)
  have HH := Lib.hid h
  have HG := Lib.hid (getF_all L n)
  have HR : Hid (∀ o W, getF L n = o → Below w.heap.size w W → GetPost L n w (.returned (optT o)) W) := fun o W ho hb => get_ret ho hb
  clear h hm
  unfold OfPost at HO
  obtain ⟨V, hV⟩ : ∃ V, allF L n = V := ⟨_, rfl⟩
  simp only [hV] at HO HG
  clear hV
  go_enter Tryz.func86, Tryz.ntmps86
  go_upto_region 2 with (go_at_call 129; refine (HO _ HH.out).out.mono ?_; rintro e w1 ⟨B, d, q, hq, rfl, hown, hb1⟩)
  subst hq
  cases V with
  | nil =>
    go_wp2_with fail
    go_ret2
    exact HR.out none _ HG.out hb1
  | cons v r =>
    obtain ⟨b, off, e, hb, hc⟩ := (hown.spg elemT.len).at' 0 (by simp)
    have c0 := hc 0 _ rfl
    simp only [Nat.add_zero, Nat.zero_mul, List.getElem_cons_zero] at c0
    have hne : (((v :: r).length : Int) == 0) = false := by rw [beq_eq_false_iff_ne]; simp only [List.length_cons]; omega
    have hpos : (0 : Int) < ((v :: r).length : Int) := by simp only [List.length_cons]; omega
    rw [e]
    clear hc
    go_wp2_with fail
    go_ret2
    exact HR.out (some v) _ HG.out hb1
end Go.Proofs.YtaaefgieklkekaaGreatDoor
namespace Go.Proofs.YtaaefgieklkekaaGreatDoor
open Go.RowKit

/-- May an answer be that tells the whole? -/
def wholeB (sz : Int) : List PartL → Bool
  | [] => decide (-1 ≤ sz)
  | p :: r => r.isEmpty && p.1.isEmpty && okS p.2 && decide (p.2.1 = 0) && !decide (p.2.2 = 0) && (if p.2.2 = 4611686018427387904 then decide (sz = -1) else decide (sz = p.2.2))
set_option maxHeartbeats 8000000 in
set_option maxRecDepth 100000 in
theorem rightWhole_any (st sz : Int) (FA : Option Addr) (fk fc : Nat) (PA : Option Addr) (pc pk : Nat) (P : List PartL) (w : World) (hpk : pk = P.length) (h : SpG encPt 3 w PA pc P) (hl : P.length ≤ 1000000) :
    Calls Tryz.prog 43 #[.agg #[.int .i64 st, .slice FA fk fc, .slice PA pk pc, .int .i64 sz]] w fun e w' => e = .returned (.bool (wholeB sz P)) ∧ Below w.heap.size w w' := by
  subst hpk
  have HH := Lib.hid h
  clear h
  cases P with
  | nil =>
    have HV : Hid (decide (-1 ≤ sz) = wholeB sz []) := rfl
    go_enter Tryz.func43, Tryz.ntmps43
    go_wp2_with fail
    go_ret
    exact ⟨by rw [← HV.out]; rfl, by (repeat (first | exact Below.refl _ _ | refine bel_drewN ?_ _ | refine bel_drew ?_ | refine bel_alloc ?_ _ | refine bel_set ?_ (by simp) _))⟩
  | cons p r =>
  obtain ⟨b, off, e, hb, hc⟩ := HH.out.at' 0 (by simp)
  have c0 := hc 0 _ rfl
  have c1 := hc 1 _ rfl
  have c2 := hc 2 _ rfl
  simp only [Nat.add_zero, Nat.zero_mul, List.getElem_cons_zero] at c0 c1 c2
  have hpos : (0 : Int) < ((p :: r).length : Int) := by simp only [List.length_cons]; omega
  have hne0 : (((p :: r).length : Int) == 0) = false := by rw [beq_eq_false_iff_ne]; omega
  have HV : Hid (wholeB sz (p :: r) = (r.isEmpty && p.1.isEmpty && okS p.2 && decide (p.2.1 = 0) && !decide (p.2.2 = 0) && (if p.2.2 = 4611686018427387904 then decide (sz = -1) else decide (sz = p.2.2)))) := rfl
  obtain ⟨V, hV⟩ : ∃ V, wholeB sz (p :: r) = V := ⟨_, rfl⟩
  rw [hV] at HV ⊢
  have HRL : Hid (r.isEmpty = decide (((p :: r).length : Int) ≤ 1)) := by
    simp only [Hid]
    cases r with
    | nil => rfl
    | cons x y => simp only [List.isEmpty_cons, List.length_cons]; rw [eq_comm, decide_eq_false_iff_not]; omega
  obtain ⟨m, hm⟩ : ∃ m, (p :: r).length = m := ⟨_, rfl⟩
  obtain ⟨re, hre⟩ : ∃ x, r.isEmpty = x := ⟨_, rfl⟩
  rw [hm] at HRL hpos hne0 ⊢
  rw [hre] at HRL HV
  subst e
  clear HH hV hm hre hc
  obtain ⟨t, x1, x2⟩ := p
  simp only at HV c0 c1 c2
  have HR := fun W => Lib.hid (right_any x1 x2 W)
  by_cases h1 : (m : Int) ≤ 1
  rotate_left
  · have hre : re = false := by rw [HRL.out, decide_eq_false h1]
    have h1' : (1 : Int) < (m : Int) := by omega
    rw [hre] at HV
    clear h1 HRL hre
    go_enter Tryz.func43, Tryz.ntmps43
    go_wp2_with fail
    go_ret
    exact ⟨by rw [HV.out]; rfl, by (repeat (first | exact Below.refl _ _ | refine bel_drewN ?_ _ | refine bel_drew ?_ | refine bel_alloc ?_ _ | refine bel_set ?_ (by simp) _))⟩
  have hre : re = true := by rw [HRL.out, decide_eq_true h1]
  rw [hre] at HV
  clear HRL hre
  cases hte : t.isEmpty with
  | false =>
    rw [hte] at HV
    go_enter Tryz.func43, Tryz.ntmps43
    go_wp2_with fail
    go_ret
    exact ⟨by rw [HV.out]; rfl, by (repeat (first | exact Below.refl _ _ | refine bel_drewN ?_ _ | refine bel_drew ?_ | refine bel_alloc ?_ _ | refine bel_set ?_ (by simp) _))⟩
  | true =>
  rw [hte] at HV
  cases hok : okS (x1, x2) with
  | false =>
    rw [hok] at HV HR
    go_enter Tryz.func43, Tryz.ntmps43
    go_wp2_with (first
      | (go_at_call 73; refine (HR _).out.mono ?_; rintro e w1 ⟨rfl, rfl⟩))
    go_ret
    exact ⟨by rw [HV.out]; rfl, by (repeat (first | exact Below.refl _ _ | refine bel_drewN ?_ _ | refine bel_drew ?_ | refine bel_alloc ?_ _ | refine bel_set ?_ (by simp) _))⟩
  | true =>
  rw [hok] at HV HR
  by_cases hf : x1 = 0
  rotate_left
  · have hfb : (x1 != 0) = true := by rw [bne_iff_ne]; exact hf
    rw [decide_eq_false hf] at HV
    clear hf
    go_enter Tryz.func43, Tryz.ntmps43
    go_wp2_with (first
      | (go_at_call 73; refine (HR _).out.mono ?_; rintro e w1 ⟨rfl, rfl⟩))
    go_ret
    exact ⟨by rw [HV.out]; rfl, by (repeat (first | exact Below.refl _ _ | refine bel_drewN ?_ _ | refine bel_drew ?_ | refine bel_alloc ?_ _ | refine bel_set ?_ (by simp) _))⟩
  subst hf
  by_cases hz : x2 = 0
  · subst hz
    rw [decide_eq_true rfl] at HV
    go_enter Tryz.func43, Tryz.ntmps43
    go_wp2_with (first
      | (go_at_call 73; refine (HR _).out.mono ?_; rintro e w1 ⟨rfl, rfl⟩))
    go_ret
    exact ⟨by rw [HV.out]; rfl, by (repeat (first | exact Below.refl _ _ | refine bel_drewN ?_ _ | refine bel_drew ?_ | refine bel_alloc ?_ _ | refine bel_set ?_ (by simp) _))⟩
  have hzb : (x2 == 0) = false := by rw [beq_eq_false_iff_ne]; exact hz
  rw [decide_eq_true rfl, decide_eq_false hz] at HV
  clear hz
  by_cases ho : x2 = 4611686018427387904
  · subst ho
    rw [if_pos rfl] at HV
    go_enter Tryz.func43, Tryz.ntmps43
    go_wp2_with (first
      | (go_at_call 73; refine (HR _).out.mono ?_; rintro e w1 ⟨rfl, rfl⟩))
    go_ret
    exact ⟨by rw [HV.out]; simp; rfl, by (repeat (first | exact Below.refl _ _ | refine bel_drewN ?_ _ | refine bel_drew ?_ | refine bel_alloc ?_ _ | refine bel_set ?_ (by simp) _))⟩
  · have hob : (x2 == 4611686018427387904) = false := by rw [beq_eq_false_iff_ne]; exact ho
    rw [if_neg ho] at HV
    clear ho
    go_enter Tryz.func43, Tryz.ntmps43
    go_wp2_with (first
      | (go_at_call 73; refine (HR _).out.mono ?_; rintro e w1 ⟨rfl, rfl⟩))
    go_ret
    exact ⟨by rw [HV.out]; simp; rfl, by (repeat (first | exact Below.refl _ _ | refine bel_drewN ?_ _ | refine bel_drew ?_ | refine bel_alloc ?_ _ | refine bel_set ?_ (by simp) _))⟩
end Go.Proofs.YtaaefgieklkekaaGreatDoor
