/- Contract of shape.Spans; the chapter's examples, plain. Plain: what may be told, for the laws of heads and seeds. The chapter's examples. Contract of the law's alive. -/
import Derived.Test.YtaaefgieklkekaaGreatDoorZI20
import Derived.Test.YtaaefgieklkekaaGreatDoorZD5
import Derived.Test.YtaaefgieklkekaaGreatDoorZM1
namespace Go.Proofs.YtaaefgieklkekaaGreatDoor
open Go.RowKit

/-- The spans of parts. -/
def spansL : List PartL → List (Int × Int)
  | [] => []
  | p :: r => (if p.1.isEmpty then [p.2] else []) ++ spansL r
theorem spansL_append : ∀ (a b : List PartL), spansL (a ++ b) = spansL a ++ spansL b
  | [], b => rfl
  | p :: r, b => by rw [List.cons_append, spansL, spansL, spansL_append r b, List.append_assoc]
theorem spansL_len : ∀ (P : List PartL), (spansL P).length ≤ P.length
  | [] => Nat.le_refl _
  | p :: r => by
    have := spansL_len r
    rw [spansL, List.length_append, List.length_cons]
    split <;> simp <;> omega
theorem spansL_step {P : List PartL} {k : Nat} (hk : k < P.length) : spansL (P.take (k + 1)) = spansL (P.take k) ++ (if P[k].1.isEmpty then [P[k].2] else []) := by
  rw [List.take_succ_eq_append_getElem hk, spansL_append]
  simp [spansL]
theorem spansF_eq (total : Int) (kd bd : List UInt8) : ∀ (f : Bool) (S : List (Int × Int)), spansL (partsF total kd bd f S) = S
  | _, [] => rfl
  | f, s :: r => by
    rw [partsF, spansL, spansL, spansF_eq total kd bd false r]
    have h : ((if f = true then [] else [13, 10]) ++ headT s total kd bd).isEmpty = false := by
      unfold headT; cases f <;> rfl
    simp only [h]
    rfl
theorem spansL_parts (S : List (Int × Int)) (total : Int) (kd bd : List UInt8) : spansL (partsL S total kd bd) = S := by
  unfold partsL
  rw [spansL_append, spansF_eq]
  have h : (endT bd).isEmpty = false := rfl
  simp [spansL, h]
set_option maxHeartbeats 4000000 in
set_option maxRecDepth 100000 in
theorem spans_any (st sz : Int) (FA : Option Addr) (fk fc : Nat) (PA : Option Addr) (pc pk : Nat) (P : List PartL) (w : World) (hpk : pk = P.length) (h : SpG encPt 3 w PA pc P) (hl : P.length ≤ 1000) :
    Calls Tryz.prog 15 #[.agg #[.int .i64 st, .slice FA fk fc, .slice PA pk pc, .int .i64 sz]] w (RetSp (spansL P) w) := by
  subst hpk
  have HH := Lib.hid h
  clear h
  go_enter Tryz.func15, Tryz.ntmps15
  go_wp2_with fail
  go_loopw [3, 5, 9] (fun v _ i wr => ∃ (k : Nat) (A' : Option Addr) (c' m : Nat), k ≤ P.length ∧ i = .int .i64 (k : Int) ∧ m = (spansL (P.take k)).length ∧ v = .slice A' m c' ∧ Own wr w.heap.size A' c' (spansL (P.take k)) ∧ Below w.heap.size w wr) (fun _ _ i _ => P.length - (intOf i).toNat)
  case atStart => exact ⟨0, none, 0, 0, Nat.zero_le _, rfl, rfl, rfl, Own.nil _ _, bel_alloc (Below.refl _ _) _⟩
  case round =>
    obtain ⟨k, A', c', m, hk, rfl, hm, rfl, hown, hbw⟩ := hrel
    have HO := Lib.hid hown
    have HB := Lib.hid hbw
    have HM := Lib.hid hm
    have hml : m ≤ 1000 := by have := spansL_len (P.take k); rw [hm]; rw [List.length_take] at this; omega
    clear hown hbw hm
    by_cases hlt : k < P.length
    · obtain ⟨b, off, e, hb, hc⟩ := (HH.out.below HB.out).at' k hlt
      have c0 := hc 0 _ rfl
      have c1 := hc 1 _ rfl
      have c2 := hc 2 _ rfl
      simp only [Nat.add_zero] at c0
      have HST := Lib.hid (spansL_step hlt)
      obtain ⟨⟨t, x1, x2⟩, hx⟩ : ∃ p, P[k] = p := ⟨_, rfl⟩
      rw [hx] at c0 c1 c2 HST
      simp only at c0 c1 c2 HST
      clear hx hc
      rw [e]
      cases hte : t.isEmpty with
      | false =>
        have HS : Hid (spansL (P.take (k + 1)) = spansL (P.take k)) := by simp only [Hid]; rw [HST.out, hte]; simp
        go_wp2_with fail
        go_roundw
        case rel => exact ⟨k + 1, A', c', m, by omega, by go_num, by rw [HS.out]; exact HM.out, rfl, by rw [HS.out]; exact HO.out.alloc _, bel_alloc HB.out _⟩
        case measure => simp [intOf]; omega
      | true =>
        have HS : Hid (spansL (P.take (k + 1)) = spansL (P.take k) ++ [(x1, x2)]) := by simp only [Hid]; rw [HST.out, hte]; simp
        have HM' := HM.out
        obtain ⟨G, hG⟩ : ∃ G, spansL (P.take k) = G := ⟨_, rfl⟩
        rw [hG] at HO HS HM'
        subst HM'
        clear hG HM HST
        go_wp2_with (at_builtin; refine wpl_append (w0 := w) rfl (.tmp 16) (.tmp 19) rfl A' c' G rfl (by exact (HO.out.alloc _).alloc _) _ x1 x2 rfl (by first | exact cell_new0 _ _ _ _ | simp [go_sem]) (by first | exact cell_new1 _ _ _ _ | simp [go_sem]) (by omega) (by exact bel_alloc (bel_alloc HB.out _) _) ?_; intro A2 c2' w2 hown2 hbw2 _)
        go_roundw
        case rel => exact ⟨k + 1, A2, c2', G.length + 1, by omega, by go_num, by rw [HS.out]; simp, rfl, by rw [HS.out]; exact hown2, hbw2⟩
        case measure => simp [intOf]; omega
    · have hke : k = P.length := by omega
      rw [hke, List.take_length] at HM HO
      have HM' := HM.out
      generalize spansL P = G at *
      subst HM'
      clear HM hke
      go_wp2_with fail
      go_ret
      exact ⟨A', c', rfl, HO.out, HB.out⟩
def exMeta : MetaL := ⟨[], false, -1, 10, 10, 0, 0, 0, [], [], false⟩
theorem exMeta_ok : MetaOk exMeta := (metaOk_iff _).1 (by decide)
theorem exA_res : resL 10 [(0, 1), (8, -1)] = [(0, 2), (8, 10)] := by decide
theorem exB_res : resL 10 [(0, 4), (5, 5)] = [(0, 5), (5, 6)] := by decide
theorem exD_res : resL 10 [(10, -1)] = [] := by decide
theorem exA_fold : Folded 0 [(0, 2), (8, 10)] [((0, 2), 0), ((8, 10), 1)] := by
  refine ⟨⟨fun o ho => ?_, fun i hi => ?_, fun o ho => ?_, fun o ho => ?_, fun o ho p h1 h2 => ?_⟩, ?_, ?_⟩
  · simp at ho; rcases ho with rfl | rfl <;> simp [inP]
  · simp at hi
    have : i = 0 ∨ i = 1 := by omega
    rcases this with rfl | rfl <;> simp [inP]
  · simp at ho; rcases ho with rfl | rfl <;> simp [inP]
  · simp at ho; rcases ho with rfl | rfl <;> simp [inP]
  · simp at ho; rcases ho with rfl | rfl <;> simp at h1 h2 ⊢ <;> omega
  · simp [nearQ]
  · simp
theorem exB_fold : Folded 0 [(0, 5), (5, 6)] [((0, 6), 0)] := by
  refine ⟨⟨fun o ho => ?_, fun i hi => ?_, fun o ho => ?_, fun o ho => ?_, fun o ho p h1 h2 => ?_⟩, ?_, ?_⟩
  · simp at ho; subst ho; simp [inP]
  · simp at hi
    have : i = 0 ∨ i = 1 := by omega
    rcases this with rfl | rfl <;> simp [inP]
  · simp at ho; subst ho; simp [inP]
  · simp at ho; subst ho; simp [inP]
  · simp at ho; subst ho; simp at h1 h2 ⊢; omega
  · simp
  · simp
theorem exA_map {O : List ((Int × Int) × Nat)} (h : Folded 0 [(0, 2), (8, 10)] O) : O.map Prod.fst = [(0, 2), (8, 10)] := by
  rw [h.eq (by simp) (by decide) exA_fold]; rfl
theorem exB_map {O : List ((Int × Int) × Nat)} (h : Folded 0 [(0, 5), (5, 6)] O) : O.map Prod.fst = [(0, 6)] := by
  rw [h.eq (by simp) (by decide) exB_fold]; rfl
end Go.Proofs.YtaaefgieklkekaaGreatDoor
namespace Go.Proofs.YtaaefgieklkekaaGreatDoor
open Go.RowKit

/-- May an answer be told? -/
def AnsP (r : ReqL) (m : MetaL) (o cs seed : Int) (a : AnsL) : Prop :=
  if o = 3 then a = ⟨304, fieldsL m, [], 0⟩ else if o = 4 then a = ⟨412, fieldsL m, [], 0⟩ else if countB r m o cs = true then ∃ O, Folded 0 (resL m.hv r.L) O ∧ a = rangedA m (O.map Prod.fst) seed else a = wholeA m r.hd
theorem shape_told {r : ReqL} {m : MetaL} {o cs seed : Int} {w w' : World} {e : Ending} (h : ShapePost r m o cs seed w e w') : ∃ a, AnsP r m o cs seed a ∧ RetAns a w e w' := by
  unfold ShapePost at h
  unfold AnsP
  by_cases h3 : o = 3
  · rw [if_pos h3] at h; exact ⟨_, by rw [if_pos h3], h⟩
  · rw [if_neg h3] at h
    by_cases h4 : o = 4
    · rw [if_pos h4] at h; exact ⟨_, by rw [if_neg h3, if_pos h4], h⟩
    · rw [if_neg h4] at h
      by_cases hc : countB r m o cs = true
      · rw [if_pos hc] at h
        obtain ⟨O, hO, h⟩ := h
        exact ⟨_, by rw [if_neg h3, if_neg h4, if_pos hc]; exact ⟨O, hO, rfl⟩, h⟩
      · rw [if_neg hc] at h; exact ⟨_, by rw [if_neg h3, if_neg h4, if_neg hc], h⟩
theorem rangedA_len (m : MetaL) (O : List (Int × Int)) (seed : Int) (h : O.length ≤ 70) : (rangedA m O seed).fs.length ≤ 11 ∧ (rangedA m O seed).ps.length ≤ 141 := by
  have hf := fieldsL_len m
  match O, h with
  | [], _ => exact ⟨by simp only [rangedA, List.length_append, List.length_cons, List.length_nil]; omega, by simp [rangedA]⟩
  | [s], _ => exact ⟨by simp only [rangedA, List.length_append, List.length_cons, List.length_nil]; omega, by simp [rangedA]⟩
  | s :: t :: r, h => exact ⟨by simp only [rangedA, List.length_append, List.length_cons, List.length_nil]; omega, by simp only [rangedA, partsL_len]; omega⟩
theorem AnsP.len {r : ReqL} {m : MetaL} {o cs seed : Int} {a : AnsL} (h : AnsP r m o cs seed a) (hl : r.L.length ≤ 70) : a.fs.length ≤ 1000 ∧ a.ps.length ≤ 1000 := by
  have hf := fieldsL_len m
  unfold AnsP at h
  split at h
  · subst h; exact ⟨by simp only; omega, by simp⟩
  · split at h
    · subst h; exact ⟨by simp only; omega, by simp⟩
    · split at h
      · obtain ⟨O, hO, rfl⟩ := h
        have h1 : (O.map Prod.fst).length ≤ 70 := by
          have h2 := hO.few
          have h3 := resL_length m.hv r.L
          rw [List.length_map]; omega
        have h4 := rangedA_len m _ seed h1
        omega
      · subst h
        refine ⟨by simp only [wholeA]; omega, ?_⟩
        simp only [wholeA]
        split <;> simp
theorem rangedA_st (m : MetaL) (O : List (Int × Int)) (seed : Int) : (rangedA m O seed).st = 416 ∧ (rangedA m O seed).ps = [] ∧ (rangedA m O seed).sz = 0 ∨ (rangedA m O seed).st = 206 := by
  match O with
  | [] => exact .inl ⟨rfl, rfl, rfl⟩
  | [s] => exact .inr rfl
  | s :: t :: r => exact .inr rfl
/-- The statuses, and the bodies that aren't. -/
theorem AnsP.bare {r : ReqL} {m : MetaL} {o cs seed : Int} {a : AnsL} (h : AnsP r m o cs seed a) : ((a.st == 304) = (o == 3)) ∧ ((a.st == 412) = (o == 4)) ∧ (a.st ≠ 200 → a.st ≠ 206 → a.ps = [] ∧ a.sz = 0) := by
  unfold AnsP at h
  split at h
  · rename_i h3; subst h; subst h3; exact ⟨rfl, rfl, fun _ _ => ⟨rfl, rfl⟩⟩
  · rename_i h3
    have e3 : (o == 3) = false := by rw [beq_eq_false_iff_ne]; exact h3
    split at h
    · rename_i h4; subst h; subst h4; exact ⟨rfl, rfl, fun _ _ => ⟨rfl, rfl⟩⟩
    · rename_i h4
      have e4 : (o == 4) = false := by rw [beq_eq_false_iff_ne]; exact h4
      rw [e3, e4]
      split at h
      · obtain ⟨O, hO, rfl⟩ := h
        rcases rangedA_st m (O.map Prod.fst) seed with ⟨h1, h2, h3⟩ | h1
        · rw [h1]; exact ⟨rfl, rfl, fun _ _ => ⟨h2, h3⟩⟩
        · rw [h1]; exact ⟨rfl, rfl, fun _ h => absurd rfl h⟩
      · subst h; exact ⟨rfl, rfl, fun h => absurd rfl h⟩
theorem AnsP.head {r : ReqL} {m : MetaL} {o cs seed : Int} {a : AnsL} (hh : r.hd = true) (h : AnsP r m o cs seed a) : a.ps = [] ∧ (o ≤ 2 → a.st = 200 ∧ a.sz = m.len) := by
  have hc : countB r m o cs = false := by unfold countB; rw [hh]; simp
  unfold AnsP at h
  rw [hc, if_neg (by simp : ¬ false = true)] at h
  split at h
  · subst h; exact ⟨rfl, fun _ => by omega⟩
  · split at h
    · subst h; exact ⟨rfl, fun _ => by omega⟩
    · subst h; exact ⟨by simp [wholeA, hh], fun _ => ⟨rfl, rfl⟩⟩
theorem AnsP.norange {r : ReqL} {m : MetaL} {o cs seed : Int} {a : AnsL} (hh : r.L = []) (h : AnsP r m o cs seed a) : o ≤ 2 → a.st = 200 ∧ a.sz = m.len := by
  intro ho
  have hc : countB r m o cs = false := by unfold countB; rw [hh]; simp
  unfold AnsP at h
  rw [hc, if_neg (by simp : ¬ false = true), if_neg (by omega), if_neg (by omega)] at h
  subst h; exact ⟨rfl, rfl⟩
theorem AnsP.many {r r' : ReqL} {m : MetaL} {o cs cs' seed : Int} {a b : AnsL} (hd : r.hd = r'.hd) (hh : r.L = []) (hm : cs' < (r'.L.length : Int)) (h : AnsP r m o cs seed a) (h' : AnsP r' m o cs' seed b) : a = b := by
  have hc : countB r m o cs = false := by unfold countB; rw [hh]; simp
  have hc' : countB r' m o cs' = false := by unfold countB costB; rw [decide_eq_true hm]; simp
  unfold AnsP at h h'
  rw [hc, if_neg (by simp : ¬ false = true)] at h
  rw [hc', if_neg (by simp : ¬ false = true)] at h'
  split at h
  · rename_i h3; rw [if_pos h3] at h'; rw [h, h']
  · rename_i h3
    rw [if_neg h3] at h'
    split at h
    · rename_i h4; rw [if_pos h4] at h'; rw [h, h']
    · rename_i h4; rw [if_neg h4] at h'; rw [h, h', hd]
theorem sizeF_bound {total : Int} {kd b1 b2 : List UInt8} (hb : b1.length = b2.length) : ∀ (L : List (Int × Int)) (f : Bool) (n : Int), sizeF n (partsF total kd b1 f L ++ [(endT b1, (0, 0))]) = sizeF n (partsF total kd b2 f L ++ [(endT b2, (0, 0))])
  | [], f, n => by
    simp only [partsF, List.nil_append, sizeF]
    have e1 : endT b1 ≠ [] := by simp [endT]
    have e2 : endT b2 ≠ [] := by simp [endT]
    rw [if_pos e1, if_pos e2]
    simp [endT, hb]
  | x :: r, f, n => by
    simp only [partsF, List.cons_append, sizeF]
    have e1 : (if f = true then [] else [13, 10]) ++ headT x total kd b1 ≠ [] := by simp [headT]
    have e2 : (if f = true then [] else [13, 10]) ++ headT x total kd b2 ≠ [] := by simp [headT]
    have e3 : ((if f = true then [] else [13, 10]) ++ headT x total kd b1).length = ((if f = true then [] else [13, 10]) ++ headT x total kd b2).length := by
      simp [headT, hb]
    rw [if_pos e1, if_pos e2, e3]
    simp only [ne_eq, not_true_eq_false, if_false]
    split
    · rfl
    · exact sizeF_bound hb r false _
theorem rangedA_seeds (m : MetaL) (O : List (Int × Int)) {s1 s2 : Int} (h1 : -9223372036854775808 ≤ s1 ∧ s1 ≤ 9223372036854775807) (h2 : -9223372036854775808 ≤ s2 ∧ s2 ≤ 9223372036854775807) :
    (rangedA m O s1).st = (rangedA m O s2).st ∧ (rangedA m O s1).sz = (rangedA m O s2).sz ∧ spansL (rangedA m O s1).ps = spansL (rangedA m O s2).ps ∧ (rangedA m O s1).ps.length = (rangedA m O s2).ps.length ∧ (((rangedA m O s1).fs = (rangedA m O s2).fs ∧ (rangedA m O s1).ps.map normP = (rangedA m O s2).ps.map normP) ↔ ((rangedA m O s1).ps.length < 2 ∨ s1 = s2)) := by
  match O with
  | [] => exact ⟨rfl, rfl, rfl, rfl, fun _ => .inl (by simp [rangedA]), fun _ => ⟨rfl, rfl⟩⟩
  | [s] => exact ⟨rfl, rfl, rfl, rfl, fun _ => .inl (by simp [rangedA]), fun _ => ⟨rfl, rfl⟩⟩
  | s :: t :: r =>
    refine ⟨rfl, ?_, ?_, ?_, ?_, ?_⟩
    · simp only [rangedA, sizeL, partsL]
      exact sizeF_bound (by rw [boundT_len, boundT_len]) _ _ _
    · simp only [rangedA, spansL_parts]
    · simp only [rangedA, partsL_len]
    · rintro ⟨hf, _⟩
      right
      simp only [rangedA] at hf
      have h3 := List.append_cancel_left hf
      injection h3 with h3
      injection h3 with _ h3
      exact boundT_inj h1 h2 (List.append_cancel_left h3)
    · rintro (hl | rfl)
      · simp only [rangedA, partsL_len, List.length_cons] at hl
        omega
      · exact ⟨rfl, rfl⟩
theorem AnsP.seeds {r : ReqL} {m : MetaL} {o cs s1 s2 : Int} {a b : AnsL} (hr : ∀ x ∈ resL m.hv r.L, x.1 < x.2) (h1 : -9223372036854775808 ≤ s1 ∧ s1 ≤ 9223372036854775807) (h2 : -9223372036854775808 ≤ s2 ∧ s2 ≤ 9223372036854775807) (ha : AnsP r m o cs s1 a) (hb : AnsP r m o cs s2 b) :
    a.st = b.st ∧ a.sz = b.sz ∧ spansL a.ps = spansL b.ps ∧ a.ps.length = b.ps.length ∧ (SameA a.st a.sz b.st b.sz a.fs b.fs a.ps b.ps ↔ (a.ps.length < 2 ∨ s1 = s2)) := by
  have same : ∀ x : AnsL, x.ps.length < 2 → x.st = x.st ∧ x.sz = x.sz ∧ spansL x.ps = spansL x.ps ∧ x.ps.length = x.ps.length ∧ (SameA x.st x.sz x.st x.sz x.fs x.fs x.ps x.ps ↔ (x.ps.length < 2 ∨ s1 = s2)) := fun x hx => ⟨rfl, rfl, rfl, rfl, fun _ => .inl hx, fun _ => ⟨rfl, rfl, rfl, rfl⟩⟩
  unfold AnsP at ha hb
  split at ha
  · rename_i h3; rw [if_pos h3] at hb; subst ha hb; exact same _ (by simp)
  · rename_i h3
    rw [if_neg h3] at hb
    split at ha
    · rename_i h4; rw [if_pos h4] at hb; subst ha hb; exact same _ (by simp)
    · rename_i h4
      rw [if_neg h4] at hb
      split at ha
      · rename_i hc
        rw [if_pos hc] at hb
        obtain ⟨O, hO, rfl⟩ := ha
        obtain ⟨O', hO', rfl⟩ := hb
        have e := hO.eq hr (by decide) hO'
        subst e
        obtain ⟨a1, a2, a3, a4, a5⟩ := rangedA_seeds m (O.map Prod.fst) h1 h2
        exact ⟨a1, a2, a3, a4, fun h => a5.1 ⟨h.2.2.1, h.2.2.2⟩, fun h => ⟨a1, a2, (a5.2 h).1, (a5.2 h).2⟩⟩
      · rename_i hc
        rw [if_neg hc] at hb
        subst ha hb
        exact same _ (by simp only [wholeA]; split <;> simp)
end Go.Proofs.YtaaefgieklkekaaGreatDoor
namespace Go.Proofs.YtaaefgieklkekaaGreatDoor
open Go.RowKit

theorem shape_counts {r : ReqL} {m : MetaL} {cs seed : Int} {w w' : World} {e : Ending} (h : ShapePost r m 1 cs seed w e w') (hc : countB r m 1 cs = true) : RangedPost m (resL m.hv r.L) seed w e w' := by
  unfold ShapePost at h
  rw [if_neg (by decide), if_neg (by decide), if_pos hc] at h
  exact h
def exReq (A : Option Addr) (c : Nat) (L : List (Int × Int)) : ReqL := ⟨false, ⟨#[]⟩, A, c, L, none, 0, 0, none, 0, 0, false, false, 0, 0, ⟨#[]⟩, false⟩
def exMC : Array Value := #[.string ⟨#[]⟩, .bool false, .int .i64 (-1), .int .i64 10, .int .i64 10, .int .i64 0, .int .i64 0, .int .i64 0, .slice none 0 0, .string ⟨#[]⟩, .bool false]
def exCC : Array Value := #[.int .i64 0, .int .i64 0, .int .i64 0, .int .i64 4, .int .i64 0, .int .i64 0, .int .i64 0, .int .i64 0, .int .i64 0, .int .i64 0]
set_option maxHeartbeats 4000000 in
set_option maxRecDepth 100000 in
theorem ask_any (A : Option Addr) (c : Nat) (L : List (Int × Int)) (mb cb : Nat) (w : World) (hs : Sp w A c L) (hR : allR L = true) (hl : L.length ≤ 70) (h0 : L ≠ []) (hc : costB 10 4 L = false) (hm : w.heap[mb]? = some (.cells exMC 32 (0, 0))) (hcc : w.heap[cb]? = some (.cells exCC 34 (0, 0))) (henv : Env w) :
    Calls Tryz.prog 27 #[.slice A L.length c, .pointer (some ⟨mb, 0, none⟩), .pointer (some ⟨cb, 0, none⟩)] w (fun e w' => ∃ O, Folded 0 (resL 10 L) O ∧ RetAns (rangedA exMeta (O.map Prod.fst) 1) w e w') := by
  have HSH := fun W hW (hb : Below w.heap.size w W) => Lib.hid (shape_any (exReq A c L) exMeta none 0 1 0 0 0 4 0 0 0 0 0 0 1 W hW hR hl (SpG.nil W) exMeta_ok (henv.below hb) (by decide) (by decide))
  have HCB : Hid (countB (exReq A c L) exMeta 1 4 = true) := by
    simp only [Hid, countB, exReq]
    cases L with
    | nil => exact absurd rfl h0
    | cons a r => rw [show exMeta.hv = 10 from rfl, hc]; rfl
  have HM := Lib.hid hm
  have HC := Lib.hid hcc
  have HS := Lib.hid hs
  unfold exReq reqA metaV cfgV at HSH
  unfold exMeta at HSH
  simp only at HSH
  have hmz := blk_lt hm
  have hcz := blk_lt hcc
  have v0 : w.cell? ⟨mb, 0, none⟩ = some (.string ⟨#[]⟩) := blk_cell (i := 0) hm rfl
  have v1 : w.cell? ⟨mb, 1, none⟩ = some (.bool false) := blk_cell (i := 1) hm rfl
  have v2 : w.cell? ⟨mb, 2, none⟩ = some (.int .i64 (-1)) := blk_cell (i := 2) hm rfl
  have v3 : w.cell? ⟨mb, 3, none⟩ = some (.int .i64 10) := blk_cell (i := 3) hm rfl
  have v4 : w.cell? ⟨mb, 4, none⟩ = some (.int .i64 10) := blk_cell (i := 4) hm rfl
  have v5 : w.cell? ⟨mb, 5, none⟩ = some (.int .i64 0) := blk_cell (i := 5) hm rfl
  have v6 : w.cell? ⟨mb, 6, none⟩ = some (.int .i64 0) := blk_cell (i := 6) hm rfl
  have v7 : w.cell? ⟨mb, 7, none⟩ = some (.int .i64 0) := blk_cell (i := 7) hm rfl
  have v8 : w.cell? ⟨mb, 8, none⟩ = some (.slice none 0 0) := blk_cell (i := 8) hm rfl
  have v9 : w.cell? ⟨mb, 9, none⟩ = some (.string ⟨#[]⟩) := blk_cell (i := 9) hm rfl
  have v10 : w.cell? ⟨mb, 10, none⟩ = some (.bool false) := blk_cell (i := 10) hm rfl
  have q0 : w.cell? ⟨cb, 0, none⟩ = some (.int .i64 0) := blk_cell (i := 0) hcc rfl
  have q1 : w.cell? ⟨cb, 1, none⟩ = some (.int .i64 0) := blk_cell (i := 1) hcc rfl
  have q2 : w.cell? ⟨cb, 2, none⟩ = some (.int .i64 0) := blk_cell (i := 2) hcc rfl
  have q3 : w.cell? ⟨cb, 3, none⟩ = some (.int .i64 4) := blk_cell (i := 3) hcc rfl
  have q4 : w.cell? ⟨cb, 4, none⟩ = some (.int .i64 0) := blk_cell (i := 4) hcc rfl
  have q5 : w.cell? ⟨cb, 5, none⟩ = some (.int .i64 0) := blk_cell (i := 5) hcc rfl
  have q6 : w.cell? ⟨cb, 6, none⟩ = some (.int .i64 0) := blk_cell (i := 6) hcc rfl
  have q7 : w.cell? ⟨cb, 7, none⟩ = some (.int .i64 0) := blk_cell (i := 7) hcc rfl
  have q8 : w.cell? ⟨cb, 8, none⟩ = some (.int .i64 0) := blk_cell (i := 8) hcc rfl
  have q9 : w.cell? ⟨cb, 9, none⟩ = some (.int .i64 0) := blk_cell (i := 9) hcc rfl
  clear hs hm hcc henv hc h0 hR hl
  go_enter Tryz.func27, Tryz.ntmps27
  go_wp2_with fail
  refine (HSH _ (HS.out.below (bel_alloc (Below.refl _ _) _)) (bel_alloc (Below.refl _ _) _)).out.mono ?_
  rintro e w1 h1
  obtain ⟨O, hO, GA, gc, gk, PA, pc, pk, hgk, hpk, rfl, hg, hp, hb⟩ := shape_counts h1 HCB.out
  have HX := Lib.hid (blk_keep hb (blk_new (w := w) (o := .cells #[.int .i64 0, .slice none 0 0, .slice none 0 0, .int .i64 0] 43) rfl))
  have HGK := Lib.hid hgk
  have HPK := Lib.hid hpk
  clear hgk hpk v0 v1 v2 v3 v4 v5 v6 v7 v8 v9 v10 q0 q1 q2 q3 q4 q5 q6 q7 q8 q9 hmz hcz HSH HM HC
  have x0 := blk_cell (i := 0) HX.out rfl
  have xf0 := blk_frozen (i := 0) HX.out
  have x1 := blk_cell (i := 1) HX.out rfl
  have xf1 := blk_frozen (i := 1) HX.out
  have x2 := blk_cell (i := 2) HX.out rfl
  have xf2 := blk_frozen (i := 2) HX.out
  have x3 := blk_cell (i := 3) HX.out rfl
  have xf3 := blk_frozen (i := 3) HX.out
  have xz := blk_lt HX.out
  go_wp2_with fail
  refine bodyPost_ret (by simp [results, Tryz.results27, go_sem, x0, x1, x2, x3]; try rfl) rfl ?_
  have g0 := HX.out
  have g1 := blk_set (i := 0) (v := .int .i64 (rangedA exMeta (O.map Prod.fst) 1).st) g0
  have g2 := blk_set (i := 1) (v := .slice GA gk gc) g1
  have g3 := blk_set (i := 2) (v := .slice PA pk pc) g2
  exact ⟨O, hO, GA, gc, gk, PA, pc, pk, HGK.out, HPK.out, rfl, (((hg.set_ty g0 (by decide) _).set_ty g1 (by decide) _).set_ty g2 (by decide) _).set_ty g3 (by decide) _, (((hp.set_ty g0 (by decide) _).set_ty g1 (by decide) _).set_ty g2 (by decide) _).set_ty g3 (by decide) _, bel_set (bel_set (bel_set (bel_set (bel_chain hb (bel_alloc (Below.refl _ _) _)) (Nat.le_refl _) _) (Nat.le_refl _) _) (Nat.le_refl _) _) (Nat.le_refl _) _⟩
end Go.Proofs.YtaaefgieklkekaaGreatDoor
namespace Go.Proofs.YtaaefgieklkekaaGreatDoor
open Go.RowKit

def AskPost (st : Int) (S : List (Int × Int)) (n : Nat) (w : World) (e : Ending) (w' : World) : Prop :=
  ∃ GA gc gk PA pc pk sz P, e = .returned (.agg #[.int .i64 st, .slice GA gk gc, .slice PA pk pc, .int .i64 sz]) ∧ pk = n ∧ P.length = n ∧ spansL P = S ∧ SpG encPt 3 w' PA pc P ∧ Below w.heap.size w w'
theorem ask_post {a : AnsL} {w w' : World} {e : Ending} (h : RetAns a w e w') : AskPost a.st (spansL a.ps) a.ps.length w e w' := by
  obtain ⟨GA, gc, gk, PA, pc, pk, hgk, hpk, rfl, hg, hp, hb⟩ := h
  exact ⟨GA, gc, gk, PA, pc, pk, _, a.ps, rfl, hpk, rfl, rfl, hp.sp, hb⟩
theorem askA_any (A : Option Addr) (c : Nat) (mb cb : Nat) (w : World) (hs : Sp w A c [(0, 1), (8, -1)]) (hm : w.heap[mb]? = some (.cells exMC 32 (0, 0))) (hcc : w.heap[cb]? = some (.cells exCC 34 (0, 0))) (henv : Env w) :
    Calls Tryz.prog 27 #[.slice A 2 c, .pointer (some ⟨mb, 0, none⟩), .pointer (some ⟨cb, 0, none⟩)] w (AskPost 206 [(0, 2), (8, 10)] 5 w) := by
  have h1 := ask_any A c [(0, 1), (8, -1)] mb cb w hs (by decide) (by decide) (by decide) (by decide) hm hcc henv
  rw [show List.length ([(0, 1), (8, -1)] : List (Int × Int)) = 2 from rfl] at h1
  refine h1.mono ?_
  rintro e w' ⟨O, hO, h⟩
  rw [exA_res] at hO
  have hm := exA_map hO
  rw [hm] at h
  have h2 := ask_post h
  have e1 : spansL (rangedA exMeta [(0, 2), (8, 10)] 1).ps = [(0, 2), (8, 10)] := by rw [rangedA_two (by decide)]; exact spansL_parts _ _ _ _
  have e2 : (rangedA exMeta [(0, 2), (8, 10)] 1).ps.length = 5 := by rw [rangedA_two (by decide)]; exact partsL_len _ _ _ _
  rw [e1, e2] at h2
  exact h2
theorem askB_any (A : Option Addr) (c : Nat) (mb cb : Nat) (w : World) (hs : Sp w A c [(0, 4), (5, 5)]) (hm : w.heap[mb]? = some (.cells exMC 32 (0, 0))) (hcc : w.heap[cb]? = some (.cells exCC 34 (0, 0))) (henv : Env w) :
    Calls Tryz.prog 27 #[.slice A 2 c, .pointer (some ⟨mb, 0, none⟩), .pointer (some ⟨cb, 0, none⟩)] w (AskPost 206 [(0, 6)] 1 w) := by
  have h1 := ask_any A c [(0, 4), (5, 5)] mb cb w hs (by decide) (by decide) (by decide) (by decide) hm hcc henv
  rw [show List.length ([(0, 4), (5, 5)] : List (Int × Int)) = 2 from rfl] at h1
  refine h1.mono ?_
  rintro e w' ⟨O, hO, h⟩
  rw [exB_res] at hO
  have hm := exB_map hO
  rw [hm] at h
  have h2 := ask_post h
  have e1 : spansL (rangedA exMeta [(0, 6)] 1).ps = [(0, 6)] := by rfl
  have e2 : (rangedA exMeta [(0, 6)] 1).ps.length = 1 := by rfl
  rw [e1, e2] at h2
  exact h2
theorem askD_any (A : Option Addr) (c : Nat) (mb cb : Nat) (w : World) (hs : Sp w A c [(10, -1)]) (hm : w.heap[mb]? = some (.cells exMC 32 (0, 0))) (hcc : w.heap[cb]? = some (.cells exCC 34 (0, 0))) (henv : Env w) :
    Calls Tryz.prog 27 #[.slice A 1 c, .pointer (some ⟨mb, 0, none⟩), .pointer (some ⟨cb, 0, none⟩)] w (AskPost 416 [] 0 w) := by
  have h1 := ask_any A c [(10, -1)] mb cb w hs (by decide) (by decide) (by decide) (by decide) hm hcc henv
  rw [show List.length ([(10, -1)] : List (Int × Int)) = 1 from rfl] at h1
  refine h1.mono ?_
  rintro e w' ⟨O, hO, h⟩
  rw [exD_res] at hO
  have hm := (folded_nil hO).2 rfl
  rw [hm] at h
  have h2 := ask_post h
  have e1 : spansL (rangedA exMeta [] 1).ps = [] := by rfl
  have e2 : (rangedA exMeta [] 1).ps.length = 0 := by rfl
  rw [e1, e2] at h2
  exact h2
set_option maxHeartbeats 16000000 in
set_option maxRecDepth 100000 in
theorem alive_any (w : World) (henv : Env w) : Calls Tryz.prog 9 #[] w fun e w' => e = .returned (.bool true) ∧ Below w.heap.size w w' := by
  have HE := Lib.hid henv
  clear henv
  go_enter Tryz.func9, Tryz.ntmps9
  go_upto_region 4 with fail
  obtain ⟨W0, hW0⟩ : ∃ W0, (w.alloc (.cells #[.string ⟨#[]⟩, .bool false, .int .i64 (-1), .int .i64 10, .int .i64 10, .int .i64 0, .int .i64 0, .int .i64 0, .slice none 0 0, .string ⟨#[]⟩, .bool false] 32)).alloc (.cells #[.int .i64 0, .int .i64 0, .int .i64 0, .int .i64 4, .int .i64 0, .int .i64 0, .int .i64 0, .int .i64 0, .int .i64 0, .int .i64 0] 34) = W0 := ⟨_, rfl⟩
  have HM0 : Hid (W0.heap[w.heap.size]? = some (.cells exMC 32 (0, 0))) := by simp only [Hid]; rw [← hW0]; exact blk_skip (blk_new rfl)
  have HC0 : Hid (W0.heap[w.heap.size + 1]? = some (.cells exCC 34 (0, 0))) := by simp only [Hid]; rw [← hW0]; exact blk_new (by simp)
  have HB0 : Hid (Below w.heap.size w W0) := by simp only [Hid]; rw [← hW0]; (repeat (first | exact Below.refl _ _ | refine bel_drewN ?_ _ | refine bel_drew ?_ | refine bel_alloc ?_ _ | refine bel_set ?_ (by simp) _))
  rw [hW0]
  clear hW0
  have HL2 : ∀ A c A' c' W, Sp W A c [(0, 2), (8, 10)] → Sp W A' c' [(0, 2), (8, 10)] → Hid (Calls Tryz.prog 14 #[.slice A 2 c, .slice A' 2 c'] W fun e w' => e = .returned (.bool true) ∧ Below W.heap.size W w') := fun A c A' c' W h h' => by
    have h1 := rlist_same A c _ A' c' W h h' (by decide)
    rw [show List.length ([(0, 2), (8, 10)] : List (Int × Int)) = 2 from rfl] at h1
    exact Lib.hid h1
  have HL1 : ∀ A c A' c' W, Sp W A c [(0, 6)] → Sp W A' c' [(0, 6)] → Hid (Calls Tryz.prog 14 #[.slice A 1 c, .slice A' 1 c'] W fun e w' => e = .returned (.bool true) ∧ Below W.heap.size W w') := fun A c A' c' W h h' => by
    have h1 := rlist_same A c _ A' c' W h h' (by decide)
    rw [show List.length ([(0, 6)] : List (Int × Int)) = 1 from rfl] at h1
    exact Lib.hid h1
  go_wp2_with fail
  refine (askA_any (some ⟨W0.heap.size, 0, none⟩) 2 w.heap.size (w.heap.size + 1) _ (Sp.built' (w := W0) [(0, 1), (8, -1)] 60 rfl) (blk_skip HM0.out) (blk_skip HC0.out) (HE.out.below (bel_alloc HB0.out _))).mono ?_
  rintro e w1 ⟨GA1, gc1, gk1, PA1, pc1, pk1, sz1, P1, rfl, hpk1, hP1, hS1, hp1, hb1⟩
  have HM1 := Lib.hid (blk_keep hb1 (blk_skip HM0.out))
  have HC1 := Lib.hid (blk_keep hb1 (blk_skip HC0.out))
  have HB1 := Lib.hid (bel_chain hb1 (bel_alloc HB0.out _))
  have HP1_1 := Lib.hid hp1
  subst hpk1
  have HN1 := Lib.hid hP1
  have HS1 := Lib.hid hS1
  clear hp1 hb1 hP1 hS1
  go_wp2_with fail
  refine (askB_any (some ⟨w1.heap.size, 0, none⟩) 2 w.heap.size (w.heap.size + 1) _ (Sp.built' (w := w1) [(0, 4), (5, 5)] 60 rfl) (blk_skip HM1.out) (blk_skip HC1.out) (HE.out.below (bel_alloc HB1.out _))).mono ?_
  rintro e w2 ⟨GA2, gc2, gk2, PA2, pc2, pk2, sz2, P2, rfl, hpk2, hP2, hS2, hp2, hb2⟩
  have HM2 := Lib.hid (blk_keep hb2 (blk_skip HM1.out))
  have HC2 := Lib.hid (blk_keep hb2 (blk_skip HC1.out))
  have HB2 := Lib.hid (bel_chain hb2 (bel_alloc HB1.out _))
  have HP2_2 := Lib.hid hp2
  subst hpk2
  have HN2 := Lib.hid hP2
  have HS2 := Lib.hid hS2
  have HP1_2 := Lib.hid (HP1_1.out.below (bel_chain hb2 (bel_alloc (Below.refl _ _) _)))
  clear hp2 hb2 hP2 hS2
  go_wp2_with fail
  refine (askD_any (some ⟨w2.heap.size, 0, none⟩) 1 w.heap.size (w.heap.size + 1) _ (Sp.built' (w := w2) [(10, -1)] 60 rfl) (blk_skip HM2.out) (blk_skip HC2.out) (HE.out.below (bel_alloc HB2.out _))).mono ?_
  rintro e w3 ⟨GA3, gc3, gk3, PA3, pc3, pk3, sz3, P3, rfl, hpk3, hP3, hS3, hp3, hb3⟩
  have HM3 := Lib.hid (blk_keep hb3 (blk_skip HM2.out))
  have HC3 := Lib.hid (blk_keep hb3 (blk_skip HC2.out))
  have HB3 := Lib.hid (bel_chain hb3 (bel_alloc HB2.out _))
  have HP3_3 := Lib.hid hp3
  subst hpk3
  have HN3 := Lib.hid hP3
  have HS3 := Lib.hid hS3
  have HP1_3 := Lib.hid (HP1_2.out.below (bel_chain hb3 (bel_alloc (Below.refl _ _) _)))
  have HP2_3 := Lib.hid (HP2_2.out.below (bel_chain hb3 (bel_alloc (Below.refl _ _) _)))
  clear hp3 hb3 hP3 hS3
  have HSP1 : ∀ W, SpG encPt 3 W PA1 pc1 P1 → Hid (Calls Tryz.prog 15 #[.agg #[.int .i64 206, .slice GA1 gk1 gc1, .slice PA1 5 pc1, .int .i64 sz1]] W fun e w' => ∃ A c, e = .returned (.slice A 2 c) ∧ Sp w' A c [(0, 2), (8, 10)] ∧ Below W.heap.size W w') := fun W h => by
    refine Lib.hid ((spans_any 206 sz1 GA1 gk1 gc1 PA1 pc1 5 P1 W HN1.out.symm h (by rw [HN1.out]; decide)).mono ?_)
    rintro e w' ⟨A, c, rfl, ho, hb⟩
    rw [HS1.out] at ho ⊢
    exact ⟨A, c, rfl, ho.sp, hb⟩
  have HSP2 : ∀ W, SpG encPt 3 W PA2 pc2 P2 → Hid (Calls Tryz.prog 15 #[.agg #[.int .i64 206, .slice GA2 gk2 gc2, .slice PA2 1 pc2, .int .i64 sz2]] W fun e w' => ∃ A c, e = .returned (.slice A 1 c) ∧ Sp w' A c [(0, 6)] ∧ Below W.heap.size W w') := fun W h => by
    refine Lib.hid ((spans_any 206 sz2 GA2 gk2 gc2 PA2 pc2 1 P2 W HN2.out.symm h (by rw [HN2.out]; decide)).mono ?_)
    rintro e w' ⟨A, c, rfl, ho, hb⟩
    rw [HS2.out] at ho ⊢
    exact ⟨A, c, rfl, ho.sp, hb⟩
  go_upto_region 5 with fail
  obtain ⟨W4, hW4⟩ : ∃ W4, ((w3.alloc (.cells #[.int .i64 206, .slice GA1 gk1 gc1, .slice PA1 5 pc1, .int .i64 sz1] 43)).alloc (.cells #[.int .i64 206, .slice GA2 gk2 gc2, .slice PA2 1 pc2, .int .i64 sz2] 43)).alloc (.cells #[.int .i64 416, .slice GA3 gk3 gc3, .slice PA3 0 pc3, .int .i64 sz3] 43) = W4 := ⟨_, rfl⟩
  have HX4 : Hid (W4.heap[w3.heap.size]? = some (.cells #[.int .i64 206, .slice GA1 gk1 gc1, .slice PA1 5 pc1, .int .i64 sz1] 43 (0, 0))) := by simp only [Hid]; rw [← hW4]; exact blk_skip (blk_skip (blk_new rfl))
  have HY4 : Hid (W4.heap[w3.heap.size + 1]? = some (.cells #[.int .i64 206, .slice GA2 gk2 gc2, .slice PA2 1 pc2, .int .i64 sz2] 43 (0, 0))) := by simp only [Hid]; rw [← hW4]; exact blk_skip (blk_new (by simp))
  have HZ4 : Hid (W4.heap[w3.heap.size + 1 + 1]? = some (.cells #[.int .i64 416, .slice GA3 gk3 gc3, .slice PA3 0 pc3, .int .i64 sz3] 43 (0, 0))) := by simp only [Hid]; rw [← hW4]; exact blk_new (by simp)
  have HB4 : Hid (Below w.heap.size w W4) := by simp only [Hid]; rw [← hW4]; exact bel_alloc (bel_alloc (bel_alloc HB3.out _) _) _
  have HP1_4 : Hid (SpG encPt 3 W4 PA1 pc1 P1) := by simp only [Hid]; rw [← hW4]; exact ((HP1_3.out.alloc _).alloc _).alloc _
  have HP2_4 : Hid (SpG encPt 3 W4 PA2 pc2 P2) := by simp only [Hid]; rw [← hW4]; exact ((HP2_3.out.alloc _).alloc _).alloc _
  rw [hW4]
  clear hW4 HE HM0 HC0 HM1 HC1 HM2 HC2 HM3 HC3 HB0 HB1 HB2 HB3 HP1_1 HP1_2 HP1_3 HP2_2 HP2_3 HP3_3
  have x0 := blk_cell (i := 0) HX4.out rfl
  have x1 := blk_cell (i := 1) HX4.out rfl
  have x2 := blk_cell (i := 2) HX4.out rfl
  have x3 := blk_cell (i := 3) HX4.out rfl
  have y0 := blk_cell (i := 0) HY4.out rfl
  have y1 := blk_cell (i := 1) HY4.out rfl
  have y2 := blk_cell (i := 2) HY4.out rfl
  have y3 := blk_cell (i := 3) HY4.out rfl
  have z0 := blk_cell (i := 0) HZ4.out rfl
  have z1 := blk_cell (i := 1) HZ4.out rfl
  have z2 := blk_cell (i := 2) HZ4.out rfl
  have z3 := blk_cell (i := 3) HZ4.out rfl
  go_wp2_with (first
    | (go_at_call 14; refine (HL1 A7 c7 (some ⟨w7.heap.size, 0, none⟩) 1 _ ((HS7.out).below (bel_alloc (Below.refl _ _) _)) (Sp.built' (w := w7) [(0, 6)] 55 rfl)).out.mono ?_; rintro e w8 ⟨rfl, h8⟩
       have HZ8 := Lib.hid (blk_keep h8 (blk_skip HZ7.out))
       have HB8 := Lib.hid (bel_chain h8 (bel_alloc HB7.out _))
       clear z0 z1 z2 z3
       have z0 := blk_cell (i := 0) HZ8.out rfl
       have z1 := blk_cell (i := 1) HZ8.out rfl
       have z2 := blk_cell (i := 2) HZ8.out rfl
       have z3 := blk_cell (i := 3) HZ8.out rfl)
    | (go_at_call 15; refine (HSP2 _ HP2_6.out).out.mono ?_; rintro e w7 ⟨A7, c7, rfl, hs7, h7⟩
       have HS7 := Lib.hid hs7
       have HZ7 := Lib.hid (blk_keep h7 HZ6.out)
       have HB7 := Lib.hid (bel_chain h7 HB6.out)
       clear z0 z1 z2 z3 hs7
       have z0 := blk_cell (i := 0) HZ7.out rfl
       have z1 := blk_cell (i := 1) HZ7.out rfl
       have z2 := blk_cell (i := 2) HZ7.out rfl
       have z3 := blk_cell (i := 3) HZ7.out rfl)
    | (go_at_call 14; refine (HL2 A5 c5 (some ⟨w5.heap.size, 0, none⟩) 2 _ ((HS5.out).below (bel_alloc (Below.refl _ _) _)) (Sp.built' (w := w5) [(0, 2), (8, 10)] 55 rfl)).out.mono ?_; rintro e w6 ⟨rfl, h6⟩
       have HY6 := Lib.hid (blk_keep h6 (blk_skip HY5.out))
       have HZ6 := Lib.hid (blk_keep h6 (blk_skip HZ5.out))
       have HB6 := Lib.hid (bel_chain h6 (bel_alloc HB5.out _))
       have HP2_6 := Lib.hid ((HP2_5.out.alloc _).below h6)
       clear y0 y1 y2 y3 z0 z1 z2 z3
       have y0 := blk_cell (i := 0) HY6.out rfl
       have y1 := blk_cell (i := 1) HY6.out rfl
       have y2 := blk_cell (i := 2) HY6.out rfl
       have y3 := blk_cell (i := 3) HY6.out rfl
       have z0 := blk_cell (i := 0) HZ6.out rfl
       have z1 := blk_cell (i := 1) HZ6.out rfl
       have z2 := blk_cell (i := 2) HZ6.out rfl
       have z3 := blk_cell (i := 3) HZ6.out rfl)
    | (go_at_call 15; refine (HSP1 _ HP1_4.out).out.mono ?_; rintro e w5 ⟨A5, c5, rfl, hs5, h5⟩
       have HS5 := Lib.hid hs5
       have HY5 := Lib.hid (blk_keep h5 HY4.out)
       have HZ5 := Lib.hid (blk_keep h5 HZ4.out)
       have HB5 := Lib.hid (bel_chain h5 HB4.out)
       have HP2_5 := Lib.hid (HP2_4.out.below h5)
       clear y0 y1 y2 y3 z0 z1 z2 z3 hs5
       have y0 := blk_cell (i := 0) HY5.out rfl
       have y1 := blk_cell (i := 1) HY5.out rfl
       have y2 := blk_cell (i := 2) HY5.out rfl
       have y3 := blk_cell (i := 3) HY5.out rfl
       have z0 := blk_cell (i := 0) HZ5.out rfl
       have z1 := blk_cell (i := 1) HZ5.out rfl
       have z2 := blk_cell (i := 2) HZ5.out rfl
       have z3 := blk_cell (i := 3) HZ5.out rfl))
  go_ret
  exact ⟨rfl, HB8.out⟩
end Go.Proofs.YtaaefgieklkekaaGreatDoor
