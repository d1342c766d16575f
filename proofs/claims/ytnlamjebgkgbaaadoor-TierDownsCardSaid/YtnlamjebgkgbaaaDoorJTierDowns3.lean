/- Maps of the call's own, by their entries as a list. Contract of a set's Or. Contracts of the reference's Holds, Near and Same. Contract of a set's Less. Plain laws of a fence's states, and small laws on blocks known whole. Rows of whatever elements: of the call's own, read, appended to. Contract of the ring's owners. Plain laws of the text of ranges: it is parsed as they were. Contracts of the ring's right, of a parent's name, and of a ring's Add. Contract of a ring's Add. Contract of tier.New. Contracts of a tier's small functions: parental, Down, Parents. Contract of strconv.Atoi at a small number's digits. -/
import Derived.Test.YtnlamjebgkgbaaaDoorJTierDowns2
import Derived.Test.YtnlamjebgkgbaaaDoorJTierDowns1
import Derived.Maps.OwnSet
import Derived.Laws.MakeOwn
import Derived.Maps.AppendAt
import Derived.IntWalk
import Derived.Deep.RegionHeld3
import Derived.Deep.DeepMust
import Derived.Lib.ItoaMem
import Derived.Deep.CutBlock
import Derived.Deep.RegionLaw
import Derived.Laws.IdiomStrings
namespace Go.Proofs.YtnlamjebgkgbaaaDoor
open Go.MapKept Go.RowKit

section plain
variable {α β : Type} [DecidableEq α]
def lookM : List (α × β) → α → Option β
  | [], _ => none
  | x :: r, k => if x.1 = k then some x.2 else lookM r k
def putM : List (α × β) → α → β → List (α × β)
  | [], k, v => [(k, v)]
  | x :: r, k, v => if x.1 = k then (k, v) :: r else x :: putM r k v
def delM : List (α × β) → α → List (α × β)
  | [], _ => []
  | x :: r, k => if x.1 = k then r else x :: delM r k
def keysM (M : List (α × β)) : List α := M.map Prod.fst
theorem lookM_none {M : List (α × β)} {k : α} : lookM M k = none ↔ k ∉ keysM M := by
  induction M with
  | nil => simp [lookM, keysM]
  | cons x r ih =>
    rw [lookM]
    by_cases h : x.1 = k
    · simp [h, keysM]
    · rw [if_neg h, ih]
      simp [keysM]
      intro _ e; exact h e.symm
theorem lookM_isSome {M : List (α × β)} {k : α} : (lookM M k).isSome = decide (k ∈ keysM M) := by
  cases h : lookM M k with
  | none => have := lookM_none.1 h; simp [this]
  | some b =>
    have : k ∈ keysM M := by
      by_cases hk : k ∈ keysM M
      · exact hk
      · rw [lookM_none.2 hk] at h; cases h
    simp [this]
theorem lookM_put {M : List (α × β)} {k q : α} {v : β} : lookM (putM M k v) q = if k = q then some v else lookM M q := by
  induction M with
  | nil => simp [putM, lookM]
  | cons x r ih =>
    rw [putM]
    by_cases h : x.1 = k
    · rw [if_pos h, lookM, lookM]
      by_cases hq : k = q
      · simp [hq]
      · simp [h, hq]
    · rw [if_neg h, lookM, ih, lookM]
      by_cases hq : x.1 = q
      · have : ¬ k = q := fun e => h (hq.trans e.symm)
        simp [hq, this]
      · simp [hq]
theorem delM_keys {M : List (α × β)} {k : α} : keysM (delM M k) = (keysM M).erase k := by
  induction M with
  | nil => simp [delM, keysM]
  | cons x r ih =>
    rw [delM]
    by_cases h : x.1 = k
    · subst h; simp [keysM]
    · rw [if_neg h]
      simp only [keysM, List.map_cons] at ih ⊢
      rw [List.erase_cons_tail (by simpa using h), ih]
theorem delM_mem {M : List (α × β)} {k q : α} (h : q ∈ keysM (delM M k)) : q ∈ keysM M := by rw [delM_keys] at h; exact List.mem_of_mem_erase h
theorem lookM_del {M : List (α × β)} {k q : α} (hn : (keysM M).Nodup) : lookM (delM M k) q = if k = q then none else lookM M q := by
  induction M with
  | nil => simp [delM, lookM]
  | cons x r ih =>
    have hn' : x.1 ∉ keysM r ∧ (keysM r).Nodup := List.nodup_cons.1 hn
    rw [delM]
    by_cases h : x.1 = k
    · rw [if_pos h, lookM]
      by_cases hq : k = q
      · rw [if_pos hq]; exact lookM_none.2 (by rw [← hq, ← h]; exact hn'.1)
      · rw [if_neg hq, if_neg (fun e => hq (h.symm.trans e))]
    · rw [if_neg h, lookM, ih hn'.2, lookM]
      by_cases hq : x.1 = q
      · have : ¬ k = q := fun e => h (hq.trans e.symm)
        simp [hq, this]
      · simp [hq]
theorem putM_mem {M : List (α × β)} {k q : α} {v : β} (h : q ∈ keysM (putM M k v)) : q = k ∨ q ∈ keysM M := by
  by_cases e : q = k
  · exact .inl e
  · have h1 : (lookM (putM M k v) q).isSome = true := by rw [lookM_isSome]; simpa using h
    rw [lookM_put, if_neg (fun x => e x.symm), lookM_isSome] at h1
    exact .inr (by simpa using h1)
theorem putM_nodup {M : List (α × β)} {k : α} {v : β} (hn : (keysM M).Nodup) : (keysM (putM M k v)).Nodup := by
  induction M with
  | nil => simp [putM, keysM]
  | cons x r ih =>
    have hn' : x.1 ∉ keysM r ∧ (keysM r).Nodup := List.nodup_cons.1 hn
    rw [putM]
    by_cases h : x.1 = k
    · rw [if_pos h]; exact List.nodup_cons.2 ⟨by rw [← h]; exact hn'.1, hn'.2⟩
    · rw [if_neg h]
      refine List.nodup_cons.2 ⟨fun hm => ?_, ih hn'.2⟩
      rcases putM_mem hm with e | e
      · exact h e
      · exact hn'.1 e
theorem delM_nodup {M : List (α × β)} {k : α} (hn : (keysM M).Nodup) : (keysM (delM M k)).Nodup := by rw [delM_keys]; exact hn.erase _
theorem map_eraseIdx' {γ δ : Type} (f : γ → δ) : ∀ (l : List γ) (j : Nat), (l.eraseIdx j).map f = (l.map f).eraseIdx j
  | [], j => by simp
  | x :: l, 0 => by simp
  | x :: l, j + 1 => by simp [map_eraseIdx' f l j]
end plain

/-- A key's spelling as a value. -/
structure KeyEnc {α : Type} (d : TypeDesc) (enc : α → Value) : Prop where
  key : ∀ a, IsKey d (enc a)
  inj : ∀ a b, enc a = enc b → a = b
theorem keyInt : KeyEnc (.int .i64) (fun n : Int => Value.int .i64 n) := ⟨fun _ => rfl, fun a b h => by injection h⟩
theorem keyText : KeyEnc .string (fun l : List UInt8 => Value.string ⟨l.toArray⟩) := ⟨fun _ => trivial, fun a b h => by
  injection h with h
  have := congrArg (fun s : ByteArray => s.data.toList) h
  simpa using this⟩
/-- A map of the heap, its entries in order. -/
structure MapAt {α β : Type} (enc : α → Value) (vf : β → Value) (w : World) (r : Nat) (M : List (α × β)) : Prop where
  at_ : ∃ es clock, w.heap[r]? = some (.map es clock) ∧ es.toList.map (fun e => (e.key, e.val)) = M.map (fun x => (enc x.1, vf x.2))
/-- A world with another object at a place. -/
def withObj (w : World) (r : Nat) (o : Obj) : World := { w with heap := w.heap.setIfInBounds r o }
section
variable {α β : Type} {enc : α → Value} {vf : β → Value} {w : World} {r : Nat} {M : List (α × β)}
theorem withObj_size (w : World) (r : Nat) (o : Obj) : (withObj w r o).heap.size = w.heap.size := by simp [withObj]
theorem withObj_ne (w : World) {r g : Nat} (o : Obj) (h : g ≠ r) : (withObj w r o).heap[g]? = w.heap[g]? := by
  simp [withObj, Ne.symm h]
theorem withObj_eq (w : World) {r : Nat} {o' : Obj} (o : Obj) (h : w.heap[r]? = some o') : (withObj w r o).heap[r]? = some o := by
  have hlt := (Array.getElem?_eq_some_iff.1 h).1
  simp [withObj, hlt]
theorem bel_with {w W : World} {r : Nat} (h : Below w.heap.size w W) (hr : w.heap.size ≤ r) (o : Obj) : Below w.heap.size w (withObj W r o) :=
  ⟨h.os, h.tape, h.output, by rw [withObj_size]; exact h.size, fun k hk => by rw [withObj_ne _ _ (by omega)]; exact h.block k hk⟩
theorem MapAt.lt (h : MapAt enc vf w r M) : r < w.heap.size := by
  obtain ⟨es, c, hb, _⟩ := h.at_
  exact (Array.getElem?_eq_some_iff.1 hb).1
theorem MapAt.below {w' : World} (h : MapAt enc vf w r M) (hb : Below w.heap.size w w') : MapAt enc vf w' r M := by
  obtain ⟨es, c, h1, h2⟩ := h.at_
  exact ⟨es, c, (hb.block r h.lt).trans h1, h2⟩
theorem MapAt.new (w : World) : MapAt enc vf (w.alloc (.map #[] 0)) w.heap.size [] := ⟨#[], 0, heap_alloc_new w _, rfl⟩
theorem MapAt.ne_cells {g : Nat} {cs : Array Value} {t : TypeId} {f : Nat × Nat} (h : MapAt enc vf w r M) (hg : w.heap[g]? = some (.cells cs t f)) : g ≠ r := by
  intro e
  subst e
  obtain ⟨es, c, h1, _⟩ := h.at_
  rw [hg] at h1; cases h1
theorem sameBits_key {d : TypeDesc} {v : Value} (h : IsKey d v) : Instr.sameBits 10000 v v = true := by
  cases v <;> cases d <;> simp_all [IsKey, Instr.sameBits]
  exact (bytes_beq _ _).2 rfl
variable {d : TypeDesc}
theorem find_spec [DecidableEq α] (K : KeyEnc d enc) (k : α) : ∀ (l : List MapEntry) (M : List (α × β)) (i : Nat), l.map (fun e => (e.key, e.val)) = M.map (fun x => (enc x.1, vf x.2)) →
    (Instr.findNow d (enc k) l i = some none ∧ lookM M k = none ∧ (∀ v, putM M k v = M ++ [(k, v)]) ∧ delM M k = M) ∨
    (∃ j e b, Instr.findNow d (enc k) l i = some (some (i + j, vf b)) ∧ l[j]? = some e ∧ e.key = enc k ∧ e.val = vf b ∧ lookM M k = some b ∧ (∀ v, putM M k v = M.set j (k, v)) ∧ delM M k = M.eraseIdx j)
  | [], [], i, _ => .inl ⟨rfl, rfl, fun _ => rfl, rfl⟩
  | [], x :: M, i, h => by simp at h
  | e :: l, [], i, h => by simp at h
  | e :: l, x :: M, i, h => by
    simp only [List.map_cons, List.cons.injEq, Prod.mk.injEq] at h
    obtain ⟨⟨h1, h2⟩, h3⟩ := h
    obtain ⟨q, hq, hiff⟩ := sameNow_of_keys (K.key k) (show IsKey d e.key by rw [h1]; exact K.key _)
    cases q with
    | true =>
      have hk : x.1 = k := (K.inj _ _ ((hiff.1 rfl).trans h1)).symm
      exact .inr ⟨0, e, x.2, by simp [Instr.findNow, hq, h2], rfl, (hiff.1 rfl).symm, h2, by simp [lookM, hk], fun v => by simp [putM, hk], by simp [delM, hk]⟩
    | false =>
      have hk : ¬ x.1 = k := fun q => by have := hiff.2 (by rw [h1, q]); cases this
      rcases find_spec K k l M (i + 1) h3 with ⟨f1, f2, f3, f4⟩ | ⟨j, e', b, f1, f2, f3, f4, f5, f6, f7⟩
      · exact .inl ⟨by simp [Instr.findNow, hq, f1], by simp [lookM, hk, f2], fun v => by simp [putM, hk, f3], by simp [delM, hk, f4]⟩
      · exact .inr ⟨j + 1, e', b, by simp [Instr.findNow, hq, f1]; omega, by simpa using f2, f3, f4, by simp [lookM, hk, f5], fun v => by simp [putM, hk, f6], by simp [delM, hk, f7]⟩
variable {P : Program} {t kt et : TypeId}
theorem look_run [DecidableEq α] (K : KeyEnc d enc) (hm : P.underlying t = some (.map kt et)) (hk : P.underlying kt = some d) {z : Value} (hz : ∀ w, (zeroValue et).run P w = .ok z w) (h : MapAt enc vf w r M) (k : α) (c : Bool) :
    (Instr.lookup t (.map (some r)) (enc k) c).run P w = .ok (if c then .tuple #[((lookM M k).map vf).getD z, .bool (lookM M k).isSome] else ((lookM M k).map vf).getD z) w := by
  obtain ⟨es, clock, hb, hM⟩ := h.at_
  rcases find_spec K k es.toList M 0 hM with ⟨f1, f2, _, _⟩ | ⟨j, e, b, f1, _, _, _, f5, _, _⟩
  · have hf := run_findKey (P := P) (w := w) hk f1
    cases c <;> simp [Instr.lookup, run_underlying hm, MapKept.run_getObj_map hb, run_checkKey hk (K.key k), hf, hz, f2, Result.andThen]
  · have hf := run_findKey (P := P) (w := w) hk f1
    cases c <;> simp [Instr.lookup, run_underlying hm, MapKept.run_getObj_map hb, run_checkKey hk (K.key k), hf, f5, Result.andThen]
theorem look_nil (K : KeyEnc d enc) (hm : P.underlying t = some (.map kt et)) (hk : P.underlying kt = some d) {z : Value} (hz : ∀ w, (zeroValue et).run P w = .ok z w) (k : α) (c : Bool) :
    (Instr.lookup t (.map none) (enc k) c).run P w = .ok (if c then .tuple #[z, .bool false] else z) w := by
  have f1 : Instr.findNow d (enc k) [] 0 = some none := rfl
  have hf := run_findKey (P := P) (w := w) hk f1
  cases c <;> simp [Instr.lookup, run_underlying hm, run_checkKey hk (K.key k), hf, hz, Result.andThen]
theorem put_run [DecidableEq α] (K : KeyEnc d enc) (hm : P.underlying t = some (.map kt et)) (hk : P.underlying kt = some d) (h : MapAt enc vf w r M) (k : α) (v : β) :
    ∃ o, (Instr.mapUpdate t (.map (some r)) (enc k) (vf v)).run P w = .ok () (withObj w r o) ∧ MapAt enc vf (withObj w r o) r (putM M k v) := by
  obtain ⟨es, clock, hb, hM⟩ := h.at_
  rcases find_spec K k es.toList M 0 hM with ⟨f1, f2, f3, _⟩ | ⟨j, e, b, f1, f2, f3', f4, f5, f6, _⟩
  · have hf := run_findKey (P := P) (w := w) hk f1
    refine ⟨.map (es.push { key := enc k, val := vf v, born := clock }) (clock + 1), ?_, ⟨_, _, withObj_eq w _ hb, ?_⟩⟩
    · simp [Instr.mapUpdate, run_underlying hm, MapKept.run_getObj_map hb, run_checkKey hk (K.key k), hf, Result.andThen, run_setObj_map _ hb, withObj]
    · rw [f3 v]; simp [hM]
  · have hf := run_findKey (P := P) (w := w) hk f1
    have hes : es[j]? = some e := by simpa using f2
    refine ⟨.map (es.modify j fun e => { e with key := enc k, val := vf v }) clock, ?_, ⟨_, _, withObj_eq w _ hb, ?_⟩⟩
    · simp [Instr.mapUpdate, run_underlying hm, MapKept.run_getObj_map hb, run_checkKey hk (K.key k), hf, Result.andThen, run_setObj_map _ hb, withObj, Instr.keyThatStays, hes, f3', sameBits_key (K.key k)]
    · rw [f6 v, List.map_set, ← hM]
      apply List.ext_getElem?
      intro i
      simp only [List.getElem?_map, Array.getElem?_toList, Array.getElem?_modify, List.getElem?_set]
      by_cases hij : j = i
      · subst hij
        have hlt := (Array.getElem?_eq_some_iff.1 hes).1
        simp [hes, hlt]
      · simp [hij]
theorem del_run [DecidableEq α] (K : KeyEnc d enc) (hm : P.underlying t = some (.map kt et)) (hk : P.underlying kt = some d) (h : MapAt enc vf w r M) (k : α) (ty : TypeId) :
    ∃ o, (Builtin.delete_ #[t, kt] ty #[.map (some r), enc k]).run P w = .ok (.tuple #[]) (withObj w r o) ∧ MapAt enc vf (withObj w r o) r (delM M k) := by
  obtain ⟨es, clock, hb, hM⟩ := h.at_
  rcases find_spec K k es.toList M 0 hM with ⟨f1, _, _, f4⟩ | ⟨j, e, b, f1, f2, _, _, _, _, f7⟩
  · have hf := run_findKey (P := P) (w := w) hk f1
    refine ⟨.map es clock, ?_, ⟨_, _, withObj_eq w _ hb, ?_⟩⟩
    · simp [Builtin.delete_, run_underlying hm, MapKept.run_getObj_map hb, run_checkKey hk (K.key k), hf, Result.andThen, run_setObj_map _ hb, withObj]
    · rw [f4]; exact hM
  · have hf := run_findKey (P := P) (w := w) hk f1
    refine ⟨.map (es.eraseIdxIfInBounds j) clock, ?_, ⟨_, _, withObj_eq w _ hb, ?_⟩⟩
    · simp [Builtin.delete_, run_underlying hm, MapKept.run_getObj_map hb, run_checkKey hk (K.key k), hf, Result.andThen, run_setObj_map _ hb, withObj]
    · have hlt : j < es.size := (Array.getElem?_eq_some_iff.1 (show es[j]? = some e by simpa using f2)).1
      rw [f7, map_eraseAt, ← hM]
      simp [hlt, map_eraseIdx']
theorem len_run (hm : P.underlying t = some (.map kt et)) (h : MapAt enc vf w r M) (ty : TypeId) : (Builtin.len_ #[t] ty #[.map (some r)]).run P w = .ok (.int .i64 M.length) w := by
  obtain ⟨es, clock, hb, hM⟩ := h.at_
  have hl : es.size = M.length := by have := congrArg List.length hM; simpa using this
  simp [Builtin.len_, run_underlying hm, MapKept.run_getObj_map hb, goInt, Result.andThen, hl]
theorem len_nil_run (hm : P.underlying t = some (.map kt et)) (ty : TypeId) : (Builtin.len_ #[t] ty #[.map none]).run P w = .ok (.int .i64 0) w := by
  simp [Builtin.len_, run_underlying hm, goInt, Result.andThen]
/- at the operations, for the walk -/
variable {ops : Array Oper} {rest : List Oper} {o : Oper} {a : Act} {Q : Exit → Act → World → Prop}
theorem wplM_look [DecidableEq α] (hg : o.guard = none) (m x : Operand) (t : TypeId) (c : Bool) (hop : o.op = Op.lookup t m x c) (kt et : TypeId) (K : KeyEnc d enc) (hm : P.underlying t = some (.map kt et)) (hk : P.underlying kt = some d) (z : Value) (hz : ∀ w, (zeroValue et).run P w = .ok z w)
    (r : Nat) (M : List (α × β)) (hr : a.eval m = .map (some r)) (h : MapAt enc vf w r M) (k : α) (hx : a.eval x = enc k)
    (hK : wpList P ops Q rest (a.put o.dst (if c then .tuple #[((lookM M k).map vf).getD z, .bool (lookM M k).isSome] else ((lookM M k).map vf).getD z)) w) : wpList P ops Q (o :: rest) a w := by
  refine wpList_plain hg fun K' hK' => ?_
  have hrun := look_run K hm hk hz h k c
  have he : (execOp a.eval o).run P w = .ok (.value (if c then .tuple #[((lookM M k).map vf).getD z, .bool (lookM M k).isSome] else ((lookM M k).map vf).getD z)) w := by
    generalize (if c then Value.tuple #[((lookM M k).map vf).getD z, .bool (lookM M k).isSome] else ((lookM M k).map vf).getD z) = q at hrun ⊢
    simp [execOp, hop, hr, hx, hrun, Result.andThen]
  unfold Oper.wp
  rw [he]
  exact hK' _ _ hK
theorem wplM_put [DecidableEq α] (hg : o.guard = none) (m x v : Operand) (t : TypeId) (hop : o.op = Op.mapUpdate t m x v) (kt et : TypeId) (K : KeyEnc d enc) (hm : P.underlying t = some (.map kt et)) (hk : P.underlying kt = some d)
    (r : Nat) (M : List (α × β)) (hr : a.eval m = .map (some r)) (h : MapAt enc vf w r M) (k : α) (hx : a.eval x = enc k) (b : β) (hv : a.eval v = vf b)
    (hK : ∀ ob, MapAt enc vf (withObj w r ob) r (putM M k b) → wpList P ops Q rest (a.put o.dst undef) (withObj w r ob)) : wpList P ops Q (o :: rest) a w := by
  refine wpList_plain hg fun K' hK' => ?_
  obtain ⟨ob, h1, h2⟩ := put_run K hm hk h k b
  unfold Oper.wp
  simp [execOp, hop, hr, hx, hv, h1, Result.andThen]
  exact hK' _ _ (hK ob h2)
theorem wplM_del [DecidableEq α] (hg : o.guard = none) (m x : Operand) (t kt : TypeId) (hop : o.op = Op.call { callee := Callee.builtin Builtin.delete, args := #[m, x], argTypes := #[t, kt] }) (et : TypeId) (K : KeyEnc d enc) (hm : P.underlying t = some (.map kt et)) (hk : P.underlying kt = some d)
    (r : Nat) (M : List (α × β)) (hr : a.eval m = .map (some r)) (h : MapAt enc vf w r M) (k : α) (hx : a.eval x = enc k)
    (hK : ∀ ob, MapAt enc vf (withObj w r ob) r (delM M k) → wpList P ops Q rest (a.put o.dst (.tuple #[])) (withObj w r ob)) : wpList P ops Q (o :: rest) a w := by
  refine wpList_plain hg fun K' hK' => ?_
  obtain ⟨ob, h1, h2⟩ := del_run K hm hk h k o.type
  unfold Oper.wp
  simp [execOp, hop, resolve, invoke, builtin, hr, hx, h1, Result.andThen]
  exact hK' _ _ (hK ob h2)
theorem wplM_len (hg : o.guard = none) (m : Operand) (t : TypeId) (hop : o.op = Op.call { callee := Callee.builtin Builtin.len, args := #[m], argTypes := #[t] }) (kt et : TypeId) (hm : P.underlying t = some (.map kt et))
    (r : Nat) (M : List (α × β)) (hr : a.eval m = .map (some r)) (h : MapAt enc vf w r M) (hK : wpList P ops Q rest (a.put o.dst (.int .i64 M.length)) w) : wpList P ops Q (o :: rest) a w := by
  refine wpList_plain hg fun K' hK' => ?_
  unfold Oper.wp
  simp [execOp, hop, resolve, invoke, builtin, hr, len_run hm h o.type, Result.andThen]
  exact hK' _ _ hK
end
end Go.Proofs.YtnlamjebgkgbaaaDoor
namespace Go.Proofs.YtnlamjebgkgbaaaDoor
open Go.RowKit

theorem Own.made {W : World} {C : Array Value} {n : Nat} {base : Nat} (hb : base ≤ W.heap.size) (hn : n ≤ 2000000) (hC : C.size = n * 2) : Own (W.alloc (.cells C 54)) base (some ⟨W.heap.size, 0, none⟩) n [] :=
  World.ownsRow_made W C n hb (by simp only [maxLen]; omega) hC

theorem lt_alloc {W : World} {n : Nat} (h : n < W.heap.size) (o : Obj) : n < (W.alloc o).heap.size := by simp; omega
theorem kept_new {W w' : World} {x y : Value} {t : TypeId} (hb : Below (W.alloc (.cells #[x, y] t)).heap.size (W.alloc (.cells #[x, y] t)) w') :
    w'.cell? ⟨W.heap.size, 0, none⟩ = some x ∧ w'.cell? ⟨W.heap.size, 1, none⟩ = some y ∧ w'.frozen? ⟨W.heap.size, 0, none⟩ = false ∧ w'.frozen? ⟨W.heap.size, 1, none⟩ = false :=
  ⟨cell_keep hb (cell_new0 _ _ _ _), cell_keep hb (cell_new1 _ _ _ _), (hb.frozen (p := ⟨W.heap.size, 0, none⟩) (by simp)).trans (by simp [go_sem]), (hb.frozen (p := ⟨W.heap.size, 1, none⟩) (by simp)).trans (by simp [go_sem])⟩
/-- The row's block isn't this one. -/
def OffB (A : Option Addr) (X : Nat) : Prop := ∀ a, A = some a → a.block ≠ X
section
variable {L M T done : List (Int × Int)} {i j : Nat} {x y : Int × Int}
theorem mg_left (hi : i < L.length) (hx : L[i] = x) (hj : j < M.length) (hy : M[j] = y) (h : x.1 ≤ y.1) (he : done ++ mgL (L.drop i) (M.drop j) = T) : (done ++ [x]) ++ mgL (L.drop (i + 1)) (M.drop j) = T := by
  rw [drop_at hi, hx, drop_at hj, hy, mgL_le h, ← hy, ← drop_at hj] at he
  rw [← he]; simp
theorem mg_left' (hi : i < L.length) (hx : L[i] = x) (hj : ¬ j < M.length) (he : done ++ mgL (L.drop i) (M.drop j) = T) : (done ++ [x]) ++ mgL (L.drop (i + 1)) (M.drop j) = T := by
  rw [drop_at hi, hx, drop_end hj, mgL_nil'] at he
  rw [drop_end hj, mgL_nil', ← he]; simp
theorem mg_right (hi : i < L.length) (hx : L[i] = x) (hj : j < M.length) (hy : M[j] = y) (h : ¬ x.1 ≤ y.1) (he : done ++ mgL (L.drop i) (M.drop j) = T) : (done ++ [y]) ++ mgL (L.drop i) (M.drop (j + 1)) = T := by
  rw [drop_at hi, hx, drop_at hj, hy, mgL_gt h, ← hx, ← drop_at hi] at he
  rw [← he]; simp
theorem mg_right' (hi : ¬ i < L.length) (hj : j < M.length) (hy : M[j] = y) (he : done ++ mgL (L.drop i) (M.drop j) = T) : (done ++ [y]) ++ mgL (L.drop i) (M.drop (j + 1)) = T := by
  rw [drop_end hi, mgL_nil, drop_at hj, hy] at he
  rw [drop_end hi, mgL_nil, ← he]; simp
theorem mg_end (hi : ¬ i < L.length) (hj : ¬ j < M.length) (he : done ++ mgL (L.drop i) (M.drop j) = T) : done = T := by
  rw [drop_end hi, drop_end hj, mgL_nil] at he
  simpa using he
end

end Go.Proofs.YtnlamjebgkgbaaaDoor
namespace Go.Proofs.YtnlamjebgkgbaaaDoor
open Go.RowKit

theorem gap_step {gap : Int} {L T D : List (Int × Int)} {k : Nat} {x y : Int × Int} (hk : k < L.length) (hk1 : k + 1 < L.length) (hx : L[k] = x) (hy : L[k + 1] = y) (h : y.1 - x.2 ≤ gap) (he : D ++ gapsL gap (L.drop k) = T) : (D ++ [(x.2, y.1)]) ++ gapsL gap (L.drop (k + 1)) = T := by
  rw [drop_at hk, drop_at hk1, hx, hy, gapsL_yes h] at he
  rw [drop_at hk1, hy, ← he]; simp
theorem gap_skip {gap : Int} {L T D : List (Int × Int)} {k : Nat} {x y : Int × Int} (hk : k < L.length) (hk1 : k + 1 < L.length) (hx : L[k] = x) (hy : L[k + 1] = y) (h : ¬ y.1 - x.2 ≤ gap) (he : D ++ gapsL gap (L.drop k) = T) : D ++ gapsL gap (L.drop (k + 1)) = T := by
  rw [drop_at hk, drop_at hk1, hx, hy, gapsL_no h] at he
  rw [drop_at hk1, hy, ← he]
theorem gap_end {gap : Int} {L T D : List (Int × Int)} {k : Nat} (hk : ¬ k + 1 < L.length) (he : D ++ gapsL gap (L.drop k) = T) : D = T := by
  by_cases h : k < L.length
  · rw [drop_at h, drop_end hk] at he
    simpa [gapsL] using he
  · rw [drop_end h] at he
    simpa [gapsL] using he

end Go.Proofs.YtnlamjebgkgbaaaDoor
namespace Go.Proofs.YtnlamjebgkgbaaaDoor
open Go.RowKit

section
variable {L M T R done : List (Int × Int)} {i j k : Nat} {x y : Int × Int} {t f : Int}
theorem le_start (hi : i < L.length) (hx : L[i] = x) (hs : skipL x.1 (M.drop j) = M.drop k) (he : done ++ lessL (L.drop i) (M.drop j) = T) : done ++ (cutL x.2 x.1 (M.drop k) ++ lessL (L.drop (i + 1)) (M.drop k)) = T := by
  rw [drop_at hi, hx, lessL_cons, hs] at he
  exact he
theorem le_end (hi : ¬ i < L.length) (he : done ++ lessL (L.drop i) (M.drop j) = T) : done = T := by
  rw [drop_end hi, lessL_nil] at he
  simpa using he
theorem cut_step (hk : k < M.length) (hy : M[k] = y) (h : y.1 < t) (he : done ++ (cutL t f (M.drop k) ++ R) = T) : (done ++ pieceL f y.1) ++ (cutL t (max f y.2) (M.drop (k + 1)) ++ R) = T := by
  rw [drop_at hk, hy, cutL_in h] at he
  rw [← he]; simp
theorem cut_end (h : ∀ hk : k < M.length, ¬ (M[k]).1 < t) (he : done ++ (cutL t f (M.drop k) ++ R) = T) : (done ++ pieceL f t) ++ R = T := by
  by_cases hk : k < M.length
  · rw [drop_at hk, cutL_out (h hk)] at he
    rw [← he]; simp
  · rw [drop_end hk, cutL_nil] at he
    rw [← he]; simp
theorem skip_step (hj : j < M.length) (hy : M[j] = y) (h : y.2 ≤ f) : skipL f (M.drop (j + 1)) = skipL f (M.drop j) := by
  rw [drop_at hj, hy, skipL_yes h]
theorem skip_end (h : ∀ hj : j < M.length, ¬ (M[j]).2 ≤ f) : skipL f (M.drop j) = M.drop j := by
  by_cases hj : j < M.length
  · rw [drop_at hj, skipL_no (h hj)]
  · rw [drop_end hj, skipL_nil]
end
theorem piece_yes {f t : Int} (h : f < t) : pieceL f t = [(f, t)] := if_pos h
theorem piece_no {f t : Int} (h : ¬ f < t) : pieceL f t = [] := if_neg h
theorem Own.offNew {w : World} {base : Nat} {A : Option Addr} {c : Nat} {L : List (Int × Int)} (h : Own w base A c L) : OffB A w.heap.size := by
  intro a ha
  subst ha
  have := (World.ownsRow.lt h a.block rfl).2
  omega

end Go.Proofs.YtnlamjebgkgbaaaDoor
namespace Go.Proofs.YtnlamjebgkgbaaaDoor
open Go.RowKit

theorem cell_grown {w w' : World} {po b o : Nat} (h : w.grownBy w' (some po)) (hb : b < w.heap.size) (hne : b ≠ po) : w'.cell? ⟨b, o, none⟩ = w.cell? ⟨b, o, none⟩ :=
  World.cell?_of_block (w := w) (w' := w') (a := ⟨b, o, none⟩) (h.block b hb (by intro e; injection e with e; exact hne e))
theorem Sp.grown {w w' : World} {A : Option Addr} {c : Nat} {L : List (Int × Int)} {po : Nat} (h : Sp w A c L) (hne : OffB A po) (hg : w.grownBy w' (some po)) : Sp w' A c L :=
  ⟨h.le, h.nil_, fun hn => by
    obtain ⟨b, off, e, hb, hc⟩ := h.at' hn
    have hs := hg.size
    have hb' : b ≠ po := hne _ e
    exact ⟨b, off, e, by omega, fun i x hx => by rw [cell_grown hg hb hb', cell_grown hg hb hb']; exact hc i x hx⟩⟩
theorem grown_alloc {w W : World} {po : Option Nat} (h : w.grownBy W po) (o : Obj) : w.grownBy (W.alloc o) po :=
  ⟨h.os, h.tape, h.output, by have := h.size; simp; omega, fun k hk hne => (Below.heap_alloc W o k (by have := h.size; omega)).trans (h.block k hk hne)⟩
theorem grown_set {w W : World} {p : Addr} (h : w.grownBy W (some p.block)) (u : Value) : w.grownBy (W.setCell p u) (some p.block) :=
  ⟨h.os, h.tape, h.output, by have := h.size; simp [World.setCell]; omega, fun k hk hne => (Below.heap_setCell W p u k (fun e => hne (by rw [e]))).trans (h.block k hk hne)⟩
theorem blk_keep {W w' : World} {g : Nat} {o : Obj} (hb : Below W.heap.size W w') (h : W.heap[g]? = some o) : w'.heap[g]? = some o := (hb.block g (Array.getElem?_eq_some_iff.1 h).1).trans h
theorem blk_cell {w : World} {g i : Nat} {cs : Array Value} {t : TypeId} {f : Nat × Nat} {v : Value} (h : w.heap[g]? = some (.cells cs t f)) (hv : cs[i]? = some v) : w.cell? ⟨g, i, none⟩ = some v := (Lib.cell_of_heap h i).trans hv
theorem blk_frozen {w : World} {g i : Nat} {cs : Array Value} {t : TypeId} (h : w.heap[g]? = some (.cells cs t (0, 0))) : w.frozen? ⟨g, i, none⟩ = false := Lib.frozen_of_heap h i
theorem cells8 {w : World} {g : Nat} {a0 a1 a2 a3 a4 a5 a6 a7 : Value} {t : TypeId} {f : Nat × Nat} (h : w.heap[g]? = some (.cells #[a0, a1, a2, a3, a4, a5, a6, a7] t f)) :
    w.cell? ⟨g, 0, none⟩ = some a0 ∧ w.cell? ⟨g, 1, none⟩ = some a1 ∧ w.cell? ⟨g, 2, none⟩ = some a2 ∧ w.cell? ⟨g, 3, none⟩ = some a3 ∧ w.cell? ⟨g, 4, none⟩ = some a4 ∧ w.cell? ⟨g, 5, none⟩ = some a5 ∧ w.cell? ⟨g, 6, none⟩ = some a6 ∧ w.cell? ⟨g, 7, none⟩ = some a7 :=
  ⟨blk_cell h rfl, blk_cell h rfl, blk_cell h rfl, blk_cell h rfl, blk_cell h rfl, blk_cell h rfl, blk_cell h rfl, blk_cell h rfl⟩
theorem cells123 {w : World} {g : Nat} {a0 a1 a2 a3 a4 a5 a6 a7 : Value} {t : TypeId} {f : Nat × Nat} (h : w.heap[g]? = some (.cells #[a0, a1, a2, a3, a4, a5, a6, a7] t f)) :
    w.cell? ⟨g, 1, none⟩ = some a1 ∧ w.cell? ⟨g, 2, none⟩ = some a2 ∧ w.cell? ⟨g, 3, none⟩ = some a3 :=
  ⟨blk_cell h rfl, blk_cell h rfl, blk_cell h rfl⟩
theorem cells1 {w : World} {g : Nat} {a0 : Value} {t : TypeId} {f : Nat × Nat} (h : w.heap[g]? = some (.cells #[a0] t f)) : w.cell? ⟨g, 0, none⟩ = some a0 := blk_cell h rfl
theorem blk_lt {w : World} {g : Nat} {o : Obj} (h : w.heap[g]? = some o) : g < w.heap.size := (Array.getElem?_eq_some_iff.1 h).1
theorem blk_new {w : World} {o : Obj} {g : Nat} (hg : g = w.heap.size) : (w.alloc o).heap[g]? = some o := by subst hg; exact heap_alloc_new w o
theorem blk_skip {w : World} {o o' : Obj} {g : Nat} (h : w.heap[g]? = some o) : (w.alloc o').heap[g]? = some o := (Below.heap_alloc w o' g (blk_lt h)).trans h
theorem blk_drew {w : World} {o : Obj} {g : Nat} (h : w.heap[g]? = some o) : w.drew.heap[g]? = some o := h
theorem blk_drewN {w : World} {o : Obj} {g n : Nat} (h : w.heap[g]? = some o) : (w.drewN n).heap[g]? = some o := h

theorem blk_set_ne {w : World} {o : Obj} {g : Nat} {p : Addr} {v : Value} (hne : g ≠ p.block) (h : w.heap[g]? = some o) : (w.setCell p v).heap[g]? = some o := (Below.heap_setCell w p v g hne).trans h
theorem blk_set {w : World} {g i : Nat} {cs : Array Value} {t : TypeId} {f : Nat × Nat} {v : Value} (h : w.heap[g]? = some (.cells cs t f)) : (w.setCell ⟨g, i, none⟩ v).heap[g]? = some (.cells (cs.setIfInBounds i v) t f) := by
  simp [World.setCell, Array.getElem?_modify, h]
theorem Sp.grown' {w w' : World} {A : Option Addr} {c : Nat} {L : List (Int × Int)} {po : Nat} (h : Sp w A c L) (hne : 0 < L.length → OffB A po) (hg : w.grownBy w' (some po)) : Sp w' A c L :=
  ⟨h.le, h.nil_, fun hn => (h.grown (hne hn) hg).at' hn⟩
theorem Sp.setOff {w : World} {A : Option Addr} {c : Nat} {L : List (Int × Int)} {p : Addr} (h : Sp w A c L) (hne : 0 < L.length → OffB A p.block) (v : Value) : Sp (w.setCell p v) A c L :=
  h.grown' hne (grown_set (World.grownBy.refl _ _) v)
/-- A block without two numbers one behind the other is no block of spans. -/
structure NoPair (cs : Array Value) : Prop where
  out : ∀ o a b, cs[o]? = some (.int .i64 a) → cs[o + 1]? = some (.int .i64 b) → False
theorem Sp.off_blk {w : World} {A : Option Addr} {c : Nat} {L : List (Int × Int)} {g : Nat} {cs : Array Value} {t : TypeId} {f : Nat × Nat} (h : Sp w A c L) (hl : 0 < L.length) (hb : w.heap[g]? = some (.cells cs t f)) (hno : NoPair cs) : OffB A g := by
  obtain ⟨b, off, e, _, hc⟩ := h.at' hl
  intro a ha
  rw [e] at ha
  injection ha with ha
  subst ha
  rintro rfl
  have := hc 0 L[0] (List.getElem?_eq_getElem hl)
  rw [Lib.cell_of_heap hb, Lib.cell_of_heap hb] at this
  exact hno.out _ _ _ this.1 this.2
theorem noPair8 (b0 : Bool) (A1 : Option Addr) (n1 c1 : Nat) (A2 : Option Addr) (n2 c2 : Nat) (A3 : Option Addr) (n3 c3 : Nat) (b4 b5 : Bool) (k6 : Int) (b7 : Bool) : NoPair #[.bool b0, .slice A1 n1 c1, .slice A2 n2 c2, .slice A3 n3 c3, .bool b4, .bool b5, .int .i64 k6, .bool b7] := by
  refine ⟨fun o a b h1 h2 => ?_⟩
  match o, h1, h2 with
  | 0, h1, _ => simp at h1
  | 1, h1, _ => simp at h1
  | 2, h1, _ => simp at h1
  | 3, h1, _ => simp at h1
  | 4, h1, _ => simp at h1
  | 5, h1, _ => simp at h1
  | 6, _, h2 => simp at h2
  | 7, h1, _ => simp at h1
  | o + 8, h1, _ => simp at h1
theorem noPair1 (v : Value) : NoPair #[v] := by
  refine ⟨fun o a b h1 h2 => ?_⟩
  simp at h2

/-- What is neither kept nor to come. -/
def wantL (R H F : List (Int × Int)) : List (Int × Int) := ofOp (ofOp R H 3) F 3
def lostL (tu fa jo : Bool) (R H F : List (Int × Int)) : List (Int × Int) := if (!tu && !fa && jo) = true then [] else wantL R H F
theorem ofOp_canon (a b : List (Int × Int)) (op : Int) : Canon (ofOp a b op) := (ofOp_inv a b op).1
theorem wantL_canon (R H F : List (Int × Int)) : Canon (wantL R H F) := ofOp_canon _ _ _
theorem lostL_canon (tu fa jo : Bool) (R H F : List (Int × Int)) : Canon (lostL tu fa jo R H F) := by
  unfold lostL; split
  · exact Canon.nil
  · exact wantL_canon R H F
theorem wantL_length (R H F : List (Int × Int)) : (wantL R H F).length ≤ 2 * (2 * (R.length + H.length) + F.length) := by
  have h1 := ofOp_length (ofOp R H 3) F 3
  have h2 := ofOp_length R H 3
  unfold wantL; omega
theorem lostL_length (tu fa jo : Bool) (R H F : List (Int × Int)) : (lostL tu fa jo R H F).length ≤ 2 * (2 * (R.length + H.length) + F.length) := by
  unfold lostL; split
  · simp
  · exact wantL_length R H F
theorem inB_want (R H F : List (Int × Int)) (p : Int) : inB (wantL R H F) p = (inB R p && !inB H p && !inB F p) := by
  unfold wantL
  rw [inB_ofOp, inB_ofOp]
  cases inB R p <;> cases inB H p <;> cases inB F p <;> rfl
theorem lostL_no {tu fa jo : Bool} {R H F : List (Int × Int)} (h : (!tu && !fa && jo) = true) : lostL tu fa jo R H F = [] := if_pos h
theorem lostL_yes {tu fa jo : Bool} {R H F : List (Int × Int)} (h : (!tu && !fa && jo) = false) : lostL tu fa jo R H F = wantL R H F := if_neg (by rw [h]; simp)

/-- What becomes of an answer. -/
def decideL (he tu fa jo : Bool) (ag : Int) (R H F : List (Int × Int)) : Int :=
  match R with
  | [] => 6
  | x :: _ =>
    if (!(lostL tu fa jo R H F).isEmpty && !he) = true then (if 0 < ag then 4 else 5)
    else if inB H x.1 = true then 1
    else if inB F x.1 = true then 2
    else if (lostL tu fa jo R H F).isEmpty = true then 3 else 5
/-- A first byte that is neither kept nor to come is lost, if anything is. -/
theorem lost_first {tu fa jo : Bool} {x : Int × Int} {R H F : List (Int × Int)} (hc : Canon (x :: R)) (h1 : inB H x.1 = false) (h2 : inB F x.1 = false) : inB (lostL tu fa jo (x :: R) H F) x.1 = !(lostL tu fa jo (x :: R) H F).isEmpty := by
  have hx := hc.head
  have hin : inB (x :: R) x.1 = true := by rw [inB_iff, hc.in_cons]; exact .inl (by omega)
  cases hl : (!tu && !fa && jo)
  · rw [lostL_yes hl, inB_want, hin, h1, h2]
    have hw : inB (wantL (x :: R) H F) x.1 = true := by rw [inB_want, hin, h1, h2]; rfl
    cases hY : wantL (x :: R) H F with
    | nil => rw [hY] at hw; cases hw
    | cons y r => rfl
  · rw [lostL_no hl]; rfl
theorem firstL_zero {L : List (Int × Int)} (hc : Canon L) : firstL L 0 = L.head? := by
  cases L with
  | nil => rfl
  | cons x r =>
    have hx := hc.head
    have := firstL_at (L := x :: r) (p := 0) (k := 0) (by simp) (by simp) (by simp; omega)
    rw [this]
    have e : max 0 x.1 = x.1 := by omega
    simp [e]
/-- The first span of a set. -/
def FirstP0 (f t : Int) (b : Bool) (w : World) (e : Ending) (w' : World) : Prop :=
  e = .returned (.tuple #[.agg #[.int .i64 f, .int .i64 t], .bool b]) ∧ Below w.heap.size w w'
/-- It hands back a state. -/
def RetSt (he : Bool) (R H F : List (Int × Int)) (tu fa : Bool) (ag : Int) (jo : Bool) (w : World) (e : Ending) (w' : World) : Prop :=
  ∃ A1 c1 A2 c2 A3 c3, e = .returned (.agg #[.bool he, .slice A1 R.length c1, .slice A2 H.length c2, .slice A3 F.length c3, .bool tu, .bool fa, .int .i64 ag, .bool jo]) ∧ Sp w' A1 c1 R ∧ Sp w' A2 c2 H ∧ Sp w' A3 c3 F ∧ Below w.heap.size w w'
end Go.Proofs.YtnlamjebgkgbaaaDoor
namespace Go.Proofs.YtnlamjebgkgbaaaDoor
open Go.RowKit

section
variable {α : Type}
/-- What a slice's element type is to this program: its cells by 'enc', n of them. -/
structure ElemK (P : Program) (enc : α → List Value) (n : Nat) (T ST : TypeId) (bytes : Nat) : Prop where
  und : P.underlying ST = some (.slice T)
  info : ∃ i z, P.info? T = some i ∧ i.zero = some z ∧ i.size = n ∧ i.bytes = bytes ∧ z.cells.size = n
  pos : 0 < n
  small : bytes ≤ 128
  len : ∀ x, (enc x).length = n
  one : ∀ x, ∀ v ∈ enc x, v.oneCell' = true
def gCells (enc : α → List Value) (L : List α) : List Value := L.flatMap enc
theorem gCells_cons {enc : α → List Value} (x : α) (r : List α) : gCells enc (x :: r) = enc x ++ gCells enc r := rfl
theorem gCells_append {enc : α → List Value} (a b : List α) : gCells enc (a ++ b) = gCells enc a ++ gCells enc b := by unfold gCells; simp
theorem gCells_length {enc : α → List Value} {n : Nat} (h : ∀ x, (enc x).length = n) : ∀ (L : List α), (gCells enc L).length = L.length * n
  | [] => by simp [gCells]
  | x :: r => by rw [gCells_cons, List.length_append, h, gCells_length h r, List.length_cons, Nat.succ_mul, Nat.add_comm]
theorem gCells_at {enc : α → List Value} {n : Nat} (h : ∀ x, (enc x).length = n) : ∀ (L : List α) (k : Nat) (x : α) (j : Nat) (v : Value), L[k]? = some x → (enc x)[j]? = some v → (gCells enc L)[k * n + j]? = some v
  | [], k, x, j, v, hk, _ => by simp at hk
  | y :: r, 0, x, j, v, hk, hj => by
    simp at hk; subst hk
    have hl := (List.getElem?_eq_some_iff.1 hj).1
    rw [gCells_cons, Nat.zero_mul, Nat.zero_add, List.getElem?_append_left hl]; exact hj
  | y :: r, k + 1, x, j, v, hk, hj => by
    have ih := gCells_at h r k x j v (by simpa using hk) hj
    rw [gCells_cons, Nat.succ_mul, List.getElem?_append_right (by rw [h]; omega), h, show k * n + n + j - n = k * n + j from by omega]
    exact ih
/-- A row of the call's own. -/
def OwnG (T : TypeId) (enc : α → List Value) (n : Nat) (w : World) (base : Nat) (A : Option Addr) (c : Nat) (L : List α) : Prop := w.ownsRow base T n (.slice A L.length c) L.length (gCells enc L)
/-- A slice that reads as a list. -/
structure SpG (enc : α → List Value) (n : Nat) (w : World) (A : Option Addr) (c : Nat) (L : List α) : Prop where
  le : L.length ≤ c
  nil_ : A = none → c = 0
  at' : ∀ k (h : k < L.length), ∃ b off, A = some ⟨b, off, none⟩ ∧ b < w.heap.size ∧ ∀ j v, (enc L[k])[j]? = some v → w.cell? ⟨b, off + k * n + j, none⟩ = some v
variable {enc : α → List Value} {n : Nat} {T ST : TypeId} {w w' w0 : World} {base : Nat} {A : Option Addr} {c : Nat} {L : List α}
theorem SpG.nil (w : World) : SpG enc n w none 0 [] := ⟨Nat.le_refl _, fun _ => rfl, fun k h => by simp at h⟩
theorem SpG.below (h : SpG enc n w A c L) (hb : Below w.heap.size w w') : SpG enc n w' A c L :=
  ⟨h.le, h.nil_, fun k hk => by
    obtain ⟨b, off, e, hl, h1⟩ := h.at' k hk
    exact ⟨b, off, e, Nat.lt_of_lt_of_le hl hb.size, fun j v hj => cell_keep hb (h1 j v hj)⟩⟩
theorem SpG.alloc (h : SpG enc n w A c L) (o : Obj) : SpG enc n (w.alloc o) A c L := h.below (bel_alloc (Below.refl _ _) o)
theorem SpG.drew (h : SpG enc n w A c L) : SpG enc n w.drew A c L := ⟨h.le, h.nil_, h.at'⟩
theorem SpG.drewN (h : SpG enc n w A c L) (q : Nat) : SpG enc n (w.drewN q) A c L := ⟨h.le, h.nil_, h.at'⟩
theorem OwnG.nil (w : World) (base : Nat) : OwnG T enc n w base none 0 [] := World.ownsRow_nil w base _ _
theorem OwnG.at_ (h : OwnG T enc n w base A c L) (hn : 0 < L.length) : ∃ g, A = some ⟨g, 0, none⟩ ∧ base ≤ g ∧ g < w.heap.size := by
  obtain ⟨g, cap, hv, hb, hlt⟩ := World.ownsRow.form h hn
  injection hv with hA
  exact ⟨g, hA, hb, hlt⟩
theorem OwnG.alloc (h : OwnG T enc n w base A c L) (o : Obj) : OwnG T enc n (w.alloc o) base A c L := World.ownsRow.alloc h o
theorem OwnG.drew (h : OwnG T enc n w base A c L) : OwnG T enc n w.drew base A c L := World.ownsRow.drew h
theorem OwnG.drewN (h : OwnG T enc n w base A c L) (q : Nat) : OwnG T enc n (w.drewN q) base A c L := h
theorem OwnG.below (h : OwnG T enc n w base A c L) (hb : Below w.heap.size w w') : OwnG T enc n w' base A c L :=
  World.ownsRow.kept (row := none) h ⟨hb.os, hb.tape, hb.output, hb.size, fun k hk _ => hb.block k hk⟩ (by cases A <;> simp [Value.ownBlock])
theorem OwnG.base_le {base' : Nat} (h : OwnG T enc n w base A c L) (hb : base' ≤ base) : OwnG T enc n w base' A c L := by
  refine ⟨h.1, ?_⟩
  rcases h.2 with h2 | ⟨g, cap, cur, h1, h2, h3, h4⟩
  · exact .inl h2
  · exact .inr ⟨g, cap, cur, h1, Nat.le_trans hb h2, h3, h4⟩
/-- A world that differs in one old block alone. -/
theorem OwnG.off {k : Nat} (h : OwnG T enc n w base A c L) (hg : w.grownBy w' (some k)) (hk : k < base) : OwnG T enc n w' base A c L :=
  World.ownsRow.kept h hg (.inr fun hh => by
    have := (World.ownsRow.lt h _ hh).1
    omega)
theorem OwnG.spg (hl : ∀ x, (enc x).length = n) (h : OwnG T enc n w base A c L) : SpG enc n w A c L := by
  refine ⟨?_, ?_, ?_⟩
  · rcases h.2 with ⟨hv, hn⟩ | ⟨g, cap, cur, hv, _, _, hc, _⟩
    · rw [hn]; exact Nat.zero_le _
    · injection hv with _ _ h3; rw [h3]; exact hc
  · intro hA
    rcases h.2 with ⟨hv, hn⟩ | ⟨g, cap, cur, hv, _⟩
    · injection hv
    · subst hA; injection hv with h1; cases h1
  · intro k hk
    obtain ⟨g, rfl, _, hg⟩ := h.at_ (by omega)
    refine ⟨g, 0, rfl, hg, fun j v hj => ?_⟩
    have h1 := gCells_at hl L k L[k] j v (List.getElem?_eq_getElem hk) hj
    have hlt := (List.getElem?_eq_some_iff.1 h1).1
    rw [Nat.zero_add]
    exact (World.ownsRow.cellAt h _ (by have := gCells_length hl L; omega)).trans h1
/-- The cells of a fresh block. -/
theorem SpG.built (hl : ∀ x, (enc x).length = n) (w : World) (L : List α) (cs : Array Value) (hcs : cs.toList = gCells enc L) (T : TypeId) : SpG enc n (w.alloc (.cells cs T)) (some ⟨w.heap.size, 0, none⟩) L.length L := by
  refine ⟨Nat.le_refl _, (fun h => by cases h), fun k hk => ⟨w.heap.size, 0, rfl, by simp, fun j v hj => ?_⟩⟩
  have h1 := gCells_at hl L k L[k] j v (List.getElem?_eq_getElem hk) hj
  rw [Nat.zero_add]
  have hb : (w.alloc (.cells cs T)).heap[w.heap.size]? = some (.cells cs T (0, 0)) := heap_alloc_new w _
  rw [← hcs, Array.getElem?_toList] at h1
  rw [Lib.cell_of_heap hb]; exact h1
variable {P : Program} {bytes : Nat}
/-- append of one element. -/
theorem wpG_append (K : ElemK P enc n T ST bytes) {o : Oper} {a : Act} {K' : Act → World → Prop} {Q : Exit → Act → World → Prop} (s x : Operand)
    (ho : o.op = .call { callee := .builtin .append, args := #[s, x], argTypes := #[ST, ST] })
    (A : Option Addr) (c : Nat) (L : List α) (hs : a.eval s = .slice A L.length c) (hown : OwnG T enc n w w0.heap.size A c L)
    (A2 : Option Addr) (c2 : Nat) (L2 : List α) (hx : a.eval x = .slice A2 L2.length c2) (hsp : SpG enc n w A2 c2 L2) (h2 : 0 < L2.length)
    (hl : L.length + L2.length ≤ 1000000) (hbel : Below w0.heap.size w0 w)
    (h : ∀ A' c' w', OwnG T enc n w' w0.heap.size A' c' (L ++ L2) → Below w0.heap.size w0 w' → w.grownBy w' (Value.slice A L.length c).ownBlock → K' (a.put o.dst (.slice A' (L.length + L2.length) c')) w') : o.wp P a w K' Q := by
  obtain ⟨i0, z, hi, hz, hsz, hby, hzs⟩ := K.info
  obtain ⟨b, off, e, _, _⟩ := hsp.at' 0 h2
  subst e
  refine wp_append_own w s x _ ho w0.heap.size T i0 z n bytes K.und hi hz hsz hby hzs K.pos _ _ _ hs hown ⟨b, off, none⟩ L2.length c2 (gCells enc L2) hx (gCells_length K.len L2) ?_ ?_ (by simp only [maxLen]; omega) ?_ hbel.size ?_
  · intro j u hj
    have hadd : ∀ j, (⟨b, off, none⟩ : Addr).add j = ⟨b, off + j, none⟩ := fun j => by unfold Addr.add; split <;> simp_all
    rw [hadd]
    have hjl := (List.getElem?_eq_some_iff.1 hj).1
    rw [gCells_length K.len] at hjl
    have hnp := K.pos
    have hk : j / n < L2.length := Nat.div_lt_of_lt_mul (by rw [Nat.mul_comm]; exact hjl)
    obtain ⟨b', off', e', _, h1⟩ := hsp.at' (j / n) hk
    injection e' with e'; injection e' with e1 e2; subst e1 e2
    have hm : j % n < n := Nat.mod_lt _ hnp
    have hlx := K.len L2[j / n]
    have hv := h1 (j % n) _ (List.getElem?_eq_getElem (by omega))
    have hv2 := gCells_at K.len L2 (j / n) L2[j / n] (j % n) _ (List.getElem?_eq_getElem hk) (List.getElem?_eq_getElem (by omega))
    have hdm : j / n * n + j % n = j := by rw [Nat.mul_comm]; exact Nat.div_add_mod j n
    rw [hdm] at hv2
    rw [Nat.add_assoc, hdm] at hv
    rw [hj] at hv2
    injection hv2 with hv2
    rw [hv2]; exact hv
  · intro u hu
    simp only [gCells, List.mem_flatMap] at hu
    obtain ⟨y, _, hu⟩ := hu
    exact K.one y u hu
  · have := K.small
    have : (L.length + L2.length) * bytes ≤ 1000000 * 128 := Nat.mul_le_mul hl this
    omega
  · intro v' w' h1 h2' _
    have hlt := World.ownsRow.lt hown
    have hbel' : Below w0.heap.size w0 w' := hbel.grown h2' hbel.size (fun k hk => (hlt k hk).1)
    have hlen : (L ++ L2).length = L.length + L2.length := by simp
    rw [← gCells_append] at h1
    have hform : ∃ A' c', v' = .slice A' (L.length + L2.length) c' := by
      rcases h1.2 with ⟨hv, hn⟩ | ⟨g', cap, cur, hv, _⟩
      · omega
      · exact ⟨_, _, hv⟩
    obtain ⟨A', c', rfl⟩ := hform
    exact h A' c' w' (by unfold OwnG; rw [hlen]; exact h1) hbel' h2'
theorem wplG_append (K : ElemK P enc n T ST bytes) {ops : Array Oper} {rest : List Oper} {o : Oper} {a : Act} {Q : Exit → Act → World → Prop} (hgd : o.guard = none) (s x : Operand)
    (ho : o.op = .call { callee := .builtin .append, args := #[s, x], argTypes := #[ST, ST] })
    (A : Option Addr) (c : Nat) (L : List α) (hs : a.eval s = .slice A L.length c) (hown : OwnG T enc n w w0.heap.size A c L)
    (A2 : Option Addr) (c2 : Nat) (L2 : List α) (hx : a.eval x = .slice A2 L2.length c2) (hsp : SpG enc n w A2 c2 L2) (h2 : 0 < L2.length)
    (hl : L.length + L2.length ≤ 1000000) (hbel : Below w0.heap.size w0 w)
    (h : ∀ A' c' w', OwnG T enc n w' w0.heap.size A' c' (L ++ L2) → Below w0.heap.size w0 w' → w.grownBy w' (Value.slice A L.length c).ownBlock → wpList P ops Q rest (a.put o.dst (.slice A' (L.length + L2.length) c')) w') : wpList P ops Q (o :: rest) a w :=
  wpList_plain hgd fun _ hK => wpG_append K s x ho A c L hs hown A2 c2 L2 hx hsp h2 hl hbel fun A' c' w' h1 h2 h3 => hK _ _ (h A' c' w' h1 h2 h3)
theorem stepG_append (K : ElemK P enc n T ST bytes) {ops : Array Oper} {o : Oper} {a : Act} {K' : Act → World → Prop} {Q : Exit → Act → World → Prop} {E : Prop} (hgd : o.guard = none) (s x : Operand)
    (ho : o.op = .call { callee := .builtin .append, args := #[s, x], argTypes := #[ST, ST] })
    (A : Option Addr) (c : Nat) (L : List α) (hs : a.eval s = .slice A L.length c) (hown : OwnG T enc n w w0.heap.size A c L)
    (A2 : Option Addr) (c2 : Nat) (L2 : List α) (hx : a.eval x = .slice A2 L2.length c2) (hsp : SpG enc n w A2 c2 L2) (h2 : 0 < L2.length)
    (hl : L.length + L2.length ≤ 1000000) (hbel : Below w0.heap.size w0 w)
    (h : ∀ A' c' w', OwnG T enc n w' w0.heap.size A' c' (L ++ L2) → Below w0.heap.size w0 w' → w.grownBy w' (Value.slice A L.length c).ownBlock → K' (a.put o.dst (.slice A' (L.length + L2.length) c')) w') :
    if Region.wanted o (yielded ops a.tmps) = true then Oper.wp P o a w K' Q else E := by
  have hw : Region.wanted o (yielded ops a.tmps) = true := by simp [Region.wanted, hgd]
  rw [if_pos hw]
  exact wpG_append K s x ho A c L hs hown A2 c2 L2 hx hsp h2 hl hbel h
end
/-- A text in a cell. -/
def encT (l : List UInt8) : List Value := [.string ⟨l.toArray⟩]
def encI (x : Int) : List Value := [.int .i64 x]
theorem Tryd.strInfo : (Tryd.prog.info? 9).map (fun i => (i.zero, i.size, i.bytes)) = some (some (.string ⟨#[]⟩), 1, 16) := by kernel_rfl
theorem Tryd.intInfo' : (Tryd.prog.info? 3).map (fun i => (i.zero, i.size, i.bytes)) = some (some (.int .i64 0), 1, 8) := by kernel_rfl
set_option maxRecDepth 100000 in
theorem elemT : ElemK Tryd.prog encT 1 9 68 16 where
  und := Tryd.underlying68
  info := by
    obtain ⟨i0, hi, hz0, hz1, hz2⟩ := info_parts Tryd.strInfo
    exact ⟨i0, _, hi, hz0, hz1, hz2, rfl⟩
  pos := by decide
  small := by decide
  len _ := rfl
  one _ v hv := by simp [encT] at hv; rw [hv]; rfl
set_option maxRecDepth 100000 in
theorem elemI : ElemK Tryd.prog encI 1 3 31 8 where
  und := Tryd.underlying31
  info := by
    obtain ⟨i0, hi, hz0, hz1, hz2⟩ := info_parts Tryd.intInfo'
    exact ⟨i0, _, hi, hz0, hz1, hz2, rfl⟩
  pos := by decide
  small := by decide
  len _ := rfl
  one _ v hv := by simp [encI] at hv; rw [hv]; rfl
end Go.Proofs.YtnlamjebgkgbaaaDoor
namespace Go.Proofs.YtnlamjebgkgbaaaDoor
open Go.RowKit Go.Shelf Go.Sort

def setM (R : List (List UInt8)) : List (List UInt8 × Bool) := R.map fun n => (n, true)
theorem lookM_set (R : List (List UInt8)) (k : List UInt8) : lookM (setM R) k = if k ∈ R then some true else none := by
  induction R with
  | nil => rfl
  | cons x R ih =>
    unfold setM at *
    rw [List.map_cons, lookM]
    by_cases h : x = k
    · simp [h]
    · rw [if_neg h, ih]
      have : ¬ k = x := fun e => h e.symm
      simp [this]
theorem putM_set {R : List (List UInt8)} {k : List UInt8} (h : k ∉ R) : putM (setM R) k true = setM (R ++ [k]) := by
  induction R with
  | nil => rfl
  | cons x R ih =>
    unfold setM at *
    simp only [List.mem_cons, not_or] at h
    rw [List.map_cons, putM, if_neg (fun e => h.1 e.symm), ih h.2]
    simp
section
variable {α β γ : Type} {enc : α → Value} {vf : β → Value} {w w' : World} {b : Nat} {M : List (α × β)}
theorem MapAt.grown {T : TypeId} {en : γ → List Value} {n base c : Nat} {A : Option Addr} {L : List γ} (h : MapAt enc vf w b M) (hown : OwnG T en n w base A c L) (hg : w.grownBy w' (Value.slice A L.length c).ownBlock) : MapAt enc vf w' b M := by
  obtain ⟨es, ck, h1, h2⟩ := h.at_
  refine ⟨es, ck, ?_, h2⟩
  rw [← h1]
  refine hg.block b h.lt ?_
  intro e
  rcases hown.2 with ⟨hv, _⟩ | ⟨g, cap, cur, hv, _, hc, _⟩
  · rw [hv] at e; simp [Value.ownBlock] at e
  · rw [hv] at e
    simp [Value.ownBlock] at e
    subst e
    exact absurd rfl (h.ne_cells hc)
theorem OwnG.withObj {T : TypeId} {en : γ → List Value} {n base c : Nat} {A : Option Addr} {L : List γ} (h : OwnG T en n w base A c L) (hm : MapAt enc vf w b M) (o : Obj) : OwnG T en n (withObj w b o) base A c L := by
  refine ⟨h.1, ?_⟩
  rcases h.2 with h2 | ⟨g, cap, cur, h1, h2, h3, h4⟩
  · exact .inl h2
  · exact .inr ⟨g, cap, cur, h1, h2, by rw [withObj_ne w o (hm.ne_cells h3)]; exact h3, h4⟩
end
/-- The names of a ring: how many. -/
def NamesAt (w : World) (nm : Option Nat) (m : Nat) : Prop := (nm = none ∧ m = 0) ∨ ∃ b, nm = some b ∧ ∃ M : List (List UInt8 × Int), MapAt (fun l : List UInt8 => Value.string ⟨l.toArray⟩) (fun n : Int => Value.int .i64 n) w b M ∧ M.length = m
theorem NamesAt.below {w w' : World} {nm : Option Nat} {m : Nat} (h : NamesAt w nm m) (hb : Below w.heap.size w w') : NamesAt w' nm m := by
  rcases h with h | ⟨b, hn, M, h1, h2⟩
  · exact .inl h
  · exact .inr ⟨b, hn, M, h1.below hb, h2⟩
/-- A ring as it is read. -/
structure RingAt (w : World) (r m : Nat) (L : List Pt) (nm : Option Nat) (A : Option Addr) (c : Nat) : Prop where
  blk : w.heap[r]? = some (.cells #[.int .i64 16, .map nm, .slice A L.length c] 95 (0, 0))
  sp : SpPt w A L
  names : NamesAt w nm m
theorem RingAt.below {w w' : World} {r m : Nat} {L : List Pt} {nm : Option Nat} {A : Option Addr} {c : Nat} (h : RingAt w r m L nm A c) (hb : Below w.heap.size w w') : RingAt w' r m L nm A c :=
  ⟨blk_keep hb h.blk, h.sp.below hb, h.names.below hb⟩
/-- A slice of texts. -/
def RetT (R : List (List UInt8)) (w : World) (e : Ending) (w' : World) : Prop := ∃ A c, e = .returned (.slice A R.length c) ∧ SpG encT 1 w' A c R ∧ Below w.heap.size w w'
theorem keyTx : KeyEnc .string (fun l : List UInt8 => Value.string ⟨l.toArray⟩) := keyText
theorem rot_at {L : List Pt} {f k q : Nat} (hf : f ≤ L.length) (hk : k < L.length) (hq : (f + k) % L.length = q) : ∃ h : q < L.length, (rotL L f)[k]'(by unfold rotL; simp; omega) = L[q] := by
  have hq' : q < L.length := by rw [← hq]; exact Nat.mod_lt _ (by omega)
  refine ⟨hq', ?_⟩
  unfold rotL
  by_cases h : f + k < L.length
  · have : q = f + k := by rw [← hq]; exact Nat.mod_eq_of_lt h
    subst this
    rw [List.getElem_append_left (by simp; omega)]
    simp
  · have : q = f + k - L.length := by
      rw [← hq, Nat.mod_eq_sub_mod (by omega)]
      exact Nat.mod_eq_of_lt (by omega)
    subst this
    rw [List.getElem_append_right (by simp; omega)]
    simp only [List.getElem_take]
    congr 1
    simp; omega
theorem rot_len {L : List Pt} {f : Nat} (hf : f ≤ L.length) : (rotL L f).length = L.length := by unfold rotL; simp; omega
theorem ownersL_len (m : Nat) (R : List Pt) : (ownersL m R).length ≤ m := by
  have : ∀ (R : List Pt) (out : List (List UInt8)), out.length ≤ m → (R.foldl (ownStep m) out).length ≤ m := by
    intro R
    induction R with
    | nil => intro out h; exact h
    | cons x R ih =>
      intro out h
      rw [List.foldl_cons]
      apply ih
      unfold ownStep
      split
      · exact h
      · split
        · exact h
        · simp; omega
  exact this R [] (Nat.zero_le _)
theorem nlen_run {w : World} {nm : Option Nat} {m : Nat} (h : NamesAt w nm m) (ty : TypeId) : (Builtin.len_ #[93] ty #[.map nm]).run Tryd.prog w = .ok (.int .i64 m) w := by
  rcases h with ⟨rfl, rfl⟩ | ⟨b, rfl, M, h1, rfl⟩
  · exact len_nil_run Tryd.underlying93 ty
  · exact len_run Tryd.underlying93 h1 ty
theorem seen_run {w : World} {b : Nat} {R : List (List UInt8)} (h : MapAt (fun l : List UInt8 => Value.string ⟨l.toArray⟩) Value.bool w b (setM R)) (k : List UInt8) (t : Bool) (ht : decide (k ∈ R) = t) :
    (Instr.lookup 99 (.map (some b)) (.string ⟨k.toArray⟩) false).run Tryd.prog w = .ok (.bool t) w := by
  have := look_run (P := Tryd.prog) keyText Tryd.underlying99 Tryd.underlying9 (z := .bool false) (fun w => by simp [Tryd.zeroValue4]) h k false
  rw [lookM_set] at this
  rw [this, ← ht]
  by_cases e : k ∈ R <;> simp [e]
set_option maxHeartbeats 4000000 in
set_option maxRecDepth 100000 in
theorem owners_any (w : World) (r m : Nat) (L : List Pt) (nm : Option Nat) (A : Option Addr) (c : Nat) (o : List UInt8) (n : Nat) (h : RingAt w r m L nm A c) (hso : L.Pairwise ptLe) (hl : L.length ≤ 10000) (ho : o.length ≤ 1000000) (hn : n ≤ 1000000) :
    Calls Tryd.prog 19 #[.pointer (some ⟨r, 0, none⟩), .string ⟨o.toArray⟩, .int .i64 (n : Int)] w (RetT (ownersL (min n m) (rotL L (firstK (hashN o) L))) w) := by
  have HR := Lib.hid h
  have HH := fun W => Lib.hid (hash_any o W ho)
  have HB := fun W s => Lib.hid (bsF_any W A c L (hashN o) s hso (by omega))
  have hf := firstK_le (hashN o) L
  have x0 := blk_cell (i := 0) h.blk rfl
  have x1 := blk_cell (i := 1) h.blk rfl
  have x2 := blk_cell (i := 2) h.blk rfl
  have xz := blk_lt h.blk
  obtain ⟨f, hfe⟩ : ∃ f, firstK (hashN o) L = f := ⟨_, rfl⟩
  rw [hfe] at HB hf ⊢
  clear h hso hfe
  go_enter Tryd.func19, Tryd.ntmps19
  go_wp2_with fail
  go_region_held3 (fun w' => w'.cell? ⟨r, 2, none⟩ = some (.slice A L.length c))
    (first | exact x2 | exact x2' | exact x2'' | fail)
    (first
      | (go_at_call 34; refine (HH _).out.mono ?_; rintro e w1 ⟨rfl, rfl⟩)
      | (go_at_call 33; refine (HB _ (by first | exact HR.out.sp | exact HR.out.sp.below (by (repeat (first | exact Below.refl _ _ | refine bel_drewN ?_ _ | refine bel_drew ?_ | refine bel_alloc ?_ _ | refine bel_set ?_ (by simp) _))))).out.mono ?_; rintro e w2 ⟨bq, rfl, hb2⟩; have x2'' := cell_keep hb2 (show World.cell? _ ⟨r, 2, none⟩ = _ from x2)))
  have HB2 : Hid (Below w.heap.size w w2) := bel_chain hb2 (by (repeat (first | exact Below.refl _ _ | refine bel_drewN ?_ _ | refine bel_drew ?_ | refine bel_alloc ?_ _ | refine bel_set ?_ (by simp) _)))
  have HR2 := Lib.hid (HR.out.below HB2.out)
  have y1 := blk_cell (i := 1) HR2.out.blk rfl
  have y2 := blk_cell (i := 2) HR2.out.blk rfl
  have yz := blk_lt HR2.out.blk
  clear hb2 x2'' x0 x1 x2 xz HH HB HR
  have hmm := @run_makeMap Tryd.prog
  go_wp2_with fail
  go_loopw [9, 11, 12, 29] (fun so _ _ si wr => ∃ (k : Nat) (A' : Option Addr) (c' : Nat), k ≤ L.length ∧ si = .int .i64 k ∧ so = .slice A' (ownersL (min n m) ((rotL L f).take k)).length c' ∧ OwnG 9 encT 1 wr w2.heap.size A' c' (ownersL (min n m) ((rotL L f).take k)) ∧ MapAt (fun l : List UInt8 => Value.string ⟨l.toArray⟩) Value.bool wr w2.heap.size (setM (ownersL (min n m) ((rotL L f).take k))) ∧ Below w2.heap.size w2 wr) (fun _ _ _ si _ => L.length - (intOf si).toNat)
  case atStart => exact ⟨0, none, 0, Nat.zero_le _, rfl, rfl, OwnG.nil _ _, MapAt.new _, bel_alloc (Below.refl _ _) _⟩
  case round =>
    obtain ⟨k, A', c', hk, rfl, rfl, hown, hmap, hb⟩ := hrel
    have hrl := rot_len hf
    have hml := ownersL_len (min n m) ((rotL L f).take k)
    have HDN := Lib.hid (fun h => ownersL_done (m := min n m) (k := k) (R := rotL L f) h)
    have HNX := Lib.hid (fun h => ownersL_step (m := min n m) (k := k) (R := rotL L f) h)
    have HTK : Hid (¬ k < L.length → ownersL (min n m) (rotL L f) = ownersL (min n m) ((rotL L f).take k)) := fun h => by rw [List.take_of_length_le (by omega)]
    obtain ⟨R, hR⟩ : ∃ R, ownersL (min n m) ((rotL L f).take k) = R := ⟨_, rfl⟩
    rw [hR] at hown hmap hml HDN HNX HTK ⊢
    have HO := Lib.hid hown
    have HM := Lib.hid hmap
    have HB := Lib.hid hb
    have HRr := Lib.hid (HR2.out.below hb)
    have z1 := blk_cell (i := 1) HRr.out.blk rfl
    have z2 := blk_cell (i := 2) HRr.out.blk rfl
    have zz := blk_lt HRr.out.blk
    clear hown hmap hb hR
    have hnl := nlen_run HRr.out.names 3
    by_cases hlt : k < L.length
    · by_cases hfull : min n m ≤ R.length
      · have hfull' : min (n : Int) (m : Int) ≤ (R.length : Int) := by omega
        have HD := Lib.hid (HDN.out hfull)
        go_wp2_with fail
        go_ret
        rw [HD.out]
        exact ⟨A', c', rfl, HO.out.spg (fun _ => rfl), bel_chain HB.out HB2.out⟩
      · have hfull' : ¬ min (n : Int) (m : Int) ≤ (R.length : Int) := by omega
        have hRl : R.length < 1000000 := by omega
        obtain ⟨q, hq⟩ : ∃ q, (f + k) % L.length = q := ⟨_, rfl⟩
        obtain ⟨hql, hxq⟩ := rot_at hf hlt hq
        have hx := HNX.out (by omega)
        rw [hxq] at hx
        obtain ⟨b, off, e, hbl, c1, c2⟩ := HRr.out.sp.at' q hql
        obtain ⟨⟨x1, x2⟩, hxx⟩ : ∃ x, L[q] = x := ⟨_, rfl⟩
        rw [hxx] at c1 c2 hx
        simp only at c1 c2
        have HX := Lib.hid hx
        have i2 : ((f : Int) + (k : Int)) % (L.length : Int) = (q : Int) := by exact_mod_cast hq
        have i1 : Int.tmod ((f : Int) + (k : Int)) (L.length : Int) = (q : Int) := by rw [Int.tmod_eq_emod_of_nonneg (by omega)]; exact i2
        have i0 : (0 : Int) ≤ (f : Int) + (k : Int) := by omega
        have i3 : (q : Int) < (L.length : Int) := by omega
        have i4 : ((L.length : Int) == 0) = false := by rw [beq_eq_false_iff_ne]; omega
        have i5 : ¬ (L.length : Int) = 0 := by omega
        have wfk : IntKind.i64.wrap ((f : Int) + (k : Int)) = (f : Int) + (k : Int) := IntWalk.i64_in _ (by omega)
        have hrem : Op.intDiv .rem .i64 ((f : Int) + (k : Int)) (L.length : Int) = pure (.int .i64 (q : Int)) := by unfold Op.intDiv; rw [if_neg i5]; simp [i1]
        have hLne : ¬ L = [] := fun h0 => by rw [h0] at hlt; simp at hlt
        subst e
        clear hx hxq hxx hq HDN HNX HTK
        go_wp2_with fail
        go_region_held3 (fun w' => w'.cell? ⟨r, 2, none⟩ = some (.slice (some ⟨b, off, none⟩) L.length c) ∧ w'.cell? ⟨b, off + q * 2, none⟩ = some (.int .u64 (x1 : Int)) ∧ w'.cell? ⟨b, off + q * 2 + 1, none⟩ = some (.string ⟨x2.toArray⟩))
          (first | exact ⟨z2, c1, c2⟩ | exact ⟨cell_keep (W := wr) (by (repeat (first | exact Below.refl _ _ | refine bel_drewN ?_ _ | refine bel_drew ?_ | refine bel_alloc ?_ _ | refine bel_set ?_ (by simp) _))) z2, cell_keep (W := wr) (by (repeat (first | exact Below.refl _ _ | refine bel_drewN ?_ _ | refine bel_drew ?_ | refine bel_alloc ?_ _ | refine bel_set ?_ (by simp) _))) c1, cell_keep (W := wr) (by (repeat (first | exact Below.refl _ _ | refine bel_drewN ?_ _ | refine bel_drew ?_ | refine bel_alloc ?_ _ | refine bel_set ?_ (by simp) _))) c2⟩ | fail)
          (fail)
        have HD1 : Hid (x2 ∈ R → ownersL (min n m) ((rotL L f).take (k + 1)) = R) := fun hin => by rw [HX.out]; unfold ownStep; rw [if_neg hfull, if_pos hin]
        have HD2 : Hid (x2 ∉ R → ownersL (min n m) ((rotL L f).take (k + 1)) = R ++ [x2]) := fun hin => by rw [HX.out]; unfold ownStep; rw [if_neg hfull, if_neg hin]
        clear z1 z2 zz c1 c2 hbl i1 i2 i3 i4 i5 i0 hrem wfk hLne hnl hfull hfull' y1 y2 yz HX HRr
        obtain ⟨W3, hW3⟩ : ∃ W3, (World.alloc wr (.cells #[.int .u64 (x1 : Int), .string ⟨x2.toArray⟩] 92)).drew = W3 := ⟨_, rfl⟩
        have hb3 : Below wr.heap.size wr W3 := by rw [← hW3]; (repeat (first | exact Below.refl _ _ | refine bel_drewN ?_ _ | refine bel_drew ?_ | refine bel_alloc ?_ _ | refine bel_set ?_ (by simp) _))
        have B3 : Hid (W3.heap[wr.heap.size]? = some (.cells #[.int .u64 (x1 : Int), .string ⟨x2.toArray⟩] 92 (0, 0))) := by simp only [Hid]; rw [← hW3]; exact blk_drew (blk_new rfl)
        have d1 : W3.cell? ⟨wr.heap.size, 1, none⟩ = some (.string ⟨x2.toArray⟩) := blk_cell B3.out rfl
        have dz : wr.heap.size < W3.heap.size := blk_lt B3.out
        have HM3 := Lib.hid (HM.out.below hb3)
        have HO3 := Lib.hid (HO.out.below hb3)
        have HB3 := Lib.hid (bel_chain hb3 HB.out)
        have HLT := Lib.hid (World.ownsRow.lt HO.out)
        rw [hW3]
        clear hW3 hb3 HM HO HB
        by_cases hin : x2 ∈ R
        · have hs := seen_run HM3.out x2 true (by simp [hin])
          have HD := Lib.hid (HD1.out hin)
          go_wp2_with fail
          go_roundw
          case rel => exact ⟨k + 1, A', c', by omega, by go_num, by rw [HD.out], by rw [HD.out]; exact HO3.out, by rw [HD.out]; exact HM3.out, HB3.out⟩
          case measure => simp [intOf]; omega
        · have hs := seen_run HM3.out x2 false (by simp [hin])
          have HD := Lib.hid (HD2.out hin)
          have HIN := Lib.hid hin
          clear hin
          go_wp2_with (at_builtin; go_must (refine wplG_append (w0 := w2) elemT rfl (.tmp 62) (.tmp 65) rfl A' c' R rfl (HO3.out.alloc _) (some ⟨W3.heap.size, 0, none⟩) 1 [x2] rfl (SpG.built (enc := encT) (n := 1) elemT.len W3 [x2] #[.string ⟨x2.toArray⟩] rfl 9) (by simp) (by simp; omega) (bel_alloc HB3.out _) ?_; intro A5 c5 w5 hown5 hbw5 hg5; have B5 : Hid (w5.heap[wr.heap.size]? = some (.cells #[.int .u64 (x1 : Int), .string ⟨x2.toArray⟩] 92 (0, 0))) := (hg5.block wr.heap.size (by simp; omega) (fun e => by have := (HLT.out _ e.symm).2; omega)).trans (blk_skip B3.out); have d5 : w5.cell? ⟨wr.heap.size, 1, none⟩ = some (.string ⟨x2.toArray⟩) := blk_cell B5.out rfl; obtain ⟨ob, hpr, hM6⟩ := put_run (P := Tryd.prog) keyText Tryd.underlying99 Tryd.underlying9 ((HM3.out.below (bel_alloc (Below.refl _ _) _)).grown (HO3.out.alloc _) hg5) x2 true; rw [putM_set HIN.out] at hM6))
          go_roundw
          case rel => exact ⟨k + 1, A5, c5, by omega, by go_num, by rw [HD.out, List.length_append]; rfl, by rw [HD.out]; exact hown5.withObj ((HM3.out.below (bel_alloc (Below.refl _ _) _)).grown (HO3.out.alloc _) hg5) _, by rw [HD.out]; exact hM6, bel_with hbw5 (Nat.le_refl _) _⟩
          case measure => simp [intOf]; omega
    · have HD := Lib.hid (HTK.out hlt)
      go_wp2_with fail
      go_ret
      rw [HD.out]
      exact ⟨A', c', rfl, HO.out.spg (fun _ => rfl), bel_chain HB.out HB2.out⟩
end Go.Proofs.YtnlamjebgkgbaaaDoor
namespace Go.Proofs.YtnlamjebgkgbaaaDoor

theorem digt_toNat {k : Nat} (h : k < 10) : (UInt8.ofNat (48 + k)).toNat = 48 + k := by
  rw [UInt8.toNat_ofNat_of_lt']
  simp [UInt8.size]; omega
theorem numFrom_append : ∀ (l m : List UInt8) (acc : Int), numFrom acc (l ++ m) = match numFrom acc l with | some x => numFrom x m | none => none
  | [], m, acc => rfl
  | c :: r, m, acc => by
    rw [List.cons_append, numFrom, numFrom]
    by_cases h : digB c = true
    · rw [if_pos h, if_pos h]; exact numFrom_append r m _
    · rw [if_neg h, if_neg h]
theorem numFrom_one {acc : Int} {k : Nat} (h : k < 10) : numFrom acc [UInt8.ofNat (48 + k)] = some (acc * 10 + k) := by
  have h1 := digt_toNat h
  have hd : digB (UInt8.ofNat (48 + k)) = true := by unfold digB; rw [h1]; simp; omega
  rw [numFrom, if_pos hd, numFrom, h1]
  congr 1; omega
theorem numFrom_dec (u : Nat) : numFrom 0 (Lib.decDigits u) = some (u : Int) := by
  induction u using Nat.strongRecOn with
  | ind u ih =>
    rw [Lib.decDigits]
    by_cases h : u < 10
    · rw [dif_pos h, numFrom_one h]; congr 1; omega
    · rw [dif_neg h, numFrom_append, ih (u / 10) (by omega)]
      simp only
      rw [numFrom_one (by omega)]
      congr 1; omega
theorem dec_length_le : ∀ (k u : Nat), u < 10 ^ (k + 1) → (Lib.decDigits u).length ≤ k + 1
  | 0, u, h => by rw [Lib.decDigits, dif_pos (by omega)]; simp
  | k + 1, u, h => by
    rw [Lib.decDigits]
    by_cases h0 : u < 10
    · rw [dif_pos h0]; simp
    · rw [dif_neg h0, List.length_append]
      have := dec_length_le k (u / 10) (by rw [Nat.pow_succ] at h; omega)
      simp; omega
theorem dec_pos (u : Nat) : 0 < (Lib.decDigits u).length := by
  rw [Lib.decDigits]
  by_cases h0 : u < 10
  · rw [dif_pos h0]; simp
  · rw [dif_neg h0]; simp
theorem dec_dig (u : Nat) : ∀ c ∈ Lib.decDigits u, 48 ≤ c.toNat ∧ c.toNat ≤ 57 := by
  induction u using Nat.strongRecOn with
  | ind u ih =>
    rw [Lib.decDigits]
    by_cases h : u < 10
    · rw [dif_pos h]
      intro c hc
      rw [List.mem_singleton] at hc
      rw [hc, digt_toNat h]; omega
    · rw [dif_neg h]
      intro c hc
      rcases List.mem_append.1 hc with hc | hc
      · exact ih (u / 10) (by omega) c hc
      · rw [List.mem_singleton] at hc
        rw [hc, digt_toNat (show u % 10 < 10 by omega)]; omega
/-- A number's digits. -/
def digN (n : Int) : List UInt8 := Lib.decDigits n.toNat
theorem digN_len {n : Int} (h1 : n ≤ 999999999999999999) : 0 < (digN n).length ∧ (digN n).length ≤ 18 :=
  ⟨dec_pos _, dec_length_le 17 _ (by have : (10 : Nat) ^ (17 + 1) = 1000000000000000000 := by decide
                                     omega)⟩
theorem digN_len' {n : Int} (h1 : n ≤ 9223372036854775807) : (digN n).length ≤ 19 :=
  dec_length_le 18 _ (by have : (10 : Nat) ^ (18 + 1) = 10000000000000000000 := by decide
                         omega)
theorem numL_dig {n : Int} (h0 : 0 ≤ n) (h1 : n ≤ 999999999999999999) : numL (digN n) = some n := by
  have := digN_len h1
  unfold numL
  rw [if_neg (by omega)]
  unfold digN
  rw [numFrom_dec]; congr 1; omega
/-- A range's text. -/
def textR (x : Int × Int) : List UInt8 := (if 0 ≤ x.1 then digN x.1 else []) ++ 45 :: (if 0 ≤ x.2 then digN x.2 else [])
def textQ (L : List (Int × Int)) : List UInt8 := [98, 121, 116, 101, 115, 61] ++ joinT textR L
theorem textR_byte {x : Int × Int} {c : UInt8} (h : c ∈ textR x) : c.toNat = 45 ∨ (48 ≤ c.toNat ∧ c.toNat ≤ 57) := by
  unfold textR at h
  rcases List.mem_append.1 h with h | h
  · split at h
    · exact .inr (dec_dig _ c h)
    · cases h
  · rcases List.mem_cons.1 h with h | h
    · left; rw [h]; rfl
    · split at h
      · exact .inr (dec_dig _ c h)
      · cases h
theorem textR_len {x : Int × Int} (hr : rightR x = true) : 0 < (textR x).length ∧ (textR x).length ≤ 37 := by
  rw [rightR_iff] at hr
  have h1 := digN_len hr.1
  have h2 := digN_len hr.2.1
  unfold textR
  rw [List.length_append, List.length_cons]
  constructor
  · omega
  · by_cases h3 : 0 ≤ x.1 <;> by_cases h4 : 0 ≤ x.2 <;> simp only [if_pos, if_neg, h3, h4, not_false_eq_true, List.length_nil] <;> omega
theorem u8_ne {c : UInt8} {k : Nat} (h : c.toNat = k → False) (hk : k < 256) : c ≠ UInt8.ofNat k := by
  intro e
  apply h
  rw [e, UInt8.toNat_ofNat_of_lt' (show k < UInt8.size from hk)]
theorem dropWhile_not {α : Type} {p : α → Bool} : ∀ {l : List α}, (∀ c ∈ l, p c = false) → l.dropWhile p = l
  | [], _ => rfl
  | c :: r, h => by simp [List.dropWhile, h c (List.mem_cons_self ..)]
theorem trim_same {l : List UInt8} (h : ∀ c ∈ l, blankB c = false) : trimL l = l := by
  unfold trimL
  rw [dropWhile_not (l := l.reverse) (fun c hc => h c (List.mem_reverse.1 hc)), List.reverse_reverse, dropWhile_not h]
theorem textR_trim (x : Int × Int) : trimL (textR x) = textR x := trim_same fun c hc => by
  have h := textR_byte hc
  have h1 : c ≠ 32 := u8_ne (k := 32) (by omega) (by omega)
  have h2 : c ≠ 9 := u8_ne (k := 9) (by omega) (by omega)
  simp [blankB, h1, h2]
theorem dig_no {n : Int} : ∀ c ∈ digN n, c ≠ 45 := fun c hc => by
  have h := dec_dig _ c hc
  exact u8_ne (k := 45) (by omega) (by omega)
theorem textR_item {x : Int × Int} (hr : rightR x = true) : itemL (textR x) = some x := by
  rw [rightR_iff] at hr
  obtain ⟨x1, x2⟩ := x
  simp only at hr
  obtain ⟨h1, h2, h3⟩ := hr
  unfold itemL textR
  by_cases hf : 0 ≤ x1
  · by_cases ht : 0 ≤ x2
    · have hle : x1 ≤ x2 := by omega
      have l1 := (digN_len h1).1
      have l2 := (digN_len h2).1
      have n1 := numL_dig hf h1
      have n2 := numL_dig ht h2
      rw [if_pos hf, if_pos ht, cutD_some dig_no]
      obtain ⟨c, a, e1⟩ : ∃ c a, digN x1 = c :: a := List.exists_cons_of_length_pos l1
      obtain ⟨d, b, e2⟩ : ∃ c a, digN x2 = c :: a := List.exists_cons_of_length_pos l2
      rw [e1] at n1 ⊢
      rw [e2] at n2 ⊢
      simp only [n1, n2, if_pos hle]
    · have e : x2 = -1 := by omega
      have l1 := (digN_len h1).1
      have n1 := numL_dig hf h1
      rw [if_pos hf, if_neg ht, cutD_some dig_no]
      obtain ⟨c, a, e1⟩ : ∃ c a, digN x1 = c :: a := List.exists_cons_of_length_pos l1
      rw [e1] at n1 ⊢
      simp only [n1, Option.map_some, e]
  · have e : x1 = -1 := by omega
    have ht : 0 ≤ x2 := by omega
    have n2 := numL_dig ht h2
    rw [if_neg hf, if_pos ht, cutD_some (by intro c hc; cases hc)]
    simp only [n2, Option.map_some, e]
theorem split_join : ∀ (x : Int × Int) (L : List (Int × Int)), splitC (textR x ++ L.flatMap fun y => 44 :: textR y) = (x :: L).map textR
  | x, [] => by
    simp only [List.flatMap_nil, List.append_nil, List.map_cons, List.map_nil]
    refine splitC_none fun c hc => ?_
    have h := textR_byte hc
    exact u8_ne (k := 44) (by omega) (by omega)
  | x, y :: L => by
    rw [List.flatMap_cons, List.cons_append, splitC_some fun c hc => ?_]
    · rw [split_join y L]; rfl
    · have h := textR_byte hc
      exact u8_ne (k := 44) (by omega) (by omega)
theorem ranges_text : ∀ {L : List (Int × Int)}, allR L = true → rangesL (L.map textR) = some L
  | [], _ => rfl
  | x :: L, h => by
    have h1 : rightR x = true := List.all_eq_true.1 h x (List.mem_cons_self ..)
    have h2 : allR L = true := List.all_eq_true.2 fun y hy => List.all_eq_true.1 h y (List.mem_cons_of_mem _ hy)
    rw [List.map_cons, rangesL, textR_item h1, ranges_text h2]
theorem items_text {L : List (Int × Int)} (hL : allR L = true) : itemsL (L.map textR) = L.map textR := by
  unfold itemsL
  rw [List.map_map]
  have e : (trimL ∘ textR) = textR := funext textR_trim
  rw [e, List.filter_eq_self]
  intro p hp
  obtain ⟨x, hx, rfl⟩ := List.mem_map.1 hp
  have := (textR_len (List.all_eq_true.1 hL x hx)).1
  cases h : textR x with
  | nil => rw [h] at this; simp at this
  | cons c r => rfl
/-- The text of right ranges is parsed as they were. -/
theorem parse_text {L : List (Int × Int)} (hL : allR L = true) (h0 : 0 < L.length) (h1 : L.length ≤ 64) : parseL (textQ L) = (L, 0) := by
  obtain ⟨x, r, rfl⟩ : ∃ x r, L = x :: r := List.exists_cons_of_length_pos h0
  have hh : headB (textQ (x :: r)) = true := by
    unfold headB textQ
    simp [lowB]
  have hd : (textQ (x :: r)).drop 6 = textR x ++ r.flatMap fun y => 44 :: textR y := rfl
  unfold parseL
  rw [if_pos hh, hd, split_join, items_text hL, ranges_text hL]
  simp only
  rw [if_neg (by omega)]
theorem textQ_len {L : List (Int × Int)} (hL : allR L = true) : (textQ L).length ≤ 6 + 101 * L.length := by
  unfold textQ
  rw [List.length_append]
  have := joinT_length textR L (fun x hx => by have := (textR_len (List.all_eq_true.1 hL x hx)).2; omega)
  simp; omega
end Go.Proofs.YtnlamjebgkgbaaaDoor
namespace Go.Proofs.YtnlamjebgkgbaaaDoor
open Go.RowKit Go.Shelf Go.Sort

theorem catRun {a b : List UInt8} (h : a.length + b.length ≤ 1000000) : ∀ W, (Op.stringOp .add ⟨a.toArray⟩ ⟨b.toArray⟩).run Tryd.prog W = .ok (.string ⟨(a ++ b).toArray⟩) W := fun W => by
  have h1 : (⟨a.toArray⟩ : ByteArray).size = a.length := List.size_toArray ..
  have h2 : (⟨b.toArray⟩ : ByteArray).size = b.length := List.size_toArray ..
  rw [run_string_add_sum W _ _ (by omega)]
  congr 2
theorem dec_len2 {i : Nat} (h : i < 100) : (Lib.decDigits i).length ≤ 2 := dec_length_le 1 i (by simpa using h)
theorem itoa_any (i : Nat) (hi : i < 100) (w : World) : Calls Tryd.prog 43 #[.int .i64 i] w fun e w' => e = .returned (.string ⟨(Lib.decDigits i).toArray⟩) ∧ w' = w := by
  have HF := fun W => Lib.hid (Tryd.internal_strconv_FormatInt_10_small i hi W)
  have HI : ∀ W, Hid (Calls Tryd.prog 55 #[.int .i64 i] W fun e w' => e = .returned (.string ⟨(Lib.decDigits i).toArray⟩) ∧ w' = W) := by
    intro W
    simp only [Hid]
    generalize Lib.decDigits i = l at HF ⊢
    go_enter Tryd.func55, Tryd.ntmps55
    go_wp2_with (go_at_call 62; refine (HF _).out.mono ?_; rintro e w' ⟨rfl, rfl⟩)
    go_ret
    exact ⟨rfl, rfl⟩
  generalize Lib.decDigits i = l at HI ⊢
  go_enter Tryd.func43, Tryd.ntmps43
  go_wp2_with (go_at_call 55; refine (HI _).out.mono ?_; rintro e w' ⟨rfl, rfl⟩)
  go_ret
  exact ⟨rfl, rfl⟩
/-- A parent's name. -/
def nmL (p : Nat) : List UInt8 := 112 :: Lib.decDigits p
theorem name_any (p : Nat) (hp : p < 100) (w : World) : Calls Tryd.prog 32 #[.int .i64 p] w fun e w' => e = .returned (.string ⟨(nmL p).toArray⟩) ∧ w' = w := by
  have HI := fun W => Lib.hid (itoa_any p hp W)
  have hl := dec_len2 hp
  have hA := catRun (a := [112]) (b := Lib.decDigits p) (by simp; omega)
  unfold nmL
  generalize Lib.decDigits p = l at HI hA ⊢
  go_enter Tryd.func32, Tryd.ntmps32
  go_wp2_with (go_at_call 43; refine (HI _).out.mono ?_; rintro e w' ⟨rfl, rfl⟩)
  go_ret
  exact ⟨rfl, rfl⟩
/-- A text that may be a name. -/
def NameOk (l : List UInt8) : Prop := 0 < l.length ∧ l.length ≤ 100 ∧ ∀ c ∈ l, 33 ≤ c.toNat ∧ c.toNat ≤ 126
theorem nmL_ok {p : Nat} (hp : p < 100) : NameOk (nmL p) := by
  have hl := dec_len2 hp
  refine ⟨by unfold nmL; simp, by unfold nmL; simp; omega, fun c hc => ?_⟩
  unfold nmL at hc
  rcases List.mem_cons.1 hc with rfl | hc
  · decide
  · have := dec_dig p c hc; omega
theorem rname_any (l : List UInt8) (h : NameOk l) (w : World) : Calls Tryd.prog 42 #[.string ⟨l.toArray⟩] w fun e w' => e = .returned (.bool true) ∧ w' = w := by
  have hsz : (⟨l.toArray⟩ : ByteArray).size = l.length := List.size_toArray ..
  obtain ⟨h1, h2, h3⟩ := h
  have H3 := Lib.hid h3
  clear h3
  have i1 : ¬ (l.length : Int) < 1 := by omega
  have i2 : ¬ (100 : Int) < (l.length : Int) := by omega
  go_enter Tryd.func42, Tryd.ntmps42
  go_wp2_with fail
  go_loopw [3, 14] (fun _ i wr => wr = w ∧ ∃ k : Nat, k ≤ l.length ∧ i = .int .i64 k) (fun _ i _ => l.length - (intOf i).toNat)
  case atStart => exact ⟨rfl, 0, Nat.zero_le _, rfl⟩
  case round =>
    obtain ⟨rfl, k, hk, rfl⟩ := hrel
    by_cases hlt : k < l.length
    · obtain ⟨c, hc⟩ : ∃ c, (⟨l.toArray⟩ : ByteArray)[k]'(by rw [hsz]; exact hlt) = c := ⟨_, rfl⟩
      have hcl : l[k] = c := hc
      have h4 := H3.out l[k] (List.getElem_mem hlt)
      rw [hcl] at h4
      have j1 : ¬ (c.toNat : Int) < 33 := by omega
      have j2 : ¬ (126 : Int) < (c.toNat : Int) := by omega
      go_wp2_with fail
      go_roundw
      case rel => exact ⟨by first | trivial | rfl, k + 1, by omega, by go_num⟩
      case measure => simp [intOf]; omega
    · go_wp2_with fail
      go_ret
      exact ⟨rfl, rfl⟩
end Go.Proofs.YtnlamjebgkgbaaaDoor
namespace Go.Proofs.YtnlamjebgkgbaaaDoor
open Go.RowKit Go.Shelf Go.Sort

theorem grown_setA (W : World) (p : Addr) (v : Value) : W.grownBy (W.setCell p v) (some p.block) := by
  have h := Below.setCell (Below.refl 0 W) (p := p) (Nat.zero_le _) v
  exact ⟨h.os, h.tape, h.output, h.size, fun k _ hne => Below.heap_setCell W p v k (by intro e; exact hne (by rw [e]))⟩
section
variable {α β γ : Type} {enc : α → Value} {vf : β → Value} {w w' : World} {b r i base c n : Nat} {M : List (α × β)} {T T' : TypeId} {en : γ → List Value} {A : Option Addr} {L : List γ} {cs : Array Value} {f : Nat × Nat}
/-- A row's block is of its own type. -/
theorem OwnG.ne_type (h : OwnG T en n w base A c L) (hr : w.heap[r]? = some (.cells cs T' f)) (hT : T ≠ T') : (Value.slice A L.length c).ownBlock ≠ some r := by
  intro e
  rcases h.2 with ⟨hv, _⟩ | ⟨g, cap, cur, hv, _, hg, _⟩
  · rw [hv] at e; simp [Value.ownBlock] at e
  · rw [hv] at e
    simp [Value.ownBlock] at e
    subst e
    rw [hg] at hr
    injection hr with hr
    injection hr with h1 h2 h3
    exact hT h2
theorem OwnG.setAt (h : OwnG T en n w base A c L) (hr : w.heap[r]? = some (.cells cs T' f)) (hT : T ≠ T') (v : Value) : OwnG T en n (w.setCell ⟨r, i, none⟩ v) base A c L :=
  World.ownsRow.kept h (grown_setA w ⟨r, i, none⟩ v) (.inr (h.ne_type hr hT))
theorem blk_grown {o : Obj} (hr : w.heap[r]? = some o) (hg : w.grownBy w' (Value.slice A L.length c).ownBlock) (hne : (Value.slice A L.length c).ownBlock ≠ some r) : w'.heap[r]? = some o :=
  (hg.block r (blk_lt hr) (fun e => hne e.symm)).trans hr
theorem MapAt.setAt (h : MapAt enc vf w b M) (hr : w.heap[r]? = some (.cells cs T' f)) (v : Value) : MapAt enc vf (w.setCell ⟨r, i, none⟩ v) b M := by
  obtain ⟨es, ck, h1, h2⟩ := h.at_
  exact ⟨es, ck, (Below.heap_setCell w _ v b (fun e => (h.ne_cells hr) e.symm)).trans h1, h2⟩
theorem blk_with {o o' : Obj} (hr : w.heap[r]? = some o') (hm : r ≠ b) : (withObj w b o).heap[r]? = some o' := (withObj_ne w o hm).trans hr
end
theorem Tryd.ptInfo : (Tryd.prog.info? 92).map (fun i => (i.zero, i.size, i.bytes)) = some (some (.agg #[.int .u64 0, .string ⟨#[]⟩]), 2, 24) := by kernel_rfl
set_option maxRecDepth 100000 in
theorem elemP : ElemK Tryd.prog encP 2 92 89 24 where
  und := Tryd.underlying89
  info := by
    obtain ⟨i0, hi, hz0, hz1, hz2⟩ := info_parts Tryd.ptInfo
    exact ⟨i0, _, hi, hz0, hz1, hz2, rfl⟩
  pos := by decide
  small := by decide
  len _ := rfl
  one _ v hv := by simp [encP] at hv; rcases hv with rfl | rfl <;> rfl
theorem OwnPt.g {w : World} {base c : Nat} {A : Option Addr} {L : List Pt} (h : OwnPt w base A c L) : OwnG 92 encP 2 w base A c L := h
theorem OwnG.pt {w : World} {base c : Nat} {A : Option Addr} {L : List Pt} (h : OwnG 92 encP 2 w base A c L) : OwnPt w base A c L := h
/-- A name's points. -/
def ptsOf (name : List UInt8) : List Pt := (List.range 16).map fun i => (hashN (Lib.decDigits i ++ 35 :: name), name)
theorem ptsOf_len (name : List UInt8) : (ptsOf name).length = 16 := by simp [ptsOf]
theorem ptsOf_step {name : List UInt8} {k : Nat} (h : k < 16) : (ptsOf name).take (k + 1) = (ptsOf name).take k ++ [(hashN (Lib.decDigits k ++ 35 :: name), name)] := by
  rw [List.take_succ_eq_append_getElem (by rw [ptsOf_len]; exact h)]
  simp [ptsOf]
abbrev txE : List UInt8 → Value := fun l => Value.string ⟨l.toArray⟩
abbrev inE : Int → Value := fun n => Value.int .i64 n
/-- A ring of the call's own. -/
structure RingOwn (w : World) (base r : Nat) (M : List (List UInt8 × Int)) (L : List Pt) (nm : Option Nat) (A : Option Addr) (c : Nat) : Prop where
  blk : w.heap[r]? = some (.cells #[.int .i64 16, .map nm, .slice A L.length c] 95 (0, 0))
  own : OwnG 92 encP 2 w base A c L
  names : (nm = none ∧ M = []) ∨ ∃ b, nm = some b ∧ base ≤ b ∧ MapAt txE inE w b M
def AddPost (w0 : World) (r : Nat) (M : List (List UInt8 × Int)) (L : List Pt) (name : List UInt8) (e : Ending) (w' : World) : Prop :=
  e = .returned (.int .i64 0) ∧ ∃ nm A c L', RingOwn w' w0.heap.size r (putM M name 16) L' nm A c ∧ L'.Perm (L ++ ptsOf name) ∧ L'.Pairwise ptLe ∧ Below w0.heap.size w0 w'
set_option maxHeartbeats 4000000 in
set_option maxRecDepth 100000 in
theorem add_any {w0 w : World} {r : Nat} {M : List (List UInt8 × Int)} {L : List Pt} {nm : Option Nat} {A : Option Addr} {c : Nat} (hR : RingOwn w w0.heap.size r M L nm A c) (hr : w0.heap.size ≤ r) (hb : Below w0.heap.size w0 w) (name : List UInt8) (hn : NameOk name) (hno : name ∉ keysM M) (hM : M.length < 64) (hl : L.length ≤ 5000) :
    Calls Tryd.prog 31 #[.pointer (some ⟨r, 0, none⟩), .string ⟨name.toArray⟩, .int .i64 1] w (AddPost w0 r M L name) := by
  have HN := fun W => Lib.hid (rname_any name hn W)
  have hlook : (Instr.lookup 93 (.map nm) (.string ⟨name.toArray⟩) true).run Tryd.prog w = .ok (.tuple #[.int .i64 0, .bool false]) w := by
    rcases hR.names with ⟨rfl, _⟩ | ⟨b, rfl, _, hm⟩
    · exact look_nil (P := Tryd.prog) keyText Tryd.underlying93 Tryd.underlying9 (z := .int .i64 0) (fun w => by simp [Tryd.zeroValue3]) name true
    · have := look_run (P := Tryd.prog) keyText Tryd.underlying93 Tryd.underlying9 (z := .int .i64 0) (fun w => by simp [Tryd.zeroValue3]) hm name true
      rw [lookM_none.2 hno] at this
      exact this
  have hnl : ∀ ty, (Builtin.len_ #[93] ty #[.map nm]).run Tryd.prog w = .ok (.int .i64 M.length) w := fun ty => nlen_run (by
    rcases hR.names with ⟨h1, h2⟩ | ⟨b, h1, _, hm⟩
    · exact .inl ⟨h1, by rw [h2]; rfl⟩
    · exact .inr ⟨b, h1, M, hm, rfl⟩) ty
  have heq : ∀ W, (binOp .eql 93 (.map nm) (.map none)).run Tryd.prog W = .ok (.bool nm.isNone) W := fun W => by
    simp only [binOp]
    simp [run_equal_map_nil W 93 _ _ nm Tryd.underlying93]
  have hne : ((M.length : Int) == 64) = false := by rw [beq_eq_false_iff_ne]; omega
  have HR := Lib.hid hR
  have HB := Lib.hid hb
  have x0 := blk_cell (i := 0) hR.blk rfl
  have x1 := blk_cell (i := 1) hR.blk rfl
  have xf1 := blk_frozen (i := 1) hR.blk
  have xz := blk_lt hR.blk
  clear hR hb
  go_enter Tryd.func31, Tryd.ntmps31
  go_upto_if 42 with (go_at_call 42; refine (HN _).out.mono ?_; rintro e w1 ⟨rfl, rfl⟩)
  obtain ⟨W, hW⟩ : ∃ W, w1 = W := ⟨_, rfl⟩
  subst hW
  go_cut [] (fun wx => ∃ b, wx.heap[r]? = some (.cells #[.int .i64 16, .map (some b), .slice A L.length c] 95 (0, 0)) ∧ OwnG 92 encP 2 wx w0.heap.size A c L ∧ w0.heap.size ≤ b ∧ MapAt txE inE wx b M ∧ Below w0.heap.size w0 wx)
  case first =>
    rcases HR.out.names with ⟨rfl, rfl⟩ | ⟨b, rfl, hbb, hm⟩
    · have hmm := @run_makeMap Tryd.prog
      go_wp2_with fail
      go_meet
      have hs : (World.setCell w1 ⟨r, 1, none⟩ (.map (some w1.heap.size))).heap.size = w1.heap.size := by simp [World.setCell]
      have hm := MapAt.new (enc := txE) (vf := inE) (World.setCell w1 ⟨r, 1, none⟩ (.map (some w1.heap.size)))
      rw [hs] at hm
      exact ⟨w1.heap.size, blk_skip (blk_set HR.out.blk), (HR.out.own.setAt HR.out.blk (by decide) _).alloc _, HB.out.size, hm, bel_alloc (bel_set HB.out hr _) _⟩
    · go_wp2_with fail
      go_meet
      exact ⟨b, HR.out.blk, HR.out.own, hbb, hm, HB.out⟩
  case rest =>
    obtain ⟨b, h1, h2, h3, h4, h5⟩ := hcut
    clear HB HR x0 x1 xf1 xz hlook hnl heq hne HN
    have H1 := Lib.hid h1
    have y0 := blk_cell (i := 0) h1 rfl
    have y1 := blk_cell (i := 1) h1 rfl
    obtain ⟨ob, hpr, hM6⟩ := put_run (P := Tryd.prog) keyText Tryd.underlying93 Tryd.underlying9 h4 name 16
    have hrb : r ≠ b := h4.ne_cells h1
    have B6 := Lib.hid (blk_with (o := ob) h1 hrb)
    have HO6 := Lib.hid (h2.withObj h4 ob)
    have HM6 := Lib.hid hM6
    have HB6 := Lib.hid (bel_with h5 h3 ob)
    clear h1 h2 h4 h5 hM6
    have hnl2 := hn.2.1
    go_wp2_with fail
    obtain ⟨W6, hW6⟩ : ∃ W6, withObj wc b ob = W6 := ⟨_, rfl⟩
    rw [hW6] at B6 HO6 HM6 HB6 ⊢
    clear hW6 hpr H1 y0 y1
    go_loopw [10, 60] (fun _ si wr => ∃ (k : Nat) (A' : Option Addr) (c' : Nat), k ≤ 16 ∧ si = .int .i64 k ∧ wr.heap[r]? = some (.cells #[.int .i64 16, .map (some b), .slice A' (L ++ (ptsOf name).take k).length c'] 95 (0, 0)) ∧ OwnG 92 encP 2 wr w0.heap.size A' c' (L ++ (ptsOf name).take k) ∧ MapAt txE inE wr b (putM M name 16) ∧ Below w0.heap.size w0 wr) (fun _ si _ => 16 - (intOf si).toNat)
    case atStart => exact ⟨0, A, c, by omega, rfl, by rw [List.take_zero, List.append_nil]; exact B6.out, by rw [List.take_zero, List.append_nil]; exact HO6.out, HM6.out, HB6.out⟩
    case round =>
      clear B6 HO6 HM6 HB6
      obtain ⟨k, A', c', hk, rfl, hblk, hown, hmap, hbw⟩ := hrel
      by_cases hlt : k < 16
      · have HST : Hid (L ++ (ptsOf name).take (k + 1) = (L ++ (ptsOf name).take k) ++ [(hashN (Lib.decDigits k ++ 35 :: name), name)]) := by simp only [Hid]; rw [ptsOf_step hlt, List.append_assoc]
        have hRl : (L ++ (ptsOf name).take k).length ≤ 5016 := by rw [List.length_append, List.length_take]; omega
        obtain ⟨R, hRe⟩ : ∃ R, L ++ (ptsOf name).take k = R := ⟨_, rfl⟩
        rw [hRe] at hblk hown HST hRl
        have hk' : (k : Int) < 16 := by omega
        have HI := fun W => Lib.hid (itoa_any k (by omega) W)
        have hdl := dec_len2 (i := k) (by omega)
        have hc1 := catRun (a := Lib.decDigits k) (b := [35]) (by simp; omega)
        have hc2 := catRun (a := Lib.decDigits k ++ [35]) (b := name) (by simp; omega)
        rw [List.append_assoc, List.singleton_append] at hc2
        have HH := fun W => Lib.hid (hash_any (Lib.decDigits k ++ 35 :: name) W (by simp; omega))
        obtain ⟨hv, hhv⟩ : ∃ hv, hashN (Lib.decDigits k ++ 35 :: name) = hv := ⟨_, rfl⟩
        rw [hhv] at HH HST
        generalize Lib.decDigits k ++ 35 :: name = tx at hc2 HH
        generalize Lib.decDigits k ++ [35] = ty at hc1 hc2
        generalize Lib.decDigits k = dg at HI hc1
        have B3 := Lib.hid hblk
        have HO := Lib.hid hown
        have HM := Lib.hid hmap
        have HBW := Lib.hid hbw
        have HNT := Lib.hid (hown.ne_type hblk (by decide))
        have z2 := blk_cell (i := 2) hblk rfl
        have zf2 := blk_frozen (i := 2) hblk
        have zz := blk_lt hblk
        clear hblk hown hmap hbw hdl hhv
        go_wp2_with fail
        go_region_law ((first
          | (go_simp; go_at_call 43; refine (HI _).out.mono ?_; rintro e w1 ⟨rfl, rfl⟩; (try dsimp only))
          | (go_simp; go_at_call 34; refine (HH _).out.mono ?_; rintro e w1 ⟨rfl, rfl⟩; (try dsimp only))
          | (refine stepG_append (w0 := w0) elemP rfl (.tmp 67) (.tmp 76) rfl A' c' R (by exact rfl) (by exact (HO.out.alloc _).drew) (some ⟨_, 0, none⟩) 1 [(hv, name)] (by exact rfl) (by exact (SpG.built (enc := encP) (n := 2) elemP.len _ [(hv, name)] #[.int .u64 (hv : Int), .string ⟨name.toArray⟩] rfl 92).drew) (Nat.zero_lt_one) (Nat.le_trans (Nat.add_le_add_right hRl 1) (by decide)) (by exact bel_drew (bel_alloc HBW.out _)) ?_
             intro A5 c5 w5 hown5 hbw5 hg5
             have B5 := Lib.hid (blk_grown (blk_drew (blk_skip B3.out)) hg5 HNT.out)
             have z5 := blk_cell (i := 2) B5.out rfl
             have zf5 := blk_frozen (i := 2) B5.out
             have zz5 := blk_lt B5.out
             have HM5 := Lib.hid ((HM.out.below (bel_drew (bel_alloc (Below.refl _ _) _))).grown ((HO.out.alloc _).drew) hg5))))
        all_goals
          go_wp2_with fail
          go_roundw
          case rel => exact ⟨k + 1, A5, c5, by omega, by go_num, by rw [HST.out, List.length_append]; exact blk_set B5.out, by rw [HST.out]; exact hown5.setAt B5.out (by decide) _, HM5.out.setAt B5.out _, bel_set hbw5 hr _⟩
          case measure => simp [intOf]; omega
      · have hk16 : k = 16 := by omega
        subst hk16
        have h16 : (ptsOf name).take 16 = ptsOf name := List.take_of_length_le (by rw [ptsOf_len]; omega)
        rw [h16] at hblk hown
        have hRl : (L ++ ptsOf name).length = L.length + 16 := by rw [List.length_append, ptsOf_len]
        obtain ⟨R, hRe⟩ : ∃ R, L ++ ptsOf name = R := ⟨_, rfl⟩
        have HPE := Lib.hid hRe
        rw [hRe] at hblk hown hRl
        have z2 := blk_cell (i := 2) hblk rfl
        have B3 := Lib.hid hblk
        have HM := Lib.hid hmap
        have HBW := Lib.hid hbw
        have HO := Lib.hid hown
        have HNT := Lib.hid (hown.ne_type hblk (by decide))
        have HS := Lib.hid (sortPt_any (w0 := w0) hown.pt (by omega) (by omega))
        clear hblk hown hmap hbw hRe h16 hRl
        go_wp2_with (go_at_call 44; refine HS.out.mono ?_; rintro e w5 ⟨rfl, R', hp, hs, ho5, hg5⟩)
        go_ret
        have hlt' := World.ownsRow.lt HO.out
        exact ⟨rfl, some b, A', c', R', ⟨by rw [hp.length_eq]; exact blk_grown B3.out hg5 HNT.out, ho5.g, .inr ⟨b, rfl, h3, HM.out.grown HO.out hg5⟩⟩, by rw [HPE.out]; exact hp, hs, HBW.out.grown hg5 HBW.out.size (fun k hk => (hlt' k hk).1)⟩
end Go.Proofs.YtnlamjebgkgbaaaDoor
namespace Go.Proofs.YtnlamjebgkgbaaaDoor
open Go.RowKit Go.Shelf Go.Sort

theorem dec_inj {a b : Nat} (h : Lib.decDigits a = Lib.decDigits b) : a = b := by
  have h1 := numFrom_dec a
  have h2 := numFrom_dec b
  rw [h, h2] at h1
  injection h1 with h1
  omega
theorem nmL_inj {a b : Nat} (h : nmL a = nmL b) : a = b := by
  unfold nmL at h
  injection h with _ h
  exact dec_inj h
/-- The names of parents, from one on. -/
def namesL (f k : Nat) : List (List UInt8) := (List.range k).map fun i => nmL (f + i)
theorem namesL_succ (f k : Nat) : namesL f (k + 1) = namesL f k ++ [nmL (f + k)] := by unfold namesL; rw [List.range_succ, List.map_append]; rfl
theorem namesL_len (f k : Nat) : (namesL f k).length = k := by simp [namesL]
theorem namesL_new (f k : Nat) : nmL (f + k) ∉ namesL f k := by
  intro h
  obtain ⟨i, hi, e⟩ := List.mem_map.1 h
  have := nmL_inj e
  have := List.mem_range.1 hi
  omega
/-- All their points. -/
def allPts (f k : Nat) : List Pt := (namesL f k).flatMap ptsOf
theorem allPts_succ (f k : Nat) : allPts f (k + 1) = allPts f k ++ ptsOf (nmL (f + k)) := by unfold allPts; rw [namesL_succ, List.flatMap_append]; simp
theorem putM_new {α β : Type} [DecidableEq α] {M : List (α × β)} {k : α} {v : β} (h : k ∉ keysM M) : keysM (putM M k v) = keysM M ++ [k] ∧ (putM M k v).length = M.length + 1 := by
  induction M with
  | nil => simp [putM, keysM]
  | cons x r ih =>
    simp only [keysM, List.map_cons, List.mem_cons, not_or] at h
    have := ih h.2
    rw [putM, if_neg (fun e => h.1 e.symm)]
    simp only [keysM, List.map_cons, List.length_cons] at this ⊢
    exact ⟨by rw [this.1]; rfl, by rw [this.2]⟩
theorem allPts_len (f : Nat) : ∀ k, (allPts f k).length = 16 * k
  | 0 => rfl
  | k + 1 => by rw [allPts_succ, List.length_append, allPts_len f k, ptsOf_len]; omega
theorem RingOwn.below {w w' : World} {base r : Nat} {M : List (List UInt8 × Int)} {L : List Pt} {nm : Option Nat} {A : Option Addr} {c : Nat} (h : RingOwn w base r M L nm A c) (hb : Below w.heap.size w w') : RingOwn w' base r M L nm A c :=
  ⟨blk_keep hb h.blk, h.own.below hb, h.names.imp id fun ⟨b, h1, h2, h3⟩ => ⟨b, h1, h2, h3.below hb⟩⟩
theorem RingOwn.at_ {w : World} {base r : Nat} {M : List (List UInt8 × Int)} {L : List Pt} {nm : Option Nat} {A : Option Addr} {c : Nat} (h : RingOwn w base r M L nm A c) : RingAt w r M.length L nm A c :=
  ⟨h.blk, h.own.pt.spf, h.names.elim (fun ⟨h1, h2⟩ => .inl ⟨h1, by rw [h2]; rfl⟩) fun ⟨b, h1, _, h3⟩ => .inr ⟨b, h1, M, h3, rfl⟩⟩
/-- A tier as it is read. -/
structure TierAt (w : World) (base t : Nat) (n ch : Nat) (r d : Nat) (L : List Pt) (m : Nat) (nm : Option Nat) (A : Option Addr) (c : Nat) (D : List (Int × Bool)) : Prop where
  blk : w.heap[t]? = some (.cells #[.int .i64 n, .int .i64 ch, .pointer (some ⟨r, 0, none⟩), .map (some d)] 67 (0, 0))
  ring : RingAt w r m L nm A c
  down : MapAt inE Value.bool w d D
  bd : base ≤ d
  nd : nm ≠ some d
theorem ringNew_any (w : World) : Calls Tryd.prog 30 #[.int .i64 16] w fun e w' => e = .returned (.tuple #[.pointer (some ⟨w.heap.size, 0, none⟩), .int .i64 0]) ∧ w' = w.alloc (.cells #[.int .i64 16, .map none, .slice none 0 0] 95) := by
  go_enter Tryd.func30, Tryd.ntmps30
  go_wp2_with fail
  refine bodyPost_ret (by simp [results, Tryd.results30, go_sem]; try rfl) rfl ?_
  exact ⟨rfl, rfl⟩
def NewPost (w : World) (n ch : Nat) (e : Ending) (w' : World) : Prop :=
  ∃ t r d L nm A c, e = .returned (.tuple #[.pointer (some ⟨t, 0, none⟩), .int .i64 0]) ∧ TierAt w' w.heap.size t n ch r d L (n - ch) nm A c [] ∧ L.Perm (allPts ch (n - ch)) ∧ L.Pairwise ptLe ∧ Below w.heap.size w w'
set_option maxHeartbeats 4000000 in
set_option maxRecDepth 100000 in
theorem new_any (w : World) (n p : Nat) (hn : 1 ≤ n) (hn2 : n ≤ 64) (hp : p < n) (hp8 : p ≤ 8) :
    Calls Tryd.prog 17 #[.int .i64 n, .int .i64 p] w (NewPost w n (n - p)) := by
  obtain ⟨ch, hch⟩ : ∃ ch, n - p = ch := ⟨_, rfl⟩
  have i1 : (n : Int) - (p : Int) = (ch : Int) := by omega
  have j1 : ¬ (n : Int) < 1 := by omega
  have j2 : ¬ (64 : Int) < (n : Int) := by omega
  have j3 : ¬ (p : Int) < 0 := by omega
  have j4 : ¬ (n : Int) ≤ (p : Int) := by omega
  have hmm := @run_makeMap Tryd.prog
  have HRN := fun W => Lib.hid (ringNew_any W)
  rw [hch]
  go_enter Tryd.func17, Tryd.ntmps17
  go_wp2_with (go_at_call 30; refine (HRN _).out.mono ?_; rintro e w1 ⟨rfl, rfl⟩)
  obtain ⟨r, hr⟩ : ∃ r, w.heap.size + 1 + 1 = r := ⟨_, rfl⟩
  rw [hr]
  obtain ⟨t, ht⟩ : ∃ t, w.heap.size + 1 = t := ⟨_, rfl⟩
  rw [ht]
  obtain ⟨w2, hw2⟩ : ∃ w2, World.alloc (World.alloc w (.map #[] 0)) (.cells #[.int .i64 (n : Int), .int .i64 (ch : Int), .pointer (some ⟨r, 0, none⟩), .map (some w.heap.size)] 67) = w2 := ⟨_, rfl⟩
  rw [hw2]
  have hs2 : w2.heap.size = r := by rw [← hw2, ← hr]; simp
  have BT : Hid (w2.heap[t]? = some (.cells #[.int .i64 (n : Int), .int .i64 (ch : Int), .pointer (some ⟨r, 0, none⟩), .map (some w.heap.size)] 67 (0, 0))) := by
    simp only [Hid]; rw [← hw2, ← ht]; exact blk_new (by simp)
  have MD : Hid (MapAt inE Value.bool w2 w.heap.size []) := by
    simp only [Hid]; rw [← hw2]; exact (MapAt.new w).below (bel_alloc (Below.refl _ _) _)
  have HB2 : Hid (Below w.heap.size w w2) := by simp only [Hid]; rw [← hw2]; (repeat (first | exact Below.refl _ _ | refine bel_drewN ?_ _ | refine bel_drew ?_ | refine bel_alloc ?_ _ | refine bel_set ?_ (by simp) _))
  have HR0 : Hid (RingOwn (w2.alloc (.cells #[.int .i64 16, .map none, .slice none 0 0] 95)) w2.heap.size r [] [] none none 0) := ⟨blk_new hs2.symm, OwnG.nil _ _, .inl ⟨rfl, rfl⟩⟩
  have hs3 : r ≤ w2.heap.size ∧ w2.heap.size ≤ r := by omega
  have hch2 : n ≤ ch + p ∧ ch + p ≤ n := by omega
  clear hw2 HRN hmm j1 j2 j3 j4 i1 hs2 hr ht hch
  have x2 := blk_cell (i := 2) BT.out rfl
  have htz := blk_lt BT.out
  go_loopw [8, 9] (fun sp _ wr => ∃ (k q : Nat) (M : List (List UInt8 × Int)) (L : List Pt) (nm : Option Nat) (A : Option Addr) (c : Nat), k ≤ p ∧ q = ch + k ∧ sp = .int .i64 (q : Int) ∧ RingOwn wr w2.heap.size r M L nm A c ∧ keysM M = namesL ch k ∧ M.length = k ∧ L.Perm (allPts ch k) ∧ L.Pairwise ptLe ∧ Below w2.heap.size w2 wr) (fun sp _ _ => n - (intOf sp).toNat)
  case atStart => exact ⟨0, ch, [], [], none, none, 0, Nat.zero_le _, rfl, rfl, HR0.out, rfl, rfl, List.Perm.refl _, List.Pairwise.nil, bel_alloc (Below.refl _ _) _⟩
  case round =>
    clear HR0
    obtain ⟨k, q, M, L, nm, A, c, hk, hq, rfl, hro, hkm, hml, hpm, hso, hbw⟩ := hrel
    have HRO := Lib.hid hro
    have HBW := Lib.hid hbw
    have HPM := Lib.hid hpm
    have HSO := Lib.hid hso
    have HKM := Lib.hid hkm
    have x2r := cell_keep hbw x2
    clear hro hbw hpm hso hkm
    by_cases hlt : k < p
    · have hqn : (q : Int) < (n : Int) := by omega
      have hno : nmL q ∉ keysM M := by rw [HKM.out, hq]; exact namesL_new ch k
      have hll : L.length ≤ 5000 := by rw [HPM.out.length_eq, allPts_len]; omega
      have HN := fun W => Lib.hid (name_any q (by omega) W)
      have HA := fun W (h1 : RingOwn W w2.heap.size r M L nm A c) (h2 : Below w2.heap.size w2 W) => Lib.hid (add_any h1 (by omega) h2 (nmL q) (nmL_ok (by omega)) hno (by omega) hll)
      have HPN := Lib.hid (putM_new (v := (16 : Int)) hno)
      have HQ : Hid (q + 1 = ch + (k + 1)) := by simp only [Hid]; omega
      have HNS : Hid (namesL ch (k + 1) = namesL ch k ++ [nmL q]) := by simp only [Hid]; rw [hq]; exact namesL_succ ch k
      have HAS : Hid (allPts ch (k + 1) = allPts ch k ++ ptsOf (nmL q)) := by simp only [Hid]; rw [hq]; exact allPts_succ ch k
      have hmk : M.length ≤ k ∧ k ≤ M.length := by omega
      clear hno hll hml hq
      go_wp2_with fail
      go_region_held3 (fun w' => w'.cell? ⟨t, 2, none⟩ = some (.pointer (some ⟨r, 0, none⟩)))
        (first | exact x2r | exact x2s | fail)
        (first
          | (go_at_call 32; refine (HN _).out.mono ?_; rintro e w1 ⟨rfl, rfl⟩)
          | (go_at_call 31; refine (HA _ (by first | exact HRO.out | exact HRO.out.below (by (repeat (first | exact Below.refl _ _ | refine bel_drewN ?_ _ | refine bel_drew ?_ | refine bel_alloc ?_ _ | refine bel_set ?_ (by simp) _)))) (by repeat (first | exact HBW.out | refine bel_drew ?_))).out.mono ?_; rintro e w5 ⟨rfl, nm5, A5, c5, L5, hro5, hp5, hs5, hb5⟩; have x2s := cell_keep hb5 x2))
      all_goals
        go_wp2_with fail
        go_roundw
        case rel => exact ⟨k + 1, q + 1, _, L5, nm5, A5, c5, by omega, HQ.out, by go_num, hro5, by rw [HPN.out.1, HKM.out, HNS.out], by rw [HPN.out.2]; omega, by rw [HAS.out]; exact hp5.trans (HPM.out.append_right _), hs5, hb5⟩
        case measure => simp [intOf]; omega
    · have hkp : k = p := by omega
      have hqn : ¬ (q : Int) < (n : Int) := by omega
      have hnc : n - ch = k := by omega
      have HNC := Lib.hid hnc
      have hmk := Lib.hid hml
      clear hq hkp hnc hml
      go_wp2_with fail
      refine bodyPost_ret (by simp [results, Tryd.results17, go_sem]; try rfl) rfl ?_
      refine ⟨t, r, w.heap.size, L, nm, A, c, rfl, ⟨(HBW.out.block t htz).trans BT.out, ?_, MD.out.below HBW.out, Nat.le_refl _, ?_⟩, ?_, HSO.out, bel_chain HBW.out HB2.out⟩
      · rw [HNC.out, ← hmk.out]; exact HRO.out.at_
      · rcases HRO.out.names with ⟨h1, _⟩ | ⟨b, h1, h2, _⟩
        · rw [h1]; intro e; cases e
        · rw [h1]; intro e; injection e with e; have := MD.out.lt; omega
      · rw [HNC.out]; exact HPM.out
end Go.Proofs.YtnlamjebgkgbaaaDoor
namespace Go.Proofs.YtnlamjebgkgbaaaDoor
open Go.RowKit Go.Shelf Go.Sort

theorem TierAt.below {w w' : World} {base t n ch r d : Nat} {L : List Pt} {m : Nat} {nm : Option Nat} {A : Option Addr} {c : Nat} {D : List (Int × Bool)} (h : TierAt w base t n ch r d L m nm A c D) (hb : Below w.heap.size w w') : TierAt w' base t n ch r d L m nm A c D :=
  ⟨blk_keep hb h.blk, h.ring.below hb, h.down.below hb, h.bd, h.nd⟩
theorem cell_withObj {w : World} {g i d : Nat} {v : Value} {α β : Type} {enc : α → Value} {vf : β → Value} {M : List (α × β)} (hm : MapAt enc vf w d M) (h : w.cell? ⟨g, i, none⟩ = some v) (o : Obj) : (withObj w d o).cell? ⟨g, i, none⟩ = some v := by
  have hne : g ≠ d := by
    intro e; subst e
    obtain ⟨es, ck, h1, _⟩ := hm.at_
    simp [World.cell?, h1] at h
  rw [← h]
  unfold World.cell?
  rw [withObj_ne w o hne]
theorem SpPt.withObj {w : World} {d : Nat} {A : Option Addr} {L : List Pt} {α β : Type} {enc : α → Value} {vf : β → Value} {M : List (α × β)} (h : SpPt w A L) (hm : MapAt enc vf w d M) (o : Obj) : SpPt (withObj w d o) A L :=
  ⟨fun k hk => by
    obtain ⟨b, off, e, hl, h1, h2⟩ := h.at' k hk
    exact ⟨b, off, e, by rw [withObj_size]; exact hl, cell_withObj hm h1 o, cell_withObj hm h2 o⟩⟩
theorem MapAt.withOther {α β : Type} {enc : α → Value} {vf : β → Value} {M : List (α × β)} {w : World} {b d : Nat} (h : MapAt enc vf w b M) (hne : b ≠ d) (o : Obj) : MapAt enc vf (withObj w d o) b M := by
  obtain ⟨es, ck, h1, h2⟩ := h.at_
  exact ⟨es, ck, (withObj_ne w o hne).trans h1, h2⟩
/-- A tier behind a turn of its map. -/
theorem TierAt.turn {w : World} {base t n ch r d : Nat} {L : List Pt} {m : Nat} {nm : Option Nat} {A : Option Addr} {c : Nat} {D D' : List (Int × Bool)} (h : TierAt w base t n ch r d L m nm A c D) {o : Obj} (hm : MapAt inE Value.bool (withObj w d o) d D') : TierAt (withObj w d o) base t n ch r d L m nm A c D' :=
  ⟨blk_with h.blk (h.down.ne_cells h.blk), ⟨blk_with h.ring.blk (h.down.ne_cells h.ring.blk), h.ring.sp.withObj h.down o, by
    rcases h.ring.names with h1 | ⟨b, h1, M, h2, h3⟩
    · exact .inl h1
    · exact .inr ⟨b, h1, M, MapAt.withOther h2 (fun e => h.nd (by rw [h1, e])) o, h3⟩⟩, hm, h.bd, h.nd⟩
theorem parental_any {w : World} {base t n ch r d : Nat} {L : List Pt} {m : Nat} {nm : Option Nat} {A : Option Addr} {c : Nat} {D : List (Int × Bool)} (h : TierAt w base t n ch r d L m nm A c D) (q : Int) :
    Calls Tryd.prog 21 #[.pointer (some ⟨t, 0, none⟩), .int .i64 q] w fun e w' => e = .returned (.bool (decide ((ch : Int) ≤ q) && decide (q < (n : Int)))) ∧ w' = w := by
  have x0 := blk_cell (i := 0) h.blk rfl
  have x1 := blk_cell (i := 1) h.blk rfl
  clear h
  go_enter Tryd.func21, Tryd.ntmps21
  by_cases h1 : (ch : Int) ≤ q
  · by_cases h2 : q < (n : Int)
    · go_wp2_with fail
      go_ret
      exact ⟨by simp [h1, h2], rfl⟩
    · go_wp2_with fail
      go_ret
      exact ⟨by simp [h2], rfl⟩
  · go_wp2_with fail
    go_ret
    exact ⟨by rw [show decide ((ch : Int) ≤ q) = false from decide_eq_false (by omega)]; rfl, rfl⟩
/-- What goes down, or up, leaves. -/
def turnD (D : List (Int × Bool)) (q : Int) (dn : Bool) : List (Int × Bool) := if dn = true then putM D q true else delM D q
def DownPost (w : World) (base t n ch r d : Nat) (L : List Pt) (m : Nat) (nm : Option Nat) (A : Option Addr) (c : Nat) (D : List (Int × Bool)) (q : Int) (dn : Bool) (e : Ending) (w' : World) : Prop :=
  if (ch : Int) ≤ q ∧ q < (n : Int) then e = .returned (.int .i64 0) ∧ (∃ o, w' = withObj w d o) ∧ TierAt w' base t n ch r d L m nm A c (turnD D q dn) else e = .returned (.int .i64 1) ∧ w' = w
theorem down_any {w : World} {base t n ch r d : Nat} {L : List Pt} {m : Nat} {nm : Option Nat} {A : Option Addr} {c : Nat} {D : List (Int × Bool)} (h : TierAt w base t n ch r d L m nm A c D) (q : Int) (dn : Bool) :
    Calls Tryd.prog 10 #[.pointer (some ⟨t, 0, none⟩), .int .i64 q, .bool dn] w (DownPost w base t n ch r d L m nm A c D q dn) := by
  have HP := Lib.hid (parental_any h q)
  have HT := Lib.hid h
  have x3 := blk_cell (i := 3) h.blk rfl
  by_cases hin : (ch : Int) ≤ q ∧ q < (n : Int)
  · have hb : (decide ((ch : Int) ≤ q) && decide (q < (n : Int))) = true := by simp [hin.1, hin.2]
    rw [hb] at HP
    cases dn
    · obtain ⟨o, hr, hm⟩ := del_run (P := Tryd.prog) keyInt Tryd.underlying65 Tryd.underlying3 h.down q 0
      have HM := Lib.hid hm
      clear h hm hb
      go_enter Tryd.func10, Tryd.ntmps10
      go_wp2_with (go_at_call 21; refine HP.out.mono ?_; rintro e w1 ⟨rfl, rfl⟩)
      go_ret
      unfold DownPost
      rw [if_pos hin]
      exact ⟨rfl, ⟨o, rfl⟩, HT.out.turn HM.out⟩
    · obtain ⟨o, hr, hm⟩ := put_run (P := Tryd.prog) keyInt Tryd.underlying65 Tryd.underlying3 h.down q true
      have HM := Lib.hid hm
      clear h hm hb
      go_enter Tryd.func10, Tryd.ntmps10
      go_wp2_with (go_at_call 21; refine HP.out.mono ?_; rintro e w1 ⟨rfl, rfl⟩)
      go_ret
      unfold DownPost
      rw [if_pos hin]
      exact ⟨rfl, ⟨o, rfl⟩, HT.out.turn HM.out⟩
  · have hb : (decide ((ch : Int) ≤ q) && decide (q < (n : Int))) = false := by
      rw [Bool.eq_false_iff]; intro hh; simp at hh; exact hin hh
    rw [hb] at HP
    clear h hb
    go_enter Tryd.func10, Tryd.ntmps10
    go_wp2_with (go_at_call 21; refine HP.out.mono ?_; rintro e w1 ⟨rfl, rfl⟩)
    go_ret
    unfold DownPost
    rw [if_neg hin]
    exact ⟨rfl, rfl⟩
/-- Those that are up. -/
def upB (D : List (Int × Bool)) (q : Int) : Bool := !((lookM D q).getD false)
def upL (D : List (Int × Bool)) (ch : Nat) : Nat → List Int
  | 0 => []
  | k + 1 => upL D ch k ++ if upB D ((ch + k : Nat) : Int) = true then [((ch + k : Nat) : Int)] else []
theorem upL_len (D : List (Int × Bool)) (ch : Nat) : ∀ k, (upL D ch k).length ≤ k
  | 0 => Nat.le_refl _
  | k + 1 => by have := upL_len D ch k; unfold upL; rw [List.length_append]; split <;> simp <;> omega
theorem downB_run {w : World} {d : Nat} {D : List (Int × Bool)} (h : MapAt inE Value.bool w d D) (q : Int) (b : Bool) (hb : upB D q = b) : (Instr.lookup 65 (.map (some d)) (.int .i64 q) false).run Tryd.prog w = .ok (.bool (!b)) w := by
  have := look_run (P := Tryd.prog) keyInt Tryd.underlying65 Tryd.underlying3 (z := .bool false) (fun w => by simp [Tryd.zeroValue4]) h q false
  rw [this, ← hb]
  unfold upB
  cases lookM D q with
  | none => simp
  | some x => simp
/-- A slice of ints. -/
def RetInts (R : List Int) (w : World) (e : Ending) (w' : World) : Prop := ∃ A c, e = .returned (.slice A R.length c) ∧ SpG encI 1 w' A c R ∧ Below w.heap.size w w'
set_option maxHeartbeats 2000000 in
theorem parents_any {w : World} {base t n ch r d : Nat} {L : List Pt} {m : Nat} {nm : Option Nat} {A : Option Addr} {c : Nat} {D : List (Int × Bool)} (h : TierAt w base t n ch r d L m nm A c D) (hn : n ≤ 64) (hc : ch ≤ n) :
    Calls Tryd.prog 8 #[.pointer (some ⟨t, 0, none⟩)] w (RetInts (upL D ch (n - ch)) w) := by
  have HT := Lib.hid h
  have x1 := blk_cell (i := 1) h.blk rfl
  clear h
  obtain ⟨p, hp⟩ : ∃ p, n - ch = p := ⟨_, rfl⟩
  have hp2 : n ≤ ch + p ∧ ch + p ≤ n := by omega
  rw [hp]
  clear hp
  go_enter Tryd.func8, Tryd.ntmps8
  go_wp2_with fail
  go_loopw [3, 4] (fun so sp wr => ∃ (k q : Nat) (A' : Option Addr) (c' : Nat), k ≤ p ∧ q = ch + k ∧ sp = .int .i64 (q : Int) ∧ so = .slice A' (upL D ch k).length c' ∧ OwnG 3 encI 1 wr w.heap.size A' c' (upL D ch k) ∧ Below w.heap.size w wr) (fun _ sp _ => n - (intOf sp).toNat)
  case atStart => exact ⟨0, ch, none, 0, Nat.zero_le _, rfl, rfl, rfl, OwnG.nil _ _, Below.refl _ _⟩
  case round =>
    obtain ⟨k, q, A', c', hk, hq, rfl, rfl, hown, hb⟩ := hrel
    have HTr := Lib.hid (HT.out.below hb)
    have y0 := blk_cell (i := 0) HTr.out.blk rfl
    have y3 := blk_cell (i := 3) HTr.out.blk rfl
    have hll := upL_len D ch k
    have HQ : Hid (q + 1 = ch + (k + 1)) := by simp only [Hid]; omega
    have HST : Hid (upL D ch (k + 1) = upL D ch k ++ if upB D (q : Int) = true then [(q : Int)] else []) := by simp only [Hid]; rw [hq]; rfl
    obtain ⟨R, hR⟩ : ∃ R, upL D ch k = R := ⟨_, rfl⟩
    have HRe := Lib.hid hR
    rw [hR] at hown hll HST ⊢
    have HO := Lib.hid hown
    have HB := Lib.hid hb
    by_cases hlt : k < p
    · have hqn : (q : Int) < (n : Int) := by omega
      clear hq hown hb hR
      cases hup : upB D (q : Int)
      · have hlk := downB_run HTr.out.down (q : Int) false hup
        rw [hup, if_neg (by simp), List.append_nil] at HST
        clear hup
        go_wp2_with fail
        go_roundw
        case rel => exact ⟨k + 1, q + 1, A', c', by omega, HQ.out, by go_num, by rw [HST.out], by rw [HST.out]; exact HO.out, HB.out⟩
        case measure => simp [intOf]; omega
      · have hlk := downB_run HTr.out.down (q : Int) true hup
        rw [hup, if_pos rfl] at HST
        clear hup
        go_wp2_with (at_builtin; go_must (refine wplG_append (w0 := w) elemI rfl (.tmp 24) (.tmp 26) rfl A' c' R rfl (HO.out.alloc _) (some ⟨wr.heap.size, 0, none⟩) 1 [(q : Int)] rfl (SpG.built (enc := encI) (n := 1) elemI.len wr [(q : Int)] #[.int .i64 (q : Int)] rfl 3) (by simp) (by simp; omega) (bel_alloc HB.out _) ?_; intro A5 c5 w5 hown5 hbw5 hg5))
        go_roundw
        case rel => exact ⟨k + 1, q + 1, A5, c5, by omega, HQ.out, by go_num, by rw [HST.out, List.length_append]; rfl, by rw [HST.out]; exact hown5, hbw5⟩
        case measure => simp [intOf]; omega
    · have hkp : k = p := by omega
      have hqn : ¬ (q : Int) < (n : Int) := by omega
      have HKP := Lib.hid hkp
      clear hq hown hb hR hkp
      go_wp2_with fail
      go_ret
      rw [← HKP.out, HRe.out]
      exact ⟨A', c', rfl, HO.out.spg elemI.len, HB.out⟩
end Go.Proofs.YtnlamjebgkgbaaaDoor
namespace Go.Proofs.YtnlamjebgkgbaaaDoor
open Go.RowKit Go.Shelf Go.Sort

set_option maxHeartbeats 2000000 in
set_option maxRecDepth 100000 in
theorem atoiIn_any (l : List UInt8) (p : Nat) (h0 : 0 < l.length) (h1 : l.length ≤ 2) (hd : ∀ c ∈ l, 48 ≤ c.toNat ∧ c.toNat ≤ 57) (hv : numFrom 0 l = some (p : Int)) (w : World) :
    Calls Tryd.prog 37 #[.string ⟨l.toArray⟩] w fun e w' => e = .returned (.tuple #[.int .i64 p, .nilIface]) ∧ Below w.heap.size w w' := by
  have hsz : (⟨l.toArray⟩ : ByteArray).size = l.length := List.size_toArray ..
  have HD := Lib.hid hd
  have HV := Lib.hid hv
  have hf := hd l[0] (List.getElem_mem h0)
  obtain ⟨c0, hc0⟩ : ∃ c, (⟨l.toArray⟩ : ByteArray)[0]'(by rw [hsz]; exact h0) = c := ⟨_, rfl⟩
  have hcl : l[0] = c0 := hc0
  rw [hcl] at hf
  have j1 : ((c0.toNat : Int) == 45) = false := by rw [beq_eq_false_iff_ne]; omega
  have j2 : ((c0.toNat : Int) == 43) = false := by rw [beq_eq_false_iff_ne]; omega
  have i1 : (0 : Int) < (l.length : Int) := by omega
  have i2 : (l.length : Int) < 10 := by omega
  have i3 : (l.length : Int) < 19 := by omega
  clear hd hv hcl
  have hconv := run_bytes_of_string (P := Tryd.prog) w 9 104 5 ⟨l.toArray⟩ Tryd.underlying9 Tryd.underlying104 Tryd.underlying5
  rw [hsz] at hconv
  obtain ⟨cap, hcap⟩ : ∃ cap, grownCap w l.length 0 5 = cap := ⟨_, rfl⟩
  rw [hcap] at hconv
  obtain ⟨V, hV⟩ : ∃ V, w.drew.alloc (.cells (bytesRow ⟨l.toArray⟩ cap) 5 ((bytesRow ⟨l.toArray⟩ cap).size, (bytesRow ⟨l.toArray⟩ cap).size + 1)) = V := ⟨_, rfl⟩
  rw [hV] at hconv
  have HBV : Hid (Below w.heap.size w V) := by simp only [Hid]; rw [← hV]; exact bel_alloc (bel_drew (Below.refl _ _)) _
  have HC : Hid (∀ k (hk : k < l.length), V.cell? ⟨w.heap.size, k, none⟩ = some (.int .u8 (l[k].toNat : Int))) := by
    intro k hk
    have hb : V.heap[w.heap.size]? = some (.cells (bytesRow ⟨l.toArray⟩ cap) 5 ((bytesRow ⟨l.toArray⟩ cap).size, (bytesRow ⟨l.toArray⟩ cap).size + 1)) := by rw [← hV]; exact blk_new (by simp)
    rw [Lib.cell_of_heap hb]
    unfold bytesRow
    rw [Array.getElem?_append_left (by simpa using hk)]
    simp [hk]
  clear hV hcap
  go_enter Tryd.func37, Tryd.ntmps37
  go_wp2_with fail
  go_loopw [6, 8, 49] (fun sn _ si wr => wr = V ∧ ∃ (k : Nat) (a : Nat), k ≤ l.length ∧ si = .int .i64 k ∧ sn = .int .i64 a ∧ a < 10 ^ k ∧ numFrom a (l.drop k) = some (p : Int)) (fun _ _ si _ => l.length - (intOf si).toNat)
  case atStart => exact ⟨rfl, 0, 0, Nat.zero_le _, rfl, rfl, by decide, HV.out⟩
  case round =>
    obtain ⟨rfl, k, a, hk, rfl, rfl, ha, hv⟩ := hrel
    have HVr := Lib.hid hv
    clear hv
    by_cases hlt : k < l.length
    · have hc1 := HC.out k hlt
      have hdk := HD.out l[k] (List.getElem_mem hlt)
      have hst := numFrom_step (acc := (a : Int)) hlt
      obtain ⟨c, hc⟩ : ∃ c, l[k] = c := ⟨_, rfl⟩
      rw [hc] at hc1 hdk hst
      rw [HVr.out, if_pos (by unfold digB; simp; exact hdk)] at hst
      have hka : a < 10 := by
        rcases Nat.lt_or_ge k 1 with h | h
        · have : k = 0 := by omega
          subst this; simpa using Nat.lt_of_lt_of_le ha (by decide)
        · have : k = 1 := by omega
          subst this; simpa using ha
      have w1 : IntKind.u8.wrap ((c.toNat : Int) - 48) = (c.toNat : Int) - 48 := by rw [IntKind.wrap_u8]; omega
      have w2 : ¬ (9 : Int) < (c.toNat : Int) - 48 := by omega
      obtain ⟨a2, ha2⟩ : ∃ a2 : Nat, (a : Int) * 10 + ((c.toNat : Int) - 48) = (a2 : Int) := ⟨a * 10 + (c.toNat - 48), by omega⟩
      have ha3 : a2 < 10 ^ (k + 1) := by rw [Nat.pow_succ]; omega
      rw [ha2] at hst
      have HST := Lib.hid hst.symm
      have hk1 : (k : Int) < (l.length : Int) := by omega
      clear hst hc
      go_wp2_with fail
      go_roundw
      case rel => exact ⟨by first | trivial | rfl, k + 1, a2, by omega, by go_num, rfl, ha3, HST.out⟩
      case measure => simp [intOf]; omega
    · have hkl : l.drop k = [] := List.drop_of_length_le (by omega)
      have hv := HVr.out
      rw [hkl] at hv
      have hap : (a : Int) = (p : Int) := by injection hv
      obtain rfl : a = p := by omega
      clear hv hkl hap
      go_wp2_with fail
      refine bodyPost_ret (by simp [results, Tryd.results37, go_sem]; try rfl) rfl ?_
      exact ⟨rfl, HBV.out⟩
theorem atoi_any (p : Nat) (hp : p < 100) (w : World) : Calls Tryd.prog 20 #[.string ⟨(Lib.decDigits p).toArray⟩] w fun e w' => e = .returned (.tuple #[.int .i64 p, .nilIface]) ∧ Below w.heap.size w w' := by
  have HI := fun W => Lib.hid (atoiIn_any (Lib.decDigits p) p (dec_pos p) (dec_len2 hp) (dec_dig p) (numFrom_dec p) W)
  generalize Lib.decDigits p = l at HI ⊢
  go_enter Tryd.func20, Tryd.ntmps20
  go_wp2_with (go_at_call 37; refine (HI _).out.mono ?_; rintro e w1 ⟨rfl, hb1⟩)
  refine bodyPost_ret (by simp [results, Tryd.results20, go_sem]; try rfl) rfl ?_
  exact ⟨rfl, hb1⟩
end Go.Proofs.YtnlamjebgkgbaaaDoor
