/- Maps of the call's own, by their entries as a list. -/
import Derived.Test.YtnlamjebgkgbaaaDoorJTierDeals15
import Derived.Test.YtnlamjebgkgbaaaDoorJTierDeals1
import Derived.Maps.OwnSet
namespace Go.Proofs.YtnlamjebgkgbaaaDoor
open Go.MapKept Go.RowKit

section plain
variable {α β : Type} [DecidableEq α]
def lookM : List (α × β) → α → Option β
  | [], _ => none
  | x :: r, k => if x.1 = k then some x.2 else lookM r k
def putM : List (α × β) → α → β → List (α × β)
  | [], k, v => [(k, v)]
  | x :: r, k, v => if x.1 = k then (k, v) :: r else x :: putM r k v
def delM : List (α × β) → α → List (α × β)
  | [], _ => []
  | x :: r, k => if x.1 = k then r else x :: delM r k
def keysM (M : List (α × β)) : List α := M.map Prod.fst
theorem lookM_none {M : List (α × β)} {k : α} : lookM M k = none ↔ k ∉ keysM M := by
  induction M with
  | nil => simp [lookM, keysM]
  | cons x r ih =>
    rw [lookM]
    by_cases h : x.1 = k
    · simp [h, keysM]
    · rw [if_neg h, ih]
      simp [keysM]
      intro _ e; exact h e.symm
theorem lookM_isSome {M : List (α × β)} {k : α} : (lookM M k).isSome = decide (k ∈ keysM M) := by
  cases h : lookM M k with
  | none => have := lookM_none.1 h; simp [this]
  | some b =>
    have : k ∈ keysM M := by
      by_cases hk : k ∈ keysM M
      · exact hk
      · rw [lookM_none.2 hk] at h; cases h
    simp [this]
theorem lookM_put {M : List (α × β)} {k q : α} {v : β} : lookM (putM M k v) q = if k = q then some v else lookM M q := by
  induction M with
  | nil => simp [putM, lookM]
  | cons x r ih =>
    rw [putM]
    by_cases h : x.1 = k
    · rw [if_pos h, lookM, lookM]
      by_cases hq : k = q
      · simp [hq]
      · simp [h, hq]
    · rw [if_neg h, lookM, ih, lookM]
      by_cases hq : x.1 = q
      · have : ¬ k = q := fun e => h (hq.trans e.symm)
        simp [hq, this]
      · simp [hq]
theorem delM_keys {M : List (α × β)} {k : α} : keysM (delM M k) = (keysM M).erase k := by
  induction M with
  | nil => simp [delM, keysM]
  | cons x r ih =>
    rw [delM]
    by_cases h : x.1 = k
    · subst h; simp [keysM]
    · rw [if_neg h]
      simp only [keysM, List.map_cons] at ih ⊢
      rw [List.erase_cons_tail (by simpa using h), ih]
theorem delM_mem {M : List (α × β)} {k q : α} (h : q ∈ keysM (delM M k)) : q ∈ keysM M := by rw [delM_keys] at h; exact List.mem_of_mem_erase h
theorem lookM_del {M : List (α × β)} {k q : α} (hn : (keysM M).Nodup) : lookM (delM M k) q = if k = q then none else lookM M q := by
  induction M with
  | nil => simp [delM, lookM]
  | cons x r ih =>
    have hn' : x.1 ∉ keysM r ∧ (keysM r).Nodup := List.nodup_cons.1 hn
    rw [delM]
    by_cases h : x.1 = k
    · rw [if_pos h, lookM]
      by_cases hq : k = q
      · rw [if_pos hq]; exact lookM_none.2 (by rw [← hq, ← h]; exact hn'.1)
      · rw [if_neg hq, if_neg (fun e => hq (h.symm.trans e))]
    · rw [if_neg h, lookM, ih hn'.2, lookM]
      by_cases hq : x.1 = q
      · have : ¬ k = q := fun e => h (hq.trans e.symm)
        simp [hq, this]
      · simp [hq]
theorem putM_mem {M : List (α × β)} {k q : α} {v : β} (h : q ∈ keysM (putM M k v)) : q = k ∨ q ∈ keysM M := by
  by_cases e : q = k
  · exact .inl e
  · have h1 : (lookM (putM M k v) q).isSome = true := by rw [lookM_isSome]; simpa using h
    rw [lookM_put, if_neg (fun x => e x.symm), lookM_isSome] at h1
    exact .inr (by simpa using h1)
theorem putM_nodup {M : List (α × β)} {k : α} {v : β} (hn : (keysM M).Nodup) : (keysM (putM M k v)).Nodup := by
  induction M with
  | nil => simp [putM, keysM]
  | cons x r ih =>
    have hn' : x.1 ∉ keysM r ∧ (keysM r).Nodup := List.nodup_cons.1 hn
    rw [putM]
    by_cases h : x.1 = k
    · rw [if_pos h]; exact List.nodup_cons.2 ⟨by rw [← h]; exact hn'.1, hn'.2⟩
    · rw [if_neg h]
      refine List.nodup_cons.2 ⟨fun hm => ?_, ih hn'.2⟩
      rcases putM_mem hm with e | e
      · exact h e
      · exact hn'.1 e
theorem delM_nodup {M : List (α × β)} {k : α} (hn : (keysM M).Nodup) : (keysM (delM M k)).Nodup := by rw [delM_keys]; exact hn.erase _
theorem map_eraseIdx' {γ δ : Type} (f : γ → δ) : ∀ (l : List γ) (j : Nat), (l.eraseIdx j).map f = (l.map f).eraseIdx j
  | [], j => by simp
  | x :: l, 0 => by simp
  | x :: l, j + 1 => by simp [map_eraseIdx' f l j]
end plain

/-- A key's spelling as a value. -/
structure KeyEnc {α : Type} (d : TypeDesc) (enc : α → Value) : Prop where
  key : ∀ a, IsKey d (enc a)
  inj : ∀ a b, enc a = enc b → a = b
theorem keyInt : KeyEnc (.int .i64) (fun n : Int => Value.int .i64 n) := ⟨fun _ => rfl, fun a b h => by injection h⟩
theorem keyText : KeyEnc .string (fun l : List UInt8 => Value.string ⟨l.toArray⟩) := ⟨fun _ => trivial, fun a b h => by
  injection h with h
  have := congrArg (fun s : ByteArray => s.data.toList) h
  simpa using this⟩
/-- A map of the heap, its entries in order. -/
structure MapAt {α β : Type} (enc : α → Value) (vf : β → Value) (w : World) (r : Nat) (M : List (α × β)) : Prop where
  at_ : ∃ es clock, w.heap[r]? = some (.map es clock) ∧ es.toList.map (fun e => (e.key, e.val)) = M.map (fun x => (enc x.1, vf x.2))
/-- A world with another object at a place. -/
def withObj (w : World) (r : Nat) (o : Obj) : World := { w with heap := w.heap.setIfInBounds r o }
section
variable {α β : Type} {enc : α → Value} {vf : β → Value} {w : World} {r : Nat} {M : List (α × β)}
theorem withObj_size (w : World) (r : Nat) (o : Obj) : (withObj w r o).heap.size = w.heap.size := by simp [withObj]
theorem withObj_ne (w : World) {r g : Nat} (o : Obj) (h : g ≠ r) : (withObj w r o).heap[g]? = w.heap[g]? := by
  simp [withObj, Ne.symm h]
theorem withObj_eq (w : World) {r : Nat} {o' : Obj} (o : Obj) (h : w.heap[r]? = some o') : (withObj w r o).heap[r]? = some o := by
  have hlt := (Array.getElem?_eq_some_iff.1 h).1
  simp [withObj, hlt]
theorem bel_with {w W : World} {r : Nat} (h : Below w.heap.size w W) (hr : w.heap.size ≤ r) (o : Obj) : Below w.heap.size w (withObj W r o) :=
  ⟨h.os, h.tape, h.output, by rw [withObj_size]; exact h.size, fun k hk => by rw [withObj_ne _ _ (by omega)]; exact h.block k hk⟩
theorem MapAt.lt (h : MapAt enc vf w r M) : r < w.heap.size := by
  obtain ⟨es, c, hb, _⟩ := h.at_
  exact (Array.getElem?_eq_some_iff.1 hb).1
theorem MapAt.below {w' : World} (h : MapAt enc vf w r M) (hb : Below w.heap.size w w') : MapAt enc vf w' r M := by
  obtain ⟨es, c, h1, h2⟩ := h.at_
  exact ⟨es, c, (hb.block r h.lt).trans h1, h2⟩
theorem MapAt.new (w : World) : MapAt enc vf (w.alloc (.map #[] 0)) w.heap.size [] := ⟨#[], 0, heap_alloc_new w _, rfl⟩
theorem MapAt.ne_cells {g : Nat} {cs : Array Value} {t : TypeId} {f : Nat × Nat} (h : MapAt enc vf w r M) (hg : w.heap[g]? = some (.cells cs t f)) : g ≠ r := by
  intro e
  subst e
  obtain ⟨es, c, h1, _⟩ := h.at_
  rw [hg] at h1; cases h1
theorem sameBits_key {d : TypeDesc} {v : Value} (h : IsKey d v) : Instr.sameBits 10000 v v = true := by
  cases v <;> cases d <;> simp_all [IsKey, Instr.sameBits]
  exact (bytes_beq _ _).2 rfl
variable {d : TypeDesc}
theorem find_spec [DecidableEq α] (K : KeyEnc d enc) (k : α) : ∀ (l : List MapEntry) (M : List (α × β)) (i : Nat), l.map (fun e => (e.key, e.val)) = M.map (fun x => (enc x.1, vf x.2)) →
    (Instr.findNow d (enc k) l i = some none ∧ lookM M k = none ∧ (∀ v, putM M k v = M ++ [(k, v)]) ∧ delM M k = M) ∨
    (∃ j e b, Instr.findNow d (enc k) l i = some (some (i + j, vf b)) ∧ l[j]? = some e ∧ e.key = enc k ∧ e.val = vf b ∧ lookM M k = some b ∧ (∀ v, putM M k v = M.set j (k, v)) ∧ delM M k = M.eraseIdx j)
  | [], [], i, _ => .inl ⟨rfl, rfl, fun _ => rfl, rfl⟩
  | [], x :: M, i, h => by simp at h
  | e :: l, [], i, h => by simp at h
  | e :: l, x :: M, i, h => by
    simp only [List.map_cons, List.cons.injEq, Prod.mk.injEq] at h
    obtain ⟨⟨h1, h2⟩, h3⟩ := h
    obtain ⟨q, hq, hiff⟩ := sameNow_of_keys (K.key k) (show IsKey d e.key by rw [h1]; exact K.key _)
    cases q with
    | true =>
      have hk : x.1 = k := (K.inj _ _ ((hiff.1 rfl).trans h1)).symm
      exact .inr ⟨0, e, x.2, by simp [Instr.findNow, hq, h2], rfl, (hiff.1 rfl).symm, h2, by simp [lookM, hk], fun v => by simp [putM, hk], by simp [delM, hk]⟩
    | false =>
      have hk : ¬ x.1 = k := fun q => by have := hiff.2 (by rw [h1, q]); cases this
      rcases find_spec K k l M (i + 1) h3 with ⟨f1, f2, f3, f4⟩ | ⟨j, e', b, f1, f2, f3, f4, f5, f6, f7⟩
      · exact .inl ⟨by simp [Instr.findNow, hq, f1], by simp [lookM, hk, f2], fun v => by simp [putM, hk, f3], by simp [delM, hk, f4]⟩
      · exact .inr ⟨j + 1, e', b, by simp [Instr.findNow, hq, f1]; omega, by simpa using f2, f3, f4, by simp [lookM, hk, f5], fun v => by simp [putM, hk, f6], by simp [delM, hk, f7]⟩
variable {P : Program} {t kt et : TypeId}
theorem look_run [DecidableEq α] (K : KeyEnc d enc) (hm : P.underlying t = some (.map kt et)) (hk : P.underlying kt = some d) {z : Value} (hz : ∀ w, (zeroValue et).run P w = .ok z w) (h : MapAt enc vf w r M) (k : α) (c : Bool) :
    (Instr.lookup t (.map (some r)) (enc k) c).run P w = .ok (if c then .tuple #[((lookM M k).map vf).getD z, .bool (lookM M k).isSome] else ((lookM M k).map vf).getD z) w := by
  obtain ⟨es, clock, hb, hM⟩ := h.at_
  rcases find_spec K k es.toList M 0 hM with ⟨f1, f2, _, _⟩ | ⟨j, e, b, f1, _, _, _, f5, _, _⟩
  · have hf := run_findKey (P := P) (w := w) hk f1
    cases c <;> simp [Instr.lookup, run_underlying hm, MapKept.run_getObj_map hb, run_checkKey hk (K.key k), hf, hz, f2, Result.andThen]
  · have hf := run_findKey (P := P) (w := w) hk f1
    cases c <;> simp [Instr.lookup, run_underlying hm, MapKept.run_getObj_map hb, run_checkKey hk (K.key k), hf, f5, Result.andThen]
theorem look_nil (K : KeyEnc d enc) (hm : P.underlying t = some (.map kt et)) (hk : P.underlying kt = some d) {z : Value} (hz : ∀ w, (zeroValue et).run P w = .ok z w) (k : α) (c : Bool) :
    (Instr.lookup t (.map none) (enc k) c).run P w = .ok (if c then .tuple #[z, .bool false] else z) w := by
  have f1 : Instr.findNow d (enc k) [] 0 = some none := rfl
  have hf := run_findKey (P := P) (w := w) hk f1
  cases c <;> simp [Instr.lookup, run_underlying hm, run_checkKey hk (K.key k), hf, hz, Result.andThen]
theorem put_run [DecidableEq α] (K : KeyEnc d enc) (hm : P.underlying t = some (.map kt et)) (hk : P.underlying kt = some d) (h : MapAt enc vf w r M) (k : α) (v : β) :
    ∃ o, (Instr.mapUpdate t (.map (some r)) (enc k) (vf v)).run P w = .ok () (withObj w r o) ∧ MapAt enc vf (withObj w r o) r (putM M k v) := by
  obtain ⟨es, clock, hb, hM⟩ := h.at_
  rcases find_spec K k es.toList M 0 hM with ⟨f1, f2, f3, _⟩ | ⟨j, e, b, f1, f2, f3', f4, f5, f6, _⟩
  · have hf := run_findKey (P := P) (w := w) hk f1
    refine ⟨.map (es.push { key := enc k, val := vf v, born := clock }) (clock + 1), ?_, ⟨_, _, withObj_eq w _ hb, ?_⟩⟩
    · simp [Instr.mapUpdate, run_underlying hm, MapKept.run_getObj_map hb, run_checkKey hk (K.key k), hf, Result.andThen, run_setObj_map _ hb, withObj]
    · rw [f3 v]; simp [hM]
  · have hf := run_findKey (P := P) (w := w) hk f1
    have hes : es[j]? = some e := by simpa using f2
    refine ⟨.map (es.modify j fun e => { e with key := enc k, val := vf v }) clock, ?_, ⟨_, _, withObj_eq w _ hb, ?_⟩⟩
    · simp [Instr.mapUpdate, run_underlying hm, MapKept.run_getObj_map hb, run_checkKey hk (K.key k), hf, Result.andThen, run_setObj_map _ hb, withObj, Instr.keyThatStays, hes, f3', sameBits_key (K.key k)]
    · rw [f6 v, List.map_set, ← hM]
      apply List.ext_getElem?
      intro i
      simp only [List.getElem?_map, Array.getElem?_toList, Array.getElem?_modify, List.getElem?_set]
      by_cases hij : j = i
      · subst hij
        have hlt := (Array.getElem?_eq_some_iff.1 hes).1
        simp [hes, hlt]
      · simp [hij]
theorem del_run [DecidableEq α] (K : KeyEnc d enc) (hm : P.underlying t = some (.map kt et)) (hk : P.underlying kt = some d) (h : MapAt enc vf w r M) (k : α) (ty : TypeId) :
    ∃ o, (Builtin.delete_ #[t, kt] ty #[.map (some r), enc k]).run P w = .ok (.tuple #[]) (withObj w r o) ∧ MapAt enc vf (withObj w r o) r (delM M k) := by
  obtain ⟨es, clock, hb, hM⟩ := h.at_
  rcases find_spec K k es.toList M 0 hM with ⟨f1, _, _, f4⟩ | ⟨j, e, b, f1, f2, _, _, _, _, f7⟩
  · have hf := run_findKey (P := P) (w := w) hk f1
    refine ⟨.map es clock, ?_, ⟨_, _, withObj_eq w _ hb, ?_⟩⟩
    · simp [Builtin.delete_, run_underlying hm, MapKept.run_getObj_map hb, run_checkKey hk (K.key k), hf, Result.andThen, run_setObj_map _ hb, withObj]
    · rw [f4]; exact hM
  · have hf := run_findKey (P := P) (w := w) hk f1
    refine ⟨.map (es.eraseIdxIfInBounds j) clock, ?_, ⟨_, _, withObj_eq w _ hb, ?_⟩⟩
    · simp [Builtin.delete_, run_underlying hm, MapKept.run_getObj_map hb, run_checkKey hk (K.key k), hf, Result.andThen, run_setObj_map _ hb, withObj]
    · have hlt : j < es.size := (Array.getElem?_eq_some_iff.1 (show es[j]? = some e by simpa using f2)).1
      rw [f7, map_eraseAt, ← hM]
      simp [hlt, map_eraseIdx']
theorem len_run (hm : P.underlying t = some (.map kt et)) (h : MapAt enc vf w r M) (ty : TypeId) : (Builtin.len_ #[t] ty #[.map (some r)]).run P w = .ok (.int .i64 M.length) w := by
  obtain ⟨es, clock, hb, hM⟩ := h.at_
  have hl : es.size = M.length := by have := congrArg List.length hM; simpa using this
  simp [Builtin.len_, run_underlying hm, MapKept.run_getObj_map hb, goInt, Result.andThen, hl]
theorem len_nil_run (hm : P.underlying t = some (.map kt et)) (ty : TypeId) : (Builtin.len_ #[t] ty #[.map none]).run P w = .ok (.int .i64 0) w := by
  simp [Builtin.len_, run_underlying hm, goInt, Result.andThen]
/- at the operations, for the walk -/
variable {ops : Array Oper} {rest : List Oper} {o : Oper} {a : Act} {Q : Exit → Act → World → Prop}
theorem wplM_look [DecidableEq α] (hg : o.guard = none) (m x : Operand) (t : TypeId) (c : Bool) (hop : o.op = Op.lookup t m x c) (kt et : TypeId) (K : KeyEnc d enc) (hm : P.underlying t = some (.map kt et)) (hk : P.underlying kt = some d) (z : Value) (hz : ∀ w, (zeroValue et).run P w = .ok z w)
    (r : Nat) (M : List (α × β)) (hr : a.eval m = .map (some r)) (h : MapAt enc vf w r M) (k : α) (hx : a.eval x = enc k)
    (hK : wpList P ops Q rest (a.put o.dst (if c then .tuple #[((lookM M k).map vf).getD z, .bool (lookM M k).isSome] else ((lookM M k).map vf).getD z)) w) : wpList P ops Q (o :: rest) a w := by
  refine wpList_plain hg fun K' hK' => ?_
  have hrun := look_run K hm hk hz h k c
  have he : (execOp a.eval o).run P w = .ok (.value (if c then .tuple #[((lookM M k).map vf).getD z, .bool (lookM M k).isSome] else ((lookM M k).map vf).getD z)) w := by
    generalize (if c then Value.tuple #[((lookM M k).map vf).getD z, .bool (lookM M k).isSome] else ((lookM M k).map vf).getD z) = q at hrun ⊢
    simp [execOp, hop, hr, hx, hrun, Result.andThen]
  unfold Oper.wp
  rw [he]
  exact hK' _ _ hK
theorem wplM_put [DecidableEq α] (hg : o.guard = none) (m x v : Operand) (t : TypeId) (hop : o.op = Op.mapUpdate t m x v) (kt et : TypeId) (K : KeyEnc d enc) (hm : P.underlying t = some (.map kt et)) (hk : P.underlying kt = some d)
    (r : Nat) (M : List (α × β)) (hr : a.eval m = .map (some r)) (h : MapAt enc vf w r M) (k : α) (hx : a.eval x = enc k) (b : β) (hv : a.eval v = vf b)
    (hK : ∀ ob, MapAt enc vf (withObj w r ob) r (putM M k b) → wpList P ops Q rest (a.put o.dst undef) (withObj w r ob)) : wpList P ops Q (o :: rest) a w := by
  refine wpList_plain hg fun K' hK' => ?_
  obtain ⟨ob, h1, h2⟩ := put_run K hm hk h k b
  unfold Oper.wp
  simp [execOp, hop, hr, hx, hv, h1, Result.andThen]
  exact hK' _ _ (hK ob h2)
theorem wplM_del [DecidableEq α] (hg : o.guard = none) (m x : Operand) (t kt : TypeId) (hop : o.op = Op.call { callee := Callee.builtin Builtin.delete, args := #[m, x], argTypes := #[t, kt] }) (et : TypeId) (K : KeyEnc d enc) (hm : P.underlying t = some (.map kt et)) (hk : P.underlying kt = some d)
    (r : Nat) (M : List (α × β)) (hr : a.eval m = .map (some r)) (h : MapAt enc vf w r M) (k : α) (hx : a.eval x = enc k)
    (hK : ∀ ob, MapAt enc vf (withObj w r ob) r (delM M k) → wpList P ops Q rest (a.put o.dst (.tuple #[])) (withObj w r ob)) : wpList P ops Q (o :: rest) a w := by
  refine wpList_plain hg fun K' hK' => ?_
  obtain ⟨ob, h1, h2⟩ := del_run K hm hk h k o.type
  unfold Oper.wp
  simp [execOp, hop, resolve, invoke, builtin, hr, hx, h1, Result.andThen]
  exact hK' _ _ (hK ob h2)
theorem wplM_len (hg : o.guard = none) (m : Operand) (t : TypeId) (hop : o.op = Op.call { callee := Callee.builtin Builtin.len, args := #[m], argTypes := #[t] }) (kt et : TypeId) (hm : P.underlying t = some (.map kt et))
    (r : Nat) (M : List (α × β)) (hr : a.eval m = .map (some r)) (h : MapAt enc vf w r M) (hK : wpList P ops Q rest (a.put o.dst (.int .i64 M.length)) w) : wpList P ops Q (o :: rest) a w := by
  refine wpList_plain hg fun K' hK' => ?_
  unfold Oper.wp
  simp [execOp, hop, resolve, invoke, builtin, hr, len_run hm h o.type, Result.andThen]
  exact hK' _ _ hK
end
end Go.Proofs.YtnlamjebgkgbaaaDoor
