/- mandolinelaw48.TierAsks answers true for every fetch, and the fetch reads as it did: the statement TierAsksSaid, without a condition. -/
import Derived.Test.YtmbcnfgeobbldaaW8
import Derived.ProofKit
import Derived.ChangeSame
namespace Go.Proofs.Ytmbcnfgeobbldaa
open Go.ChangeShapes Go.WideShapes Go.ChangeAt Go.RowKit

theorem Try.own : ownKnob Try.prog.godebug = none := by kernel_rfl
theorem Try.laidOut : laidOutB Try.prog = true := by kernel_rfl

section
variable {H : Type} {enc : TypeId × Value → H} {P : Program}
/-- The row's last step where of the world behind the call only 'Below' is known. -/
theorem post_of_below {f : Func} {s : ChangeSpec} {apart fresh handsOn again : Bool} {W W' : World} {args : Array Value} {v : Value} {ds gs : List (DataW H)} {before pa pv : List MemPlace}
    (hW : DataW.Whole enc P f.params.toList s.vars apart W args.toList ds gs before)
    (hres : ∀ (b : Nat) (sp : Nat → Bool) (hd : Bool), DataW.TrodAll enc P W' b sp hd f.resultTypes.toList (v.resultList f.resultTypes.size) (s.fn H (ds ++ gs)).results [])
    (hargs : ∀ sp : Nat → Bool, (∀ p ∈ before, sp p.block = true) → DataW.TrodAll enc P W' 0 sp true f.params.toList args.toList (s.fn H (ds ++ gs)).args pa)
    (hvars : ∀ sp : Nat → Bool, (∀ p ∈ before, sp p.block = true) → DataW.TrodVars enc P W' sp s.vars (s.fn H (ds ++ gs)).vars pv)
    (hps : before = pa ++ pv) (hb : Below W.heap.size W W')
    (hok : ∀ (j : Nat) (t : TypeId) (r : Value), f.resultTypes[j]? = some t → (v.resultList f.resultTypes.size)[j]? = some r → Value.okWide P W' .any 0 t r) :
    s.post enc P f apart fresh handsOn again W args v W' := by
  have hlt : ∀ p ∈ before, p.block < W.heap.size := fun p hp => hW.lt p hp
  have hold : ∀ p ∈ before, (fun b => decide (b < W.heap.size)) p.block = true := fun p hp => by simpa using hlt p hp
  refine ⟨ds, gs, before, [], pa, pv, hW, hres _ _ _, hargs _ hold, hvars _ hold, World.keptBut_mono (fun p hp => ⟨hp, ?_⟩) (hb.frame (· ∈ before)), fun _ => ?_⟩
  · rw [hps, List.mem_append] at hp
    exact Or.inr hp
  · obtain ⟨_, _, _, _, _, hz, hn⟩ := hW
    refine ⟨hok, _, _, ([] ++ pa) ++ pv, ⟨[] ++ pa, pv, trodAll_append (hargs _ (fun _ _ => rfl)) (hres _ _ _), hvars _ (fun _ _ => rfl), rfl, ?_, ?_⟩, ?_⟩
    · intro b off hp
      have hin : MemPlace.cell b off ∈ before := by rw [hps]; simpa using hp
      rw [hb.frozen (hlt _ hin)]
      exact hz b off hin
    · intro ha
      have := hn ha
      rw [hps] at this
      simpa using this
    · intro p hp _
      rw [hps]
      simpa using hp

variable {w : World} {base : Nat} {spare : Nat → Bool} {held : Bool} {n : Nat}
theorem span_cells {c0 c1 : Value} {y : DataW H × List MemPlace} (h : DataW.trod enc Try.prog w base spare held n 23 [c0, c1] = some y) : ∃ a b : Int, c0 = .int .i64 a ∧ c1 = .int .i64 b := by
  obtain ⟨xs, m, _, _, _, hlen, hg⟩ := DataW.trod_struct Try.underlying23 h
  have k2 : Try.prog.cellsOf 2 = 1 := by kernel_rfl
  match xs, hlen with
  | [y0, y1], _ =>
    have g0 := hg 0 _ rfl
    have g1 := hg 1 _ rfl
    simp only [k2, List.drop_zero, List.take_succ_cons, List.take_zero, List.drop_succ_cons, List.getElem?_cons_zero, List.getElem?_cons_succ] at g0 g1
    obtain ⟨a, e0, _⟩ := DataW.trod_int Try.underlying2 g0
    obtain ⟨b, e1, _⟩ := DataW.trod_int Try.underlying2 g1
    exact ⟨a, b, by simpa [k2] using e0, by simpa [k2] using e1⟩
theorem tag_cells {c0 c1 : Value} {y : DataW H × List MemPlace} (h : DataW.trod enc Try.prog w base spare held n 25 [c0, c1] = some y) : ∃ (a : ByteArray) (b : Bool), c0 = .string a ∧ c1 = .bool b := by
  obtain ⟨xs, m, _, _, _, hlen, hg⟩ := DataW.trod_struct Try.underlying25 h
  have k9 : Try.prog.cellsOf 9 = 1 := by kernel_rfl
  have k4 : Try.prog.cellsOf 4 = 1 := by kernel_rfl
  match xs, hlen with
  | [y0, y1], _ =>
    have g0 := hg 0 _ rfl
    have g1 := hg 1 _ rfl
    simp only [k9, k4, List.drop_zero, List.take_succ_cons, List.take_zero, List.drop_succ_cons, List.getElem?_cons_zero, List.getElem?_cons_succ] at g0 g1
    obtain ⟨a, e0, _⟩ := DataW.trod_string Try.underlying9 g0
    obtain ⟨b, e1, _⟩ := DataW.trod_bool Try.underlying4 g1
    exact ⟨a, b, by simpa [k9] using e0, by simpa [k4] using e1⟩
theorem fetch_form {r : Reach} {b0 : Nat} {v : Value} {d : DataW H} {p : List MemPlace} (hv : Value.okWide Try.prog w r b0 27 v) (h : DataW.Trod enc Try.prog w base spare held 27 v d p) :
    ∃ (o m n : ByteArray) (f t : Int) (mw nw : Bool), v = .agg #[.string o, .int .i64 f, .int .i64 t, .string m, .bool mw, .string n, .bool nw] := by
  obtain ⟨cs, rfl, hsz⟩ := okWide_struct Try.underlying27 hv
  have k27 : Try.prog.cellsOf 27 = 7 := by kernel_rfl
  have k9 : Try.prog.cellsOf 9 = 1 := by kernel_rfl
  have k23 : Try.prog.cellsOf 23 = 2 := by kernel_rfl
  have k25 : Try.prog.cellsOf 25 = 2 := by kernel_rfl
  obtain ⟨l⟩ := cs
  match l, hsz.trans k27 with
  | [c0, c1, c2, c3, c4, c5, c6], _ =>
    obtain ⟨fuel, hf⟩ := h
    obtain ⟨xs, m, _, _, _, hlen, hg⟩ := DataW.trod_struct Try.underlying27 hf
    match xs, hlen with
    | [y0, y1, y2, y3], _ =>
      have g0 := hg 0 _ rfl
      have g1 := hg 1 _ rfl
      have g2 := hg 2 _ rfl
      have g3 := hg 3 _ rfl
      simp only [Value.cells, k9, k23, k25, List.drop_zero, List.take_succ_cons, List.take_zero, List.drop_succ_cons, List.getElem?_cons_zero, List.getElem?_cons_succ] at g0 g1 g2 g3
      obtain ⟨o, e0, _⟩ := DataW.trod_string Try.underlying9 g0
      obtain ⟨a, b, rfl, rfl⟩ := span_cells g1
      obtain ⟨m, mw, rfl, rfl⟩ := tag_cells g2
      obtain ⟨k, kw, rfl, rfl⟩ := tag_cells g3
      obtain rfl : c0 = .string o := by simpa [k9] using e0
      exact ⟨o, m, k, a, b, mw, kw, rfl⟩
end

set_option maxRecDepth 100000 in
theorem tierAsks_lifted (os : Os) (started : os.Started) (H : Type) (enc : TypeId × Value → H) :
    ReturnsInHanded {} Try.checked os 3 .any (Rows.tierAsksSpec.pre6 enc Try.prog Try.f3 Rows.tierAsksRow.domain false) (Rows.tierAsksSpec.post enc Try.prog Try.f3 false true false false) := by
  refine returnsInHanded_of_change (C := Try.checked) Try.own started (by kernel_rfl) Try.func3
    (ChangeSpec.witness6 (enc := enc) (C := Try.checked) false ⟨#[], #[.agg #[.string ⟨#[]⟩, .int .i64 0, .int .i64 0, .string ⟨#[]⟩, .bool false, .string ⟨#[]⟩, .bool false]], []⟩ 8 (by kernel_rfl) (by kernel_rfl) (by kernel_rfl) (by kernel_rfl)) ?_
  intro W base args ds gs before hval0 hW hcnd _
  have hval : ∀ (j : Nat) t v, Try.f3.params[j]? = some t → args[j]? = some v → Value.okWide Try.prog W .any base t v := hval0
  have hW' := hW
  obtain ⟨p, q, hA0, hV, rfl, hfz, hnd⟩ := hW
  have hA : DataW.TrodAll enc Try.prog W 0 (fun _ => true) true Try.f3.params.toList args.toList ds p := hA0
  rw [Try.params3] at hA hval
  obtain ⟨v0, d0, rfl, rfl, h0⟩ := trodAll_one hA
  obtain ⟨rfl, rfl⟩ := trodVars_none hV
  obtain ⟨o, m, n, f, t, mw, nw, rfl⟩ := fetch_form (hval 0 27 v0 rfl rfl) h0
  clear hA0 hval0
  simp only [List.append_nil] at hW'
  have hlt : ∀ x ∈ p, x.block < W.heap.size := fun x hx => hW'.lt x hx
  refine (law_any o m n f t mw nw W).mono fun e W' ⟨he, hb⟩ => ?_
  subst he
  refine ⟨_, rfl, post_of_below (pa := p) (pv := []) hW' (fun _ _ _ => trodAll_mk1 (shut_bool Try.underlying4 _)) (fun sp hsp => ?_) (fun _ _ => rfl) (by simp) hb (ok_one (by kernel_rfl) rfl (okWide_bool_mk Try.underlying4 _))⟩
  exact trodAll_mk1 (WideElems.Trod_stays Try.laidOut (by kernel_rfl) (of_decide_eq_true (by kernel_rfl)) h0 (fun x hx => hb.same (hlt x hx)) (fun x hx => hsp x hx))

theorem tierAsks_holds : Rows.TierAsksSaid :=
  OpenClaim.holds_of_wide 3 Try.f3 rfl rfl rfl rfl rfl rfl rfl ⟨rfl, rfl, rfl, rfl, rfl⟩ rfl rfl rfl rfl rfl (by kernel_rfl) Try.func3 (by kernel_rfl)
    (of_decide_eq_true (by kernel_rfl)) (by unfold Func.isWrapper; first | (rw [if_pos (by decide +kernel)]; kernel_rfl) | (rw [if_neg (by decide +kernel)]; exact ⟨rfl, rfl⟩))
    (fun os started H enc _ => tierAsks_lifted os started H enc)
#print axioms tierAsks_holds
end Go.Proofs.Ytmbcnfgeobbldaa
