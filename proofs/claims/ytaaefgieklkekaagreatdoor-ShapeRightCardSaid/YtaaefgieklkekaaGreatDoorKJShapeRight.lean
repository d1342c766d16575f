/- mandoline/mandolinelaw15.ShapeRight answers true whatever comes in, and what came in reads as it did: the tied card ShapeRightCardSaid, without a condition. -/
import Derived.Test.YtaaefgieklkekaaGreatDoorZL23
import Derived.Test.YtaaefgieklkekaaGreatDoorZR9
import Derived.Test.YtaaefgieklkekaaGreatDoorCards
import Derived.Test.YtaaefgieklkekaaGreatDoorTie
import Derived.LaidMore
import Derived.Lay
import Derived.Stop.Joined
namespace Go.Proofs.YtaaefgieklkekaaGreatDoor
open Go.ChangeShapes Go.WideShapes Go.ChangeAt Go.RowKit

set_option maxRecDepth 100000 in
/-- The heap that the door's own run leaves meets the row's list. -/
theorem shapeRight_met (os : Os) (args : Array Value) : laidMetH Tryz.prog Rows.shapeRightRow.laid ((World.laidAll Tryz.prog os Rows.shapeRightRow.laid).forCall (fun _ _ => 0) ⟨#[], args, []⟩).memory :=
  by rw [MakeChecks.laidMetH_plain _ _ _ (by kernel_rfl)]; exact laidMet_laidAll _ (by kernel_rfl) (by kernel_rfl)
set_option maxRecDepth 100000 in
theorem shapeRight_reads (os : Os) {H : Type} (enc : TypeId × Value → H) : ∃ places, DataW.whole enc Tryz.prog ((World.laidAll Tryz.prog os Rows.shapeRightRow.laid).forCall (fun _ _ => 0) ⟨#[], #[.agg #[.int .i64 0, .slice none 0 0, .slice none 0 0, .int .i64 0]], []⟩).memory Tryz.f7.params.toList Rows.shapeRightSpec.vars false (#[.agg #[.int .i64 0, .slice none 0 0, .slice none 0 0, .int .i64 0]] : Array Value).toList 8 = some ([.agg [.lit (.int .i64 0), .nil, .nil, .lit (.int .i64 0)]], [], places) :=
  ⟨[], by kernel_rfl⟩

set_option maxRecDepth 100000 in
/-- What the walk gives, for every argument and every world. -/
theorem shapeRight_contract (H : Type) (enc : TypeId × Value → H) (W : World) (base : Nat) (args : Array Value) (ds gs : List (DataW H)) (before : List MemPlace)
    (hval : ∀ (j : Nat) t v, Tryz.f7.params[j]? = some t → args[j]? = some v → Value.okWide Tryz.prog W .any base t v)
    (hW : DataW.Whole enc Tryz.prog Tryz.f7.params.toList Rows.shapeRightSpec.vars false W args.toList ds gs before) (hL : laidMetH Tryz.prog Rows.shapeRightRow.laid W) (hWt : (DataW.weightsEach Tryz.prog (Tryz.f7.params.toList ++ (OpenSpec.ofChange Rows.shapeRightSpec).bare.plain.varTypes Tryz.prog) (ds ++ gs)).all (· ≤ reachBytes) = true) (hsh : W.ShapedOpen Tryz.prog) :
    Calls Tryz.prog 7 args W fun e W' => ∃ v, e = .returned v ∧ Rows.shapeRightSpec.post enc Tryz.prog Tryz.f7 false true false false W args v W' := by
  have hW' := hW
  obtain ⟨p, q, hA0, hV, rfl, hfz, hnd⟩ := hW
  have hA : DataW.TrodAll enc Tryz.prog W 0 (fun _ => true) true Tryz.f7.params.toList args.toList ds p := hA0
  rw [Tryz.params7] at hA hval
  clear hA0
  obtain ⟨v0, vs0, d0, ds0, p0, q0, hargs0, hds0, hps0, h0, r0⟩ := trodAll_cons hA
  obtain ⟨hargs1, hds1, hps1⟩ := trodAll_nil r0
  subst hds1; subst hps1; subst hargs1; subst hds0; subst hps0
  obtain rfl : args = #[v0] := by cases args; simp_all
  obtain ⟨rfl, rfl⟩ := trodVars_none hV
  obtain ⟨st0, sz0, FA0, fc0, F0, PA0, pc0, P0, rfl, hp0, hf0, hpl0, hfl0, hx0, hy0⟩ := open_answer (hval 0 43 v0 rfl rfl) h0 (held_each (j := 0) hWt rfl rfl)
  simp only [List.append_nil] at hW'
  have hlt := fun x hx => hW'.lt x hx
  refine (shapeRightLaw_any st0 sz0 FA0 F0.length fc0 F0 PA0 pc0 P0.length P0 W rfl rfl hp0 hf0 hpl0 hfl0 hx0 hy0 (envR_of_shapeRight hL hsh)).mono fun e W' ⟨he, hb⟩ => ?_
  subst he
  refine ⟨_, rfl, post_of_below (pa := p0 ++ []) (pv := []) hW' (fun _ _ _ => trodAll_mk1 (shut_bool Tryz.underlying4 _)) (fun sp hsp => ?_) (fun _ _ => rfl) (by simp) hb (ok_one (by kernel_rfl) rfl (okWide_bool_mk Tryz.underlying4 _))⟩
  exact trodAll_cons_mk (WideElems.Trod_stays Tryz.laidOut (by kernel_rfl) (of_decide_eq_true (by kernel_rfl)) h0 (fun x hx => hb.same (hlt x (by simp [hx]))) (fun x hx => hsp x (by simp [hx]))) trodAll_mk0

set_option maxRecDepth 100000 in
theorem shapeRight_lifted (os : Os) (started : os.Started) (H : Type) (enc : TypeId × Value → H) (F : Stop.Interp) :
    ReturnsInHanded {} Tryz.checked os 7 .any ((OpenSpec.ofChange Rows.shapeRightSpec).preRow enc Tryz.prog Tryz.f7 Rows.shapeRightRow.domain false Rows.shapeRightRow.laid) (((OpenSpec.ofChange Rows.shapeRightSpec).at F).post enc Tryz.prog Tryz.f7 false true false false) := by
  obtain ⟨places, hx⟩ := shapeRight_reads os enc
  refine returnsInHanded_of_row (C := Tryz.checked) (s := OpenSpec.ofChange Rows.shapeRightSpec) Tryz.own started (by kernel_rfl) Tryz.func7
    (witness_row_at (enc := enc) (C := Tryz.checked) false (World.laidAll Tryz.prog os Rows.shapeRightRow.laid) #[.agg #[.int .i64 0, .slice none 0 0, .slice none 0 0, .int .i64 0]] (World.laidAll_os _ _ _) (by kernel_rfl) (by kernel_rfl) (by kernel_rfl)
      (OpenSpec.preRow_of_cond 8 hx (by kernel_rfl) (fun k hk => by cases hk) (by kernel_rfl) (shapeRight_met os _))) ?_
  intro W base args ds gs before hval hW _ _ hwt hL hsh _
  exact shapeRight_contract H enc W base args ds gs before hval hW hL hwt hsh

theorem shapeRight_said : Rows.ShapeRightSaid :=
  OpenClaim.holds_of_cond 7 Tryz.f7 rfl rfl rfl rfl rfl rfl rfl ⟨rfl, rfl, rfl, rfl, rfl⟩ rfl rfl rfl rfl rfl (by kernel_rfl) Tryz.func7 (by kernel_rfl)
    (of_decide_eq_true (by kernel_rfl)) (by unfold Func.isWrapper; first | (rw [if_pos (by decide +kernel)]; kernel_rfl) | (rw [if_neg (by decide +kernel)]; exact ⟨rfl, rfl⟩))
    (fun os started H enc _ F => by rw [OpenClaim.pre_eq_preRow]; exact shapeRight_lifted os started H enc F)

theorem shapeRight_plain (f : FuncId) (fn : Func) (hf : Tryz.pinned.checked.prog.funcNamed "mandoline/mandolinelaw15.ShapeRight" = some f) (hfn : Tryz.pinned.checked.prog.funcs[f]? = some fn) :
    true = Tryz.pinned.checked.prog.looks [] ∧ ∀ (j : Nat) t, fn.params[j]? = some t → Tryz.pinned.checked.prog.wantsStandIn t = false := by
  obtain rfl : f = 7 := Option.some.inj ((show Tryz.prog.funcNamed "mandoline/mandolinelaw15.ShapeRight" = some 7 by kernel_rfl).symm.trans hf) |>.symm
  obtain rfl : fn = Tryz.f7 := (Option.some.inj (Tryz.func7.symm.trans hfn)).symm
  refine ⟨by kernel_rfl, fun j t ht => ?_⟩
  rw [Tryz.params7] at ht
  have hm : t ∈ [43] := by simpa using Array.mem_of_getElem? ht
  have hall : ([43].all fun u => !Tryz.prog.wantsStandIn u) = true := by kernel_rfl
  exact (show Tryz.prog.wantsStandIn t = false by simpa using List.all_eq_true.1 hall t hm)

theorem shapeRight_card : Rows.ShapeRightCardSaid :=
  Claim7.holds_tied_plain_at .later [] _ _ _ _ shapeRight_said (fun _ h => by cases h) (by kernel_rfl) (fun _ h => by cases h) shapeRight_row_tie rfl ⟨rfl, rfl⟩ (by kernel_rfl) rfl shapeRight_plain (by kernel_rfl)
#print axioms shapeRight_card
end Go.Proofs.YtaaefgieklkekaaGreatDoor
