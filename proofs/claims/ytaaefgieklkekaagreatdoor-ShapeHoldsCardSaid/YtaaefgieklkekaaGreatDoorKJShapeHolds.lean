/- mandoline/mandolinelaw15.ShapeHolds answers true whatever comes in, and what came in reads as it did: the tied card ShapeHoldsCardSaid, without a condition. -/
import Derived.Test.YtaaefgieklkekaaGreatDoorZL32
import Derived.Test.YtaaefgieklkekaaGreatDoorZR8
import Derived.Test.YtaaefgieklkekaaGreatDoorCards
import Derived.Test.YtaaefgieklkekaaGreatDoorTie
import Derived.LaidMore
import Derived.Lay
import Derived.Stop.Joined
import Derived.Test.YtaaefgieklkekaaGreatDoorZR9
namespace Go.Proofs.YtaaefgieklkekaaGreatDoor
open Go.ChangeShapes Go.WideShapes Go.ChangeAt Go.RowKit

set_option maxRecDepth 100000 in
/-- The heap that the door's own run leaves meets the row's list. -/
theorem shapeHolds_met (os : Os) (args : Array Value) : laidMetH Tryz.prog Rows.shapeHoldsRow.laid ((World.laidAll Tryz.prog os Rows.shapeHoldsRow.laid).forCall (fun _ _ => 0) ⟨#[], args, []⟩).memory :=
  by rw [MakeChecks.laidMetH_plain _ _ _ (by kernel_rfl)]; exact laidMet_laidAll _ (by kernel_rfl) (by kernel_rfl)
set_option maxRecDepth 100000 in
theorem shapeHolds_reads (os : Os) {H : Type} (enc : TypeId × Value → H) : ∃ places, DataW.whole enc Tryz.prog ((World.laidAll Tryz.prog os Rows.shapeHoldsRow.laid).forCall (fun _ _ => 0) ⟨#[], #[.agg zeroAsk], []⟩).memory Tryz.f6.params.toList Rows.shapeHoldsSpec.vars false (#[.agg zeroAsk] : Array Value).toList 8 = some ([.agg [.agg [.lit (.bool false), .lit (.string []), .nil, .agg [.nil, .nil, .lit (.bool false), .lit (.bool false), .lit (.int .i64 0), .lit (.int .i64 0), .agg [.lit (.string []), .lit (.bool false)]]], .agg [.agg [.lit (.string []), .lit (.bool false)], .lit (.int .i64 0), .lit (.int .i64 0), .lit (.int .i64 0), .lit (.int .i64 0), .lit (.int .i64 0), .lit (.int .i64 0), .nil, .lit (.string []), .lit (.bool false)], .lit (.int .i64 0), .agg [.lit (.int .i64 0), .lit (.int .i64 0), .lit (.int .i64 0), .lit (.int .i64 0), .lit (.int .i64 0), .lit (.int .i64 0), .lit (.int .i64 0), .lit (.int .i64 0), .lit (.int .i64 0), .lit (.int .i64 0)], .lit (.int .i64 0)]], [], places) :=
  ⟨[], by kernel_rfl⟩

set_option maxHeartbeats 4000000 in
set_option maxRecDepth 100000 in
/-- What the walk gives, for every argument and every world. -/
theorem shapeHolds_contract (H : Type) (enc : TypeId × Value → H) (W : World) (base : Nat) (args : Array Value) (ds gs : List (DataW H)) (before : List MemPlace)
    (hval : ∀ (j : Nat) t v, Tryz.f6.params[j]? = some t → args[j]? = some v → Value.okWide Tryz.prog W .any base t v)
    (hW : DataW.Whole enc Tryz.prog Tryz.f6.params.toList Rows.shapeHoldsSpec.vars false W args.toList ds gs before) (hL : laidMetH Tryz.prog Rows.shapeHoldsRow.laid W) (hWt : (DataW.weightsEach Tryz.prog (Tryz.f6.params.toList ++ (OpenSpec.ofChange Rows.shapeHoldsSpec).bare.plain.varTypes Tryz.prog) (ds ++ gs)).all (· ≤ reachBytes) = true) (hsh : W.ShapedOpen Tryz.prog) :
    Calls Tryz.prog 6 args W fun e W' => ∃ v, e = .returned v ∧ Rows.shapeHoldsSpec.post enc Tryz.prog Tryz.f6 false true false false W args v W' := by
  have hW' := hW
  obtain ⟨p, q, hA0, hV, rfl, hfz, hnd⟩ := hW
  have hA : DataW.TrodAll enc Tryz.prog W 0 (fun _ => true) true Tryz.f6.params.toList args.toList ds p := hA0
  rw [Tryz.params6] at hA hval
  clear hA0
  obtain ⟨v0, vs0, d0, ds0, p0, q0, hargs0, hds0, hps0, h0, r0⟩ := trodAll_cons hA
  obtain ⟨hargs1, hds1, hps1⟩ := trodAll_nil r0
  subst hds1; subst hps1; subst hargs1; subst hds0; subst hps0
  obtain rfl : args = #[v0] := by cases args; simp_all
  obtain ⟨rfl, rfl⟩ := trodVars_none hV
  obtain ⟨rq0, m0, KA0, kc0, o0, g0, sd0, rfl, hsp0, hks0, hcs0, hsd0⟩ := open_ask (hval 0 36 v0 rfl rfl) h0
  simp only [List.append_nil] at hW'
  have hlt := fun x hx => hW'.lt x hx
  refine (shapeHolds_any rq0 m0 KA0 kc0 o0 g0 sd0 W hsp0 hks0 hcs0 hsd0 (envR_of_shapeHolds hL hsh)).mono fun e W' ⟨he, hb⟩ => ?_
  subst he
  refine ⟨_, rfl, post_of_below (pa := p0 ++ []) (pv := []) hW' (fun _ _ _ => trodAll_mk1 (shut_bool Tryz.underlying4 _)) (fun sp hsp => ?_) (fun _ _ => rfl) (by simp) hb (ok_one (by kernel_rfl) rfl (okWide_bool_mk Tryz.underlying4 _))⟩
  exact trodAll_cons_mk (WideElems.Trod_stays Tryz.laidOut (by kernel_rfl) (of_decide_eq_true (by kernel_rfl)) h0 (fun x hx => hb.same (hlt x (by simp [hx]))) (fun x hx => hsp x (by simp [hx]))) trodAll_mk0

set_option maxRecDepth 100000 in
theorem shapeHolds_lifted (os : Os) (started : os.Started) (H : Type) (enc : TypeId × Value → H) (F : Stop.Interp) :
    ReturnsInHanded {} Tryz.checked os 6 .any ((OpenSpec.ofChange Rows.shapeHoldsSpec).preRow enc Tryz.prog Tryz.f6 Rows.shapeHoldsRow.domain false Rows.shapeHoldsRow.laid) (((OpenSpec.ofChange Rows.shapeHoldsSpec).at F).post enc Tryz.prog Tryz.f6 false true false false) := by
  obtain ⟨places, hx⟩ := shapeHolds_reads os enc
  refine returnsInHanded_of_row (C := Tryz.checked) (s := OpenSpec.ofChange Rows.shapeHoldsSpec) Tryz.own started (by kernel_rfl) Tryz.func6
    (witness_row_at (enc := enc) (C := Tryz.checked) false (World.laidAll Tryz.prog os Rows.shapeHoldsRow.laid) #[.agg zeroAsk] (World.laidAll_os _ _ _) (by kernel_rfl) (by kernel_rfl) (by kernel_rfl)
      (OpenSpec.preRow_of_cond 8 hx (by kernel_rfl) (fun k hk => by cases hk) (by kernel_rfl) (shapeHolds_met os _))) ?_
  intro W base args ds gs before hval hW _ _ hwt hL hsh _
  exact shapeHolds_contract H enc W base args ds gs before hval hW hL hwt hsh

theorem shapeHolds_said : Rows.ShapeHoldsSaid :=
  OpenClaim.holds_of_cond 6 Tryz.f6 rfl rfl rfl rfl rfl rfl rfl ⟨rfl, rfl, rfl, rfl, rfl⟩ rfl rfl rfl rfl rfl (by kernel_rfl) Tryz.func6 (by kernel_rfl)
    (of_decide_eq_true (by kernel_rfl)) (by unfold Func.isWrapper; first | (rw [if_pos (by decide +kernel)]; kernel_rfl) | (rw [if_neg (by decide +kernel)]; exact ⟨rfl, rfl⟩))
    (fun os started H enc _ F => by rw [OpenClaim.pre_eq_preRow]; exact shapeHolds_lifted os started H enc F)

theorem shapeHolds_plain (f : FuncId) (fn : Func) (hf : Tryz.pinned.checked.prog.funcNamed "mandoline/mandolinelaw15.ShapeHolds" = some f) (hfn : Tryz.pinned.checked.prog.funcs[f]? = some fn) :
    true = Tryz.pinned.checked.prog.looks [] ∧ ∀ (j : Nat) t, fn.params[j]? = some t → Tryz.pinned.checked.prog.wantsStandIn t = false := by
  obtain rfl : f = 6 := Option.some.inj ((show Tryz.prog.funcNamed "mandoline/mandolinelaw15.ShapeHolds" = some 6 by kernel_rfl).symm.trans hf) |>.symm
  obtain rfl : fn = Tryz.f6 := (Option.some.inj (Tryz.func6.symm.trans hfn)).symm
  refine ⟨by kernel_rfl, fun j t ht => ?_⟩
  rw [Tryz.params6] at ht
  have hm : t ∈ [36] := by simpa using Array.mem_of_getElem? ht
  have hall : ([36].all fun u => !Tryz.prog.wantsStandIn u) = true := by kernel_rfl
  exact (show Tryz.prog.wantsStandIn t = false by simpa using List.all_eq_true.1 hall t hm)

theorem shapeHolds_card : Rows.ShapeHoldsCardSaid :=
  Claim7.holds_tied_plain_at .later [] _ _ _ _ shapeHolds_said (fun _ h => by cases h) (by kernel_rfl) (fun _ h => by cases h) shapeHolds_row_tie rfl ⟨rfl, rfl⟩ (by kernel_rfl) rfl shapeHolds_plain (by kernel_rfl)
#print axioms shapeHolds_card
end Go.Proofs.YtaaefgieklkekaaGreatDoor
