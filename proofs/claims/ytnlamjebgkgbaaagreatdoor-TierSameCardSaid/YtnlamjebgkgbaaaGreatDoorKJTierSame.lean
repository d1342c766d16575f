/- mandoline/mandolinelaw48.TierSame answers true whatever comes in, and what came in reads as it did: the tied card TierSameCardSaid, without a condition. -/
import Derived.Test.YtnlamjebgkgbaaaGreatDoorJTierSame25
import Derived.Test.YtnlamjebgkgbaaaGreatDoorJTierSame26
import Derived.Test.YtnlamjebgkgbaaaGreatDoorCards
import Derived.Test.YtnlamjebgkgbaaaGreatDoorTie
import Derived.LaidMore
namespace Go.Proofs.YtnlamjebgkgbaaaGreatDoor
open Go.ChangeShapes Go.WideShapes Go.ChangeAt Go.RowKit

set_option maxRecDepth 100000 in
/-- The heap that the door's own run leaves meets the row's list. -/
theorem tierSame_met (os : Os) (args : Array Value) : laidMetH Tryz.prog Rows.tierSameRow.laid ((World.doorLaid Tryz.prog 72 os).forCall (fun _ _ => 0) ⟨#[], args, []⟩).memory :=
  laidMetH_of_parts3 (fuel := 8) (laidMet_of_run' 8 (by kernel_rfl) (by kernel_rfl)) (by kernel_rfl) (by kernel_rfl)
set_option maxRecDepth 100000 in
theorem tierSame_reads (os : Os) {H : Type} (enc : TypeId × Value → H) : ∃ places, DataW.whole enc Tryz.prog ((World.doorLaid Tryz.prog 72 os).forCall (fun _ _ => 0) ⟨#[], #[.agg #[.int .i64 0, .int .i64 0, .slice none 0 0, .string ⟨#[]⟩, .int .u8 0, .int .u8 0]], []⟩).memory Tryz.f3.params.toList Rows.tierSameSpec.vars false (#[.agg #[.int .i64 0, .int .i64 0, .slice none 0 0, .string ⟨#[]⟩, .int .u8 0, .int .u8 0]] : Array Value).toList 8 = some ([.agg [.agg [.lit (.int .i64 0), .lit (.int .i64 0), .nil], .lit (.string []), .lit (.int .u8 0), .lit (.int .u8 0)]], [], places) :=
  ⟨[], by kernel_rfl⟩

set_option maxRecDepth 100000 in
/-- What the walk gives, for every argument and every world. -/
theorem tierSame_contract (H : Type) (enc : TypeId × Value → H) (W : World) (base : Nat) (args : Array Value) (ds gs : List (DataW H)) (before : List MemPlace)
    (hval : ∀ (j : Nat) t v, Tryz.f3.params[j]? = some t → args[j]? = some v → Value.okWide Tryz.prog W .any base t v)
    (hW : DataW.Whole enc Tryz.prog Tryz.f3.params.toList Rows.tierSameSpec.vars false W args.toList ds gs before) :
    Calls Tryz.prog 3 args W fun e W' => ∃ v, e = .returned v ∧ Rows.tierSameSpec.post enc Tryz.prog Tryz.f3 false true false false W args v W' := by
  have hW' := hW
  obtain ⟨p, q, hA0, hV, rfl, hfz, hnd⟩ := hW
  have hA : DataW.TrodAll enc Tryz.prog W 0 (fun _ => true) true Tryz.f3.params.toList args.toList ds p := hA0
  rw [Tryz.params3] at hA hval
  clear hA0
  obtain ⟨v0, vs0, d0, ds0, p0, q0, hargs0, hds0, hps0, h0, r0⟩ := trodAll_cons hA
  obtain ⟨hargs1, hds1, hps1⟩ := trodAll_nil r0
  subst hds1; subst hps1; subst hargs1; subst hds0; subst hps0
  obtain rfl : args = #[v0] := by cases args; simp_all
  obtain ⟨rfl, rfl⟩ := trodVars_none hV
  obtain ⟨na0, nb0, B0, dd0, os0, oo0, xx0, yy0, rfl, hsp0, hn0, hx0, hy0⟩ := open_pair (hval 0 26 v0 rfl rfl) h0
  simp only [List.append_nil] at hW'
  have hlt := fun x hx => hW'.lt x hx
  refine (tierSame_any na0 nb0 B0 dd0 os0 oo0 xx0 yy0 W hsp0 hn0 hx0 hy0).mono fun e W' ⟨he, hb⟩ => ?_
  subst he
  refine ⟨_, rfl, post_of_below (pa := p0 ++ []) (pv := []) hW' (fun _ _ _ => trodAll_mk1 (shut_bool Tryz.underlying4 _)) (fun sp hsp => ?_) (fun _ _ => rfl) (by simp) hb (ok_one (by kernel_rfl) rfl (okWide_bool_mk Tryz.underlying4 _))⟩
  exact trodAll_cons_mk (WideElems.Trod_stays Tryz.laidOut (by kernel_rfl) (of_decide_eq_true (by kernel_rfl)) h0 (fun x hx => hb.same (hlt x (by simp [hx]))) (fun x hx => hsp x (by simp [hx]))) trodAll_mk0

set_option maxRecDepth 100000 in
theorem tierSame_lifted (os : Os) (started : os.Started) (H : Type) (enc : TypeId × Value → H) (F : Stop.Interp) :
    ReturnsInHanded {} Tryz.checked os 3 .any ((OpenSpec.ofChange Rows.tierSameSpec).preRow enc Tryz.prog Tryz.f3 Rows.tierSameRow.domain false Rows.tierSameRow.laid) (((OpenSpec.ofChange Rows.tierSameSpec).at F).post enc Tryz.prog Tryz.f3 false true false false) := by
  obtain ⟨places, hx⟩ := tierSame_reads os enc
  refine returnsInHanded_of_row (C := Tryz.checked) (s := OpenSpec.ofChange Rows.tierSameSpec) Tryz.own started (by kernel_rfl) Tryz.func3
    (witness_row_at (enc := enc) (C := Tryz.checked) false (World.doorLaid Tryz.prog 72 os) #[.agg #[.int .i64 0, .int .i64 0, .slice none 0 0, .string ⟨#[]⟩, .int .u8 0, .int .u8 0]] rfl (by kernel_rfl) (by kernel_rfl) (by kernel_rfl)
      (OpenSpec.preRow_of_cond 8 hx (by kernel_rfl) (fun k hk => by cases hk) (by kernel_rfl) (tierSame_met os _))) ?_
  intro W base args ds gs before hval hW _ _ _ _ _ _
  exact tierSame_contract H enc W base args ds gs before hval hW

theorem tierSame_said : Rows.TierSameSaid :=
  OpenClaim.holds_of_cond 3 Tryz.f3 rfl rfl rfl rfl rfl rfl rfl ⟨rfl, rfl, rfl, rfl, rfl⟩ rfl rfl rfl rfl rfl (by kernel_rfl) Tryz.func3 (by kernel_rfl)
    (of_decide_eq_true (by kernel_rfl)) (by unfold Func.isWrapper; first | (rw [if_pos (by decide +kernel)]; kernel_rfl) | (rw [if_neg (by decide +kernel)]; exact ⟨rfl, rfl⟩))
    (fun os started H enc _ F => by rw [OpenClaim.pre_eq_preRow]; exact tierSame_lifted os started H enc F)

theorem tierSame_plain (f : FuncId) (fn : Func) (hf : Tryz.pinned.checked.prog.funcNamed "mandoline/mandolinelaw48.TierSame" = some f) (hfn : Tryz.pinned.checked.prog.funcs[f]? = some fn) :
    true = Tryz.pinned.checked.prog.looks [] ∧ ∀ (j : Nat) t, fn.params[j]? = some t → Tryz.pinned.checked.prog.wantsStandIn t = false := by
  obtain rfl : f = 3 := Option.some.inj ((show Tryz.prog.funcNamed "mandoline/mandolinelaw48.TierSame" = some 3 by kernel_rfl).symm.trans hf) |>.symm
  obtain rfl : fn = Tryz.f3 := (Option.some.inj (Tryz.func3.symm.trans hfn)).symm
  refine ⟨by kernel_rfl, fun j t ht => ?_⟩
  rw [Tryz.params3] at ht
  have hm : t ∈ [26] := by simpa using Array.mem_of_getElem? ht
  have hall : ([26].all fun u => !Tryz.prog.wantsStandIn u) = true := by kernel_rfl
  exact (show Tryz.prog.wantsStandIn t = false by simpa using List.all_eq_true.1 hall t hm)

theorem tierSame_card : Rows.TierSameCardSaid :=
  Claim7.holds_tied_plain_at .later [] _ _ _ _ tierSame_said (fun _ h => by cases h) (by kernel_rfl) (fun _ h => by cases h) tierSame_row_tie rfl ⟨rfl, rfl⟩ (by kernel_rfl) rfl tierSame_plain (by kernel_rfl)
#print axioms tierSame_card
end Go.Proofs.YtnlamjebgkgbaaaGreatDoor
