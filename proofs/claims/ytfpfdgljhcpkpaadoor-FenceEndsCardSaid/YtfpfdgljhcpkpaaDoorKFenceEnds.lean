/- mandoline/mandolinelaw37.FenceEnds answers true whatever comes in, and what came in reads as it did: the tied card FenceEndsCardSaid, without a condition. -/
import Derived.Test.YtfpfdgljhcpkpaaDoorG5
import Derived.Test.YtfpfdgljhcpkpaaDoorR2
import Derived.Test.YtfpfdgljhcpkpaaDoorCards
import Derived.Test.YtfpfdgljhcpkpaaDoorTie
import Derived.LaidMore
namespace Go.Proofs.YtfpfdgljhcpkpaaDoor
open Go.ChangeShapes Go.WideShapes Go.ChangeAt Go.RowKit

set_option maxRecDepth 100000 in
/-- The heap that the door's own run leaves meets the row's list. -/
theorem fenceEnds_met (os : Os) (args : Array Value) : laidMetH Tryd.prog Rows.fenceEndsRow.laid ((World.doorLaid Tryd.prog 77 os).forCall (fun _ _ => 0) ⟨#[], args, []⟩).memory :=
  laidMetH_of_parts3 (fuel := 8) (laidMet_of_run' 8 (by kernel_rfl) (by kernel_rfl)) (by kernel_rfl) (by kernel_rfl)
set_option maxRecDepth 100000 in
theorem fenceEnds_reads (os : Os) {H : Type} (enc : TypeId × Value → H) : ∃ places, DataW.whole enc Tryd.prog ((World.doorLaid Tryd.prog 77 os).forCall (fun _ _ => 0) ⟨#[], #[.agg #[.bool false, .slice none 0 0, .slice none 0 0, .slice none 0 0, .bool false, .bool false, .int .i64 0, .bool false], .slice none 0 0], []⟩).memory Tryd.f3.params.toList Rows.fenceEndsSpec.vars false (#[.agg #[.bool false, .slice none 0 0, .slice none 0 0, .slice none 0 0, .bool false, .bool false, .int .i64 0, .bool false], .slice none 0 0] : Array Value).toList 8 = some ([.agg [.lit (.bool false), .nil, .nil, .nil, .lit (.bool false), .lit (.bool false), .lit (.int .i64 0), .lit (.bool false)], .nil], [], places) :=
  ⟨[], by kernel_rfl⟩

set_option maxRecDepth 100000 in
/-- What the walk gives, for every argument and every world. -/
theorem fenceEnds_contract (H : Type) (enc : TypeId × Value → H) (W : World) (base : Nat) (args : Array Value) (ds gs : List (DataW H)) (before : List MemPlace)
    (hval : ∀ (j : Nat) t v, Tryd.f3.params[j]? = some t → args[j]? = some v → Value.okWide Tryd.prog W .any base t v)
    (hW : DataW.Whole enc Tryd.prog Tryd.f3.params.toList Rows.fenceEndsSpec.vars false W args.toList ds gs before) (hL : laidMetH Tryd.prog Rows.fenceEndsRow.laid W) :
    Calls Tryd.prog 3 args W fun e W' => ∃ v, e = .returned v ∧ Rows.fenceEndsSpec.post enc Tryd.prog Tryd.f3 false true false false W args v W' := by
  have hW' := hW
  obtain ⟨p, q, hA0, hV, rfl, hfz, hnd⟩ := hW
  have hA : DataW.TrodAll enc Tryd.prog W 0 (fun _ => true) true Tryd.f3.params.toList args.toList ds p := hA0
  rw [Tryd.params3] at hA hval
  clear hA0
  obtain ⟨v0, vs0, d0, ds0, p0, q0, hargs0, hds0, hps0, h0, r0⟩ := trodAll_cons hA
  obtain ⟨v1, vs1, d1, ds1, p1, q1, hargs1, hds1, hps1, h1, r1⟩ := trodAll_cons r0
  obtain ⟨hargs2, hds2, hps2⟩ := trodAll_nil r1
  subst hds2; subst hps2; subst hargs2; subst hds1; subst hps1; subst hargs1; subst hds0; subst hps0
  obtain rfl : args = #[v0, v1] := by cases args; simp_all
  obtain ⟨rfl, rfl⟩ := trodVars_none hV
  obtain ⟨he, A1, c1, R, A2, c2, Hv, A3, c3, Fl, tu, fa, ag, jo, rfl, hs1, hs2, hs3, hm1, hm2, hm3⟩ := open_state (hval 0 24 v0 rfl rfl) h0
  obtain ⟨B1, dd1, L1, rfl, hsp1, hn1⟩ := open_steps (hval 1 25 v1 rfl rfl) h1
  simp only [List.append_nil] at hW'
  have hlt := fun x hx => hW'.lt x hx
  refine (fenceEnds_any he A1 c1 R A2 c2 Hv A3 c3 Fl tu fa ag jo B1 dd1 L1 W hs1 hs2 hs3 hm1 hm2 hm3 hsp1 hn1 (names_of_laid hL)).mono fun e W' ⟨he, hb⟩ => ?_
  subst he
  refine ⟨_, rfl, post_of_below (pa := p0 ++ (p1 ++ [])) (pv := []) hW' (fun _ _ _ => trodAll_mk1 (shut_bool Tryd.underlying4 _)) (fun sp hsp => ?_) (fun _ _ => rfl) (by simp) hb (ok_one (by kernel_rfl) rfl (okWide_bool_mk Tryd.underlying4 _))⟩
  exact trodAll_cons_mk (WideElems.Trod_stays Tryd.laidOut (by kernel_rfl) (of_decide_eq_true (by kernel_rfl)) h0 (fun x hx => hb.same (hlt x (by simp [hx]))) (fun x hx => hsp x (by simp [hx]))) (trodAll_cons_mk (WideElems.Trod_stays Tryd.laidOut (by kernel_rfl) (of_decide_eq_true (by kernel_rfl)) h1 (fun x hx => hb.same (hlt x (by simp [hx]))) (fun x hx => hsp x (by simp [hx]))) trodAll_mk0)

set_option maxRecDepth 100000 in
theorem fenceEnds_lifted (os : Os) (started : os.Started) (H : Type) (enc : TypeId × Value → H) (F : Stop.Interp) :
    ReturnsInHanded {} Tryd.checked os 3 .any ((OpenSpec.ofChange Rows.fenceEndsSpec).preRow enc Tryd.prog Tryd.f3 Rows.fenceEndsRow.domain false Rows.fenceEndsRow.laid) (((OpenSpec.ofChange Rows.fenceEndsSpec).at F).post enc Tryd.prog Tryd.f3 false true false false) := by
  obtain ⟨places, hx⟩ := fenceEnds_reads os enc
  refine returnsInHanded_of_row (C := Tryd.checked) (s := OpenSpec.ofChange Rows.fenceEndsSpec) Tryd.own started (by kernel_rfl) Tryd.func3
    (witness_row_at (enc := enc) (C := Tryd.checked) false (World.doorLaid Tryd.prog 77 os) #[.agg #[.bool false, .slice none 0 0, .slice none 0 0, .slice none 0 0, .bool false, .bool false, .int .i64 0, .bool false], .slice none 0 0] rfl (by kernel_rfl) (by kernel_rfl) (by kernel_rfl)
      (OpenSpec.preRow_of_cond 8 hx (by kernel_rfl) (fun k hk => by cases hk) (by kernel_rfl) (fenceEnds_met os _))) ?_
  intro W base args ds gs before hval hW _ _ _ hL _ _
  exact fenceEnds_contract H enc W base args ds gs before hval hW hL

theorem fenceEnds_said : Rows.FenceEndsSaid :=
  OpenClaim.holds_of_cond 3 Tryd.f3 rfl rfl rfl rfl rfl rfl rfl ⟨rfl, rfl, rfl, rfl, rfl⟩ rfl rfl rfl rfl rfl (by kernel_rfl) Tryd.func3 (by kernel_rfl)
    (of_decide_eq_true (by kernel_rfl)) (by unfold Func.isWrapper; first | (rw [if_pos (by decide +kernel)]; kernel_rfl) | (rw [if_neg (by decide +kernel)]; exact ⟨rfl, rfl⟩))
    (fun os started H enc _ F => by rw [OpenClaim.pre_eq_preRow]; exact fenceEnds_lifted os started H enc F)

theorem fenceEnds_plain (f : FuncId) (fn : Func) (hf : Tryd.pinned.checked.prog.funcNamed "mandoline/mandolinelaw37.FenceEnds" = some f) (hfn : Tryd.pinned.checked.prog.funcs[f]? = some fn) :
    true = Tryd.pinned.checked.prog.looks [] ∧ ∀ (j : Nat) t, fn.params[j]? = some t → Tryd.pinned.checked.prog.wantsStandIn t = false := by
  obtain rfl : f = 3 := Option.some.inj ((show Tryd.prog.funcNamed "mandoline/mandolinelaw37.FenceEnds" = some 3 by kernel_rfl).symm.trans hf) |>.symm
  obtain rfl : fn = Tryd.f3 := (Option.some.inj (Tryd.func3.symm.trans hfn)).symm
  refine ⟨by kernel_rfl, fun j t ht => ?_⟩
  rw [Tryd.params3] at ht
  have hm : t ∈ [24, 25] := by simpa using Array.mem_of_getElem? ht
  have hall : ([24, 25].all fun u => !Tryd.prog.wantsStandIn u) = true := by kernel_rfl
  exact (show Tryd.prog.wantsStandIn t = false by simpa using List.all_eq_true.1 hall t hm)

theorem fenceEnds_card : Rows.FenceEndsCardSaid :=
  Claim7.holds_tied_plain_at .later [] _ _ _ _ fenceEnds_said (fun _ h => by cases h) (by kernel_rfl) (fun _ h => by cases h) fenceEnds_row_tie rfl ⟨rfl, rfl⟩ (by kernel_rfl) rfl fenceEnds_plain (by kernel_rfl)
#print axioms fenceEnds_card
end Go.Proofs.YtfpfdgljhcpkpaaDoor
