/- mandoline/mandolinelaw44.SessionPlays answers true whatever comes in, and .. -/
import Derived.Test.YtkkomffmnafjkaaGreatDoorZO56
import Derived.Test.YtkkomffmnafjkaaGreatDoorZR10
import Derived.Test.YtkkomffmnafjkaaGreatDoorCards
import Derived.Test.YtkkomffmnafjkaaGreatDoorTie
import Derived.LaidMore
import Derived.Lay
import Derived.Stop.Joined
set_option maxHeartbeats 16000000
set_option maxRecDepth 100000
set_option linter.all false
namespace Go.Proofs.YtkkomffmnafjkaaGreatDoor
open Go.ChangeShapes Go.WideShapes Go.ChangeAt Go.RowKit
theorem z174(os:Os)(args:Array Value):laidMetH Tryz.prog Rows.sessionPlaysRow.laid ((World.laidAll Tryz.prog os Rows.sessionPlaysRow.laid).forCall (fun _ _=>0) ⟨#[],args,[]⟩).memory:=by rw[MakeChecks.laidMetH_plain _ _ _ (by kernel_rfl)];exact laidMet_laidAll _ (by kernel_rfl) (by kernel_rfl)
theorem q172(os:Os){H:Type}(enc:TypeId×Value→H):∃places,DataW.whole enc Tryz.prog ((World.laidAll Tryz.prog os Rows.sessionPlaysRow.laid).forCall (fun _ _=>0) ⟨#[],#[.agg #[.bool false,.string ⟨#[]⟩,.slice none 0 0,.slice none 0 0,.slice none 0 0,.bool false,.bool false,.int .i64 0,.int .i64 0,.string ⟨#[]⟩,.bool false,.int .i64 0,.int .i64 0,.int .i64 0,.int .i64 0,.int .i64 0,.int .i64 0,.int .i64 0,.int .i64 0,.int .i64 0,.int .i64 0,.int .i64 0,.int .i64 0,.int .i64 0,.slice none 0 0]],[]⟩).memory Tryz.f3.params.toList Rows.sessionPlaysSpec.vars false (#[.agg #[.bool false,.string ⟨#[]⟩,.slice none 0 0,.slice none 0 0,.slice none 0 0,.bool false,.bool false,.int .i64 0,.int .i64 0,.string ⟨#[]⟩,.bool false,.int .i64 0,.int .i64 0,.int .i64 0,.int .i64 0,.int .i64 0,.int .i64 0,.int .i64 0,.int .i64 0,.int .i64 0,.int .i64 0,.int .i64 0,.int .i64 0,.int .i64 0,.slice none 0 0]]:Array Value).toList 8=some ([.agg [.agg [.lit (.bool false),.lit (.string []),.nil,.agg [.nil,.nil,.lit (.bool false),.lit (.bool false),.lit (.int .i64 0),.lit (.int .i64 0),.agg [.lit (.string []),.lit (.bool false)]]],.agg [.lit (.int .i64 0),.lit (.int .i64 0),.lit (.int .i64 0)],.agg [.lit (.int .i64 0),.lit (.int .i64 0),.lit (.int .i64 0),.lit (.int .i64 0),.lit (.int .i64 0),.lit (.int .i64 0),.lit (.int .i64 0),.lit (.int .i64 0),.lit (.int .i64 0),.lit (.int .i64 0)],.nil]],[],places):=⟨[],by kernel_rfl⟩
theorem q170(H:Type)(enc:TypeId×Value→H)(W:World)(base:Nat)(args:Array Value)(ds gs:List (DataW H))(before:List MemPlace)(hval:∀(j:Nat)t v,Tryz.f3.params[j]?=some t→args[j]?=some v→Value.okWide Tryz.prog W .any base t v)(hW:DataW.Whole enc Tryz.prog Tryz.f3.params.toList Rows.sessionPlaysSpec.vars false W args.toList ds gs before)(hL:laidMetH Tryz.prog Rows.sessionPlaysRow.laid W)(hWt:(DataW.weightsEach Tryz.prog (Tryz.f3.params.toList++(OpenSpec.ofChange Rows.sessionPlaysSpec).bare.plain.varTypes Tryz.prog) (ds++gs)).all (·≤reachBytes)=true):Calls Tryz.prog 3 args W fun e W'=>∃v,e=.returned v∧Rows.sessionPlaysSpec.post enc Tryz.prog Tryz.f3 false true false false W args v W':=by
 have hW':=hW;obtain⟨p,q,hA0,hV,rfl,hfz,hnd⟩:=hW;have hA:DataW.TrodAll enc Tryz.prog W 0 (fun _=>true) true Tryz.f3.params.toList args.toList ds p:=hA0;rw[Tryz.params3]at hA hval;clear hA0;obtain⟨v0,vs0,d0,ds0,p0,q0,hargs0,hds0,hps0,h0,r0⟩:=trodAll_cons hA;obtain⟨hargs1,hds1,hps1⟩:=trodAll_nil r0;subst hds1;subst hps1;subst hargs1;subst hds0;subst hps0;obtain rfl:args=#[v0]:=by cases args;simp_all
 obtain⟨rfl,rfl⟩:=trodVars_none hV;obtain⟨rq0,A0,c0,Ab0,cb0,Ac0,cc0,aa0,ab0,ac0,g0,LA0,lc0,L0,rfl,hq0,_,_,_,hcs0,hL0,hll0,ho0,hrt0⟩:=j104 (hval 0 36 v0 rfl rfl) h0 (k61 (j:=0) hWt rfl rfl);simp only[T_]at hW';have hlt:=fun x hx=>hW'.lt x hx;refine(y173 rq0 A0 c0 Ab0 cb0 Ac0 cc0 aa0 ab0 ac0 g0 LA0 lc0 L0 W hq0 hrt0 hcs0 hL0 hll0 ho0 (v170 hL)).mono fun e W'⟨he,hb⟩=>?_;subst he;refine⟨_,rfl,y69 (pa:=p0++[]) (pv:=[]) hW' (fun _ _ _=>trodAll_mk1 (shut_bool am_ _)) (fun sp hsp=>?_) (fun _ _=>rfl) (by simp) hb (ok_one (by kernel_rfl) rfl (okWide_bool_mk am_ _))⟩;exact trodAll_cons_mk (WideElems.Trod_stays Tryz.laidOut (by kernel_rfl) (aR_ (by kernel_rfl)) h0 (fun x hx=>hb.same (hlt x (by simp[hx]))) (fun x hx=>hsp x (by simp[hx]))) trodAll_mk0
theorem x170 (os : Os) (started : os.Started) (H : Type) (enc : TypeId × Value → H) (F : Stop.Interp) :
    ReturnsInHanded {} Tryz.checked os 3 .any ((OpenSpec.ofChange Rows.sessionPlaysSpec).preRow enc Tryz.prog Tryz.f3 Rows.sessionPlaysRow.domain false Rows.sessionPlaysRow.laid) (((OpenSpec.ofChange Rows.sessionPlaysSpec).at F).post enc Tryz.prog Tryz.f3 false true false false) := by
  obtain ⟨places, hx⟩ := q172 os enc
  refine returnsInHanded_of_row (C := Tryz.checked) (s := OpenSpec.ofChange Rows.sessionPlaysSpec) Tryz.own started (by kernel_rfl) Tryz.func3
    (witness_row_at (enc := enc) (C := Tryz.checked) false (World.laidAll Tryz.prog os Rows.sessionPlaysRow.laid) #[.agg #[.bool false, .string ⟨#[]⟩, .slice none 0 0, .slice none 0 0, .slice none 0 0, .bool false, .bool false, .int .i64 0, .int .i64 0, .string ⟨#[]⟩, .bool false, .int .i64 0, .int .i64 0, .int .i64 0, .int .i64 0, .int .i64 0, .int .i64 0, .int .i64 0, .int .i64 0, .int .i64 0, .int .i64 0, .int .i64 0, .int .i64 0, .int .i64 0, .slice none 0 0]] (World.laidAll_os _ _ _) (by kernel_rfl) (by kernel_rfl) (by kernel_rfl)
      (OpenSpec.preRow_of_cond 8 hx (by kernel_rfl) (fun k hk => by cases hk) (by kernel_rfl) (z174 os _))) ?_
  intro W base args ds gs before hval hW _ _ hwt hL _ _
  exact q170 H enc W base args ds gs before hval hW hL hwt
theorem j171{a b:Bool}(h:a=true)(k:b=true):(a&&b)=true:=by rw[h,k];rfl
theorem w170:joinedFacts Tryz.pinned.checked.prog 3 Tryz.f3 (OpenSpec.ofChange Rows.sessionPlaysSpec).bare Rows.sessionPlaysRow=true:=by
 unfold joinedFacts;repeat' with_reducible refine j171 ?_ ?_
 all_goals as_aux_lemma =>kernel_rfl
theorem v172:Rows.SessionPlaysSaid:=OpenClaim.holds_of_cond 3 Tryz.f3 rfl rfl rfl rfl rfl rfl rfl ⟨rfl,rfl,rfl,rfl,rfl⟩ rfl rfl rfl rfl rfl (by kernel_rfl) Tryz.func3 w170 (aR_ (by kernel_rfl)) (by unfold Func.isWrapper;first|(rw[w_ (by decide+kernel)];kernel_rfl)|(rw[q_ (by decide+kernel)];exact⟨rfl,rfl⟩)) (fun os started H enc _ F=>by rw[OpenClaim.pre_eq_preRow];exact x170 os started H enc F)
theorem j172(f:FuncId)(fn:Func)(hf:Tryz.pinned.checked.prog.funcNamed "mandoline/mandolinelaw44.SessionPlays" =some f)(hfn:Tryz.pinned.checked.prog.funcs[f]?=some fn):true=Tryz.pinned.checked.prog.looks []∧∀(j:Nat)t,fn.params[j]?=some t→Tryz.pinned.checked.prog.wantsStandIn t=false:=by
 obtain rfl:f=3:=c_ ((show Tryz.prog.funcNamed "mandoline/mandolinelaw44.SessionPlays" =some 3 by kernel_rfl).symm.trans hf)|>.symm;obtain rfl:fn=Tryz.f3:=(c_ (Tryz.func3.symm.trans hfn)).symm;refine⟨by kernel_rfl,fun j t ht=>?_⟩;rw[Tryz.params3]at ht;have hm:t∈[36]:=by simpa using Array.mem_of_getElem? ht
 have hall:([36].all fun u=>!Tryz.prog.wantsStandIn u)=true:=by kernel_rfl
 exact(show Tryz.prog.wantsStandIn t=false by simpa using av_.1 hall t hm)
theorem sessionPlays_card:Rows.SessionPlaysCardSaid:=Claim7.holds_tied_plain_at .later [] _ _ _ _ v172 (fun _ h=>by cases h) (by kernel_rfl) (fun _ h=>by cases h) sessionPlays_row_tie rfl ⟨rfl,rfl⟩ (by kernel_rfl) rfl j172 (by kernel_rfl)
#print axioms sessionPlays_card
end Go.Proofs.YtkkomffmnafjkaaGreatDoor
