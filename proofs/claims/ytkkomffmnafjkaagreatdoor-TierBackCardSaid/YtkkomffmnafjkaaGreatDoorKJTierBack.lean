/- mandoline/mandolinelaw48.TierBack answers true whatever comes in, and what .. -/
import Derived.Test.YtkkomffmnafjkaaGreatDoorZP26
import Derived.Test.YtkkomffmnafjkaaGreatDoorZR11
import Derived.Test.YtkkomffmnafjkaaGreatDoorCards
import Derived.Test.YtkkomffmnafjkaaGreatDoorTie
import Derived.LaidMore
import Derived.Lay
import Derived.Stop.Joined
set_option maxHeartbeats 16000000
set_option maxRecDepth 100000
set_option linter.all false
namespace Go.Proofs.YtkkomffmnafjkaaGreatDoor
open Go.ChangeShapes Go.WideShapes Go.ChangeAt Go.RowKit
theorem k204(os:Os)(args:Array Value):laidMetH Tryz.prog Rows.tierBackRow.laid ((World.laidAll Tryz.prog os Rows.tierBackRow.laid).forCall (fun _ _=>0) ⟨#[],args,[]⟩).memory:=by rw[MakeChecks.laidMetH_plain _ _ _ (by kernel_rfl)];exact laidMet_laidAll _ (by kernel_rfl) (by kernel_rfl)
theorem q199(os:Os){H:Type}(enc:TypeId×Value→H):∃places,DataW.whole enc Tryz.prog ((World.laidAll Tryz.prog os Rows.tierBackRow.laid).forCall (fun _ _=>0) ⟨#[],#[.agg #[.string ⟨#[]⟩,.int .i64 0,.int .i64 0,.string ⟨#[]⟩,.bool false,.string ⟨#[]⟩,.bool false],.agg #[.string ⟨#[]⟩,.bool false,.int .i64 0,.int .i64 0,.int .i64 0,.int .i64 0,.int .i64 0,.int .i64 0,.slice none 0 0,.string ⟨#[]⟩,.bool false],.int .i64 0],[]⟩).memory Tryz.f4.params.toList Rows.tierBackSpec.vars false (#[.agg #[.string ⟨#[]⟩,.int .i64 0,.int .i64 0,.string ⟨#[]⟩,.bool false,.string ⟨#[]⟩,.bool false],.agg #[.string ⟨#[]⟩,.bool false,.int .i64 0,.int .i64 0,.int .i64 0,.int .i64 0,.int .i64 0,.int .i64 0,.slice none 0 0,.string ⟨#[]⟩,.bool false],.int .i64 0]:Array Value).toList 8=some ([.agg [.lit (.string []),.agg [.lit (.int .i64 0),.lit (.int .i64 0)],.agg [.lit (.string []),.lit (.bool false)],.agg [.lit (.string []),.lit (.bool false)]],.agg [.agg [.lit (.string []),.lit (.bool false)],.lit (.int .i64 0),.lit (.int .i64 0),.lit (.int .i64 0),.lit (.int .i64 0),.lit (.int .i64 0),.lit (.int .i64 0),.nil,.lit (.string []),.lit (.bool false)],.lit (.int .i64 0)],[],places):=⟨[],by kernel_rfl⟩
theorem y193(H:Type)(enc:TypeId×Value→H)(W:World)(base:Nat)(args:Array Value)(ds gs:List (DataW H))(before:List MemPlace)(hval:∀(j:Nat)t v,Tryz.f4.params[j]?=some t→args[j]?=some v→Value.okWide Tryz.prog W .any base t v)(hW:DataW.Whole enc Tryz.prog Tryz.f4.params.toList Rows.tierBackSpec.vars false W args.toList ds gs before)(hL:laidMetH Tryz.prog Rows.tierBackRow.laid W)(hWt:(DataW.weightsEach Tryz.prog (Tryz.f4.params.toList++(OpenSpec.ofChange Rows.tierBackSpec).bare.plain.varTypes Tryz.prog) (ds++gs)).all (·≤reachBytes)=true)(hsh:W.ShapedOpen Tryz.prog):Calls Tryz.prog 4 args W fun e W'=>∃v,e=.returned v∧Rows.tierBackSpec.post enc Tryz.prog Tryz.f4 false true false false W args v W':=by
 have hW':=hW;obtain⟨p,q,hA0,hV,rfl,hfz,hnd⟩:=hW;have hA:DataW.TrodAll enc Tryz.prog W 0 (fun _=>true) true Tryz.f4.params.toList args.toList ds p:=hA0;rw[Tryz.params4]at hA hval;clear hA0;obtain⟨v0,vs0,d0,ds0,p0,q0,hargs0,hds0,hps0,h0,r0⟩:=trodAll_cons hA;obtain⟨v1,vs1,d1,ds1,p1,q1,hargs1,hds1,hps1,h1,r1⟩:=trodAll_cons r0;obtain⟨v2,vs2,d2,ds2,p2,q2,hargs2,hds2,hps2,h2,r2⟩:=trodAll_cons r1;obtain⟨hargs3,hds3,hps3⟩:=trodAll_nil r2;subst hds3;subst hps3;subst hargs3;subst hds2;subst hps2;subst hargs2;subst hds1;subst hps1;subst hargs1;subst hds0;subst hps0;obtain rfl:args=#[v0,v1,v2]:=by cases args;simp_all
 obtain⟨rfl,rfl⟩:=trodVars_none hV;obtain⟨ob0,fr0,te0,mt0,mw0,nt0,nw0,rfl,_⟩:=q210 (hval 0 61 v0 rfl rfl) h0;obtain⟨m1,KA1,kc1,rfl,hks1⟩:=y214 (hval 1 45 v1 rfl rfl) h1;obtain⟨n2,rfl,_,_,hw2⟩:=open_int Tryz.underlying2 (hval 2 2 v2 rfl rfl) h2;simp only[List.append_nil]at hW';have hlt:=fun x hx=>hW'.lt x hx;refine(k203 ob0 mt0 nt0 mw0 nw0 fr0 te0 m1 KA1 kc1 n2 W hks1 (i64_wf' hw2) (v195 hL hsh)).mono fun e W'⟨he,hb⟩=>?_;subst he;refine⟨_,rfl,y69 (pa:=p0++(p1++(p2++[]))) (pv:=[]) hW' (fun _ _ _=>trodAll_mk1 (shut_bool Tryz.underlying4 _)) (fun sp hsp=>?_) (fun _ _=>rfl) (by simp) hb (ok_one (by kernel_rfl) rfl (okWide_bool_mk Tryz.underlying4 _))⟩;exact trodAll_cons_mk (WideElems.Trod_stays Tryz.laidOut (by kernel_rfl) (of_decide_eq_true (by kernel_rfl)) h0 (fun x hx=>hb.same (hlt x (by simp[hx]))) (fun x hx=>hsp x (by simp[hx]))) (trodAll_cons_mk (WideElems.Trod_stays Tryz.laidOut (by kernel_rfl) (of_decide_eq_true (by kernel_rfl)) h1 (fun x hx=>hb.same (hlt x (by simp[hx]))) (fun x hx=>hsp x (by simp[hx]))) (trodAll_cons_mk (WideElems.Trod_stays Tryz.laidOut (by kernel_rfl) (of_decide_eq_true (by kernel_rfl)) h2 (fun x hx=>hb.same (hlt x (by simp[hx]))) (fun x hx=>hsp x (by simp[hx]))) trodAll_mk0))
theorem q198 (os : Os) (started : os.Started) (H : Type) (enc : TypeId × Value → H) (F : Stop.Interp) :
    ReturnsInHanded {} Tryz.checked os 4 .any ((OpenSpec.ofChange Rows.tierBackSpec).preRow enc Tryz.prog Tryz.f4 Rows.tierBackRow.domain false Rows.tierBackRow.laid) (((OpenSpec.ofChange Rows.tierBackSpec).at F).post enc Tryz.prog Tryz.f4 false true false false) := by
  obtain ⟨places, hx⟩ := q199 os enc
  refine returnsInHanded_of_row (C := Tryz.checked) (s := OpenSpec.ofChange Rows.tierBackSpec) Tryz.own started (by kernel_rfl) Tryz.func4
    (witness_row_at (enc := enc) (C := Tryz.checked) false (World.laidAll Tryz.prog os Rows.tierBackRow.laid) #[.agg #[.string ⟨#[]⟩, .int .i64 0, .int .i64 0, .string ⟨#[]⟩, .bool false, .string ⟨#[]⟩, .bool false], .agg #[.string ⟨#[]⟩, .bool false, .int .i64 0, .int .i64 0, .int .i64 0, .int .i64 0, .int .i64 0, .int .i64 0, .slice none 0 0, .string ⟨#[]⟩, .bool false], .int .i64 0] (World.laidAll_os _ _ _) (by kernel_rfl) (by kernel_rfl) (by kernel_rfl)
      (OpenSpec.preRow_of_cond 8 hx (by kernel_rfl) (fun k hk => by cases hk) (by kernel_rfl) (k204 os _))) ?_
  intro W base args ds gs before hval hW _ _ hwt hL hsh _
  exact y193 H enc W base args ds gs before hval hW hL hwt hsh
theorem j171{a b:Bool}(h:a=true)(k:b=true):(a&&b)=true:=by rw[h,k];rfl
theorem j198:joinedFacts Tryz.pinned.checked.prog 4 Tryz.f4 (OpenSpec.ofChange Rows.tierBackSpec).bare Rows.tierBackRow=true:=by
 unfold joinedFacts;repeat' with_reducible refine j171 ?_ ?_
 all_goals as_aux_lemma =>kernel_rfl
theorem x201:Rows.TierBackSaid:=OpenClaim.holds_of_cond 4 Tryz.f4 rfl rfl rfl rfl rfl rfl rfl ⟨rfl,rfl,rfl,rfl,rfl⟩ rfl rfl rfl rfl rfl (by kernel_rfl) Tryz.func4 j198 (of_decide_eq_true (by kernel_rfl)) (by unfold Func.isWrapper;first|(rw[if_pos (by decide+kernel)];kernel_rfl)|(rw[if_neg (by decide+kernel)];exact⟨rfl,rfl⟩)) (fun os started H enc _ F=>by rw[OpenClaim.pre_eq_preRow];exact q198 os started H enc F)
theorem j199(f:FuncId)(fn:Func)(hf:Tryz.pinned.checked.prog.funcNamed "mandoline/mandolinelaw48.TierBack" =some f)(hfn:Tryz.pinned.checked.prog.funcs[f]?=some fn):true=Tryz.pinned.checked.prog.looks []∧∀(j:Nat)t,fn.params[j]?=some t→Tryz.pinned.checked.prog.wantsStandIn t=false:=by
 obtain rfl:f=4:=Option.some.inj ((show Tryz.prog.funcNamed "mandoline/mandolinelaw48.TierBack" =some 4 by kernel_rfl).symm.trans hf)|>.symm;obtain rfl:fn=Tryz.f4:=(Option.some.inj (Tryz.func4.symm.trans hfn)).symm;refine⟨by kernel_rfl,fun j t ht=>?_⟩;rw[Tryz.params4]at ht;have hm:t∈[61,45,2]:=by simpa using Array.mem_of_getElem? ht
 have hall:([61,45,2].all fun u=>!Tryz.prog.wantsStandIn u)=true:=by kernel_rfl
 exact(show Tryz.prog.wantsStandIn t=false by simpa using List.all_eq_true.1 hall t hm)
theorem tierBack_card:Rows.TierBackCardSaid:=Claim7.holds_tied_plain_at .later [] _ _ _ _ x201 (fun _ h=>by cases h) (by kernel_rfl) (fun _ h=>by cases h) tierBack_row_tie rfl ⟨rfl,rfl⟩ (by kernel_rfl) rfl j199 (by kernel_rfl)
#print axioms tierBack_card
end Go.Proofs.YtkkomffmnafjkaaGreatDoor
