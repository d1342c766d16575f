/- Contracts of the document's keys and Right where a version may be. -/
import Derived.Test.YtbphndihjdiiiaaGreatDoorZI5
set_option maxHeartbeats 16000000
set_option maxRecDepth 100000
set_option linter.unusedVariables false
set_option linter.unusedSimpArgs false
namespace Go.Proofs.YtbphndihjdiiiaaGreatDoor
open Go.RowKit
theorem keyOk_len2{x:List UInt8}(h:keyOk x=true):x.length≤200:=by unfold keyOk at h;simp only[Bool.and_eq_true,decide_eq_true_eq]at h;exact h.1.2
theorem rkeys_yes(A:Option Addr)(c:Nat)(L:List (List UInt8))(w:World)(hks:SpG encT 1 w A c L)(hp:KeysP L):Calls Tryz.prog 129 #[.slice A L.length c] w fun e w'=>e=.returned (.bool true)∧Below w.heap.size w w':=by
 have HK:=Lib.hid hks;obtain⟨hl,hky,hnd⟩:=hp;have h1':¬(32:Int)<(L.length:Int):=by omega
 have HKY:=Lib.hid hky;have HND:=Lib.hid hnd;clear hks hky hnd hl;go_enter Tryz.func129,Tryz.ntmps129;go_wp2_with fail;go_loopw[3,4](fun i _ wr=>∃k:Nat,k≤L.length∧i=.int .i64 (k:Int)∧Below w.heap.size w wr)(fun i _ _=>L.length-(intOf i).toNat);case atStart=>exact⟨0,Nat.zero_le _,rfl,Below.refl _ _⟩
 case round=>
  obtain⟨k,hk,rfl,hbw⟩:=hrel;have HB:=Lib.hid hbw;clear hbw;by_cases hlt:k<L.length;·
   obtain⟨b,off,e,hb,hc⟩:=(HK.out.below HB.out).at' k hlt;have c0:=hc 0 _ rfl;have hko:=HKY.out _ (List.getElem_mem hlt);have hxl:=keyOk_len2 hko;have HKC:=fun W=>Lib.hid (rkey_any L[k] W (by omega));rw[hko]at HKC;obtain⟨x,hx⟩:∃x,L[k]=x:=⟨_,rfl⟩;have HXE:=Lib.hid hx;rw[hx]at c0 HKC;simp only[Nat.mul_one,Nat.add_zero]at c0;clear hc hxl hko hx;subst e;go_wp2_with(go_at_call 193;refine(HKC _).out.mono ?_;rintro e w1⟨rfl,hw1⟩;obtain rfl:wr=w1:=hw1.symm);go_loopw[4](fun j wq=>∃q:Nat,q≤k∧j=.int .i64 (q:Int)∧Below w.heap.size w wq)(fun j _=>k-(intOf j).toNat);case atStart=>exact⟨0,Nat.zero_le _,rfl,HB.out⟩
   case round=>
    obtain⟨q,hq,rfl,hbq⟩:=hrel;have HBQ:=Lib.hid hbq;clear hbq;by_cases hlq:q<k;·
     obtain⟨b',off',e',hb',hd⟩:=(HK.out.below HBQ.out).at' q (by omega);injection e' with e';injection e' with e1 e2;subst e1 e2;have d0:=hd 0 _ rfl;obtain⟨b',off',e',_,hd2⟩:=(HK.out.below HBQ.out).at' k hlt;injection e' with e';injection e' with e1 e2;subst e1 e2;have d1:=hd2 0 _ rfl;have hlql:q<L.length:=by omega
     have hxy:¬L[q]=L[k]:=List.pairwise_iff_getElem.1 HND.out q k hlql hlt hlq;rw[HXE.out]at d1 hxy;obtain⟨y,hy⟩:∃y,L[q]=y:=⟨_,rfl⟩;rw[hy]at d0 hxy;simp only[Nat.mul_one,Nat.add_zero]at d0 d1;clear hd hd2 hy c0;have hb2:(y==x)=false:=beq_eq_false_iff_ne.2 hxy;clear hxy;go_wp2_with fail;go_quiet(fail);go_wp2_with fail;go_roundw;case rel=>exact⟨q+1,by omega,by go_num,bel_drewN HBQ.out _⟩
     case measure=>simp[intOf];omega
    ·go_wp2_with fail;go_roundw;case rel=>exact⟨k+1,by omega,by go_num,HBQ.out⟩
     case measure=>simp[intOf];omega
  ·go_wp2_with fail;go_ret;exact⟨rfl,HB.out⟩
theorem rright14_yes(m:MetaL)(A:Option Addr)(c:Nat)(w:World)(hks:SpG encT 1 w A c m.keys)(hok:MetaOk m):Calls Tryz.prog 70 #[metaV m A c] w fun e w'=>e=.returned (.bool true)∧Below w.heap.size w w':=by
 have HK0:=Lib.hid hks;obtain⟨htg,hmo,hln,hhv,heq,hfr,hwh,her,hkn,hka,hkd,htn⟩:=hok;clear hks;obtain⟨tg,wk,mo,ln,hv,fr,wh,er,ks,tn,kp⟩:=m;unfold metaV;simp only at HK0 htg hmo hln hhv heq hfr hwh her hkn hka hkd htn⊢;have hsz:(⟨tg.toArray⟩:ByteArray).size=tg.length:=ba_size tg;have hl1:tg.length≤100:=by
  rcases htg with⟨h,_⟩|h;·rw[h];simp
  ·unfold tagOk at h;simp only[Bool.and_eq_true,decide_eq_true_eq]at h;exact h.1.2
 have hch:Hid (∀x∈tg,x.toNat≤126):=by
  intro x hx;rcases htg with⟨h,_⟩|h;·rw[h]at hx;simp at hx
  ·unfold tagOk at h;simp only[Bool.and_eq_true,List.all_eq_true,decide_eq_true_eq]at h;exact(h.2 x hx).1.2
 have hl2:tn.length≤40:=by unfold tenOk at htn;simp only[Bool.and_eq_true,decide_eq_true_eq]at htn;exact htn.1.1
 have HN:=fun W=>Lib.hid (rnone_any tg wk W);have HTR:=fun W=>Lib.hid (rtagRight_any tg wk W (by omega));have HTN:=fun W=>Lib.hid (rtenant_any tn W (by omega));rw[htn]at HTN;have HKY:=fun W h=>Lib.hid (rkeys_yes A c ks W h ⟨hkn,hka,hkd⟩);have HZ:Hid ((tg.isEmpty&&!wk)=false→tagOk tg=true):=by
  intro h;rcases htg with⟨h1,h2⟩|h1;·rw[h1,h2]at h;cases h
  ·exact h1
 obtain⟨z,hz⟩:∃z,(tg.isEmpty&&!wk)=z:=⟨_,rfl⟩;rw[hz]at HN HZ;clear hz htg hkn hka hkd htn hl2;go_enter Tryz.func70,Tryz.ntmps70;go_upto_region 1 with fail;obtain⟨W0,hW0⟩:∃W0,w.alloc (.cells #[.string ⟨tg.toArray⟩,.bool wk,.int .i64 mo,.int .i64 ln,.int .i64 hv,.int .i64 fr,.int .i64 wh,.int .i64 er,.slice A ks.length c,.string ⟨tn.toArray⟩,.bool kp] 57)=W0:=⟨_,rfl⟩;have HM0:Hid (W0.heap[w.heap.size]?=some (.cells #[.string ⟨tg.toArray⟩,.bool wk,.int .i64 mo,.int .i64 ln,.int .i64 hv,.int .i64 fr,.int .i64 wh,.int .i64 er,.slice A ks.length c,.string ⟨tn.toArray⟩,.bool kp] 57 (0,0))):=by simp only[Hid];rw[←hW0];exact blk_new rfl
 have HB0:Hid (Below w.heap.size w W0):=by simp only[Hid];rw[←hW0];(repeat(first|exact Below.refl _ _|refine bel_drewN ?_ _|refine bel_drew ?_|refine bel_alloc ?_ _|refine bel_set ?_ (by simp) _))
 rw[hW0];clear hW0;have v0:=bc 0 HM0.out rfl;have v1:=bc 1 HM0.out rfl;go_cut[13](fun s13 wx=>s13=.bool false∧wx.heap[w.heap.size]?=some (.cells #[.string ⟨tg.toArray⟩,.bool wk,.int .i64 mo,.int .i64 ln,.int .i64 hv,.int .i64 fr,.int .i64 wh,.int .i64 er,.slice A ks.length c,.string ⟨tn.toArray⟩,.bool kp] 57 (0,0))∧Below w.heap.size w wx);case first=>
  cases z with
   |true=>go_wp2_with(go_at_call 127;refine(HN _).out.mono ?_;rintro e w1⟨rfl,hb1⟩);go_meet;exact⟨rfl,blk_keep hb1 HM0.out,bel_chain hb1 HB0.out⟩
   |false=>have HT1:=HZ.out rfl;rw[HT1]at HTR;go_wp2_with(first|(go_at_call 128;refine(HTR _).out.mono ?_;rintro e w2⟨rfl,hb2⟩)|(go_at_call 127;refine(HN _).out.mono ?_;rintro e w1⟨rfl,hb1⟩;have HM1:=Lib.hid (blk_keep hb1 HM0.out);have u0:=bc 0 HM1.out rfl;have u1:=bc 1 HM1.out rfl));go_meet;exact⟨rfl,blk_keep hb2 HM1.out,bel_chain hb2 (bel_chain hb1 HB0.out)⟩
 case rest=>
  obtain⟨rfl,hm,hb⟩:=hcut;have HM:=Lib.hid hm;have HB:=Lib.hid hb;have HK:=Lib.hid (HK0.out.below hb);clear hm hb v0 v1 HM0 HB0 HN HTR HK0 HZ;go_wp2_with fail;go_loopw[3](fun i wr=>wr=wc∧∃k:Nat,k≤tg.length∧i=.int .i64 (k:Int))(fun i _=>tg.length-(intOf i).toNat);case atStart=>exact⟨rfl,0,Nat.zero_le _,rfl⟩
  case round=>
   obtain⟨rfl,k,hk,rfl⟩:=hrel;have v0:=bc 0 HM.out rfl;have v1:=bc 1 HM.out rfl;have v2:=bc 2 HM.out rfl;have v3:=bc 3 HM.out rfl;have v4:=bc 4 HM.out rfl;have v5:=bc 5 HM.out rfl;have v6:=bc 6 HM.out rfl;have v7:=bc 7 HM.out rfl;have v8:=bc 8 HM.out rfl;have v9:=bc 9 HM.out rfl;have vz:=blk_lt HM.out;by_cases hlt:k<tg.length;·
    have hcl:=hch.out tg[k] (List.getElem_mem hlt);obtain⟨cc,hcc⟩:∃cc,(⟨tg.toArray⟩:ByteArray)[k]'(by rw[hsz];exact hlt)=cc:=⟨_,rfl⟩;have hce:tg[k]=cc:=by rw[←hcc];rfl
    rw[hce]at hcl;have d1':¬(126:Int)<(cc.toNat:Int):=by omega
    clear hcl hce;go_wp2_with fail;go_roundw;case rel=>exact⟨by first|trivial|rfl,k+1,by omega,by go_num⟩
    case measure=>simp[intOf];omega
   ·have e0:¬mo< -1:=by omega
    have e1:¬(253402300799:Int)<mo:=by omega
    have e2:¬ln< -1:=by omega
    have e3:¬(1099511627776:Int)<ln:=by omega
    have e4:¬hv<0:=by omega
    have e5:¬(1099511627776:Int)<hv:=by omega
    have e6:¬fr<0:=by omega
    have e7:¬(1099511627776:Int)<fr:=by omega
    have e8:¬wh<0:=by omega
    have e9:¬(1099511627776:Int)<wh:=by omega
    have e10:¬er<0:=by omega
    have e11:¬(1099511627776:Int)<er:=by omega
    have hcase:(¬(0:Int)≤ln)∨((0:Int)≤ln∧hv=ln):=by omega
    clear hmo hln hhv heq hfr hwh her;rcases hcase with h7|⟨h7,h8⟩;all_goals
     first|(have b8:(hv !=ln)=false:=by rw[bne_eq_false_iff_eq];exact h8)|skip
     try clear h8
     go_wp2_with fail;refine(HKY _ HK.out).out.mono ?_;rintro e w1⟨rfl,hb1⟩;have HM1:=Lib.hid (blk_keep hb1 HM.out);have u9:=bc 9 HM1.out rfl;have HB1:=Lib.hid (bel_chain hb1 HB.out);clear hb1;go_wp2_with fail;refine(HTN _).out.mono ?_;rintro e w2⟨rfl,hw2⟩;obtain rfl:w1=w2:=hw2.symm;go_wp2_with fail;go_ret;exact⟨rfl,HB1.out⟩
end Go.Proofs.YtbphndihjdiiiaaGreatDoor
