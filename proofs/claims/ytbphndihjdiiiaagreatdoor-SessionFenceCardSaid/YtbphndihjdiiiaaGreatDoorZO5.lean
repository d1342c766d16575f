/- Contracts of the document's keys and Right of a version, both ways. Printed .. -/
import Derived.Test.YtbphndihjdiiiaaGreatDoorZI5
set_option maxHeartbeats 16000000
set_option maxRecDepth 100000
set_option linter.all false
namespace Go.Proofs.YtbphndihjdiiiaaGreatDoor
open Go.RowKit
def y63(Q:Prop)(w:World)(e:Ending)(w':World):Prop:=∃b:Bool,e=.returned (.bool b)∧(b=true↔Q)∧Below w.heap.size w w'
theorem x22{Q:Prop}{w w':World}(hq:¬Q)(h:Below w.heap.size w w'):y63 Q w (.returned (.bool false)) w':=⟨false,rfl,⟨(fun h=>by cases h),fun h=>absurd h hq⟩,h⟩
theorem iff_yes{Q:Prop}{w w':World}(hq:Q)(h:Below w.heap.size w w'):y63 Q w (.returned (.bool true)) w':=⟨true,rfl,⟨fun _=>hq,fun _=>rfl⟩,h⟩
theorem k158{l:List UInt8}(h:j20 l=true){k:Nat}(hk:k<l.length):l[k].toNat≤126:=by rw[j45]at h;simp only[q_,av_]at h;have:=h.2 _ (y_ hk);unfold tagB at this;simp only[q_,o_]at this;exact this.1.2
theorem dup_no{α:Type}{L:List α}{q k:Nat}(hk:k<L.length)(hq:q<k)(h:L[q]'(by omega)=L[k]):¬L.Nodup:=by intro hn;have:=(List.getElem_inj (h₀:=by omega) (h₁:=hk) hn).1 h;omega
theorem x148(A:Option Addr)(c:Nat)(L:List (List UInt8))(w:World)(hks:SpG encT 1 w A c L)(hl:L.length≤1000)(hx:∀x∈L,x.length≤300):Calls Tryz.prog 129 #[.slice A L.length c] w (y63 (q93 L) w):=by
 have HK:=a_ hks;have HX:=a_ hx;clear hks hx;by_cases h1:32<L.length;·
  have h1':(32:Int)<(L.length:Int):=by omega
  clear h1;go_enter Tryz.func129,Tryz.ntmps129;go_wp2_with fail;go_ret;exact x22 (fun h=>by have:=h.1;omega) (b_ _ _)
 have h1':¬(32:Int)<(L.length:Int):=by omega
 have HL:Hid (L.length≤32):=by simp only[Hid];omega
 clear h1;go_enter Tryz.func129,Tryz.ntmps129;go_wp2_with fail;go_loopw[3,4](fun i _ wr=>∃k:Nat,k≤L.length∧i=.int .i64 (k:Int)∧(∀x∈L.take k,w26 x=true)∧(L.take k).Nodup∧Below w.heap.size w wr)(fun i _ _=>L.length-(intOf i).toNat);case atStart=>exact⟨0,v_ _,rfl,by simp,by simp,b_ _ _⟩
 case round=>
  obtain⟨k,hk,rfl,hall,hnd,hbw⟩:=hrel;have HA:=a_ hall;have HN:=a_ hnd;have HB:=a_ hbw;clear hall hnd hbw;by_cases hlt:k<L.length;·
   obtain⟨b,off,e,hb,hc⟩:=(HK.out.below HB.out).at' k hlt;have c0:=hc 0 _ rfl;have hxl:=HX.out _ (y_ hlt);have HKY:=fun W=>a_ (x111 L[k] W (by omega));have HALL:Hid (w26 L[k]=true→∀x∈L.take (k+1),w26 x=true):=by
    intro h x hx;rw[n_ hlt]at hx;rcases A_.1 hx with hx|hx;·exact HA.out x hx
    ·rw[B_.1 hx];exact h
   have HND:Hid (L[k]∉L.take k→(L.take (k+1)).Nodup):=by intro h;rw[n_ hlt];refine List.nodup_append.2 ⟨HN.out,by simp,?_⟩;intro a ha b hb2 hab;rw[B_.1 hb2]at hab;rw[hab]at ha;exact h ha
   have HNO:Hid (w26 L[k]=false→¬q93 L):=by intro h hp;have:=hp.2.1 _ (y_ hlt);rw[h]at this;cases this
   obtain⟨x,hx⟩:∃x,L[k]=x:=⟨_,rfl⟩;rw[hx]at c0 HKY HALL HND HNO;simp only[bk_,N_]at c0;clear hc hxl HA HN;subst e;cases hky:w26 x with
    |false=>rw[hky]at HKY;have HNK:=a_ (HNO.out hky);clear hky HALL HND hx HNO;go_wp2_with(go_at_call 193;refine(HKY _).out.mono ?_;rintro e w1⟨rfl,hw1⟩;obtain rfl:wr=w1:=hw1.symm);go_ret;exact x22 HNK.out HB.out
    |true=>
     rw[hky]at HKY;have HF:=a_ (HALL.out hky);have HXE:=a_ hx;clear hky HALL hx HNO;go_wp2_with(go_at_call 193;refine(HKY _).out.mono ?_;rintro e w1⟨rfl,hw1⟩;obtain rfl:wr=w1:=hw1.symm);go_loopw[4](fun j wq=>∃q:Nat,q≤k∧j=.int .i64 (q:Int)∧x∉L.take q∧Below w.heap.size w wq)(fun j _=>k-(intOf j).toNat);case atStart=>exact⟨0,v_ _,rfl,by simp,HB.out⟩
     case round=>
      obtain⟨q,hq,rfl,hnx,hbq⟩:=hrel;have HBQ:=a_ hbq;have HNX:=a_ hnx;clear hnx hbq;by_cases hlq:q<k;·
       obtain⟨b',off',e',hb',hd⟩:=(HK.out.below HBQ.out).at' q (by omega);injection e' with e';injection e' with e1 e2;subst e1 e2;have d0:=hd 0 _ rfl;obtain⟨b',off',e',_,hd2⟩:=(HK.out.below HBQ.out).at' k hlt;injection e' with e';injection e' with e1 e2;subst e1 e2;have d1:=hd2 0 _ rfl;rw[HXE.out]at d1;have hlql:q<L.length:=by omega
       have HY:Hid (¬x=L[q]→x∉L.take (q+1)):=y111 hlql HNX.out;have HDU:Hid (L[q]=x→¬q93 L):=by intro h hp;exact dup_no hlt hlq (h.trans HXE.out.symm) hp.2.2
       obtain⟨y,hy⟩:∃y,L[q]=y:=⟨_,rfl⟩;rw[hy]at d0 HY HDU;simp only[bk_,N_]at d0 d1;clear hd hd2 hy HNX c0;by_cases hxy:y=x;·
        have hb2:(y==x)=true:=by rw[hxy];exact beq_self_eq_true x
        have HNK:=a_ (HDU.out hxy);clear HY hxy HDU;go_wp2_with fail;go_quiet(fail);go_wp2_with fail;go_ret;exact x22 HNK.out (q15 HBQ.out _)
       ·have hb2:(y==x)=false:=j_.2 hxy;have HZ:=a_ (HY.out (fun h=>hxy h.symm));clear HY hxy HDU;go_wp2_with fail;go_quiet(fail);go_wp2_with fail;go_roundw;case rel=>exact⟨q+1,by omega,by go_num,HZ.out,q15 HBQ.out _⟩
        case measure=>simp[intOf];omega
      ·have hqk:q=k:=by omega
       have HZ:=a_ (HND.out (by have:=HNX.out;rw[hqk]at this;exact this));clear HNX hqk HND;go_wp2_with fail;go_roundw;case rel=>exact⟨k+1,by omega,by go_num,HF.out,HZ.out,HBQ.out⟩
       case measure=>simp[intOf];omega
  ·have hke:k=L.length:=by omega
   have hA:=HA.out;have hN:=HN.out;rw[hke,U_]at hA hN;have HV:Hid (q93 L):=⟨HL.out,hA,hN⟩;clear hA hN HA HN hke;go_wp2_with fail;go_ret;exact iff_yes HV.out HB.out
theorem k113(m:MetaL)(A:Option Addr)(c:Nat)(w:World)(hks:SpG encT 1 w A c m.keys)(hsm:j46 m):Calls Tryz.prog 70 #[j25 m A c] w (y63 (MetaOk m) w):=by
 have HK0:=a_ hks;have HSM:=a_ hsm;clear hks hsm;obtain⟨tg,wk,mo,ln,hv,fr,wh,er,ks,tn,kp⟩:=m;unfold j25;simp only at HK0⊢;have hsz:(⟨tg.toArray⟩:ByteArray).size=tg.length:=q19 tg;obtain⟨l1,l2,l3,l4⟩:=HSM.out;simp only at l1 l2 l3 l4;have HN:=fun W=>a_ (y72 tg wk W);have HTR:=fun W=>a_ (j37 tg wk W (by omega));have HTN:=fun W=>a_ (w81 tn W (by omega));have HKY:=fun W h=>a_ (x148 A c ks W h (by omega) l4);have HZN:Hid ((!(tg.isEmpty&&!wk)&&!j20 tg)=true→¬MetaOk ⟨tg,wk,mo,ln,hv,fr,wh,er,ks,tn,kp⟩):=by
  intro h hok;rw[q_,aL_,aL_]at h;rcases hok.tg with⟨h1,h2⟩|h1;·simp only at h1 h2;rw[h1,h2]at h;simp at h
  ·simp only at h1;rw[h1]at h;cases h.2
 have HZ:Hid ((tg.isEmpty&&!wk)=true→tg=[]∧wk=false):=by intro h;rw[q_,aL_]at h;exact⟨aJ_.1 h.1,h.2⟩
 obtain⟨z,hz⟩:∃z,(tg.isEmpty&&!wk)=z:=⟨_,rfl⟩;obtain⟨tk,htk⟩:∃z,j20 tg=z:=⟨_,rfl⟩;rw[hz]at HN HZ HZN;rw[htk]at HTR HZN;have HTK:=a_ htk;clear hz htk l3 l4;go_enter Tryz.func70,Tryz.ntmps70;go_upto_region 1 with fail;obtain⟨W0,hW0⟩:∃W0,w.alloc (.cells #[.string ⟨tg.toArray⟩,.bool wk,.int .i64 mo,.int .i64 ln,.int .i64 hv,.int .i64 fr,.int .i64 wh,.int .i64 er,.slice A ks.length c,.string ⟨tn.toArray⟩,.bool kp] 57)=W0:=⟨_,rfl⟩;have HM0:Hid (W0.heap[w.heap.size]?=some (.cells #[.string ⟨tg.toArray⟩,.bool wk,.int .i64 mo,.int .i64 ln,.int .i64 hv,.int .i64 fr,.int .i64 wh,.int .i64 er,.slice A ks.length c,.string ⟨tn.toArray⟩,.bool kp] 57 (0,0))):=by rw[←hW0];exact j17 rfl
 have HB0:Hid (Below w.heap.size w W0):=by simp only[Hid];rw[←hW0];(repeat(first|exact b_ _ _|refine q15 ?_ _|refine x15 ?_|refine q11 ?_ _|refine w14 ?_ (by simp) _))
 rw[hW0];clear hW0;obtain⟨v0,v1⟩:=bc2 HM0.out rfl rfl;go_cut[13](fun s13 wx=>s13=.bool (!z&&!tk)∧wx.heap[w.heap.size]?=some (.cells #[.string ⟨tg.toArray⟩,.bool wk,.int .i64 mo,.int .i64 ln,.int .i64 hv,.int .i64 fr,.int .i64 wh,.int .i64 er,.slice A ks.length c,.string ⟨tn.toArray⟩,.bool kp] 57 (0,0))∧Below w.heap.size w wx);case first=>
  cases z with
   |true=>go_wp2_with(go_at_call 127;refine(HN _).out.mono ?_;rintro e w1⟨rfl,hb1⟩);go_meet;exact⟨rfl,j3 hb1 HM0.out,q12 hb1 HB0.out⟩
   |false=>go_wp2_with(first|(go_at_call 128;refine(HTR _).out.mono ?_;rintro e w2⟨rfl,hb2⟩)|(go_at_call 127;refine(HN _).out.mono ?_;rintro e w1⟨rfl,hb1⟩;have HM1:=a_ (j3 hb1 HM0.out);have u0:=bc 0 HM1.out rfl;have u1:=bc 1 HM1.out rfl));go_meet;exact⟨rfl,j3 hb2 HM1.out,q12 hb2 (q12 hb1 HB0.out)⟩
 case rest=>
  obtain⟨rfl,hm,hb⟩:=hcut;have HM:=a_ hm;have HB:=a_ hb;have HK:=a_ (HK0.out.below hb);clear hm hb v0 v1 HM0 HB0 HN HTR HK0;cases hzk:(!z&&!tk)with
   |true=>have HNK:=a_ (HZN.out hzk);go_wp2_with fail;go_ret;exact x22 HNK.out HB.out
   |false=>
    have HTG:Hid ((tg=[]∧wk=false)∨j20 tg=true):=by simp only[Hid];cases z with|true=>exact .inl (HZ.out rfl)|false=>right;rw[HTK.out];simpa using hzk
    clear HZ HTK HZN hzk;go_wp2_with fail;go_loopw[3](fun i wr=>wr=wc∧∃k:Nat,k≤tg.length∧i=.int .i64 (k:Int))(fun i _=>tg.length-(intOf i).toNat);case atStart=>exact⟨rfl,0,v_ _,rfl⟩
    case round=>
     obtain⟨rfl,k,hk,rfl⟩:=hrel;obtain⟨v0,v1,v2,v3,v4,v5,v6,v7,v8,v9,_⟩:=bc11 HM.out;have vz:=q14 HM.out;by_cases hlt:k<tg.length;·
      obtain⟨cc,hcc⟩:∃cc,(⟨tg.toArray⟩:ByteArray)[k]'(by rw[hsz];exact hlt)=cc:=⟨_,rfl⟩;by_cases d1:126<cc.toNat;·
       exfalso;rcases HTG.out with⟨h1,_⟩|h1;·rw[h1]at hlt;simp at hlt
       ·have:=k158 h1 hlt;rw[show tg[k]=cc from hcc]at this;omega
      ·have d1':¬(126:Int)<(cc.toNat:Int):=by omega
       clear d1;go_wp2_with fail;go_roundw;case rel=>exact⟨by first|trivial|rfl,k+1,by omega,by go_num⟩
       case measure=>simp[intOf];omega
     ·by_cases e0:mo< -1;·go_wp2_with fail;go_ret;exact x22 (by intro hok;obtain⟨_,⟨q1,q2⟩,⟨q3,q4⟩,⟨q5,q6⟩,q7,q8,q9,q10,_⟩:=hok;simp only at q1 q2 q3 q4 q5 q6 q7 q8 q9 q10;omega) HB.out
      by_cases e1:(253402300799:Int)<mo;·go_wp2_with fail;go_ret;exact x22 (by intro hok;obtain⟨_,⟨q1,q2⟩,⟨q3,q4⟩,⟨q5,q6⟩,q7,q8,q9,q10,_⟩:=hok;simp only at q1 q2 q3 q4 q5 q6 q7 q8 q9 q10;omega) HB.out
      by_cases e2:ln< -1;·go_wp2_with fail;go_ret;exact x22 (by intro hok;obtain⟨_,⟨q1,q2⟩,⟨q3,q4⟩,⟨q5,q6⟩,q7,q8,q9,q10,_⟩:=hok;simp only at q1 q2 q3 q4 q5 q6 q7 q8 q9 q10;omega) HB.out
      by_cases e3:(1099511627776:Int)<ln;·go_wp2_with fail;go_ret;exact x22 (by intro hok;obtain⟨_,⟨q1,q2⟩,⟨q3,q4⟩,⟨q5,q6⟩,q7,q8,q9,q10,_⟩:=hok;simp only at q1 q2 q3 q4 q5 q6 q7 q8 q9 q10;omega) HB.out
      by_cases e4:hv<0;·go_wp2_with fail;go_ret;exact x22 (by intro hok;obtain⟨_,⟨q1,q2⟩,⟨q3,q4⟩,⟨q5,q6⟩,q7,q8,q9,q10,_⟩:=hok;simp only at q1 q2 q3 q4 q5 q6 q7 q8 q9 q10;omega) HB.out
      by_cases e5:(1099511627776:Int)<hv;·go_wp2_with fail;go_ret;exact x22 (by intro hok;obtain⟨_,⟨q1,q2⟩,⟨q3,q4⟩,⟨q5,q6⟩,q7,q8,q9,q10,_⟩:=hok;simp only at q1 q2 q3 q4 q5 q6 q7 q8 q9 q10;omega) HB.out
      have hcase:(¬(0:Int)≤ln)∨((0:Int)≤ln∧hv=ln)∨((0:Int)≤ln∧¬hv=ln):=by omega
      rcases hcase with h7|⟨h7,h8⟩|⟨h7,h8⟩;rotate_left 2;·
       have b8:(hv !=ln)=true:=by rw[F_];exact h8
       go_wp2_with fail;go_ret;exact x22 (by intro hok;obtain⟨_,⟨q1,q2⟩,⟨q3,q4⟩,⟨q5,q6⟩,q7,q8,q9,q10,_⟩:=hok;simp only at q1 q2 q3 q4 q5 q6 q7 q8 q9 q10;omega) HB.out
      all_goals
       first|(have b8:(hv !=ln)=false:=by rw[z_];exact h8)|skip
       have HEQ:Hid (ln=-1∨hv=ln):=by simp only[Hid];omega
       try clear h8
       by_cases g1:fr<0;·go_wp2_with fail;go_ret;exact x22 (by intro hok;obtain⟨_,⟨q1,q2⟩,⟨q3,q4⟩,⟨q5,q6⟩,q7,q8,q9,q10,_⟩:=hok;simp only at q1 q2 q3 q4 q5 q6 q7 q8 q9 q10;omega) HB.out
       by_cases g2:(1099511627776:Int)<fr;·go_wp2_with fail;go_ret;exact x22 (by intro hok;obtain⟨_,⟨q1,q2⟩,⟨q3,q4⟩,⟨q5,q6⟩,q7,q8,q9,q10,_⟩:=hok;simp only at q1 q2 q3 q4 q5 q6 q7 q8 q9 q10;omega) HB.out
       by_cases g3:wh<0;·go_wp2_with fail;go_ret;exact x22 (by intro hok;obtain⟨_,⟨q1,q2⟩,⟨q3,q4⟩,⟨q5,q6⟩,q7,q8,q9,q10,_⟩:=hok;simp only at q1 q2 q3 q4 q5 q6 q7 q8 q9 q10;omega) HB.out
       by_cases g4:(1099511627776:Int)<wh;·go_wp2_with fail;go_ret;exact x22 (by intro hok;obtain⟨_,⟨q1,q2⟩,⟨q3,q4⟩,⟨q5,q6⟩,q7,q8,q9,q10,_⟩:=hok;simp only at q1 q2 q3 q4 q5 q6 q7 q8 q9 q10;omega) HB.out
       by_cases g5:er<0;·go_wp2_with fail;go_ret;exact x22 (by intro hok;obtain⟨_,⟨q1,q2⟩,⟨q3,q4⟩,⟨q5,q6⟩,q7,q8,q9,q10,_⟩:=hok;simp only at q1 q2 q3 q4 q5 q6 q7 q8 q9 q10;omega) HB.out
       by_cases g6:(1099511627776:Int)<er;·go_wp2_with fail;go_ret;exact x22 (by intro hok;obtain⟨_,⟨q1,q2⟩,⟨q3,q4⟩,⟨q5,q6⟩,q7,q8,q9,q10,_⟩:=hok;simp only at q1 q2 q3 q4 q5 q6 q7 q8 q9 q10;omega) HB.out
       go_wp2_with fail;refine(HKY _ HK.out).out.mono ?_;rintro e w1⟨b,rfl,hq,hb1⟩;have HM1:=a_ (j3 hb1 HM.out);have u9:=bc 9 HM1.out rfl;cases b with
        |false=>
         have HNK:Hid (¬MetaOk ⟨tg,wk,mo,ln,hv,fr,wh,er,ks,tn,kp⟩):=fun hok=>by have:=hq.2 ⟨hok.kn,hok.ka,hok.kd⟩;cases this
         clear hq;go_wp2_with fail;go_ret;exact x22 HNK.out (q12 hb1 HB.out)
        |true=>
         have HQ:=a_ (hq.1 rfl);have HB1:=a_ (q12 hb1 HB.out);clear hq hb1;have HMK:Hid (j42 tn=true↔MetaOk ⟨tg,wk,mo,ln,hv,fr,wh,er,ks,tn,kp⟩):=by refine⟨fun ht=>?_,fun hok=>hok.tn⟩;exact⟨HTG.out,by simp only;omega,by simp only;omega,by simp only;omega,HEQ.out,by simp only;omega,by simp only;omega,by simp only;omega,HQ.out.1,HQ.out.2.1,HQ.out.2.2,ht⟩
         go_wp2_with fail;refine(HTN _).out.mono ?_;rintro e w2⟨rfl,hw2⟩;obtain rfl:w1=w2:=hw2.symm;go_wp2_with fail;go_ret;exact⟨_,rfl,HMK.out,HB1.out⟩
theorem w66{n:Int}(h:k37 n=true):0≤n∧n≤1099511627776:=by unfold k37 at h;simpa[q_,o_]using h
theorem k106(m:MetaL)(A:Option Addr)(c:Nat)(w:World)(hks:SpG encT 1 w A c m.keys)(hsm:j46 m):Calls Tryz.prog 65 #[j25 m A c] w (y63 (MetaOk m) w):=by
 by_cases hOK:MetaOk m;·exact(w68 m A c w hks hOK).mono fun e w'⟨he,hb⟩=>⟨true,he,⟨fun _=>hOK,fun _=>rfl⟩,hb⟩
 obtain⟨tg,wk,mo,ln,hv,fr,wh,er,ks,tn,kp⟩:=m;have HSM:=a_ hsm;have HNO:=a_ hOK;have HK0:=a_ hks;clear hOK hsm hks;unfold j25;simp only at HK0⊢;obtain⟨l1,l2,l3,l4⟩:=HSM.out;simp only at l1 l2 l3 l4;have HL4:=a_ l4;have T1:=fun W=>a_ (k45 fr W);have T2:=fun W=>a_ (k45 wh W);have T3:=fun W=>a_ (k45 er W);have HT:=fun W=>a_ (w92 tn W (by omega));have HTG:=fun W=>a_ (k39 tg wk W (by omega));obtain⟨P,hP⟩:∃P,MetaOk ⟨tg,wk,mo,ln,hv,fr,wh,er,ks,tn,kp⟩=P:=⟨_,rfl⟩;have HPE:=a_ hP;rw[hP]at HNO⊢;have hks32:ks.length≤1000000:=by omega
 clear hP l1 l2 l3 l4 HSM;go_enter Tryz.func65,Tryz.ntmps65;go_upto_region 1 with fail;obtain⟨W0,hW0⟩:∃W,(w.alloc (.cells #[.string ⟨tg.toArray⟩,.bool wk,.int .i64 mo,.int .i64 ln,.int .i64 hv,.int .i64 fr,.int .i64 wh,.int .i64 er,.slice A ks.length c,.string ⟨tn.toArray⟩,.bool kp] 57))=W:=⟨_,rfl⟩;have X0:Hid (W0.heap[w.heap.size]?=some (.cells #[.string ⟨tg.toArray⟩,.bool wk,.int .i64 mo,.int .i64 ln,.int .i64 hv,.int .i64 fr,.int .i64 wh,.int .i64 er,.slice A ks.length c,.string ⟨tn.toArray⟩,.bool kp] 57 (0,0))):=by rw[←hW0];exact j17 rfl
 have HB0:Hid (Below w.heap.size w W0):=by rw[←hW0];exact q11 (b_ _ _) _
 rw[hW0];clear hW0;obtain⟨v0,v1,v2,v3,v4,v5,v6,v7,v8,v9,v10⟩:=bc11 X0.out;have vz:=q14 X0.out;go_cut[14](fun s wx=>s=.bool (!(decide (tg=[])&&!wk)&&!j20 tg)∧wx.heap[w.heap.size]?=some (.cells #[.string ⟨tg.toArray⟩,.bool wk,.int .i64 mo,.int .i64 ln,.int .i64 hv,.int .i64 fr,.int .i64 wh,.int .i64 er,.slice A ks.length c,.string ⟨tn.toArray⟩,.bool kp] 57 (0,0))∧Below w.heap.size w wx);case first=>
  rcases j30 tg with⟨rfl,hq⟩|⟨hne,hq⟩;·
   cases wk with
    |false=>go_wp2_with fail;go_meet;exact⟨by simp,X0.out,HB0.out⟩
    |true=>go_wp2_with(go_at_call 115;refine(HTG _).out.mono ?_;rintro e w1⟨rfl,hb1⟩);go_meet;exact⟨by simp,j3 hb1 X0.out,q12 hb1 HB0.out⟩
  ·go_wp2_with(go_at_call 115;refine(HTG _).out.mono ?_;rintro e w1⟨rfl,hb1⟩);go_meet;exact⟨by simp[hne],j3 hb1 X0.out,q12 hb1 HB0.out⟩
 case rest=>
  obtain⟨rfl,hx,hb⟩:=hcut;have X0:=a_ hx;have HB:=a_ hb;have HK:=a_ (HK0.out.below hb);clear hx hb HB0 HTG HK0 v0 v1 v2 v3 v4 v5 v6 v7 v8 v9 v10 vz;obtain⟨v0,v1,v2,v3,v4,v5,v6,v7,v8,v9,v10⟩:=bc11 X0.out;have vz:=q14 X0.out;obtain⟨z,hz⟩:∃z,(!(decide (tg=[])&&!wk)&&!j20 tg)=z:=⟨_,rfl⟩;rw[hz];cases z with
   |true=>clear hz;go_wp2_with fail;go_ret;exact x22 HNO.out HB.out
   |false=>
    have HTAG:Hid ((tg=[]∧wk=false)∨j20 tg=true):=by
     simp only[Hid];cases ht:j20 tg with
      |true=>exact .inr rfl
      |false=>left;rw[ht]at hz;simpa using hz
    clear hz;by_cases g1:mo< -1;·go_wp2_with fail;go_ret;exact x22 HNO.out HB.out
    by_cases g2:(253402300799:Int)<mo;·go_wp2_with fail;go_ret;exact x22 HNO.out HB.out
    by_cases g3:ln< -1;·go_wp2_with fail;go_ret;exact x22 HNO.out HB.out
    by_cases g4:(1099511627776:Int)<ln;·go_wp2_with fail;go_ret;exact x22 HNO.out HB.out
    by_cases g5:hv<0;·go_wp2_with fail;go_ret;exact x22 HNO.out HB.out
    by_cases g6:(1099511627776:Int)<hv;·go_wp2_with fail;go_ret;exact x22 HNO.out HB.out
    have hcase:((ln !=-1)=false∧ln=-1)∨((ln !=-1)=true∧(hv !=ln)=false∧hv=ln)∨((ln !=-1)=true∧(hv !=ln)=true∧¬hv=ln∧¬ln=-1):=by
     by_cases e:ln=-1;·left;exact⟨by rw[z_];exact e,e⟩
     ·by_cases e2:hv=ln;·right;left;exact⟨by rw[F_];exact e,by rw[z_];exact e2,e2⟩
      ·right;right;exact⟨by rw[F_];exact e,by rw[F_];exact e2,e2,e⟩
    have HNUM:Hid ((-1≤mo∧mo≤253402300799)∧(-1≤ln∧ln≤1099511627776)∧(0≤hv∧hv≤1099511627776)):=by simp only[Hid];omega
    go_upto_region 5 with fail;go_cut[52](fun s wx=>s=.bool ((ln !=-1)&&(hv !=ln))∧wx=wc);case first=>
     rcases hcase with⟨h7,-⟩|⟨h7,h8,-⟩|⟨h7,h8,-,-⟩;all_goals go_wp2_with fail;go_meet;exact⟨by first|(rw[h7,h8];rfl)|(rw[h7];rfl),rfl⟩
    case rest=>
     obtain⟨rfl,rfl⟩:=hcut;clear hcase g1 g2 g3 g4 g5 g6;obtain⟨z,hz⟩:∃z,((ln !=-1)&&(hv !=ln))=z:=⟨_,rfl⟩;rw[hz];cases z with
      |true=>clear hz;go_wp2_with fail;go_ret;exact x22 HNO.out HB.out
      |false=>
       have HEQ:Hid (ln=-1∨hv=ln):=by simp only[Hid];rw[Bool.and_eq_false_iff,z_,z_]at hz;exact hz
       clear hz;obtain⟨t1,ht1⟩:∃x,k37 fr=x:=⟨_,rfl⟩;rw[ht1]at T1;cases t1 with
        |false=>go_wp2_with(first|(go_at_call_of 116(Value.int .i64 fr);refine(T1 _).out.mono ?_;rintro e w1⟨rfl,hw1⟩;obtain rfl:wc=w1:=hw1.symm));go_ret;exact x22 HNO.out HB.out
        |true=>
         obtain⟨t2,ht2⟩:∃x,k37 wh=x:=⟨_,rfl⟩;rw[ht2]at T2;cases t2 with
          |false=>go_wp2_with(first|(go_at_call_of 116(Value.int .i64 fr);refine(T1 _).out.mono ?_;rintro e w1⟨rfl,hw1⟩;obtain rfl:wc=w1:=hw1.symm)|(go_at_call_of 116(Value.int .i64 wh);refine(T2 _).out.mono ?_;rintro e w1⟨rfl,hw1⟩;obtain rfl:wc=w1:=hw1.symm));go_ret;exact x22 HNO.out HB.out
          |true=>
           obtain⟨t3,ht3⟩:∃x,k37 er=x:=⟨_,rfl⟩;rw[ht3]at T3;cases t3 with
            |false=>go_wp2_with(first|(go_at_call_of 116(Value.int .i64 fr);refine(T1 _).out.mono ?_;rintro e w1⟨rfl,hw1⟩;obtain rfl:wc=w1:=hw1.symm)|(go_at_call_of 116(Value.int .i64 wh);refine(T2 _).out.mono ?_;rintro e w1⟨rfl,hw1⟩;obtain rfl:wc=w1:=hw1.symm)|(go_at_call_of 116(Value.int .i64 er);refine(T3 _).out.mono ?_;rintro e w1⟨rfl,hw1⟩;obtain rfl:wc=w1:=hw1.symm));go_ret;exact x22 HNO.out HB.out
            |true=>
             by_cases h9:32<ks.length;·
              have h9':(32:Int)<(ks.length:Int):=by omega
              go_wp2_with(first|(go_at_call_of 116(Value.int .i64 fr);refine(T1 _).out.mono ?_;rintro e w1⟨rfl,hw1⟩;obtain rfl:wc=w1:=hw1.symm)|(go_at_call_of 116(Value.int .i64 wh);refine(T2 _).out.mono ?_;rintro e w1⟨rfl,hw1⟩;obtain rfl:wc=w1:=hw1.symm)|(go_at_call_of 116(Value.int .i64 er);refine(T3 _).out.mono ?_;rintro e w1⟨rfl,hw1⟩;obtain rfl:wc=w1:=hw1.symm));go_ret;exact x22 HNO.out HB.out
             have h9':¬(32:Int)<(ks.length:Int):=by omega
             obtain⟨t4,ht4⟩:∃x,j42 tn=x:=⟨_,rfl⟩;rw[ht4]at HT;cases t4 with
              |false=>go_wp2_with(first|(go_at_call_of 116(Value.int .i64 fr);refine(T1 _).out.mono ?_;rintro e w1⟨rfl,hw1⟩;obtain rfl:wc=w1:=hw1.symm)|(go_at_call_of 116(Value.int .i64 wh);refine(T2 _).out.mono ?_;rintro e w1⟨rfl,hw1⟩;obtain rfl:wc=w1:=hw1.symm)|(go_at_call_of 116(Value.int .i64 er);refine(T3 _).out.mono ?_;rintro e w1⟨rfl,hw1⟩;obtain rfl:wc=w1:=hw1.symm)|(go_at_call 117;refine(HT _).out.mono ?_;rintro e w1⟨rfl,hw1⟩;obtain rfl:wc=w1:=hw1.symm));go_ret;exact x22 HNO.out HB.out
              |true=>
               have HALL:Hid ((∀x∈ks,w26 x=true)→ks.Nodup→P):=by intro ha hn;rw[←HPE.out];exact⟨HTAG.out,HNUM.out.1,HNUM.out.2.1,HNUM.out.2.2,HEQ.out,w66 ht1,w66 ht2,w66 ht3,by simp only;omega,ha,hn,ht4⟩
               clear ht1 ht2 ht3 ht4 HTAG HNUM HEQ HPE h9;go_wp2_with(first|(go_at_call_of 116(Value.int .i64 fr);refine(T1 _).out.mono ?_;rintro e w1⟨rfl,hw1⟩;obtain rfl:wc=w1:=hw1.symm)|(go_at_call_of 116(Value.int .i64 wh);refine(T2 _).out.mono ?_;rintro e w1⟨rfl,hw1⟩;obtain rfl:wc=w1:=hw1.symm)|(go_at_call_of 116(Value.int .i64 er);refine(T3 _).out.mono ?_;rintro e w1⟨rfl,hw1⟩;obtain rfl:wc=w1:=hw1.symm)|(go_at_call 117;refine(HT _).out.mono ?_;rintro e w1⟨rfl,hw1⟩;obtain rfl:wc=w1:=hw1.symm));clear v0 v1 v2 v3 v4 v5 v6 v7 v9 v10 T1 T2 T3 HT h9';go_loopw[3,4,84](fun _ _ i wr=>wr=wc∧∃k:Nat,k≤ks.length∧i=.int .i64 (k:Int)∧(∀x∈ks.take k,w26 x=true)∧(ks.take k).Nodup)(fun _ _ i _=>ks.length-(intOf i).toNat);case atStart=>exact⟨rfl,0,v_ _,rfl,by simp,by simp⟩
               case round=>
                obtain⟨rfl,k,hk,rfl,hall,hnd⟩:=hrel;have HA:=a_ hall;have HN:=a_ hnd;clear hall hnd;by_cases hlt:k<ks.length;·
                 obtain⟨b,off,e,hb,hc⟩:=HK.out.at' k hlt;have c0:=hc 0 _ rfl;have hxl:=HL4.out _ (y_ hlt);have HKy:=fun W=>a_ (w62 ks[k] W (by omega));have HC:=a_ (j44 A c (ks.take k) ks[k] wr (HK.out.take k) (by rw[L_];omega));rw[L_,Nat.min_eq_left (by omega)]at HC;have HAS:Hid (w26 ks[k]=true→∀x∈ks.take (k+1),w26 x=true):=by
                  intro h x hx;rw[n_ hlt]at hx;rcases A_.1 hx with hx|hx;·exact HA.out x hx
                  ·rw[B_.1 hx];exact h
                 have HNS:Hid (ks[k]∉ks.take k→(ks.take (k+1)).Nodup):=by intro h;rw[n_ hlt];refine List.nodup_append.2 ⟨HN.out,by simp,?_⟩;intro a ha b hb2 hab;rw[B_.1 hb2]at hab;rw[hab]at ha;exact h ha
                 obtain⟨x,hx⟩:∃x,ks[k]=x:=⟨_,rfl⟩;rw[hx]at c0 HKy HC HAS HNS;simp only[bk_,N_]at c0;have hle:=HK.out.le;have hkc:(k:Int)≤(c:Int):=by omega
                 clear hx hc hxl HA HN;subst e;obtain⟨y,hy⟩:∃y,w26 x=y:=⟨_,rfl⟩;rw[hy]at HKy HAS;clear hy;cases y with
                  |false=>clear HAS HNS HC;go_wp2_with(go_at_call 118;refine(HKy _).out.mono ?_;rintro e w1⟨rfl,hw1⟩;obtain rfl:wr=w1:=hw1.symm);go_ret;exact x22 HNO.out HB.out
                  |true=>
                   have HA:=a_ (HAS.out rfl);clear HAS;by_cases hin:x∈ks.take k;·rw[t_ hin]at HC;clear hin HNS;go_wp2_with(first|(go_at_call 118;refine(HKy _).out.mono ?_;rintro e w1⟨rfl,hw1⟩;obtain rfl:wr=w1:=hw1.symm)|(go_at_call 119;refine HC.out.mono ?_;rintro e w1⟨rfl,hw1⟩;obtain rfl:wr=w1:=hw1.symm));go_ret;exact x22 HNO.out HB.out
                   ·rw[k_ hin]at HC;have HN:=a_ (HNS.out hin);clear hin HNS;go_wp2_with(first|(go_at_call 118;refine(HKy _).out.mono ?_;rintro e w1⟨rfl,hw1⟩;obtain rfl:wr=w1:=hw1.symm)|(go_at_call 119;refine HC.out.mono ?_;rintro e w1⟨rfl,hw1⟩;obtain rfl:wr=w1:=hw1.symm));go_roundw;case rel=>exact⟨by first|trivial|rfl,k+1,by omega,by go_num,HA.out,HN.out⟩
                    case measure=>simp[intOf];omega
                ·exfalso;have hA:=HA.out;have hN:=HN.out;rw[show k=ks.length by omega,U_]at hA hN;exact HNO.out (HALL.out hA hN)
theorem v135{x:List UInt8}(h:w26 x=true):x.length≤200:=by unfold w26 at h;simp only[q_,o_]at h;exact h.1.2
theorem y148(A:Option Addr)(c:Nat)(L:List (List UInt8))(w:World)(hks:SpG encT 1 w A c L)(hp:q93 L):Calls Tryz.prog 129 #[.slice A L.length c] w fun e w'=>e=.returned (.bool true)∧Below w.heap.size w w':=by
 have HK:=a_ hks;obtain⟨hl,hky,hnd⟩:=hp;have h1':¬(32:Int)<(L.length:Int):=by omega
 have HKY:=a_ hky;have HND:=a_ hnd;clear hks hky hnd hl;go_enter Tryz.func129,Tryz.ntmps129;go_wp2_with fail;go_loopw[3,4](fun i _ wr=>∃k:Nat,k≤L.length∧i=.int .i64 (k:Int)∧Below w.heap.size w wr)(fun i _ _=>L.length-(intOf i).toNat);case atStart=>exact⟨0,v_ _,rfl,b_ _ _⟩
 case round=>
  obtain⟨k,hk,rfl,hbw⟩:=hrel;have HB:=a_ hbw;clear hbw;by_cases hlt:k<L.length;·
   obtain⟨b,off,e,hb,hc⟩:=(HK.out.below HB.out).at' k hlt;have c0:=hc 0 _ rfl;have hko:=HKY.out _ (y_ hlt);have hxl:=v135 hko;have HKC:=fun W=>a_ (x111 L[k] W (by omega));rw[hko]at HKC;obtain⟨x,hx⟩:∃x,L[k]=x:=⟨_,rfl⟩;have HXE:=a_ hx;rw[hx]at c0 HKC;simp only[bk_,N_]at c0;clear hc hxl hko hx;subst e;go_wp2_with(go_at_call 193;refine(HKC _).out.mono ?_;rintro e w1⟨rfl,hw1⟩;obtain rfl:wr=w1:=hw1.symm);go_loopw[4](fun j wq=>∃q:Nat,q≤k∧j=.int .i64 (q:Int)∧Below w.heap.size w wq)(fun j _=>k-(intOf j).toNat);case atStart=>exact⟨0,v_ _,rfl,HB.out⟩
   case round=>
    obtain⟨q,hq,rfl,hbq⟩:=hrel;have HBQ:=a_ hbq;clear hbq;by_cases hlq:q<k;·
     obtain⟨b',off',e',hb',hd⟩:=(HK.out.below HBQ.out).at' q (by omega);injection e' with e';injection e' with e1 e2;subst e1 e2;have d0:=hd 0 _ rfl;obtain⟨b',off',e',_,hd2⟩:=(HK.out.below HBQ.out).at' k hlt;injection e' with e';injection e' with e1 e2;subst e1 e2;have d1:=hd2 0 _ rfl;have hlql:q<L.length:=by omega
     have hxy:¬L[q]=L[k]:=C_.1 HND.out q k hlql hlt hlq;rw[HXE.out]at d1 hxy;obtain⟨y,hy⟩:∃y,L[q]=y:=⟨_,rfl⟩;rw[hy]at d0 hxy;simp only[bk_,N_]at d0 d1;clear hd hd2 hy c0;have hb2:(y==x)=false:=j_.2 hxy;clear hxy;go_wp2_with fail;go_quiet(fail);go_wp2_with fail;go_roundw;case rel=>exact⟨q+1,by omega,by go_num,q15 HBQ.out _⟩
     case measure=>simp[intOf];omega
    ·go_wp2_with fail;go_roundw;case rel=>exact⟨k+1,by omega,by go_num,HBQ.out⟩
     case measure=>simp[intOf];omega
  ·go_wp2_with fail;go_ret;exact⟨rfl,HB.out⟩
theorem w113(m:MetaL)(A:Option Addr)(c:Nat)(w:World)(hks:SpG encT 1 w A c m.keys)(hok:MetaOk m):Calls Tryz.prog 70 #[j25 m A c] w fun e w'=>e=.returned (.bool true)∧Below w.heap.size w w':=by
 have HK0:=a_ hks;obtain⟨htg,hmo,hln,hhv,heq,hfr,hwh,her,hkn,hka,hkd,htn⟩:=hok;clear hks;obtain⟨tg,wk,mo,ln,hv,fr,wh,er,ks,tn,kp⟩:=m;unfold j25;simp only at HK0 htg hmo hln hhv heq hfr hwh her hkn hka hkd htn⊢;have hsz:(⟨tg.toArray⟩:ByteArray).size=tg.length:=q19 tg;have hl1:tg.length≤100:=by
  rcases htg with⟨h,_⟩|h;·rw[h];simp
  ·unfold j20 at h;simp only[q_,o_]at h;exact h.1.2
 have hch:Hid (∀x∈tg,x.toNat≤126):=by
  intro x hx;rcases htg with⟨h,_⟩|h;·rw[h]at hx;simp at hx
  ·unfold j20 at h;simp only[q_,av_,o_]at h;exact(h.2 x hx).1.2
 have hl2:tn.length≤40:=by unfold j42 at htn;simp only[q_,o_]at htn;exact htn.1.1
 have HN:=fun W=>a_ (y72 tg wk W);have HTR:=fun W=>a_ (j37 tg wk W (by omega));have HTN:=fun W=>a_ (w81 tn W (by omega));rw[htn]at HTN;have HKY:=fun W h=>a_ (y148 A c ks W h ⟨hkn,hka,hkd⟩);have HZ:Hid ((tg.isEmpty&&!wk)=false→j20 tg=true):=by
  intro h;rcases htg with⟨h1,h2⟩|h1;·rw[h1,h2]at h;cases h
  ·exact h1
 obtain⟨z,hz⟩:∃z,(tg.isEmpty&&!wk)=z:=⟨_,rfl⟩;rw[hz]at HN HZ;clear hz htg hkn hka hkd htn hl2;go_enter Tryz.func70,Tryz.ntmps70;go_upto_region 1 with fail;obtain⟨W0,hW0⟩:∃W0,w.alloc (.cells #[.string ⟨tg.toArray⟩,.bool wk,.int .i64 mo,.int .i64 ln,.int .i64 hv,.int .i64 fr,.int .i64 wh,.int .i64 er,.slice A ks.length c,.string ⟨tn.toArray⟩,.bool kp] 57)=W0:=⟨_,rfl⟩;have HM0:Hid (W0.heap[w.heap.size]?=some (.cells #[.string ⟨tg.toArray⟩,.bool wk,.int .i64 mo,.int .i64 ln,.int .i64 hv,.int .i64 fr,.int .i64 wh,.int .i64 er,.slice A ks.length c,.string ⟨tn.toArray⟩,.bool kp] 57 (0,0))):=by rw[←hW0];exact j17 rfl
 have HB0:Hid (Below w.heap.size w W0):=by simp only[Hid];rw[←hW0];(repeat(first|exact b_ _ _|refine q15 ?_ _|refine x15 ?_|refine q11 ?_ _|refine w14 ?_ (by simp) _))
 rw[hW0];clear hW0;obtain⟨v0,v1⟩:=bc2 HM0.out rfl rfl;go_cut[13](fun s13 wx=>s13=.bool false∧wx.heap[w.heap.size]?=some (.cells #[.string ⟨tg.toArray⟩,.bool wk,.int .i64 mo,.int .i64 ln,.int .i64 hv,.int .i64 fr,.int .i64 wh,.int .i64 er,.slice A ks.length c,.string ⟨tn.toArray⟩,.bool kp] 57 (0,0))∧Below w.heap.size w wx);case first=>
  cases z with
   |true=>go_wp2_with(go_at_call 127;refine(HN _).out.mono ?_;rintro e w1⟨rfl,hb1⟩);go_meet;exact⟨rfl,j3 hb1 HM0.out,q12 hb1 HB0.out⟩
   |false=>have HT1:=HZ.out rfl;rw[HT1]at HTR;go_wp2_with(first|(go_at_call 128;refine(HTR _).out.mono ?_;rintro e w2⟨rfl,hb2⟩)|(go_at_call 127;refine(HN _).out.mono ?_;rintro e w1⟨rfl,hb1⟩;have HM1:=a_ (j3 hb1 HM0.out);have u0:=bc 0 HM1.out rfl;have u1:=bc 1 HM1.out rfl));go_meet;exact⟨rfl,j3 hb2 HM1.out,q12 hb2 (q12 hb1 HB0.out)⟩
 case rest=>
  obtain⟨rfl,hm,hb⟩:=hcut;have HM:=a_ hm;have HB:=a_ hb;have HK:=a_ (HK0.out.below hb);clear hm hb v0 v1 HM0 HB0 HN HTR HK0 HZ;go_wp2_with fail;go_loopw[3](fun i wr=>wr=wc∧∃k:Nat,k≤tg.length∧i=.int .i64 (k:Int))(fun i _=>tg.length-(intOf i).toNat);case atStart=>exact⟨rfl,0,v_ _,rfl⟩
  case round=>
   obtain⟨rfl,k,hk,rfl⟩:=hrel;obtain⟨v0,v1,v2,v3,v4,v5,v6,v7,v8,v9,_⟩:=bc11 HM.out;have vz:=q14 HM.out;by_cases hlt:k<tg.length;·
    have hcl:=hch.out tg[k] (y_ hlt);obtain⟨cc,hcc⟩:∃cc,(⟨tg.toArray⟩:ByteArray)[k]'(by rw[hsz];exact hlt)=cc:=⟨_,rfl⟩;have hce:tg[k]=cc:=by rw[←hcc];rfl
    rw[hce]at hcl;have d1':¬(126:Int)<(cc.toNat:Int):=by omega
    clear hcl hce;go_wp2_with fail;go_roundw;case rel=>exact⟨by first|trivial|rfl,k+1,by omega,by go_num⟩
    case measure=>simp[intOf];omega
   ·have e0:¬mo< -1:=by omega
    have e1:¬(253402300799:Int)<mo:=by omega
    have e2:¬ln< -1:=by omega
    have e3:¬(1099511627776:Int)<ln:=by omega
    have e4:¬hv<0:=by omega
    have e5:¬(1099511627776:Int)<hv:=by omega
    have e6:¬fr<0:=by omega
    have e7:¬(1099511627776:Int)<fr:=by omega
    have e8:¬wh<0:=by omega
    have e9:¬(1099511627776:Int)<wh:=by omega
    have e10:¬er<0:=by omega
    have e11:¬(1099511627776:Int)<er:=by omega
    have hcase:(¬(0:Int)≤ln)∨((0:Int)≤ln∧hv=ln):=by omega
    clear hmo hln hhv heq hfr hwh her;rcases hcase with h7|⟨h7,h8⟩;all_goals
     first|(have b8:(hv !=ln)=false:=by rw[z_];exact h8)|skip
     try clear h8
     go_wp2_with fail;refine(HKY _ HK.out).out.mono ?_;rintro e w1⟨rfl,hb1⟩;have HM1:=a_ (j3 hb1 HM.out);have u9:=bc 9 HM1.out rfl;have HB1:=a_ (q12 hb1 HB.out);clear hb1;go_wp2_with fail;refine(HTN _).out.mono ?_;rintro e w2⟨rfl,hw2⟩;obtain rfl:w1=w2:=hw2.symm;go_wp2_with fail;go_ret;exact⟨rfl,HB1.out⟩
