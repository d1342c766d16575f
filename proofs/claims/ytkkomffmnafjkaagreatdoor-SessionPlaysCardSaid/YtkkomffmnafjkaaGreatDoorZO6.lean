/- Contract of meta.Right, both ways. Printed by gen_o6.py. Contracts of the .. -/
import Derived.Test.YtkkomffmnafjkaaGreatDoorZI5
set_option maxHeartbeats 16000000
set_option maxRecDepth 100000
set_option linter.all false
namespace Go.Proofs.YtkkomffmnafjkaaGreatDoor
open Go.RowKit
theorem w66{n:Int}(h:k37 n=true):0≤n∧n≤1099511627776:=by unfold k37 at h;simpa[r_,p_]using h
theorem k106(m:MetaL)(A:Option Addr)(c:Nat)(w:World)(hks:SpG encT 1 w A c m.keys)(hsm:j46 m):Calls Tryz.prog 81 #[j25 m A c] w (y63 (MetaOk m) w):=by
 by_cases hOK:MetaOk m;·exact(w68 m A c w hks hOK).mono fun e w'⟨he,hb⟩=>⟨true,he,⟨fun _=>hOK,fun _=>rfl⟩,hb⟩
 obtain⟨tg,wk,mo,ln,hv,fr,wh,er,ks,tn,kp⟩:=m;have HSM:=a_ hsm;have HNO:=a_ hOK;have HK0:=a_ hks;clear hOK hsm hks;unfold j25;simp only at HK0⊢;obtain⟨l1,l2,l3,l4⟩:=HSM.out;simp only at l1 l2 l3 l4;have HL4:=a_ l4;have T1:=fun W=>a_ (k45 fr W);have T2:=fun W=>a_ (k45 wh W);have T3:=fun W=>a_ (k45 er W);have HT:=fun W=>a_ (w92 tn W (by omega));have HTG:=fun W=>a_ (k39 tg wk W (by omega));obtain⟨P,hP⟩:∃P,MetaOk ⟨tg,wk,mo,ln,hv,fr,wh,er,ks,tn,kp⟩=P:=⟨_,rfl⟩;have HPE:=a_ hP;rw[hP]at HNO⊢;have hks32:ks.length≤1000000:=by omega
 clear hP l1 l2 l3 l4 HSM;go_enter Tryz.func81,Tryz.ntmps81;go_upto_region 1 with fail;obtain⟨W0,hW0⟩:∃W,(w.alloc (.cells #[.string ⟨tg.toArray⟩,.bool wk,.int .i64 mo,.int .i64 ln,.int .i64 hv,.int .i64 fr,.int .i64 wh,.int .i64 er,.slice A ks.length c,.string ⟨tn.toArray⟩,.bool kp] 45))=W:=⟨_,rfl⟩;have X0:Hid (W0.heap[w.heap.size]?=some (.cells #[.string ⟨tg.toArray⟩,.bool wk,.int .i64 mo,.int .i64 ln,.int .i64 hv,.int .i64 fr,.int .i64 wh,.int .i64 er,.slice A ks.length c,.string ⟨tn.toArray⟩,.bool kp] 45 (0,0))):=by rw[←hW0];exact j17 rfl
 have HB0:Hid (Below w.heap.size w W0):=by rw[←hW0];exact q11 (b_ _ _) _
 rw[hW0];clear hW0;obtain⟨v0,v1,v2,v3,v4,v5,v6,v7,v8,v9,v10⟩:=bc11 X0.out;have vz:=q14 X0.out;go_cut[14](fun s wx=>s=.bool (!(decide (tg=[])&&!wk)&&!j20 tg)∧wx.heap[w.heap.size]?=some (.cells #[.string ⟨tg.toArray⟩,.bool wk,.int .i64 mo,.int .i64 ln,.int .i64 hv,.int .i64 fr,.int .i64 wh,.int .i64 er,.slice A ks.length c,.string ⟨tn.toArray⟩,.bool kp] 45 (0,0))∧Below w.heap.size w wx);case first=>
  rcases j30 tg with⟨rfl,hq⟩|⟨hne,hq⟩;·
   cases wk with
    |false=>go_wp2_with fail;go_meet;exact⟨by simp,X0.out,HB0.out⟩
    |true=>go_wp2_with(go_at_call 65;refine(HTG _).out.mono ?_;rintro e w1⟨rfl,hb1⟩);go_meet;exact⟨by simp,j3 hb1 X0.out,q12 hb1 HB0.out⟩
  ·go_wp2_with(go_at_call 65;refine(HTG _).out.mono ?_;rintro e w1⟨rfl,hb1⟩);go_meet;exact⟨by simp[hne],j3 hb1 X0.out,q12 hb1 HB0.out⟩
 case rest=>
  obtain⟨rfl,hx,hb⟩:=hcut;have X0:=a_ hx;have HB:=a_ hb;have HK:=a_ (HK0.out.below hb);clear hx hb HB0 HTG HK0 v0 v1 v2 v3 v4 v5 v6 v7 v8 v9 v10 vz;obtain⟨v0,v1,v2,v3,v4,v5,v6,v7,v8,v9,v10⟩:=bc11 X0.out;have vz:=q14 X0.out;obtain⟨z,hz⟩:∃z,(!(decide (tg=[])&&!wk)&&!j20 tg)=z:=⟨_,rfl⟩;rw[hz];cases z with
   |true=>clear hz;go_wp2_with fail;go_ret;exact x22 HNO.out HB.out
   |false=>
    have HTAG:Hid ((tg=[]∧wk=false)∨j20 tg=true):=by
     simp only[Hid];cases ht:j20 tg with
      |true=>exact .inr rfl
      |false=>left;rw[ht]at hz;simpa using hz
    clear hz;by_cases g1:mo< -1;·go_wp2_with fail;go_ret;exact x22 HNO.out HB.out
    by_cases g2:(253402300799:Int)<mo;·go_wp2_with fail;go_ret;exact x22 HNO.out HB.out
    by_cases g3:ln< -1;·go_wp2_with fail;go_ret;exact x22 HNO.out HB.out
    by_cases g4:(1099511627776:Int)<ln;·go_wp2_with fail;go_ret;exact x22 HNO.out HB.out
    by_cases g5:hv<0;·go_wp2_with fail;go_ret;exact x22 HNO.out HB.out
    by_cases g6:(1099511627776:Int)<hv;·go_wp2_with fail;go_ret;exact x22 HNO.out HB.out
    have hcase:((ln !=-1)=false∧ln=-1)∨((ln !=-1)=true∧(hv !=ln)=false∧hv=ln)∨((ln !=-1)=true∧(hv !=ln)=true∧¬hv=ln∧¬ln=-1):=by
     by_cases e:ln=-1;·left;exact⟨by rw[z_];exact e,e⟩
     ·by_cases e2:hv=ln;·right;left;exact⟨by rw[F_];exact e,by rw[z_];exact e2,e2⟩
      ·right;right;exact⟨by rw[F_];exact e,by rw[F_];exact e2,e2,e⟩
    have HNUM:Hid ((-1≤mo∧mo≤253402300799)∧(-1≤ln∧ln≤1099511627776)∧(0≤hv∧hv≤1099511627776)):=by simp only[Hid];omega
    go_upto_region 5 with fail;go_cut[52](fun s wx=>s=.bool ((ln !=-1)&&(hv !=ln))∧wx=wc);case first=>
     rcases hcase with⟨h7,-⟩|⟨h7,h8,-⟩|⟨h7,h8,-,-⟩;all_goals go_wp2_with fail;go_meet;exact⟨by first|(rw[h7,h8];rfl)|(rw[h7];rfl),rfl⟩
    case rest=>
     obtain⟨rfl,rfl⟩:=hcut;clear hcase g1 g2 g3 g4 g5 g6;obtain⟨z,hz⟩:∃z,((ln !=-1)&&(hv !=ln))=z:=⟨_,rfl⟩;rw[hz];cases z with
      |true=>clear hz;go_wp2_with fail;go_ret;exact x22 HNO.out HB.out
      |false=>
       have HEQ:Hid (ln=-1∨hv=ln):=by simp only[Hid];rw[Bool.and_eq_false_iff,z_,z_]at hz;exact hz
       clear hz;obtain⟨t1,ht1⟩:∃x,k37 fr=x:=⟨_,rfl⟩;rw[ht1]at T1;cases t1 with
        |false=>go_wp2_with(first|(go_at_call_of 119(Value.int .i64 fr);refine(T1 _).out.mono ?_;rintro e w1⟨rfl,hw1⟩;obtain rfl:wc=w1:=hw1.symm));go_ret;exact x22 HNO.out HB.out
        |true=>
         obtain⟨t2,ht2⟩:∃x,k37 wh=x:=⟨_,rfl⟩;rw[ht2]at T2;cases t2 with
          |false=>go_wp2_with(first|(go_at_call_of 119(Value.int .i64 fr);refine(T1 _).out.mono ?_;rintro e w1⟨rfl,hw1⟩;obtain rfl:wc=w1:=hw1.symm)|(go_at_call_of 119(Value.int .i64 wh);refine(T2 _).out.mono ?_;rintro e w1⟨rfl,hw1⟩;obtain rfl:wc=w1:=hw1.symm));go_ret;exact x22 HNO.out HB.out
          |true=>
           obtain⟨t3,ht3⟩:∃x,k37 er=x:=⟨_,rfl⟩;rw[ht3]at T3;cases t3 with
            |false=>go_wp2_with(first|(go_at_call_of 119(Value.int .i64 fr);refine(T1 _).out.mono ?_;rintro e w1⟨rfl,hw1⟩;obtain rfl:wc=w1:=hw1.symm)|(go_at_call_of 119(Value.int .i64 wh);refine(T2 _).out.mono ?_;rintro e w1⟨rfl,hw1⟩;obtain rfl:wc=w1:=hw1.symm)|(go_at_call_of 119(Value.int .i64 er);refine(T3 _).out.mono ?_;rintro e w1⟨rfl,hw1⟩;obtain rfl:wc=w1:=hw1.symm));go_ret;exact x22 HNO.out HB.out
            |true=>
             by_cases h9:32<ks.length;·
              have h9':(32:Int)<(ks.length:Int):=by omega
              go_wp2_with(first|(go_at_call_of 119(Value.int .i64 fr);refine(T1 _).out.mono ?_;rintro e w1⟨rfl,hw1⟩;obtain rfl:wc=w1:=hw1.symm)|(go_at_call_of 119(Value.int .i64 wh);refine(T2 _).out.mono ?_;rintro e w1⟨rfl,hw1⟩;obtain rfl:wc=w1:=hw1.symm)|(go_at_call_of 119(Value.int .i64 er);refine(T3 _).out.mono ?_;rintro e w1⟨rfl,hw1⟩;obtain rfl:wc=w1:=hw1.symm));go_ret;exact x22 HNO.out HB.out
             have h9':¬(32:Int)<(ks.length:Int):=by omega
             obtain⟨t4,ht4⟩:∃x,j42 tn=x:=⟨_,rfl⟩;rw[ht4]at HT;cases t4 with
              |false=>go_wp2_with(first|(go_at_call_of 119(Value.int .i64 fr);refine(T1 _).out.mono ?_;rintro e w1⟨rfl,hw1⟩;obtain rfl:wc=w1:=hw1.symm)|(go_at_call_of 119(Value.int .i64 wh);refine(T2 _).out.mono ?_;rintro e w1⟨rfl,hw1⟩;obtain rfl:wc=w1:=hw1.symm)|(go_at_call_of 119(Value.int .i64 er);refine(T3 _).out.mono ?_;rintro e w1⟨rfl,hw1⟩;obtain rfl:wc=w1:=hw1.symm)|(go_at_call 137;refine(HT _).out.mono ?_;rintro e w1⟨rfl,hw1⟩;obtain rfl:wc=w1:=hw1.symm));go_ret;exact x22 HNO.out HB.out
              |true=>
               have HALL:Hid ((∀x∈ks,w26 x=true)→ks.Nodup→P):=by intro ha hn;rw[←HPE.out];exact⟨HTAG.out,HNUM.out.1,HNUM.out.2.1,HNUM.out.2.2,HEQ.out,w66 ht1,w66 ht2,w66 ht3,by simp only;omega,ha,hn,ht4⟩
               clear ht1 ht2 ht3 ht4 HTAG HNUM HEQ HPE h9;go_wp2_with(first|(go_at_call_of 119(Value.int .i64 fr);refine(T1 _).out.mono ?_;rintro e w1⟨rfl,hw1⟩;obtain rfl:wc=w1:=hw1.symm)|(go_at_call_of 119(Value.int .i64 wh);refine(T2 _).out.mono ?_;rintro e w1⟨rfl,hw1⟩;obtain rfl:wc=w1:=hw1.symm)|(go_at_call_of 119(Value.int .i64 er);refine(T3 _).out.mono ?_;rintro e w1⟨rfl,hw1⟩;obtain rfl:wc=w1:=hw1.symm)|(go_at_call 137;refine(HT _).out.mono ?_;rintro e w1⟨rfl,hw1⟩;obtain rfl:wc=w1:=hw1.symm));clear v0 v1 v2 v3 v4 v5 v6 v7 v9 v10 T1 T2 T3 HT h9';go_loopw[3,4,84](fun _ _ i wr=>wr=wc∧∃k:Nat,k≤ks.length∧i=.int .i64 (k:Int)∧(∀x∈ks.take k,w26 x=true)∧(ks.take k).Nodup)(fun _ _ i _=>ks.length-(intOf i).toNat);case atStart=>exact⟨rfl,0,v_ _,rfl,by simp,by simp⟩
               case round=>
                obtain⟨rfl,k,hk,rfl,hall,hnd⟩:=hrel;have HA:=a_ hall;have HN:=a_ hnd;clear hall hnd;by_cases hlt:k<ks.length;·
                 obtain⟨b,off,e,hb,hc⟩:=HK.out.at' k hlt;have c0:=hc 0 _ rfl;have hxl:=HL4.out _ (y_ hlt);have HKy:=fun W=>a_ (w62 ks[k] W (by omega));have HC:=a_ (j44 A c (ks.take k) ks[k] wr (HK.out.take k) (by rw[N_];omega));rw[N_,Nat.min_eq_left (by omega)]at HC;have HAS:Hid (w26 ks[k]=true→∀x∈ks.take (k+1),w26 x=true):=by
                  intro h x hx;rw[n_ hlt]at hx;rcases A_.1 hx with hx|hx;·exact HA.out x hx
                  ·rw[D_.1 hx];exact h
                 have HNS:Hid (ks[k]∉ks.take k→(ks.take (k+1)).Nodup):=by intro h;rw[n_ hlt];refine List.nodup_append.2 ⟨HN.out,by simp,?_⟩;intro a ha b hb2 hab;rw[D_.1 hb2]at hab;rw[hab]at ha;exact h ha
                 obtain⟨x,hx⟩:∃x,ks[k]=x:=⟨_,rfl⟩;rw[hx]at c0 HKy HC HAS HNS;simp only[bn_,J_]at c0;have hle:=HK.out.le;have hkc:(k:Int)≤(c:Int):=by omega
                 clear hx hc hxl HA HN;subst e;obtain⟨y,hy⟩:∃y,w26 x=y:=⟨_,rfl⟩;rw[hy]at HKy HAS;clear hy;cases y with
                  |false=>clear HAS HNS HC;go_wp2_with(go_at_call 138;refine(HKy _).out.mono ?_;rintro e w1⟨rfl,hw1⟩;obtain rfl:wr=w1:=hw1.symm);go_ret;exact x22 HNO.out HB.out
                  |true=>
                   have HA:=a_ (HAS.out rfl);clear HAS;by_cases hin:x∈ks.take k;·rw[s_ hin]at HC;clear hin HNS;go_wp2_with(first|(go_at_call 138;refine(HKy _).out.mono ?_;rintro e w1⟨rfl,hw1⟩;obtain rfl:wr=w1:=hw1.symm)|(go_at_call 139;refine HC.out.mono ?_;rintro e w1⟨rfl,hw1⟩;obtain rfl:wr=w1:=hw1.symm));go_ret;exact x22 HNO.out HB.out
                   ·rw[k_ hin]at HC;have HN:=a_ (HNS.out hin);clear hin HNS;go_wp2_with(first|(go_at_call 138;refine(HKy _).out.mono ?_;rintro e w1⟨rfl,hw1⟩;obtain rfl:wr=w1:=hw1.symm)|(go_at_call 139;refine HC.out.mono ?_;rintro e w1⟨rfl,hw1⟩;obtain rfl:wr=w1:=hw1.symm));go_roundw;case rel=>exact⟨by first|trivial|rfl,k+1,by omega,by go_num,HA.out,HN.out⟩
                    case measure=>simp[intOf];omega
                ·exfalso;have hA:=HA.out;have hN:=HN.out;rw[show k=ks.length by omega,V_]at hA hN;exact HNO.out (HALL.out hA hN)
theorem v135{x:List UInt8}(h:w26 x=true):x.length≤200:=by unfold w26 at h;simp only[r_,p_]at h;exact h.1.2
theorem y148(A:Option Addr)(c:Nat)(L:List (List UInt8))(w:World)(hks:SpG encT 1 w A c L)(hp:q93 L):Calls Tryz.prog 61 #[.slice A L.length c] w fun e w'=>e=.returned (.bool true)∧Below w.heap.size w w':=by
 have HK:=a_ hks;obtain⟨hl,hky,hnd⟩:=hp;have h1':¬(32:Int)<(L.length:Int):=by omega
 have HKY:=a_ hky;have HND:=a_ hnd;clear hks hky hnd hl;go_enter Tryz.func61,Tryz.ntmps61;go_wp2_with fail;go_loopw[3,4](fun i _ wr=>∃k:Nat,k≤L.length∧i=.int .i64 (k:Int)∧Below w.heap.size w wr)(fun i _ _=>L.length-(intOf i).toNat);case atStart=>exact⟨0,v_ _,rfl,b_ _ _⟩
 case round=>
  obtain⟨k,hk,rfl,hbw⟩:=hrel;have HB:=a_ hbw;clear hbw;by_cases hlt:k<L.length;·
   obtain⟨b,off,e,hb,hc⟩:=(HK.out.below HB.out).at' k hlt;have c0:=hc 0 _ rfl;have hko:=HKY.out _ (y_ hlt);have hxl:=v135 hko;have HKC:=fun W=>a_ (x111 L[k] W (by omega));rw[hko]at HKC;obtain⟨x,hx⟩:∃x,L[k]=x:=⟨_,rfl⟩;have HXE:=a_ hx;rw[hx]at c0 HKC;simp only[bn_,J_]at c0;clear hc hxl hko hx;subst e;go_wp2_with(go_at_call 104;refine(HKC _).out.mono ?_;rintro e w1⟨rfl,hw1⟩;obtain rfl:wr=w1:=hw1.symm);go_loopw[4](fun j wq=>∃q:Nat,q≤k∧j=.int .i64 (q:Int)∧Below w.heap.size w wq)(fun j _=>k-(intOf j).toNat);case atStart=>exact⟨0,v_ _,rfl,HB.out⟩
   case round=>
    obtain⟨q,hq,rfl,hbq⟩:=hrel;have HBQ:=a_ hbq;clear hbq;by_cases hlq:q<k;·
     obtain⟨b',off',e',hb',hd⟩:=(HK.out.below HBQ.out).at' q (by omega);injection e' with e';injection e' with e1 e2;subst e1 e2;have d0:=hd 0 _ rfl;obtain⟨b',off',e',_,hd2⟩:=(HK.out.below HBQ.out).at' k hlt;injection e' with e';injection e' with e1 e2;subst e1 e2;have d1:=hd2 0 _ rfl;have hlql:q<L.length:=by omega
     have hxy:¬L[q]=L[k]:=E_.1 HND.out q k hlql hlt hlq;rw[HXE.out]at d1 hxy;obtain⟨y,hy⟩:∃y,L[q]=y:=⟨_,rfl⟩;rw[hy]at d0 hxy;simp only[bn_,J_]at d0 d1;clear hd hd2 hy c0;have hb2:(y==x)=false:=j_.2 hxy;clear hxy;go_wp2_with fail;go_quiet(fail);go_wp2_with fail;go_roundw;case rel=>exact⟨q+1,by omega,by go_num,q15 HBQ.out _⟩
     case measure=>simp[intOf];omega
    ·go_wp2_with fail;go_roundw;case rel=>exact⟨k+1,by omega,by go_num,HBQ.out⟩
     case measure=>simp[intOf];omega
  ·go_wp2_with fail;go_ret;exact⟨rfl,HB.out⟩
theorem w113(m:MetaL)(A:Option Addr)(c:Nat)(w:World)(hks:SpG encT 1 w A c m.keys)(hok:MetaOk m):Calls Tryz.prog 16 #[j25 m A c] w fun e w'=>e=.returned (.bool true)∧Below w.heap.size w w':=by
 have HK0:=a_ hks;obtain⟨htg,hmo,hln,hhv,heq,hfr,hwh,her,hkn,hka,hkd,htn⟩:=hok;clear hks;obtain⟨tg,wk,mo,ln,hv,fr,wh,er,ks,tn,kp⟩:=m;unfold j25;simp only at HK0 htg hmo hln hhv heq hfr hwh her hkn hka hkd htn⊢;have hsz:(⟨tg.toArray⟩:ByteArray).size=tg.length:=q19 tg;have hl1:tg.length≤100:=by
  rcases htg with⟨h,_⟩|h;·rw[h];simp
  ·unfold j20 at h;simp only[r_,p_]at h;exact h.1.2
 have hch:Hid (∀x∈tg,x.toNat≤126):=by
  intro x hx;rcases htg with⟨h,_⟩|h;·rw[h]at hx;simp at hx
  ·unfold j20 at h;simp only[r_,av_,p_]at h;exact(h.2 x hx).1.2
 have hl2:tn.length≤40:=by unfold j42 at htn;simp only[r_,p_]at htn;exact htn.1.1
 have HN:=fun W=>a_ (y72 tg wk W);have HTR:=fun W=>a_ (j37 tg wk W (by omega));have HTN:=fun W=>a_ (w81 tn W (by omega));rw[htn]at HTN;have HKY:=fun W h=>a_ (y148 A c ks W h ⟨hkn,hka,hkd⟩);have HZ:Hid ((tg.isEmpty&&!wk)=false→j20 tg=true):=by
  intro h;rcases htg with⟨h1,h2⟩|h1;·rw[h1,h2]at h;cases h
  ·exact h1
 obtain⟨z,hz⟩:∃z,(tg.isEmpty&&!wk)=z:=⟨_,rfl⟩;rw[hz]at HN HZ;clear hz htg hkn hka hkd htn hl2;go_enter Tryz.func16,Tryz.ntmps16;go_upto_region 1 with fail;obtain⟨W0,hW0⟩:∃W0,w.alloc (.cells #[.string ⟨tg.toArray⟩,.bool wk,.int .i64 mo,.int .i64 ln,.int .i64 hv,.int .i64 fr,.int .i64 wh,.int .i64 er,.slice A ks.length c,.string ⟨tn.toArray⟩,.bool kp] 45)=W0:=⟨_,rfl⟩;have HM0:Hid (W0.heap[w.heap.size]?=some (.cells #[.string ⟨tg.toArray⟩,.bool wk,.int .i64 mo,.int .i64 ln,.int .i64 hv,.int .i64 fr,.int .i64 wh,.int .i64 er,.slice A ks.length c,.string ⟨tn.toArray⟩,.bool kp] 45 (0,0))):=by rw[←hW0];exact j17 rfl
 have HB0:Hid (Below w.heap.size w W0):=by simp only[Hid];rw[←hW0];(repeat(first|exact b_ _ _|refine q15 ?_ _|refine x15 ?_|refine q11 ?_ _|refine w14 ?_ (by simp) _))
 rw[hW0];clear hW0;obtain⟨v0,v1⟩:=bc2 HM0.out rfl rfl;go_cut[13](fun s13 wx=>s13=.bool false∧wx.heap[w.heap.size]?=some (.cells #[.string ⟨tg.toArray⟩,.bool wk,.int .i64 mo,.int .i64 ln,.int .i64 hv,.int .i64 fr,.int .i64 wh,.int .i64 er,.slice A ks.length c,.string ⟨tn.toArray⟩,.bool kp] 45 (0,0))∧Below w.heap.size w wx);case first=>
  cases z with
   |true=>go_wp2_with(go_at_call 60;refine(HN _).out.mono ?_;rintro e w1⟨rfl,hb1⟩);go_meet;exact⟨rfl,j3 hb1 HM0.out,q12 hb1 HB0.out⟩
   |false=>have HT1:=HZ.out rfl;rw[HT1]at HTR;go_wp2_with(first|(go_at_call 59;refine(HTR _).out.mono ?_;rintro e w2⟨rfl,hb2⟩)|(go_at_call 60;refine(HN _).out.mono ?_;rintro e w1⟨rfl,hb1⟩;have HM1:=a_ (j3 hb1 HM0.out);have u0:=bc 0 HM1.out rfl;have u1:=bc 1 HM1.out rfl));go_meet;exact⟨rfl,j3 hb2 HM1.out,q12 hb2 (q12 hb1 HB0.out)⟩
 case rest=>
  obtain⟨rfl,hm,hb⟩:=hcut;have HM:=a_ hm;have HB:=a_ hb;have HK:=a_ (HK0.out.below hb);clear hm hb v0 v1 HM0 HB0 HN HTR HK0 HZ;go_wp2_with fail;go_loopw[3](fun i wr=>wr=wc∧∃k:Nat,k≤tg.length∧i=.int .i64 (k:Int))(fun i _=>tg.length-(intOf i).toNat);case atStart=>exact⟨rfl,0,v_ _,rfl⟩
  case round=>
   obtain⟨rfl,k,hk,rfl⟩:=hrel;obtain⟨v0,v1,v2,v3,v4,v5,v6,v7,v8,v9,_⟩:=bc11 HM.out;have vz:=q14 HM.out;by_cases hlt:k<tg.length;·
    have hcl:=hch.out tg[k] (y_ hlt);obtain⟨cc,hcc⟩:∃cc,(⟨tg.toArray⟩:ByteArray)[k]'(by rw[hsz];exact hlt)=cc:=⟨_,rfl⟩;have hce:tg[k]=cc:=by rw[←hcc];rfl
    rw[hce]at hcl;have d1':¬(126:Int)<(cc.toNat:Int):=by omega
    clear hcl hce;go_wp2_with fail;go_roundw;case rel=>exact⟨by first|trivial|rfl,k+1,by omega,by go_num⟩
    case measure=>simp[intOf];omega
   ·have e0:¬mo< -1:=by omega
    have e1:¬(253402300799:Int)<mo:=by omega
    have e2:¬ln< -1:=by omega
    have e3:¬(1099511627776:Int)<ln:=by omega
    have e4:¬hv<0:=by omega
    have e5:¬(1099511627776:Int)<hv:=by omega
    have e6:¬fr<0:=by omega
    have e7:¬(1099511627776:Int)<fr:=by omega
    have e8:¬wh<0:=by omega
    have e9:¬(1099511627776:Int)<wh:=by omega
    have e10:¬er<0:=by omega
    have e11:¬(1099511627776:Int)<er:=by omega
    have hcase:(¬(0:Int)≤ln)∨((0:Int)≤ln∧hv=ln):=by omega
    clear hmo hln hhv heq hfr hwh her;rcases hcase with h7|⟨h7,h8⟩;all_goals
     first|(have b8:(hv !=ln)=false:=by rw[z_];exact h8)|skip
     try clear h8
     go_wp2_with fail;refine(HKY _ HK.out).out.mono ?_;rintro e w1⟨rfl,hb1⟩;have HM1:=a_ (j3 hb1 HM.out);have u9:=bc 9 HM1.out rfl;have HB1:=a_ (q12 hb1 HB.out);clear hb1;go_wp2_with fail;refine(HTN _).out.mono ?_;rintro e w2⟨rfl,hw2⟩;obtain rfl:w1=w2:=hw2.symm;go_wp2_with fail;go_ret;exact⟨rfl,HB1.out⟩
