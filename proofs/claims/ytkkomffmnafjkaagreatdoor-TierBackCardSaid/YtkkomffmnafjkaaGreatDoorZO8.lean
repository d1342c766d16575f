/- Contracts of what a request's conditions come to, of a version that is .. -/
import Derived.Test.YtkkomffmnafjkaaGreatDoorZI5
import Derived.Deep.CutBlock
set_option maxHeartbeats 16000000
set_option maxRecDepth 100000
set_option linter.all false
namespace Go.Proofs.YtkkomffmnafjkaaGreatDoor
open Go.RowKit
def chk1(M:List TagL)(am:Bool)(un mo:Int)(t:TagL):Bool:=if(decide (0<M.length)||am)=true then !am&&!inT M t true else decide (0≤un)&&decide (0≤mo)&&decide (un<mo)
def chk2(N:List TagL)(an:Bool)(si mo ln:Int)(t:TagL):Bool:=if(decide (0<N.length)||an)=true then an||inT N t false else decide (0≤si)&&!decide (ln=-1)&&decide (0≤mo)&&decide (mo≤si)
def chk3(ns:Nat)(r t:TagL):Bool:=decide (0<ns)&&(!decide (r.1=[])||r.2)&&!k34 r t
def chkV(a b c:Bool):Int:=if a=true then 4 else if b=true then 3 else if c=true then 2 else 1
structure CkSt(w wx:World)(RC MC KC:Array Value):Prop where
 rb:wx.heap[w.heap.size]?=some (.cells RC 29 (0,0))
 mb:wx.heap[w.heap.size+1]?=some (.cells MC 45 (0,0))
 kb:wx.heap[w.heap.size+1+1]?=some (.cells KC 27 (0,0))
 bel:Below w.heap.size w wx
theorem CkSt.below{w wx w':World}{RC MC KC:Array Value}(h:CkSt w wx RC MC KC)(hb:Below wx.heap.size wx w'):CkSt w w' RC MC KC:=⟨j3 hb h.rb,j3 hb h.mb,j3 hb h.kb,q12 hb h.bel⟩
theorem q150(hd:Bool)(ob:ByteArray)(A:Option Addr)(ns c:Nat)(A1:Option Addr)(c1:Nat)(A2:Option Addr)(c2:Nat)(M N:List TagL)(am an:Bool)(si un:Int)(rt:List UInt8)(rw:Bool)(tg:List UInt8)(wk:Bool)(mo ln hv fr wh er:Int)(KA:Option Addr)(kn kc:Nat)(tn:ByteArray)(kp:Bool)(w:World)(h1:SpG q27 2 w A1 c1 M)(h2:SpG q27 2 w A2 c2 N)(hs:ShortC ⟨M,N,am,an,si,un,rt,rw⟩)(ht:tg.length≤1000000):Calls Tryz.prog 21 #[.agg #[.bool hd,.string ob,.slice A ns c,.slice A1 M.length c1,.slice A2 N.length c2,.bool am,.bool an,.int .i64 si,.int .i64 un,.string ⟨rt.toArray⟩,.bool rw],.agg #[.string ⟨tg.toArray⟩,.bool wk,.int .i64 mo,.int .i64 ln,.int .i64 hv,.int .i64 fr,.int .i64 wh,.int .i64 er,.slice KA kn kc,.string tn,.bool kp],.bool true] w fun e w'=>e=.returned (.int .i64 (chkV (chk1 M am un mo (tg,wk)) (chk2 N an si mo ln (tg,wk)) (chk3 ns (rt,rw) (tg,wk))))∧Below w.heap.size w w':=by
 obtain⟨l1,l2,l3,l4,l5⟩:=hs;simp only at l1 l2 l3 l4 l5;have HM:=Lib.hid h1;have HN:=Lib.hid h2;have H1:=fun W h=>Lib.hid (tagIn_s A1 c1 M tg wk W h l1 l3 ht);have H2:=fun W h=>Lib.hid (tagIn_w A2 c2 N tg wk W h l2 l4 ht);have H3:=fun W=>Lib.hid (q69 tg rt wk rw W ht l5);rw[q113]at H3;have E1:Hid (chk1 M am un mo (tg,wk)=(if(decide (0<M.length)||am)=true then !am&&!inT M (tg,wk) true else decide (0≤un)&&decide (0≤mo)&&decide (un<mo))):=rfl;have E2:Hid (chk2 N an si mo ln (tg,wk)=(if(decide (0<N.length)||an)=true then an||inT N (tg,wk) false else decide (0≤si)&&!decide (ln=-1)&&decide (0≤mo)&&decide (mo≤si))):=rfl;have E3:Hid (chk3 ns (rt,rw) (tg,wk)=(decide (0<ns)&&(!decide (rt=[])||rw)&&!k34 (rt,rw) (tg,wk))):=rfl;obtain⟨a1,q1⟩:∃x,chk1 M am un mo (tg,wk)=x:=⟨_,rfl⟩;obtain⟨a2,q2⟩:∃x,chk2 N an si mo ln (tg,wk)=x:=⟨_,rfl⟩;obtain⟨a3,q3⟩:∃x,chk3 ns (rt,rw) (tg,wk)=x:=⟨_,rfl⟩;rw[q1]at E1;rw[q2]at E2;rw[q3]at E3;rw[q1,q2,q3];obtain⟨i1,q4⟩:∃x,inT M (tg,wk) true=x:=⟨_,rfl⟩;obtain⟨i2,q5⟩:∃x,inT N (tg,wk) false=x:=⟨_,rfl⟩;obtain⟨i3,q6⟩:∃x,k34 (rt,rw) (tg,wk)=x:=⟨_,rfl⟩;rw[q4]at E1 H1;rw[q5]at E2 H2;rw[q6]at E3 H3;obtain⟨ml,q7⟩:∃x,M.length=x:=⟨_,rfl⟩;obtain⟨nl,q8⟩:∃x,N.length=x:=⟨_,rfl⟩;rw[q7]at E1 H1⊢;rw[q8]at E2 H2⊢;clear q1 q2 q3 q4 q5 q6 q7 q8 h1 h2 l1 l2 l3 l4 l5 ht;go_enter Tryz.func21,Tryz.ntmps21;go_upto_block 0 with fail;obtain⟨W0,hW0⟩:∃W,(((w.alloc (.cells #[.bool hd,.string ob,.slice A ns c,.slice A1 ml c1,.slice A2 nl c2,.bool am,.bool an,.int .i64 si,.int .i64 un,.string ⟨rt.toArray⟩,.bool rw] 29)).alloc (.cells #[.string ⟨tg.toArray⟩,.bool wk,.int .i64 mo,.int .i64 ln,.int .i64 hv,.int .i64 fr,.int .i64 wh,.int .i64 er,.slice KA kn kc,.string tn,.bool kp] 45)).alloc (.cells #[.slice A1 ml c1,.slice A2 nl c2,.bool am,.bool an,.int .i64 si,.int .i64 un,.string ⟨rt.toArray⟩,.bool rw] 27))=W:=⟨_,rfl⟩;have X0:Hid (W0.heap[w.heap.size]?=some (.cells #[.bool hd,.string ob,.slice A ns c,.slice A1 ml c1,.slice A2 nl c2,.bool am,.bool an,.int .i64 si,.int .i64 un,.string ⟨rt.toArray⟩,.bool rw] 29 (0,0))):=by simp only[Hid];rw[←hW0];exact j16 (j16 (j17 rfl))
 have X1:Hid (W0.heap[w.heap.size+1]?=some (.cells #[.string ⟨tg.toArray⟩,.bool wk,.int .i64 mo,.int .i64 ln,.int .i64 hv,.int .i64 fr,.int .i64 wh,.int .i64 er,.slice KA kn kc,.string tn,.bool kp] 45 (0,0))):=by simp only[Hid];rw[←hW0];exact j16 (j17 (by simp))
 have X2:Hid (W0.heap[w.heap.size+1+1]?=some (.cells #[.slice A1 ml c1,.slice A2 nl c2,.bool am,.bool an,.int .i64 si,.int .i64 un,.string ⟨rt.toArray⟩,.bool rw] 27 (0,0))):=by simp only[Hid];rw[←hW0];exact j17 (by simp)
 have HB0:Hid (Below w.heap.size w W0):=by simp only[Hid];rw[←hW0];exact q11 (q11 (q11 (Below.refl _ _) _) _) _
 rw[hW0];clear hW0;have S0:Hid (CkSt w W0 #[.bool hd,.string ob,.slice A ns c,.slice A1 ml c1,.slice A2 nl c2,.bool am,.bool an,.int .i64 si,.int .i64 un,.string ⟨rt.toArray⟩,.bool rw] #[.string ⟨tg.toArray⟩,.bool wk,.int .i64 mo,.int .i64 ln,.int .i64 hv,.int .i64 fr,.int .i64 wh,.int .i64 er,.slice KA kn kc,.string tn,.bool kp] #[.slice A1 ml c1,.slice A2 nl c2,.bool am,.bool an,.int .i64 si,.int .i64 un,.string ⟨rt.toArray⟩,.bool rw]):=⟨X0.out,X1.out,X2.out,HB0.out⟩;clear X0 X1 X2 HB0;have r2:=bc 2 S0.out.rb rfl;have m0:=bc 0 S0.out.mb rfl;have m1:=bc 1 S0.out.mb rfl;have m2:=bc 2 S0.out.mb rfl;have m3:=bc 3 S0.out.mb rfl;have k0:=bc 0 S0.out.kb rfl;have k1:=bc 1 S0.out.kb rfl;have k2:=bc 2 S0.out.kb rfl;have k3:=bc 3 S0.out.kb rfl;have k4:=bc 4 S0.out.kb rfl;have k5:=bc 5 S0.out.kb rfl;have k6:=bc 6 S0.out.kb rfl;have k7:=bc 7 S0.out.kb rfl;have rz:=q14 S0.out.rb;have mz:=q14 S0.out.mb;have kz:=q14 S0.out.kb;go_cut[0](fun _ wx=>a1=false∧CkSt w wx #[.bool hd,.string ob,.slice A ns c,.slice A1 ml c1,.slice A2 nl c2,.bool am,.bool an,.int .i64 si,.int .i64 un,.string ⟨rt.toArray⟩,.bool rw] #[.string ⟨tg.toArray⟩,.bool wk,.int .i64 mo,.int .i64 ln,.int .i64 hv,.int .i64 fr,.int .i64 wh,.int .i64 er,.slice KA kn kc,.string tn,.bool kp] #[.slice A1 ml c1,.slice A2 nl c2,.bool am,.bool an,.int .i64 si,.int .i64 un,.string ⟨rt.toArray⟩,.bool rw]);case first=>
  go_upto_region 2 with fail;go_cut[0,10](fun _ s wx=>s=.bool (decide (0<ml)||am)∧wx=W0);case first=>
   by_cases hm:0<ml;·
    have hm':(0:Int)<(ml:Int):=by omega
    go_wp2_with fail;all_goals go_meet
    all_goals exact⟨by simp[hm],rfl⟩
   ·have hm':¬(0:Int)<(ml:Int):=by omega
    go_wp2_with fail;all_goals go_meet
    all_goals exact⟨by simp[hm],rfl⟩
  case rest=>
   obtain⟨rfl,rfl⟩:=hcut;obtain⟨z1,hz1⟩:∃z,(decide (0<ml)||am)=z:=⟨_,rfl⟩;rw[hz1]at E1;rw[hz1];clear hz1;cases z1 with
    |true=>
     rcases(show(!am)=true∨(!am)=false by cases am<;>simp)with hna|hna;rotate_left;·
      rw[hna]at E1;have hv:a1=false:=by rw[E1.out];rfl
      go_wp2_with fail;go_meet;exact⟨hv,S0.out⟩
     rw[hna]at E1;cases i1 with
      |true=>
       have hv:a1=false:=by rw[E1.out];rfl
       go_wp2_with(go_at_call 74;refine(H1 _ (HM.out.below S0.out.bel)).out.mono ?_;rintro e w1⟨rfl,hb1⟩);go_meet;exact⟨hv,S0.out.below hb1⟩
      |false=>
       have hv:a1=true:=by rw[E1.out];rfl
       clear E1;subst hv;go_wp2_with(go_at_call 74;refine(H1 _ (HM.out.below S0.out.bel)).out.mono ?_;rintro e w1⟨rfl,hb1⟩);go_ret;exact⟨rfl,(S0.out.below hb1).bel⟩
    |false=>
     by_cases hu:0≤un;·
      by_cases hmo:0≤mo;·
       by_cases hlt:un<mo;·
        have hv:a1=true:=by rw[E1.out];simp[hu,hmo,hlt]
        clear E1;subst hv;go_wp2_with fail;go_ret;exact⟨rfl,(S0.out).bel⟩
       ·have hv:a1=false:=by rw[E1.out];simp[hlt]
        go_wp2_with fail;go_meet;exact⟨hv,S0.out⟩
      ·have hv:a1=false:=by rw[E1.out];simp[hmo]
       go_wp2_with fail;go_meet;exact⟨hv,S0.out⟩
     ·have hv:a1=false:=by rw[E1.out];simp[hu]
      go_wp2_with fail;go_meet;exact⟨hv,S0.out⟩
 case rest=>
  obtain⟨rfl,hst⟩:=hcut;have S1:=Lib.hid hst;clear E1 H1 HM hst S0;have r2:=bc 2 S1.out.rb rfl;have m0:=bc 0 S1.out.mb rfl;have m1:=bc 1 S1.out.mb rfl;have m2:=bc 2 S1.out.mb rfl;have m3:=bc 3 S1.out.mb rfl;have k0:=bc 0 S1.out.kb rfl;have k1:=bc 1 S1.out.kb rfl;have k2:=bc 2 S1.out.kb rfl;have k3:=bc 3 S1.out.kb rfl;have k4:=bc 4 S1.out.kb rfl;have k5:=bc 5 S1.out.kb rfl;have k6:=bc 6 S1.out.kb rfl;have k7:=bc 7 S1.out.kb rfl;have rz:=q14 S1.out.rb;have mz:=q14 S1.out.mb;have kz:=q14 S1.out.kb;go_upto_block 1 with fail;go_cut[](fun wx=>a2=false∧CkSt w wx #[.bool hd,.string ob,.slice A ns c,.slice A1 ml c1,.slice A2 nl c2,.bool am,.bool an,.int .i64 si,.int .i64 un,.string ⟨rt.toArray⟩,.bool rw] #[.string ⟨tg.toArray⟩,.bool wk,.int .i64 mo,.int .i64 ln,.int .i64 hv,.int .i64 fr,.int .i64 wh,.int .i64 er,.slice KA kn kc,.string tn,.bool kp] #[.slice A1 ml c1,.slice A2 nl c2,.bool am,.bool an,.int .i64 si,.int .i64 un,.string ⟨rt.toArray⟩,.bool rw]);case first=>
   go_upto_region 8 with fail;go_cut[51](fun s wx=>s=.bool (decide (0<nl)||an)∧wx=wc);case first=>
    by_cases hm:0<nl;·
     have hm':(0:Int)<(nl:Int):=by omega
     go_wp2_with fail;all_goals go_meet
     all_goals exact⟨by simp[hm],rfl⟩
    ·have hm':¬(0:Int)<(nl:Int):=by omega
     go_wp2_with fail;all_goals go_meet
     all_goals exact⟨by simp[hm],rfl⟩
   case rest=>
    obtain⟨rfl,rfl⟩:=hcut;obtain⟨z2,hz2⟩:∃z,(decide (0<nl)||an)=z:=⟨_,rfl⟩;rw[hz2]at E2;rw[hz2];clear hz2;cases z2 with
     |true=>
      rcases Bool.eq_false_or_eq_true an with han|han;·
       rw[han]at E2;have hv:a2=true:=by rw[E2.out];rfl
       clear E2;subst hv;go_wp2_with fail;go_ret;exact⟨rfl,(S1.out).bel⟩
      rw[han]at E2;cases i2 with
       |false=>
        have hv:a2=false:=by rw[E2.out];rfl
        go_wp2_with(go_at_call 74;refine(H2 _ (HN.out.below S1.out.bel)).out.mono ?_;rintro e w1⟨rfl,hb1⟩);go_meet;exact⟨hv,S1.out.below hb1⟩
       |true=>
        have hv:a2=true:=by rw[E2.out];rfl
        clear E2;subst hv;go_wp2_with(go_at_call 74;refine(H2 _ (HN.out.below S1.out.bel)).out.mono ?_;rintro e w1⟨rfl,hb1⟩);go_ret;exact⟨rfl,(S1.out.below hb1).bel⟩
     |false=>
      by_cases hu:0≤si;·
       by_cases hln:ln=-1;·
        have hln':(ln !=-1)=false:=by rw[bne_eq_false_iff_eq];exact hln
        have hv:a2=false:=by rw[E2.out];simp[hln]
        go_wp2_with fail;go_meet;exact⟨hv,S1.out⟩
       ·have hln':(ln !=-1)=true:=by rw[bne_iff_ne];exact hln
        by_cases hmo:0≤mo;·
         by_cases hlt:mo≤si;·
          have hv:a2=true:=by rw[E2.out];simp[hu,hln,hmo,hlt]
          clear E2;subst hv;go_wp2_with fail;go_ret;exact⟨rfl,(S1.out).bel⟩
         ·have hv:a2=false:=by rw[E2.out];simp[hlt]
          go_wp2_with fail;go_meet;exact⟨hv,S1.out⟩
        ·have hv:a2=false:=by rw[E2.out];simp[hmo]
         go_wp2_with fail;go_meet;exact⟨hv,S1.out⟩
      ·have hv:a2=false:=by rw[E2.out];simp[hu]
       go_wp2_with fail;go_meet;exact⟨hv,S1.out⟩
  case rest=>
   obtain⟨rfl,hst⟩:=hcut;have S2:=Lib.hid hst;clear E2 H2 HN hst S1;have r2:=bc 2 S2.out.rb rfl;have m0:=bc 0 S2.out.mb rfl;have m1:=bc 1 S2.out.mb rfl;have m2:=bc 2 S2.out.mb rfl;have m3:=bc 3 S2.out.mb rfl;have k0:=bc 0 S2.out.kb rfl;have k1:=bc 1 S2.out.kb rfl;have k2:=bc 2 S2.out.kb rfl;have k3:=bc 3 S2.out.kb rfl;have k4:=bc 4 S2.out.kb rfl;have k5:=bc 5 S2.out.kb rfl;have k6:=bc 6 S2.out.kb rfl;have k7:=bc 7 S2.out.kb rfl;have rz:=q14 S2.out.rb;have mz:=q14 S2.out.mb;have kz:=q14 S2.out.kb;rcases j30 rt with⟨rfl,hq⟩|⟨hne,hq⟩;·
    cases rw with
     |false=>
      by_cases hn:0<ns;·
       have hn':(0:Int)<(ns:Int):=by omega
       have hv:a3=false:=by rw[E3.out];simp
       clear E3;subst hv;go_wp2_with fail;go_ret;exact⟨rfl,(S2.out).bel⟩
      ·have hn':¬(0:Int)<(ns:Int):=by omega
       have hv:a3=false:=by rw[E3.out];simp[hn]
       clear E3;subst hv;go_wp2_with fail;go_ret;exact⟨rfl,(S2.out).bel⟩
     |true=>
      by_cases hn:0<ns;·
       have hn':(0:Int)<(ns:Int):=by omega
       cases i3 with
        |true=>
         have hv:a3=false:=by rw[E3.out];simp
         clear E3;subst hv;go_wp2_with(go_at_call 75;refine(H3 _).out.mono ?_;rintro e w1⟨rfl,hb1⟩);go_ret;exact⟨rfl,(S2.out.below hb1).bel⟩
        |false=>
         have hv:a3=true:=by rw[E3.out];simp[hn]
         clear E3;subst hv;go_wp2_with(go_at_call 75;refine(H3 _).out.mono ?_;rintro e w1⟨rfl,hb1⟩);go_ret;exact⟨rfl,(S2.out.below hb1).bel⟩
      ·have hn':¬(0:Int)<(ns:Int):=by omega
       have hv:a3=false:=by rw[E3.out];simp[hn]
       clear E3;subst hv;go_wp2_with fail;go_ret;exact⟨rfl,(S2.out).bel⟩
   ·have hq':(rt !=[])=true:=by rw[bne_iff_ne];exact hne
    have HNE:=Lib.hid hne;clear hne;by_cases hn:0<ns;·
     have hn':(0:Int)<(ns:Int):=by omega
     cases i3 with
      |true=>
       have hv:a3=false:=by rw[E3.out];simp
       clear E3;subst hv;go_wp2_with(go_at_call 75;refine(H3 _).out.mono ?_;rintro e w1⟨rfl,hb1⟩);go_ret;exact⟨rfl,(S2.out.below hb1).bel⟩
      |false=>
       have hv:a3=true:=by rw[E3.out];simp[hn,HNE.out]
       clear E3;subst hv;go_wp2_with(go_at_call 75;refine(H3 _).out.mono ?_;rintro e w1⟨rfl,hb1⟩);go_ret;exact⟨rfl,(S2.out.below hb1).bel⟩
    ·have hn':¬(0:Int)<(ns:Int):=by omega
     have hv:a3=false:=by rw[E3.out];simp[hn]
     clear E3;subst hv;go_wp2_with fail;go_ret;exact⟨rfl,(S2.out).bel⟩
end Go.Proofs.YtkkomffmnafjkaaGreatDoor
