/- Contracts of the document's Right of conditions and of a request, and of its .. -/
import Derived.Test.YtbphndihjdiiiaaGreatDoorXO1
import Derived.Test.YtbphndihjdiiiaaGreatDoorXI5
set_option maxHeartbeats 16000000
set_option maxRecDepth 100000
set_option linter.all false
namespace Go.Proofs.YtbphndihjdiiiaaGreatDoor
open Go.RowKit
theorem v158(l:List UInt8)(wk:Bool)(w:World):Calls Tryz.prog 230 #[.agg #[.string ⟨l.toArray⟩,.bool wk]] w fun e w'=>e=.returned (.bool (decide (l=[])&&wk))∧Below w.heap.size w w':=by
 rcases j30 l with⟨rfl,hq⟩|⟨hne,hq⟩;·go_enter Tryz.func230,Tryz.ntmps230;go_wp2_with fail;go_ret;exact⟨by simp,by(repeat(first|exact Below.refl _ _|refine q15 ?_ _|refine x15 ?_|refine q11 ?_ _|refine w14 ?_ (by simp) _))⟩
 ·rw[decide_eq_false hne];go_enter Tryz.func230,Tryz.ntmps230;go_wp2_with fail;go_ret;exact⟨rfl,by(repeat(first|exact Below.refl _ _|refine q15 ?_ _|refine x15 ?_|refine q11 ?_ _|refine w14 ?_ (by simp) _))⟩
theorem j135{k:CondL}(h:(k.am&&decide (0<k.M.length))=true∨(k.an&&decide (0<k.N.length))=true):w39 k=false:=by unfold w39 k47;rcases h with h|h<;>rw[h]<;>simp
theorem z122{k:CondL}(h1:(k.am&&decide (0<k.M.length))=false)(h2:(k.an&&decide (0<k.N.length))=false):w39 k=(j61 k.M&&j61 k.N&&k33 k.si&&k33 k.un&&(decide (k.rt=[])||j20 k.rt)):=by unfold w39 k47 j61;rw[h1,h2];cases tgs k.M<;>cases tgs k.N<;>simp
theorem w97(k:CondL)(A1:Option Addr)(c1:Nat)(A2:Option Addr)(c2:Nat)(w:World)(h1:SpG q27 2 w A1 c1 k.M)(h2:SpG q27 2 w A2 c2 k.N)(hs:ShortC k):Calls Tryz.prog 174 #[j57 k A1 c1 A2 c2] w fun e w'=>e=.returned (.bool (w39 k))∧Below w.heap.size w w':=by
 have HBAD:=Lib.hid (j135 (k:=k));have HGOOD:=Lib.hid (z122 (k:=k));obtain⟨M,N,am,an,si,un,rt,rw⟩:=k;obtain⟨l1,l2,l3,l4,l5⟩:=hs;simp only at l1 l2 l3 l4 l5 h1 h2 HBAD HGOOD;have HM:=Lib.hid h1;have HN:=Lib.hid h2;have H1:=fun W h=>Lib.hid (v102 A1 c1 M W h l1 l3);have H2:=fun W h=>Lib.hid (v102 A2 c2 N W h l2 l4);have H3:=fun W=>Lib.hid (w102 si W);have H4:=fun W=>Lib.hid (w102 un W);have H5:=fun W=>Lib.hid (j37 rt rw W l5);have H6:=fun W=>Lib.hid (v158 rt rw W);obtain⟨V,hV⟩:∃V,w39 ⟨M,N,am,an,si,un,rt,rw⟩=V:=⟨_,rfl⟩;rw[hV]at HBAD HGOOD⊢;unfold j57;simp only;obtain⟨b1,e1⟩:∃b,j61 M=b:=⟨_,rfl⟩;obtain⟨b2,e2⟩:∃b,j61 N=b:=⟨_,rfl⟩;obtain⟨b3,e3⟩:∃b,k33 si=b:=⟨_,rfl⟩;obtain⟨b4,e4⟩:∃b,k33 un=b:=⟨_,rfl⟩;obtain⟨b5,e5⟩:∃b,j20 rt=b:=⟨_,rfl⟩;rw[e1,e2,e3,e4,e5]at HGOOD;rw[e1]at H1;rw[e2]at H2;rw[e3]at H3;rw[e4]at H4;rw[e5]at H5;obtain⟨ml,q7⟩:∃x,M.length=x:=⟨_,rfl⟩;obtain⟨nl,q8⟩:∃x,N.length=x:=⟨_,rfl⟩;rw[q7]at H1 HBAD HGOOD⊢;rw[q8]at H2 HBAD HGOOD⊢;clear hV h1 h2 l1 l2 l3 l4 l5 e1 e2 e3 e4 e5 q7 q8;go_enter Tryz.func174,Tryz.ntmps174;go_upto_region 1 with fail;obtain⟨W0,hW0⟩:∃W,(w.alloc (.cells #[.slice A1 ml c1,.slice A2 nl c2,.bool am,.bool an,.int .i64 si,.int .i64 un,.string ⟨rt.toArray⟩,.bool rw] 45))=W:=⟨_,rfl⟩;have X0:Hid (W0.heap[w.heap.size]?=some (.cells #[.slice A1 ml c1,.slice A2 nl c2,.bool am,.bool an,.int .i64 si,.int .i64 un,.string ⟨rt.toArray⟩,.bool rw] 45 (0,0))):=by simp only[Hid];rw[←hW0];exact j17 rfl
 have HB0:Hid (Below w.heap.size w W0):=by simp only[Hid];rw[←hW0];exact q11 (Below.refl _ _) _
 rw[hW0];clear hW0;have v0:=bc 0 X0.out rfl;have v1:=bc 1 X0.out rfl;have v2:=bc 2 X0.out rfl;have v3:=bc 3 X0.out rfl;have v4:=bc 4 X0.out rfl;have v5:=bc 5 X0.out rfl;have v6:=bc 6 X0.out rfl;have v7:=bc 7 X0.out rfl;have vz:=q14 X0.out;go_cut[21](fun s wx=>s=.bool ((am&&decide (0<ml))||(an&&decide (0<nl)))∧wx=W0);case first=>
  cases am<;>cases an<;>by_cases hm:0<ml<;>by_cases hn:0<nl;all_goals
   first|(have hm':(0:Int)<(ml:Int):=by omega)|(have hm':¬(0:Int)<(ml:Int):=by omega)
   first|(have hn':(0:Int)<(nl:Int):=by omega)|(have hn':¬(0:Int)<(nl:Int):=by omega)
   go_wp2_with fail;go_meet;exact⟨by simp[hm,hn],rfl⟩
 case rest=>
  obtain⟨rfl,rfl⟩:=hcut;obtain⟨x1,y1⟩:∃z,(am&&decide (0<ml))=z:=⟨_,rfl⟩;obtain⟨x2,y2⟩:∃z,(an&&decide (0<nl))=z:=⟨_,rfl⟩;rw[y1,y2]at HBAD HGOOD⊢;clear y1 y2;obtain⟨z,hz⟩:∃z,(x1||x2)=z:=⟨_,rfl⟩;rw[hz];cases z with
   |true=>have HV:Hid (V=false):=HBAD.out (by simpa using hz);clear HBAD HGOOD hz;go_wp2_with fail;go_ret;exact⟨by rw[HV.out];rfl,HB0.out⟩
   |false=>
    rw[Bool.or_eq_false_iff]at hz;have HV:=Lib.hid (HGOOD.out hz.1 hz.2);clear HBAD HGOOD hz;cases b1 with
     |false=>
      rcases j30 rt with⟨rfl,hq⟩|⟨hne,hq⟩;·
       cases rw<;>(go_wp2_with(first|(go_at_call_of 228(Value.slice A1 ml c1);refine(H1 _ (HM.out.below HB0.out)).out.mono ?_;rintro e w1⟨rfl,hb1⟩;have Y1:=Lib.hid (j3 hb1 X0.out);have v0:=bc 0 Y1.out rfl;have v1:=bc 1 Y1.out rfl;have v2:=bc 2 Y1.out rfl;have v3:=bc 3 Y1.out rfl;have v4:=bc 4 Y1.out rfl;have v5:=bc 5 Y1.out rfl;have v6:=bc 6 Y1.out rfl;have v7:=bc 7 Y1.out rfl;have vz:=q14 Y1.out));go_ret;exact⟨by rw[HV.out];simp,q12 hb1 (HB0.out)⟩)
      ·go_wp2_with(first|(go_at_call_of 228(Value.slice A1 ml c1);refine(H1 _ (HM.out.below HB0.out)).out.mono ?_;rintro e w1⟨rfl,hb1⟩;have Y1:=Lib.hid (j3 hb1 X0.out);have v0:=bc 0 Y1.out rfl;have v1:=bc 1 Y1.out rfl;have v2:=bc 2 Y1.out rfl;have v3:=bc 3 Y1.out rfl;have v4:=bc 4 Y1.out rfl;have v5:=bc 5 Y1.out rfl;have v6:=bc 6 Y1.out rfl;have v7:=bc 7 Y1.out rfl;have vz:=q14 Y1.out));go_ret;exact⟨by rw[HV.out];simp,q12 hb1 (HB0.out)⟩
     |true=>
      cases b2 with
       |false=>
        rcases j30 rt with⟨rfl,hq⟩|⟨hne,hq⟩;·
         cases rw<;>(go_wp2_with(first|(go_at_call_of 228(Value.slice A2 nl c2);refine(H2 _ ((HN.out.below HB0.out).below hb1)).out.mono ?_;rintro e w2⟨rfl,hb2⟩;have Y2:=Lib.hid (j3 hb2 Y1.out);have v0:=bc 0 Y2.out rfl;have v1:=bc 1 Y2.out rfl;have v2:=bc 2 Y2.out rfl;have v3:=bc 3 Y2.out rfl;have v4:=bc 4 Y2.out rfl;have v5:=bc 5 Y2.out rfl;have v6:=bc 6 Y2.out rfl;have v7:=bc 7 Y2.out rfl;have vz:=q14 Y2.out)|(go_at_call_of 228(Value.slice A1 ml c1);refine(H1 _ (HM.out.below HB0.out)).out.mono ?_;rintro e w1⟨rfl,hb1⟩;have Y1:=Lib.hid (j3 hb1 X0.out);have v0:=bc 0 Y1.out rfl;have v1:=bc 1 Y1.out rfl;have v2:=bc 2 Y1.out rfl;have v3:=bc 3 Y1.out rfl;have v4:=bc 4 Y1.out rfl;have v5:=bc 5 Y1.out rfl;have v6:=bc 6 Y1.out rfl;have v7:=bc 7 Y1.out rfl;have vz:=q14 Y1.out));go_ret;exact⟨by rw[HV.out];simp,q12 hb2 (q12 hb1 (HB0.out))⟩)
        ·go_wp2_with(first|(go_at_call_of 228(Value.slice A2 nl c2);refine(H2 _ ((HN.out.below HB0.out).below hb1)).out.mono ?_;rintro e w2⟨rfl,hb2⟩;have Y2:=Lib.hid (j3 hb2 Y1.out);have v0:=bc 0 Y2.out rfl;have v1:=bc 1 Y2.out rfl;have v2:=bc 2 Y2.out rfl;have v3:=bc 3 Y2.out rfl;have v4:=bc 4 Y2.out rfl;have v5:=bc 5 Y2.out rfl;have v6:=bc 6 Y2.out rfl;have v7:=bc 7 Y2.out rfl;have vz:=q14 Y2.out)|(go_at_call_of 228(Value.slice A1 ml c1);refine(H1 _ (HM.out.below HB0.out)).out.mono ?_;rintro e w1⟨rfl,hb1⟩;have Y1:=Lib.hid (j3 hb1 X0.out);have v0:=bc 0 Y1.out rfl;have v1:=bc 1 Y1.out rfl;have v2:=bc 2 Y1.out rfl;have v3:=bc 3 Y1.out rfl;have v4:=bc 4 Y1.out rfl;have v5:=bc 5 Y1.out rfl;have v6:=bc 6 Y1.out rfl;have v7:=bc 7 Y1.out rfl;have vz:=q14 Y1.out));go_ret;exact⟨by rw[HV.out];simp,q12 hb2 (q12 hb1 (HB0.out))⟩
       |true=>
        cases b3 with
         |false=>
          rcases j30 rt with⟨rfl,hq⟩|⟨hne,hq⟩;·
           cases rw<;>(go_wp2_with(first|(go_at_call_of 229(Value.int .i64 si);refine(H3 _).out.mono ?_;rintro e w3⟨rfl,hb3⟩;have Y3:=Lib.hid (j3 hb3 Y2.out);have v0:=bc 0 Y3.out rfl;have v1:=bc 1 Y3.out rfl;have v2:=bc 2 Y3.out rfl;have v3:=bc 3 Y3.out rfl;have v4:=bc 4 Y3.out rfl;have v5:=bc 5 Y3.out rfl;have v6:=bc 6 Y3.out rfl;have v7:=bc 7 Y3.out rfl;have vz:=q14 Y3.out)|(go_at_call_of 228(Value.slice A2 nl c2);refine(H2 _ ((HN.out.below HB0.out).below hb1)).out.mono ?_;rintro e w2⟨rfl,hb2⟩;have Y2:=Lib.hid (j3 hb2 Y1.out);have v0:=bc 0 Y2.out rfl;have v1:=bc 1 Y2.out rfl;have v2:=bc 2 Y2.out rfl;have v3:=bc 3 Y2.out rfl;have v4:=bc 4 Y2.out rfl;have v5:=bc 5 Y2.out rfl;have v6:=bc 6 Y2.out rfl;have v7:=bc 7 Y2.out rfl;have vz:=q14 Y2.out)|(go_at_call_of 228(Value.slice A1 ml c1);refine(H1 _ (HM.out.below HB0.out)).out.mono ?_;rintro e w1⟨rfl,hb1⟩;have Y1:=Lib.hid (j3 hb1 X0.out);have v0:=bc 0 Y1.out rfl;have v1:=bc 1 Y1.out rfl;have v2:=bc 2 Y1.out rfl;have v3:=bc 3 Y1.out rfl;have v4:=bc 4 Y1.out rfl;have v5:=bc 5 Y1.out rfl;have v6:=bc 6 Y1.out rfl;have v7:=bc 7 Y1.out rfl;have vz:=q14 Y1.out));go_ret;exact⟨by rw[HV.out];simp,q12 hb3 (q12 hb2 (q12 hb1 (HB0.out)))⟩)
          ·go_wp2_with(first|(go_at_call_of 229(Value.int .i64 si);refine(H3 _).out.mono ?_;rintro e w3⟨rfl,hb3⟩;have Y3:=Lib.hid (j3 hb3 Y2.out);have v0:=bc 0 Y3.out rfl;have v1:=bc 1 Y3.out rfl;have v2:=bc 2 Y3.out rfl;have v3:=bc 3 Y3.out rfl;have v4:=bc 4 Y3.out rfl;have v5:=bc 5 Y3.out rfl;have v6:=bc 6 Y3.out rfl;have v7:=bc 7 Y3.out rfl;have vz:=q14 Y3.out)|(go_at_call_of 228(Value.slice A2 nl c2);refine(H2 _ ((HN.out.below HB0.out).below hb1)).out.mono ?_;rintro e w2⟨rfl,hb2⟩;have Y2:=Lib.hid (j3 hb2 Y1.out);have v0:=bc 0 Y2.out rfl;have v1:=bc 1 Y2.out rfl;have v2:=bc 2 Y2.out rfl;have v3:=bc 3 Y2.out rfl;have v4:=bc 4 Y2.out rfl;have v5:=bc 5 Y2.out rfl;have v6:=bc 6 Y2.out rfl;have v7:=bc 7 Y2.out rfl;have vz:=q14 Y2.out)|(go_at_call_of 228(Value.slice A1 ml c1);refine(H1 _ (HM.out.below HB0.out)).out.mono ?_;rintro e w1⟨rfl,hb1⟩;have Y1:=Lib.hid (j3 hb1 X0.out);have v0:=bc 0 Y1.out rfl;have v1:=bc 1 Y1.out rfl;have v2:=bc 2 Y1.out rfl;have v3:=bc 3 Y1.out rfl;have v4:=bc 4 Y1.out rfl;have v5:=bc 5 Y1.out rfl;have v6:=bc 6 Y1.out rfl;have v7:=bc 7 Y1.out rfl;have vz:=q14 Y1.out));go_ret;exact⟨by rw[HV.out];simp,q12 hb3 (q12 hb2 (q12 hb1 (HB0.out)))⟩
         |true=>
          cases b4 with
           |false=>
            rcases j30 rt with⟨rfl,hq⟩|⟨hne,hq⟩;·
             cases rw<;>(go_wp2_with(first|(go_at_call_of 229(Value.int .i64 un);refine(H4 _).out.mono ?_;rintro e w4⟨rfl,hb4⟩;have Y4:=Lib.hid (j3 hb4 Y3.out);have v0:=bc 0 Y4.out rfl;have v1:=bc 1 Y4.out rfl;have v2:=bc 2 Y4.out rfl;have v3:=bc 3 Y4.out rfl;have v4:=bc 4 Y4.out rfl;have v5:=bc 5 Y4.out rfl;have v6:=bc 6 Y4.out rfl;have v7:=bc 7 Y4.out rfl;have vz:=q14 Y4.out)|(go_at_call_of 229(Value.int .i64 si);refine(H3 _).out.mono ?_;rintro e w3⟨rfl,hb3⟩;have Y3:=Lib.hid (j3 hb3 Y2.out);have v0:=bc 0 Y3.out rfl;have v1:=bc 1 Y3.out rfl;have v2:=bc 2 Y3.out rfl;have v3:=bc 3 Y3.out rfl;have v4:=bc 4 Y3.out rfl;have v5:=bc 5 Y3.out rfl;have v6:=bc 6 Y3.out rfl;have v7:=bc 7 Y3.out rfl;have vz:=q14 Y3.out)|(go_at_call_of 228(Value.slice A2 nl c2);refine(H2 _ ((HN.out.below HB0.out).below hb1)).out.mono ?_;rintro e w2⟨rfl,hb2⟩;have Y2:=Lib.hid (j3 hb2 Y1.out);have v0:=bc 0 Y2.out rfl;have v1:=bc 1 Y2.out rfl;have v2:=bc 2 Y2.out rfl;have v3:=bc 3 Y2.out rfl;have v4:=bc 4 Y2.out rfl;have v5:=bc 5 Y2.out rfl;have v6:=bc 6 Y2.out rfl;have v7:=bc 7 Y2.out rfl;have vz:=q14 Y2.out)|(go_at_call_of 228(Value.slice A1 ml c1);refine(H1 _ (HM.out.below HB0.out)).out.mono ?_;rintro e w1⟨rfl,hb1⟩;have Y1:=Lib.hid (j3 hb1 X0.out);have v0:=bc 0 Y1.out rfl;have v1:=bc 1 Y1.out rfl;have v2:=bc 2 Y1.out rfl;have v3:=bc 3 Y1.out rfl;have v4:=bc 4 Y1.out rfl;have v5:=bc 5 Y1.out rfl;have v6:=bc 6 Y1.out rfl;have v7:=bc 7 Y1.out rfl;have vz:=q14 Y1.out));go_ret;exact⟨by rw[HV.out];simp,q12 hb4 (q12 hb3 (q12 hb2 (q12 hb1 (HB0.out))))⟩)
            ·go_wp2_with(first|(go_at_call_of 229(Value.int .i64 un);refine(H4 _).out.mono ?_;rintro e w4⟨rfl,hb4⟩;have Y4:=Lib.hid (j3 hb4 Y3.out);have v0:=bc 0 Y4.out rfl;have v1:=bc 1 Y4.out rfl;have v2:=bc 2 Y4.out rfl;have v3:=bc 3 Y4.out rfl;have v4:=bc 4 Y4.out rfl;have v5:=bc 5 Y4.out rfl;have v6:=bc 6 Y4.out rfl;have v7:=bc 7 Y4.out rfl;have vz:=q14 Y4.out)|(go_at_call_of 229(Value.int .i64 si);refine(H3 _).out.mono ?_;rintro e w3⟨rfl,hb3⟩;have Y3:=Lib.hid (j3 hb3 Y2.out);have v0:=bc 0 Y3.out rfl;have v1:=bc 1 Y3.out rfl;have v2:=bc 2 Y3.out rfl;have v3:=bc 3 Y3.out rfl;have v4:=bc 4 Y3.out rfl;have v5:=bc 5 Y3.out rfl;have v6:=bc 6 Y3.out rfl;have v7:=bc 7 Y3.out rfl;have vz:=q14 Y3.out)|(go_at_call_of 228(Value.slice A2 nl c2);refine(H2 _ ((HN.out.below HB0.out).below hb1)).out.mono ?_;rintro e w2⟨rfl,hb2⟩;have Y2:=Lib.hid (j3 hb2 Y1.out);have v0:=bc 0 Y2.out rfl;have v1:=bc 1 Y2.out rfl;have v2:=bc 2 Y2.out rfl;have v3:=bc 3 Y2.out rfl;have v4:=bc 4 Y2.out rfl;have v5:=bc 5 Y2.out rfl;have v6:=bc 6 Y2.out rfl;have v7:=bc 7 Y2.out rfl;have vz:=q14 Y2.out)|(go_at_call_of 228(Value.slice A1 ml c1);refine(H1 _ (HM.out.below HB0.out)).out.mono ?_;rintro e w1⟨rfl,hb1⟩;have Y1:=Lib.hid (j3 hb1 X0.out);have v0:=bc 0 Y1.out rfl;have v1:=bc 1 Y1.out rfl;have v2:=bc 2 Y1.out rfl;have v3:=bc 3 Y1.out rfl;have v4:=bc 4 Y1.out rfl;have v5:=bc 5 Y1.out rfl;have v6:=bc 6 Y1.out rfl;have v7:=bc 7 Y1.out rfl;have vz:=q14 Y1.out));go_ret;exact⟨by rw[HV.out];simp,q12 hb4 (q12 hb3 (q12 hb2 (q12 hb1 (HB0.out))))⟩
           |true=>
            rcases j30 rt with⟨rfl,hq⟩|⟨hne,hq⟩;·
             cases rw with
              |false=>go_wp2_with(first|(go_at_call_of 229(Value.int .i64 un);refine(H4 _).out.mono ?_;rintro e w4⟨rfl,hb4⟩;have Y4:=Lib.hid (j3 hb4 Y3.out);have v0:=bc 0 Y4.out rfl;have v1:=bc 1 Y4.out rfl;have v2:=bc 2 Y4.out rfl;have v3:=bc 3 Y4.out rfl;have v4:=bc 4 Y4.out rfl;have v5:=bc 5 Y4.out rfl;have v6:=bc 6 Y4.out rfl;have v7:=bc 7 Y4.out rfl;have vz:=q14 Y4.out)|(go_at_call_of 229(Value.int .i64 si);refine(H3 _).out.mono ?_;rintro e w3⟨rfl,hb3⟩;have Y3:=Lib.hid (j3 hb3 Y2.out);have v0:=bc 0 Y3.out rfl;have v1:=bc 1 Y3.out rfl;have v2:=bc 2 Y3.out rfl;have v3:=bc 3 Y3.out rfl;have v4:=bc 4 Y3.out rfl;have v5:=bc 5 Y3.out rfl;have v6:=bc 6 Y3.out rfl;have v7:=bc 7 Y3.out rfl;have vz:=q14 Y3.out)|(go_at_call_of 228(Value.slice A2 nl c2);refine(H2 _ ((HN.out.below HB0.out).below hb1)).out.mono ?_;rintro e w2⟨rfl,hb2⟩;have Y2:=Lib.hid (j3 hb2 Y1.out);have v0:=bc 0 Y2.out rfl;have v1:=bc 1 Y2.out rfl;have v2:=bc 2 Y2.out rfl;have v3:=bc 3 Y2.out rfl;have v4:=bc 4 Y2.out rfl;have v5:=bc 5 Y2.out rfl;have v6:=bc 6 Y2.out rfl;have v7:=bc 7 Y2.out rfl;have vz:=q14 Y2.out)|(go_at_call_of 228(Value.slice A1 ml c1);refine(H1 _ (HM.out.below HB0.out)).out.mono ?_;rintro e w1⟨rfl,hb1⟩;have Y1:=Lib.hid (j3 hb1 X0.out);have v0:=bc 0 Y1.out rfl;have v1:=bc 1 Y1.out rfl;have v2:=bc 2 Y1.out rfl;have v3:=bc 3 Y1.out rfl;have v4:=bc 4 Y1.out rfl;have v5:=bc 5 Y1.out rfl;have v6:=bc 6 Y1.out rfl;have v7:=bc 7 Y1.out rfl;have vz:=q14 Y1.out));go_ret;exact⟨by rw[HV.out];simp,q12 hb4 (q12 hb3 (q12 hb2 (q12 hb1 (HB0.out))))⟩
              |true=>go_wp2_with(first|(go_at_call 230;refine(H6 _).out.mono ?_;rintro e w5⟨rfl,hb5⟩;have Y5:=Lib.hid (j3 hb5 Y4.out);have v0:=bc 0 Y5.out rfl;have v1:=bc 1 Y5.out rfl;have v2:=bc 2 Y5.out rfl;have v3:=bc 3 Y5.out rfl;have v4:=bc 4 Y5.out rfl;have v5:=bc 5 Y5.out rfl;have v6:=bc 6 Y5.out rfl;have v7:=bc 7 Y5.out rfl;have vz:=q14 Y5.out)|(go_at_call_of 229(Value.int .i64 un);refine(H4 _).out.mono ?_;rintro e w4⟨rfl,hb4⟩;have Y4:=Lib.hid (j3 hb4 Y3.out);have v0:=bc 0 Y4.out rfl;have v1:=bc 1 Y4.out rfl;have v2:=bc 2 Y4.out rfl;have v3:=bc 3 Y4.out rfl;have v4:=bc 4 Y4.out rfl;have v5:=bc 5 Y4.out rfl;have v6:=bc 6 Y4.out rfl;have v7:=bc 7 Y4.out rfl;have vz:=q14 Y4.out)|(go_at_call_of 229(Value.int .i64 si);refine(H3 _).out.mono ?_;rintro e w3⟨rfl,hb3⟩;have Y3:=Lib.hid (j3 hb3 Y2.out);have v0:=bc 0 Y3.out rfl;have v1:=bc 1 Y3.out rfl;have v2:=bc 2 Y3.out rfl;have v3:=bc 3 Y3.out rfl;have v4:=bc 4 Y3.out rfl;have v5:=bc 5 Y3.out rfl;have v6:=bc 6 Y3.out rfl;have v7:=bc 7 Y3.out rfl;have vz:=q14 Y3.out)|(go_at_call_of 228(Value.slice A2 nl c2);refine(H2 _ ((HN.out.below HB0.out).below hb1)).out.mono ?_;rintro e w2⟨rfl,hb2⟩;have Y2:=Lib.hid (j3 hb2 Y1.out);have v0:=bc 0 Y2.out rfl;have v1:=bc 1 Y2.out rfl;have v2:=bc 2 Y2.out rfl;have v3:=bc 3 Y2.out rfl;have v4:=bc 4 Y2.out rfl;have v5:=bc 5 Y2.out rfl;have v6:=bc 6 Y2.out rfl;have v7:=bc 7 Y2.out rfl;have vz:=q14 Y2.out)|(go_at_call_of 228(Value.slice A1 ml c1);refine(H1 _ (HM.out.below HB0.out)).out.mono ?_;rintro e w1⟨rfl,hb1⟩;have Y1:=Lib.hid (j3 hb1 X0.out);have v0:=bc 0 Y1.out rfl;have v1:=bc 1 Y1.out rfl;have v2:=bc 2 Y1.out rfl;have v3:=bc 3 Y1.out rfl;have v4:=bc 4 Y1.out rfl;have v5:=bc 5 Y1.out rfl;have v6:=bc 6 Y1.out rfl;have v7:=bc 7 Y1.out rfl;have vz:=q14 Y1.out));go_ret;exact⟨by rw[HV.out];simp,q12 hb5 (q12 hb4 (q12 hb3 (q12 hb2 (q12 hb1 (HB0.out)))))⟩
            ·rw[decide_eq_false hne]at HV H6;clear hne;go_wp2_with(first|(go_at_call 128;refine(H5 _).out.mono ?_;rintro e w6⟨rfl,hb6⟩)|(go_at_call 230;refine(H6 _).out.mono ?_;rintro e w5⟨rfl,hb5⟩;have Y5:=Lib.hid (j3 hb5 Y4.out);have v0:=bc 0 Y5.out rfl;have v1:=bc 1 Y5.out rfl;have v2:=bc 2 Y5.out rfl;have v3:=bc 3 Y5.out rfl;have v4:=bc 4 Y5.out rfl;have v5:=bc 5 Y5.out rfl;have v6:=bc 6 Y5.out rfl;have v7:=bc 7 Y5.out rfl;have vz:=q14 Y5.out)|(go_at_call_of 229(Value.int .i64 un);refine(H4 _).out.mono ?_;rintro e w4⟨rfl,hb4⟩;have Y4:=Lib.hid (j3 hb4 Y3.out);have v0:=bc 0 Y4.out rfl;have v1:=bc 1 Y4.out rfl;have v2:=bc 2 Y4.out rfl;have v3:=bc 3 Y4.out rfl;have v4:=bc 4 Y4.out rfl;have v5:=bc 5 Y4.out rfl;have v6:=bc 6 Y4.out rfl;have v7:=bc 7 Y4.out rfl;have vz:=q14 Y4.out)|(go_at_call_of 229(Value.int .i64 si);refine(H3 _).out.mono ?_;rintro e w3⟨rfl,hb3⟩;have Y3:=Lib.hid (j3 hb3 Y2.out);have v0:=bc 0 Y3.out rfl;have v1:=bc 1 Y3.out rfl;have v2:=bc 2 Y3.out rfl;have v3:=bc 3 Y3.out rfl;have v4:=bc 4 Y3.out rfl;have v5:=bc 5 Y3.out rfl;have v6:=bc 6 Y3.out rfl;have v7:=bc 7 Y3.out rfl;have vz:=q14 Y3.out)|(go_at_call_of 228(Value.slice A2 nl c2);refine(H2 _ ((HN.out.below HB0.out).below hb1)).out.mono ?_;rintro e w2⟨rfl,hb2⟩;have Y2:=Lib.hid (j3 hb2 Y1.out);have v0:=bc 0 Y2.out rfl;have v1:=bc 1 Y2.out rfl;have v2:=bc 2 Y2.out rfl;have v3:=bc 3 Y2.out rfl;have v4:=bc 4 Y2.out rfl;have v5:=bc 5 Y2.out rfl;have v6:=bc 6 Y2.out rfl;have v7:=bc 7 Y2.out rfl;have vz:=q14 Y2.out)|(go_at_call_of 228(Value.slice A1 ml c1);refine(H1 _ (HM.out.below HB0.out)).out.mono ?_;rintro e w1⟨rfl,hb1⟩;have Y1:=Lib.hid (j3 hb1 X0.out);have v0:=bc 0 Y1.out rfl;have v1:=bc 1 Y1.out rfl;have v2:=bc 2 Y1.out rfl;have v3:=bc 3 Y1.out rfl;have v4:=bc 4 Y1.out rfl;have v5:=bc 5 Y1.out rfl;have v6:=bc 6 Y1.out rfl;have v7:=bc 7 Y1.out rfl;have vz:=q14 Y1.out));go_ret;exact⟨by rw[HV.out];cases b5<;>rfl,q12 hb6 (q12 hb5 (q12 hb4 (q12 hb3 (q12 hb2 (q12 hb1 (HB0.out))))))⟩
structure FewC(k:CondL):Prop where
 m:k.M.length≤40
 n:k.N.length≤40
 tm:∀t∈k.M,t.1.length≤400
 tn:∀t∈k.N,t.1.length≤400
 rt:k.rt.length≤400
theorem FewC.short{k:CondL}(h:FewC k):ShortC k:=⟨by have:=h.m;omega,by have:=h.n;omega,fun t ht=>by have:=h.tm t ht;omega,fun t ht=>by have:=h.tn t ht;omega,by have:=h.rt;omega⟩
theorem k148(k:CondL)(A1:Option Addr)(c1:Nat)(A2:Option Addr)(c2:Nat)(w:World)(h1:SpG q27 2 w A1 c1 k.M)(h2:SpG q27 2 w A2 c2 k.N)(hrt:k.rt.length≤4611686018427387904):Calls Tryz.prog 107 #[j57 k A1 c1 A2 c2] w (w51 (FewC k) w):=by
 obtain⟨M,N,am,an,si,un,rt,rw⟩:=k;simp only at h1 h2 hrt;have HM:=Lib.hid h1;have HN:=Lib.hid h2;have hsz:(⟨rt.toArray⟩:ByteArray).size=rt.length:=q19 rt;unfold j57;simp only;clear h1 h2;go_enter Tryz.func107,Tryz.ntmps107;go_upto_region 1 with fail;obtain⟨W0,hW0⟩:∃W,(w.alloc (.cells #[.slice A1 M.length c1,.slice A2 N.length c2,.bool am,.bool an,.int .i64 si,.int .i64 un,.string ⟨rt.toArray⟩,.bool rw] 45))=W:=⟨_,rfl⟩;have X0:Hid (W0.heap[w.heap.size]?=some (.cells #[.slice A1 M.length c1,.slice A2 N.length c2,.bool am,.bool an,.int .i64 si,.int .i64 un,.string ⟨rt.toArray⟩,.bool rw] 45 (0,0))):=by simp only[Hid];rw[←hW0];exact j17 rfl
 have HB0:Hid (Below w.heap.size w W0):=by simp only[Hid];rw[←hW0];exact q11 (Below.refl _ _) _
 rw[hW0];clear hW0;have v0:=bc 0 X0.out rfl;have v1:=bc 1 X0.out rfl;have v2:=bc 2 X0.out rfl;have v3:=bc 3 X0.out rfl;have v4:=bc 4 X0.out rfl;have v5:=bc 5 X0.out rfl;have v6:=bc 6 X0.out rfl;have v7:=bc 7 X0.out rfl;have vz:=q14 X0.out;go_wp2_with fail;obtain⟨BW,hBW⟩:∃W,W0.alloc (.cells #[.slice A1 M.length c1,.slice A2 N.length c2] 41)=W:=⟨_,rfl⟩;have XR:Hid (BW.heap[W0.heap.size]?=some (.cells #[.slice A1 M.length c1,.slice A2 N.length c2] 41 (0,0))):=by simp only[Hid];rw[←hBW];exact j17 rfl
 have HBW:Hid (Below w.heap.size w BW):=by simp only[Hid];rw[←hBW];exact q11 HB0.out _
 rw[hBW];clear hBW X0 HB0 v0 v1 v2 v3 v4 v5 v6 v7 vz;go_loopw[3,5,7,18,27](fun n _ _ i _ wr=>∃(k:Nat)(m:Int),k≤2∧i=.int .i64 (k:Int)∧n=.int .i64 m∧(rt.length:Int)≤m∧m≤(rt.length:Int)+(k:Int)*16000∧(0<k→M.length≤40∧∀t∈M,t.1.length≤400)∧(1<k→N.length≤40∧∀t∈N,t.1.length≤400)∧Below BW.heap.size BW wr)(fun _ _ _ i _ _=>2-(intOf i).toNat);case atStart=>exact⟨0,rt.length,by omega,rfl,by first|rfl|(rw[hsz]),by omega,by omega,by omega,by omega,Below.refl _ _⟩
 case round=>
  obtain⟨k,m,hk,rfl,rfl,hm1,hm2,hM,hN,hbw⟩:=hrel;have HB:=Lib.hid hbw;have HMF:=Lib.hid hM;have HNF:=Lib.hid hN;have YR:=Lib.hid (j3 hbw XR.out);have yz:=q14 YR.out;clear hbw hM hN;by_cases hlt:k<2;·
   have hcases:∃(A:Option Addr)(c:Nat)(T:List TagL),SpG q27 2 wr A c T∧(#[.slice A1 M.length c1,.slice A2 N.length c2]:Array Value)[k]?=some (.slice A T.length c)∧(T.length≤40→(∀t∈T,t.1.length≤400)→(0<k+1→M.length≤40∧∀t∈M,t.1.length≤400)∧(1<k+1→N.length≤40∧∀t∈N,t.1.length≤400)):=by
    have hk2:k=0∨k=1:=by omega
    rcases hk2 with rfl|rfl;·exact⟨A1,c1,M,HM.out.below (q12 HB.out HBW.out),rfl,fun h1 h2=>⟨fun _=>⟨h1,h2⟩,fun h=>absurd h (by omega)⟩⟩
    ·exact⟨A2,c2,N,HN.out.below (q12 HB.out HBW.out),rfl,fun h1 h2=>⟨fun _=>HMF.out (by omega),fun _=>⟨h1,h2⟩⟩⟩
   obtain⟨A,c,T,hT,hc,hF⟩:=hcases;have HT:=Lib.hid hT;have HF:=Lib.hid hF;have c0:=(j14 YR.out hc);clear hT hF hc HMF HNF;have hk2:(k:Int)<2:=by omega
   by_cases h40:40<T.length;·
    have h40':(40:Int)<(T.length:Int):=by omega
    go_wp2_with fail;go_ret;exact y37 (q12 HB.out HBW.out)
   have h40':¬(40:Int)<(T.length:Int):=by omega
   go_wp2_with fail;go_loopw[3,7,27](fun n _ j wq=>∃(q:Nat)(u:Int),q≤T.length∧j=.int .i64 (q:Int)∧n=.int .i64 u∧m≤u∧u≤m+(q:Int)*400∧(∀t∈T.take q,t.1.length≤400)∧Below wr.heap.size wr wq)(fun _ _ j _=>T.length-(intOf j).toNat);case atStart=>exact⟨0,m,Nat.zero_le _,rfl,rfl,by omega,by omega,by simp,Below.refl _ _⟩
   case round=>
    obtain⟨q,u,hq,rfl,rfl,hu1,hu2,hall,hbq⟩:=hrel;have HBQ:=Lib.hid hbq;have HA:=Lib.hid hall;clear hbq hall;by_cases hlq:q<T.length;·
     obtain⟨b,off,e,hb,hc⟩:=(HT.out.below HBQ.out).at' q hlq;have d0:=hc 0 _ rfl;have d1:=hc 1 _ rfl;have HST:Hid (T[q].1.length≤400→∀t∈T.take (q+1),t.1.length≤400):=by
      intro h t ht;rw[List.take_succ_eq_append_getElem hlq]at ht;rcases List.mem_append.1 ht with ht|ht;·exact HA.out t ht
      ·rw[List.mem_singleton.1 ht];exact h
     obtain⟨⟨t,tw⟩,ht⟩:∃y,T[q]=y:=⟨_,rfl⟩;rw[ht]at d0 d1 HST;have htz:(⟨t.toArray⟩:ByteArray).size=t.length:=q19 t;simp only[Nat.add_zero]at d0 d1 HST;clear hc ht HA;subst e;have hk20:(k:Int)*16000≤16000:=by omega
     have hq16:(q:Int)*400≤16000:=by omega
     by_cases h4:400<t.length;·
      have h4':(400:Int)<(t.length:Int):=by omega
      go_wp2_with fail;go_ret;exact y37 (q12 (q11 HBQ.out _) (q12 HB.out HBW.out))
     ·have h4':¬(400:Int)<(t.length:Int):=by omega
      have HAN:=Lib.hid (HST.out (by omega));go_wp2_with fail;go_roundw;case rel=>exact⟨q+1,u+t.length,by omega,by go_num,by first|rfl|go_num,by omega,by omega,HAN.out,q11 HBQ.out _⟩
      case measure=>simp[intOf];omega
    ·have hqe:q=T.length:=by omega
     have hAL:=HA.out;rw[hqe,List.take_length]at hAL;have HFF:=Lib.hid (HF.out (by omega) hAL);clear HA hAL;go_wp2_with fail;go_roundw;case rel=>exact⟨k+1,u,by omega,by go_num,rfl,by omega,by omega,HFF.out.1,HFF.out.2,q12 HBQ.out HB.out⟩
     case measure=>simp[intOf];omega
  ·have hk2:k=2:=by omega
   subst hk2;by_cases h4:m≤400;·have HF:Hid (FewC ⟨M,N,am,an,si,un,rt,rw⟩):=⟨(HMF.out (by omega)).1,(HNF.out (by omega)).1,(HMF.out (by omega)).2,(HNF.out (by omega)).2,by simp only;omega⟩;go_wp2_with fail;go_ret;exact x97 HF.out (q12 HB.out HBW.out)
   ·go_wp2_with fail;go_ret;exact y37 (q12 HB.out HBW.out)
def y63(Q:Prop)(w:World)(e:Ending)(w':World):Prop:=∃b:Bool,e=.returned (.bool b)∧(b=true↔Q)∧Below w.heap.size w w'
theorem x22{Q:Prop}{w w':World}(hq:¬Q)(h:Below w.heap.size w w'):y63 Q w (.returned (.bool false)) w':=⟨false,rfl,⟨(fun h=>by cases h),fun h=>absurd h hq⟩,h⟩
theorem iff_yes{Q:Prop}{w w':World}(hq:Q)(h:Below w.heap.size w w'):y63 Q w (.returned (.bool true)) w':=⟨true,rfl,⟨fun _=>hq,fun _=>rfl⟩,h⟩
theorem k158{l:List UInt8}(h:j20 l=true){k:Nat}(hk:k<l.length):l[k].toNat≤126:=by rw[j45]at h;simp only[Bool.and_eq_true,List.all_eq_true]at h;have:=h.2 _ (List.getElem_mem hk);unfold tagB at this;simp only[Bool.and_eq_true,decide_eq_true_eq]at this;exact this.1.2
theorem dup_no{α:Type}{L:List α}{q k:Nat}(hk:k<L.length)(hq:q<k)(h:L[q]'(by omega)=L[k]):¬L.Nodup:=by intro hn;have:=(List.getElem_inj (h₀:=by omega) (h₁:=hk) hn).1 h;omega
theorem x148(A:Option Addr)(c:Nat)(L:List (List UInt8))(w:World)(hks:SpG encT 1 w A c L)(hl:L.length≤1000)(hx:∀x∈L,x.length≤300):Calls Tryz.prog 129 #[.slice A L.length c] w (y63 (q93 L) w):=by
 have HK:=Lib.hid hks;have HX:=Lib.hid hx;clear hks hx;by_cases h1:32<L.length;·
  have h1':(32:Int)<(L.length:Int):=by omega
  clear h1;go_enter Tryz.func129,Tryz.ntmps129;go_wp2_with fail;go_ret;exact x22 (fun h=>by have:=h.1;omega) (Below.refl _ _)
 have h1':¬(32:Int)<(L.length:Int):=by omega
 have HL:Hid (L.length≤32):=by simp only[Hid];omega
 clear h1;go_enter Tryz.func129,Tryz.ntmps129;go_wp2_with fail;go_loopw[3,4](fun i _ wr=>∃k:Nat,k≤L.length∧i=.int .i64 (k:Int)∧(∀x∈L.take k,w26 x=true)∧(L.take k).Nodup∧Below w.heap.size w wr)(fun i _ _=>L.length-(intOf i).toNat);case atStart=>exact⟨0,Nat.zero_le _,rfl,by simp,by simp,Below.refl _ _⟩
 case round=>
  obtain⟨k,hk,rfl,hall,hnd,hbw⟩:=hrel;have HA:=Lib.hid hall;have HN:=Lib.hid hnd;have HB:=Lib.hid hbw;clear hall hnd hbw;by_cases hlt:k<L.length;·
   obtain⟨b,off,e,hb,hc⟩:=(HK.out.below HB.out).at' k hlt;have c0:=hc 0 _ rfl;have hxl:=HX.out _ (List.getElem_mem hlt);have HKY:=fun W=>Lib.hid (x111 L[k] W (by omega));have HALL:Hid (w26 L[k]=true→∀x∈L.take (k+1),w26 x=true):=by
    intro h x hx;rw[List.take_succ_eq_append_getElem hlt]at hx;rcases List.mem_append.1 hx with hx|hx;·exact HA.out x hx
    ·rw[List.mem_singleton.1 hx];exact h
   have HND:Hid (L[k]∉L.take k→(L.take (k+1)).Nodup):=by intro h;rw[List.take_succ_eq_append_getElem hlt];refine List.nodup_append.2 ⟨HN.out,by simp,?_⟩;intro a ha b hb2 hab;rw[List.mem_singleton.1 hb2]at hab;rw[hab]at ha;exact h ha
   have HNO:Hid (w26 L[k]=false→¬q93 L):=by intro h hp;have:=hp.2.1 _ (List.getElem_mem hlt);rw[h]at this;cases this
   obtain⟨x,hx⟩:∃x,L[k]=x:=⟨_,rfl⟩;rw[hx]at c0 HKY HALL HND HNO;simp only[Nat.mul_one,Nat.add_zero]at c0;clear hc hxl HA HN;subst e;cases hky:w26 x with
    |false=>rw[hky]at HKY;have HNK:=Lib.hid (HNO.out hky);clear hky HALL HND hx HNO;go_wp2_with(go_at_call 193;refine(HKY _).out.mono ?_;rintro e w1⟨rfl,hw1⟩;obtain rfl:wr=w1:=hw1.symm);go_ret;exact x22 HNK.out HB.out
    |true=>
     rw[hky]at HKY;have HF:=Lib.hid (HALL.out hky);have HXE:=Lib.hid hx;clear hky HALL hx HNO;go_wp2_with(go_at_call 193;refine(HKY _).out.mono ?_;rintro e w1⟨rfl,hw1⟩;obtain rfl:wr=w1:=hw1.symm);go_loopw[4](fun j wq=>∃q:Nat,q≤k∧j=.int .i64 (q:Int)∧x∉L.take q∧Below w.heap.size w wq)(fun j _=>k-(intOf j).toNat);case atStart=>exact⟨0,Nat.zero_le _,rfl,by simp,HB.out⟩
     case round=>
      obtain⟨q,hq,rfl,hnx,hbq⟩:=hrel;have HBQ:=Lib.hid hbq;have HNX:=Lib.hid hnx;clear hnx hbq;by_cases hlq:q<k;·
       obtain⟨b',off',e',hb',hd⟩:=(HK.out.below HBQ.out).at' q (by omega);injection e' with e';injection e' with e1 e2;subst e1 e2;have d0:=hd 0 _ rfl;obtain⟨b',off',e',_,hd2⟩:=(HK.out.below HBQ.out).at' k hlt;injection e' with e';injection e' with e1 e2;subst e1 e2;have d1:=hd2 0 _ rfl;rw[HXE.out]at d1;have hlql:q<L.length:=by omega
       have HY:Hid (¬x=L[q]→x∉L.take (q+1)):=y111 hlql HNX.out;have HDU:Hid (L[q]=x→¬q93 L):=by intro h hp;exact dup_no hlt hlq (h.trans HXE.out.symm) hp.2.2
       obtain⟨y,hy⟩:∃y,L[q]=y:=⟨_,rfl⟩;rw[hy]at d0 HY HDU;simp only[Nat.mul_one,Nat.add_zero]at d0 d1;clear hd hd2 hy HNX c0;by_cases hxy:y=x;·
        have hb2:(y==x)=true:=by rw[hxy];exact beq_self_eq_true x
        have HNK:=Lib.hid (HDU.out hxy);clear HY hxy HDU;go_wp2_with fail;go_quiet(fail);go_wp2_with fail;go_ret;exact x22 HNK.out (q15 HBQ.out _)
       ·have hb2:(y==x)=false:=beq_eq_false_iff_ne.2 hxy;have HZ:=Lib.hid (HY.out (fun h=>hxy h.symm));clear HY hxy HDU;go_wp2_with fail;go_quiet(fail);go_wp2_with fail;go_roundw;case rel=>exact⟨q+1,by omega,by go_num,HZ.out,q15 HBQ.out _⟩
        case measure=>simp[intOf];omega
      ·have hqk:q=k:=by omega
       have HZ:=Lib.hid (HND.out (by have:=HNX.out;rw[hqk]at this;exact this));clear HNX hqk HND;go_wp2_with fail;go_roundw;case rel=>exact⟨k+1,by omega,by go_num,HF.out,HZ.out,HBQ.out⟩
       case measure=>simp[intOf];omega
  ·have hke:k=L.length:=by omega
   have hA:=HA.out;have hN:=HN.out;rw[hke,List.take_length]at hA hN;have HV:Hid (q93 L):=⟨HL.out,hA,hN⟩;clear hA hN HA HN hke;go_wp2_with fail;go_ret;exact iff_yes HV.out HB.out
theorem k113(m:MetaL)(A:Option Addr)(c:Nat)(w:World)(hks:SpG encT 1 w A c m.keys)(hsm:j46 m):Calls Tryz.prog 70 #[j25 m A c] w (y63 (MetaOk m) w):=by
 have HK0:=Lib.hid hks;have HSM:=Lib.hid hsm;clear hks hsm;obtain⟨tg,wk,mo,ln,hv,fr,wh,er,ks,tn,kp⟩:=m;unfold j25;simp only at HK0⊢;have hsz:(⟨tg.toArray⟩:ByteArray).size=tg.length:=q19 tg;obtain⟨l1,l2,l3,l4⟩:=HSM.out;simp only at l1 l2 l3 l4;have HN:=fun W=>Lib.hid (y72 tg wk W);have HTR:=fun W=>Lib.hid (j37 tg wk W (by omega));have HTN:=fun W=>Lib.hid (w81 tn W (by omega));have HKY:=fun W h=>Lib.hid (x148 A c ks W h (by omega) l4);have HZN:Hid ((!(tg.isEmpty&&!wk)&&!j20 tg)=true→¬MetaOk ⟨tg,wk,mo,ln,hv,fr,wh,er,ks,tn,kp⟩):=by
  intro h hok;rw[Bool.and_eq_true,Bool.not_eq_true',Bool.not_eq_true']at h;rcases hok.tg with⟨h1,h2⟩|h1;·simp only at h1 h2;rw[h1,h2]at h;simp at h
  ·simp only at h1;rw[h1]at h;cases h.2
 have HZ:Hid ((tg.isEmpty&&!wk)=true→tg=[]∧wk=false):=by intro h;rw[Bool.and_eq_true,Bool.not_eq_true']at h;exact⟨List.isEmpty_iff.1 h.1,h.2⟩
 obtain⟨z,hz⟩:∃z,(tg.isEmpty&&!wk)=z:=⟨_,rfl⟩;obtain⟨tk,htk⟩:∃z,j20 tg=z:=⟨_,rfl⟩;rw[hz]at HN HZ HZN;rw[htk]at HTR HZN;have HTK:=Lib.hid htk;clear hz htk l3 l4;go_enter Tryz.func70,Tryz.ntmps70;go_upto_region 1 with fail;obtain⟨W0,hW0⟩:∃W0,w.alloc (.cells #[.string ⟨tg.toArray⟩,.bool wk,.int .i64 mo,.int .i64 ln,.int .i64 hv,.int .i64 fr,.int .i64 wh,.int .i64 er,.slice A ks.length c,.string ⟨tn.toArray⟩,.bool kp] 57)=W0:=⟨_,rfl⟩;have HM0:Hid (W0.heap[w.heap.size]?=some (.cells #[.string ⟨tg.toArray⟩,.bool wk,.int .i64 mo,.int .i64 ln,.int .i64 hv,.int .i64 fr,.int .i64 wh,.int .i64 er,.slice A ks.length c,.string ⟨tn.toArray⟩,.bool kp] 57 (0,0))):=by simp only[Hid];rw[←hW0];exact j17 rfl
 have HB0:Hid (Below w.heap.size w W0):=by simp only[Hid];rw[←hW0];(repeat(first|exact Below.refl _ _|refine q15 ?_ _|refine x15 ?_|refine q11 ?_ _|refine w14 ?_ (by simp) _))
 rw[hW0];clear hW0;have v0:=bc 0 HM0.out rfl;have v1:=bc 1 HM0.out rfl;go_cut[13](fun s13 wx=>s13=.bool (!z&&!tk)∧wx.heap[w.heap.size]?=some (.cells #[.string ⟨tg.toArray⟩,.bool wk,.int .i64 mo,.int .i64 ln,.int .i64 hv,.int .i64 fr,.int .i64 wh,.int .i64 er,.slice A ks.length c,.string ⟨tn.toArray⟩,.bool kp] 57 (0,0))∧Below w.heap.size w wx);case first=>
  cases z with
   |true=>go_wp2_with(go_at_call 127;refine(HN _).out.mono ?_;rintro e w1⟨rfl,hb1⟩);go_meet;exact⟨rfl,j3 hb1 HM0.out,q12 hb1 HB0.out⟩
   |false=>go_wp2_with(first|(go_at_call 128;refine(HTR _).out.mono ?_;rintro e w2⟨rfl,hb2⟩)|(go_at_call 127;refine(HN _).out.mono ?_;rintro e w1⟨rfl,hb1⟩;have HM1:=Lib.hid (j3 hb1 HM0.out);have u0:=bc 0 HM1.out rfl;have u1:=bc 1 HM1.out rfl));go_meet;exact⟨rfl,j3 hb2 HM1.out,q12 hb2 (q12 hb1 HB0.out)⟩
 case rest=>
  obtain⟨rfl,hm,hb⟩:=hcut;have HM:=Lib.hid hm;have HB:=Lib.hid hb;have HK:=Lib.hid (HK0.out.below hb);clear hm hb v0 v1 HM0 HB0 HN HTR HK0;cases hzk:(!z&&!tk)with
   |true=>have HNK:=Lib.hid (HZN.out hzk);go_wp2_with fail;go_ret;exact x22 HNK.out HB.out
   |false=>
    have HTG:Hid ((tg=[]∧wk=false)∨j20 tg=true):=by simp only[Hid];cases z with|true=>exact .inl (HZ.out rfl)|false=>right;rw[HTK.out];simpa using hzk
    clear HZ HTK HZN hzk;go_wp2_with fail;go_loopw[3](fun i wr=>wr=wc∧∃k:Nat,k≤tg.length∧i=.int .i64 (k:Int))(fun i _=>tg.length-(intOf i).toNat);case atStart=>exact⟨rfl,0,Nat.zero_le _,rfl⟩
    case round=>
     obtain⟨rfl,k,hk,rfl⟩:=hrel;have v0:=bc 0 HM.out rfl;have v1:=bc 1 HM.out rfl;have v2:=bc 2 HM.out rfl;have v3:=bc 3 HM.out rfl;have v4:=bc 4 HM.out rfl;have v5:=bc 5 HM.out rfl;have v6:=bc 6 HM.out rfl;have v7:=bc 7 HM.out rfl;have v8:=bc 8 HM.out rfl;have v9:=bc 9 HM.out rfl;have vz:=q14 HM.out;by_cases hlt:k<tg.length;·
      obtain⟨cc,hcc⟩:∃cc,(⟨tg.toArray⟩:ByteArray)[k]'(by rw[hsz];exact hlt)=cc:=⟨_,rfl⟩;by_cases d1:126<cc.toNat;·
       exfalso;rcases HTG.out with⟨h1,_⟩|h1;·rw[h1]at hlt;simp at hlt
       ·have:=k158 h1 hlt;rw[show tg[k]=cc from hcc]at this;omega
      ·have d1':¬(126:Int)<(cc.toNat:Int):=by omega
       clear d1;go_wp2_with fail;go_roundw;case rel=>exact⟨by first|trivial|rfl,k+1,by omega,by go_num⟩
       case measure=>simp[intOf];omega
     ·by_cases e0:mo< -1;·go_wp2_with fail;go_ret;exact x22 (by intro hok;obtain⟨_,⟨q1,q2⟩,⟨q3,q4⟩,⟨q5,q6⟩,q7,q8,q9,q10,_⟩:=hok;simp only at q1 q2 q3 q4 q5 q6 q7 q8 q9 q10;omega) HB.out
      by_cases e1:(253402300799:Int)<mo;·go_wp2_with fail;go_ret;exact x22 (by intro hok;obtain⟨_,⟨q1,q2⟩,⟨q3,q4⟩,⟨q5,q6⟩,q7,q8,q9,q10,_⟩:=hok;simp only at q1 q2 q3 q4 q5 q6 q7 q8 q9 q10;omega) HB.out
      by_cases e2:ln< -1;·go_wp2_with fail;go_ret;exact x22 (by intro hok;obtain⟨_,⟨q1,q2⟩,⟨q3,q4⟩,⟨q5,q6⟩,q7,q8,q9,q10,_⟩:=hok;simp only at q1 q2 q3 q4 q5 q6 q7 q8 q9 q10;omega) HB.out
      by_cases e3:(1099511627776:Int)<ln;·go_wp2_with fail;go_ret;exact x22 (by intro hok;obtain⟨_,⟨q1,q2⟩,⟨q3,q4⟩,⟨q5,q6⟩,q7,q8,q9,q10,_⟩:=hok;simp only at q1 q2 q3 q4 q5 q6 q7 q8 q9 q10;omega) HB.out
      by_cases e4:hv<0;·go_wp2_with fail;go_ret;exact x22 (by intro hok;obtain⟨_,⟨q1,q2⟩,⟨q3,q4⟩,⟨q5,q6⟩,q7,q8,q9,q10,_⟩:=hok;simp only at q1 q2 q3 q4 q5 q6 q7 q8 q9 q10;omega) HB.out
      by_cases e5:(1099511627776:Int)<hv;·go_wp2_with fail;go_ret;exact x22 (by intro hok;obtain⟨_,⟨q1,q2⟩,⟨q3,q4⟩,⟨q5,q6⟩,q7,q8,q9,q10,_⟩:=hok;simp only at q1 q2 q3 q4 q5 q6 q7 q8 q9 q10;omega) HB.out
      have hcase:(¬(0:Int)≤ln)∨((0:Int)≤ln∧hv=ln)∨((0:Int)≤ln∧¬hv=ln):=by omega
      rcases hcase with h7|⟨h7,h8⟩|⟨h7,h8⟩;rotate_left 2;·
       have b8:(hv !=ln)=true:=by rw[bne_iff_ne];exact h8
       go_wp2_with fail;go_ret;exact x22 (by intro hok;obtain⟨_,⟨q1,q2⟩,⟨q3,q4⟩,⟨q5,q6⟩,q7,q8,q9,q10,_⟩:=hok;simp only at q1 q2 q3 q4 q5 q6 q7 q8 q9 q10;omega) HB.out
      all_goals
       first|(have b8:(hv !=ln)=false:=by rw[bne_eq_false_iff_eq];exact h8)|skip
       have HEQ:Hid (ln=-1∨hv=ln):=by simp only[Hid];omega
       try clear h8
       by_cases g1:fr<0;·go_wp2_with fail;go_ret;exact x22 (by intro hok;obtain⟨_,⟨q1,q2⟩,⟨q3,q4⟩,⟨q5,q6⟩,q7,q8,q9,q10,_⟩:=hok;simp only at q1 q2 q3 q4 q5 q6 q7 q8 q9 q10;omega) HB.out
       by_cases g2:(1099511627776:Int)<fr;·go_wp2_with fail;go_ret;exact x22 (by intro hok;obtain⟨_,⟨q1,q2⟩,⟨q3,q4⟩,⟨q5,q6⟩,q7,q8,q9,q10,_⟩:=hok;simp only at q1 q2 q3 q4 q5 q6 q7 q8 q9 q10;omega) HB.out
       by_cases g3:wh<0;·go_wp2_with fail;go_ret;exact x22 (by intro hok;obtain⟨_,⟨q1,q2⟩,⟨q3,q4⟩,⟨q5,q6⟩,q7,q8,q9,q10,_⟩:=hok;simp only at q1 q2 q3 q4 q5 q6 q7 q8 q9 q10;omega) HB.out
       by_cases g4:(1099511627776:Int)<wh;·go_wp2_with fail;go_ret;exact x22 (by intro hok;obtain⟨_,⟨q1,q2⟩,⟨q3,q4⟩,⟨q5,q6⟩,q7,q8,q9,q10,_⟩:=hok;simp only at q1 q2 q3 q4 q5 q6 q7 q8 q9 q10;omega) HB.out
       by_cases g5:er<0;·go_wp2_with fail;go_ret;exact x22 (by intro hok;obtain⟨_,⟨q1,q2⟩,⟨q3,q4⟩,⟨q5,q6⟩,q7,q8,q9,q10,_⟩:=hok;simp only at q1 q2 q3 q4 q5 q6 q7 q8 q9 q10;omega) HB.out
       by_cases g6:(1099511627776:Int)<er;·go_wp2_with fail;go_ret;exact x22 (by intro hok;obtain⟨_,⟨q1,q2⟩,⟨q3,q4⟩,⟨q5,q6⟩,q7,q8,q9,q10,_⟩:=hok;simp only at q1 q2 q3 q4 q5 q6 q7 q8 q9 q10;omega) HB.out
       go_wp2_with fail;refine(HKY _ HK.out).out.mono ?_;rintro e w1⟨b,rfl,hq,hb1⟩;have HM1:=Lib.hid (j3 hb1 HM.out);have u9:=bc 9 HM1.out rfl;cases b with
        |false=>
         have HNK:Hid (¬MetaOk ⟨tg,wk,mo,ln,hv,fr,wh,er,ks,tn,kp⟩):=fun hok=>by have:=hq.2 ⟨hok.kn,hok.ka,hok.kd⟩;cases this
         clear hq;go_wp2_with fail;go_ret;exact x22 HNK.out (q12 hb1 HB.out)
        |true=>
         have HQ:=Lib.hid (hq.1 rfl);have HB1:=Lib.hid (q12 hb1 HB.out);clear hq hb1;have HMK:Hid (j42 tn=true↔MetaOk ⟨tg,wk,mo,ln,hv,fr,wh,er,ks,tn,kp⟩):=by refine⟨fun ht=>?_,fun hok=>hok.tn⟩;exact⟨HTG.out,by simp only;omega,by simp only;omega,by simp only;omega,HEQ.out,by simp only;omega,by simp only;omega,by simp only;omega,HQ.out.1,HQ.out.2.1,HQ.out.2.2,ht⟩
         go_wp2_with fail;refine(HTN _).out.mono ?_;rintro e w2⟨rfl,hw2⟩;obtain rfl:w1=w2:=hw2.symm;go_wp2_with fail;go_ret;exact⟨_,rfl,HMK.out,HB1.out⟩
theorem w66{n:Int}(h:k37 n=true):0≤n∧n≤1099511627776:=by unfold k37 at h;simpa[Bool.and_eq_true,decide_eq_true_eq]using h
theorem k106(m:MetaL)(A:Option Addr)(c:Nat)(w:World)(hks:SpG encT 1 w A c m.keys)(hsm:j46 m):Calls Tryz.prog 65 #[j25 m A c] w (y63 (MetaOk m) w):=by
 by_cases hOK:MetaOk m;·exact(w68 m A c w hks hOK).mono fun e w'⟨he,hb⟩=>⟨true,he,⟨fun _=>hOK,fun _=>rfl⟩,hb⟩
 obtain⟨tg,wk,mo,ln,hv,fr,wh,er,ks,tn,kp⟩:=m;have HSM:=Lib.hid hsm;have HNO:=Lib.hid hOK;have HK0:=Lib.hid hks;clear hOK hsm hks;unfold j25;simp only at HK0⊢;obtain⟨l1,l2,l3,l4⟩:=HSM.out;simp only at l1 l2 l3 l4;have HL4:=Lib.hid l4;have T1:=fun W=>Lib.hid (k45 fr W);have T2:=fun W=>Lib.hid (k45 wh W);have T3:=fun W=>Lib.hid (k45 er W);have HT:=fun W=>Lib.hid (w92 tn W (by omega));have HTG:=fun W=>Lib.hid (k39 tg wk W (by omega));obtain⟨P,hP⟩:∃P,MetaOk ⟨tg,wk,mo,ln,hv,fr,wh,er,ks,tn,kp⟩=P:=⟨_,rfl⟩;have HPE:=Lib.hid hP;rw[hP]at HNO⊢;have hks32:ks.length≤1000000:=by omega
 clear hP l1 l2 l3 l4 HSM;go_enter Tryz.func65,Tryz.ntmps65;go_upto_region 1 with fail;obtain⟨W0,hW0⟩:∃W,(w.alloc (.cells #[.string ⟨tg.toArray⟩,.bool wk,.int .i64 mo,.int .i64 ln,.int .i64 hv,.int .i64 fr,.int .i64 wh,.int .i64 er,.slice A ks.length c,.string ⟨tn.toArray⟩,.bool kp] 57))=W:=⟨_,rfl⟩;have X0:Hid (W0.heap[w.heap.size]?=some (.cells #[.string ⟨tg.toArray⟩,.bool wk,.int .i64 mo,.int .i64 ln,.int .i64 hv,.int .i64 fr,.int .i64 wh,.int .i64 er,.slice A ks.length c,.string ⟨tn.toArray⟩,.bool kp] 57 (0,0))):=by simp only[Hid];rw[←hW0];exact j17 rfl
 have HB0:Hid (Below w.heap.size w W0):=by simp only[Hid];rw[←hW0];exact q11 (Below.refl _ _) _
 rw[hW0];clear hW0;have v0:=bc 0 X0.out rfl;have v1:=bc 1 X0.out rfl;have v2:=bc 2 X0.out rfl;have v3:=bc 3 X0.out rfl;have v4:=bc 4 X0.out rfl;have v5:=bc 5 X0.out rfl;have v6:=bc 6 X0.out rfl;have v7:=bc 7 X0.out rfl;have v8:=bc 8 X0.out rfl;have v9:=bc 9 X0.out rfl;have v10:=bc 10 X0.out rfl;have vz:=q14 X0.out;go_cut[14](fun s wx=>s=.bool (!(decide (tg=[])&&!wk)&&!j20 tg)∧wx.heap[w.heap.size]?=some (.cells #[.string ⟨tg.toArray⟩,.bool wk,.int .i64 mo,.int .i64 ln,.int .i64 hv,.int .i64 fr,.int .i64 wh,.int .i64 er,.slice A ks.length c,.string ⟨tn.toArray⟩,.bool kp] 57 (0,0))∧Below w.heap.size w wx);case first=>
  rcases j30 tg with⟨rfl,hq⟩|⟨hne,hq⟩;·
   cases wk with
    |false=>go_wp2_with fail;go_meet;exact⟨by simp,X0.out,HB0.out⟩
    |true=>go_wp2_with(go_at_call 115;refine(HTG _).out.mono ?_;rintro e w1⟨rfl,hb1⟩);go_meet;exact⟨by simp,j3 hb1 X0.out,q12 hb1 HB0.out⟩
  ·go_wp2_with(go_at_call 115;refine(HTG _).out.mono ?_;rintro e w1⟨rfl,hb1⟩);go_meet;exact⟨by simp[hne],j3 hb1 X0.out,q12 hb1 HB0.out⟩
 case rest=>
  obtain⟨rfl,hx,hb⟩:=hcut;have X0:=Lib.hid hx;have HB:=Lib.hid hb;have HK:=Lib.hid (HK0.out.below hb);clear hx hb HB0 HTG HK0 v0 v1 v2 v3 v4 v5 v6 v7 v8 v9 v10 vz;have v0:=bc 0 X0.out rfl;have v1:=bc 1 X0.out rfl;have v2:=bc 2 X0.out rfl;have v3:=bc 3 X0.out rfl;have v4:=bc 4 X0.out rfl;have v5:=bc 5 X0.out rfl;have v6:=bc 6 X0.out rfl;have v7:=bc 7 X0.out rfl;have v8:=bc 8 X0.out rfl;have v9:=bc 9 X0.out rfl;have v10:=bc 10 X0.out rfl;have vz:=q14 X0.out;obtain⟨z,hz⟩:∃z,(!(decide (tg=[])&&!wk)&&!j20 tg)=z:=⟨_,rfl⟩;rw[hz];cases z with
   |true=>clear hz;go_wp2_with fail;go_ret;exact x22 HNO.out HB.out
   |false=>
    have HTAG:Hid ((tg=[]∧wk=false)∨j20 tg=true):=by
     simp only[Hid];cases ht:j20 tg with
      |true=>exact .inr rfl
      |false=>left;rw[ht]at hz;simpa using hz
    clear hz;by_cases g1:mo< -1;·go_wp2_with fail;go_ret;exact x22 HNO.out HB.out
    by_cases g2:(253402300799:Int)<mo;·go_wp2_with fail;go_ret;exact x22 HNO.out HB.out
    by_cases g3:ln< -1;·go_wp2_with fail;go_ret;exact x22 HNO.out HB.out
    by_cases g4:(1099511627776:Int)<ln;·go_wp2_with fail;go_ret;exact x22 HNO.out HB.out
    by_cases g5:hv<0;·go_wp2_with fail;go_ret;exact x22 HNO.out HB.out
    by_cases g6:(1099511627776:Int)<hv;·go_wp2_with fail;go_ret;exact x22 HNO.out HB.out
    have hcase:((ln !=-1)=false∧ln=-1)∨((ln !=-1)=true∧(hv !=ln)=false∧hv=ln)∨((ln !=-1)=true∧(hv !=ln)=true∧¬hv=ln∧¬ln=-1):=by
     by_cases e:ln=-1;·left;exact⟨by rw[bne_eq_false_iff_eq];exact e,e⟩
     ·by_cases e2:hv=ln;·right;left;exact⟨by rw[bne_iff_ne];exact e,by rw[bne_eq_false_iff_eq];exact e2,e2⟩
      ·right;right;exact⟨by rw[bne_iff_ne];exact e,by rw[bne_iff_ne];exact e2,e2,e⟩
    have HNUM:Hid ((-1≤mo∧mo≤253402300799)∧(-1≤ln∧ln≤1099511627776)∧(0≤hv∧hv≤1099511627776)):=by simp only[Hid];omega
    go_upto_region 5 with fail;go_cut[52](fun s wx=>s=.bool ((ln !=-1)&&(hv !=ln))∧wx=wc);case first=>
     rcases hcase with⟨h7,-⟩|⟨h7,h8,-⟩|⟨h7,h8,-,-⟩;all_goals go_wp2_with fail;go_meet;exact⟨by first|(rw[h7,h8];rfl)|(rw[h7];rfl),rfl⟩
    case rest=>
     obtain⟨rfl,rfl⟩:=hcut;clear hcase g1 g2 g3 g4 g5 g6;obtain⟨z,hz⟩:∃z,((ln !=-1)&&(hv !=ln))=z:=⟨_,rfl⟩;rw[hz];cases z with
      |true=>clear hz;go_wp2_with fail;go_ret;exact x22 HNO.out HB.out
      |false=>
       have HEQ:Hid (ln=-1∨hv=ln):=by simp only[Hid];rw[Bool.and_eq_false_iff,bne_eq_false_iff_eq,bne_eq_false_iff_eq]at hz;exact hz
       clear hz;obtain⟨t1,ht1⟩:∃x,k37 fr=x:=⟨_,rfl⟩;rw[ht1]at T1;cases t1 with
        |false=>go_wp2_with(first|(go_at_call_of 116(Value.int .i64 fr);refine(T1 _).out.mono ?_;rintro e w1⟨rfl,hw1⟩;obtain rfl:wc=w1:=hw1.symm));go_ret;exact x22 HNO.out HB.out
        |true=>
         obtain⟨t2,ht2⟩:∃x,k37 wh=x:=⟨_,rfl⟩;rw[ht2]at T2;cases t2 with
          |false=>go_wp2_with(first|(go_at_call_of 116(Value.int .i64 fr);refine(T1 _).out.mono ?_;rintro e w1⟨rfl,hw1⟩;obtain rfl:wc=w1:=hw1.symm)|(go_at_call_of 116(Value.int .i64 wh);refine(T2 _).out.mono ?_;rintro e w1⟨rfl,hw1⟩;obtain rfl:wc=w1:=hw1.symm));go_ret;exact x22 HNO.out HB.out
          |true=>
           obtain⟨t3,ht3⟩:∃x,k37 er=x:=⟨_,rfl⟩;rw[ht3]at T3;cases t3 with
            |false=>go_wp2_with(first|(go_at_call_of 116(Value.int .i64 fr);refine(T1 _).out.mono ?_;rintro e w1⟨rfl,hw1⟩;obtain rfl:wc=w1:=hw1.symm)|(go_at_call_of 116(Value.int .i64 wh);refine(T2 _).out.mono ?_;rintro e w1⟨rfl,hw1⟩;obtain rfl:wc=w1:=hw1.symm)|(go_at_call_of 116(Value.int .i64 er);refine(T3 _).out.mono ?_;rintro e w1⟨rfl,hw1⟩;obtain rfl:wc=w1:=hw1.symm));go_ret;exact x22 HNO.out HB.out
            |true=>
             by_cases h9:32<ks.length;·
              have h9':(32:Int)<(ks.length:Int):=by omega
              go_wp2_with(first|(go_at_call_of 116(Value.int .i64 fr);refine(T1 _).out.mono ?_;rintro e w1⟨rfl,hw1⟩;obtain rfl:wc=w1:=hw1.symm)|(go_at_call_of 116(Value.int .i64 wh);refine(T2 _).out.mono ?_;rintro e w1⟨rfl,hw1⟩;obtain rfl:wc=w1:=hw1.symm)|(go_at_call_of 116(Value.int .i64 er);refine(T3 _).out.mono ?_;rintro e w1⟨rfl,hw1⟩;obtain rfl:wc=w1:=hw1.symm));go_ret;exact x22 HNO.out HB.out
             have h9':¬(32:Int)<(ks.length:Int):=by omega
             obtain⟨t4,ht4⟩:∃x,j42 tn=x:=⟨_,rfl⟩;rw[ht4]at HT;cases t4 with
              |false=>go_wp2_with(first|(go_at_call_of 116(Value.int .i64 fr);refine(T1 _).out.mono ?_;rintro e w1⟨rfl,hw1⟩;obtain rfl:wc=w1:=hw1.symm)|(go_at_call_of 116(Value.int .i64 wh);refine(T2 _).out.mono ?_;rintro e w1⟨rfl,hw1⟩;obtain rfl:wc=w1:=hw1.symm)|(go_at_call_of 116(Value.int .i64 er);refine(T3 _).out.mono ?_;rintro e w1⟨rfl,hw1⟩;obtain rfl:wc=w1:=hw1.symm)|(go_at_call 117;refine(HT _).out.mono ?_;rintro e w1⟨rfl,hw1⟩;obtain rfl:wc=w1:=hw1.symm));go_ret;exact x22 HNO.out HB.out
              |true=>
               have HALL:Hid ((∀x∈ks,w26 x=true)→ks.Nodup→P):=by intro ha hn;rw[←HPE.out];exact⟨HTAG.out,HNUM.out.1,HNUM.out.2.1,HNUM.out.2.2,HEQ.out,w66 ht1,w66 ht2,w66 ht3,by simp only;omega,ha,hn,ht4⟩
               clear ht1 ht2 ht3 ht4 HTAG HNUM HEQ HPE h9;go_wp2_with(first|(go_at_call_of 116(Value.int .i64 fr);refine(T1 _).out.mono ?_;rintro e w1⟨rfl,hw1⟩;obtain rfl:wc=w1:=hw1.symm)|(go_at_call_of 116(Value.int .i64 wh);refine(T2 _).out.mono ?_;rintro e w1⟨rfl,hw1⟩;obtain rfl:wc=w1:=hw1.symm)|(go_at_call_of 116(Value.int .i64 er);refine(T3 _).out.mono ?_;rintro e w1⟨rfl,hw1⟩;obtain rfl:wc=w1:=hw1.symm)|(go_at_call 117;refine(HT _).out.mono ?_;rintro e w1⟨rfl,hw1⟩;obtain rfl:wc=w1:=hw1.symm));clear v0 v1 v2 v3 v4 v5 v6 v7 v9 v10 T1 T2 T3 HT h9';go_loopw[3,4,84](fun _ _ i wr=>wr=wc∧∃k:Nat,k≤ks.length∧i=.int .i64 (k:Int)∧(∀x∈ks.take k,w26 x=true)∧(ks.take k).Nodup)(fun _ _ i _=>ks.length-(intOf i).toNat);case atStart=>exact⟨rfl,0,Nat.zero_le _,rfl,by simp,by simp⟩
               case round=>
                obtain⟨rfl,k,hk,rfl,hall,hnd⟩:=hrel;have HA:=Lib.hid hall;have HN:=Lib.hid hnd;clear hall hnd;by_cases hlt:k<ks.length;·
                 obtain⟨b,off,e,hb,hc⟩:=HK.out.at' k hlt;have c0:=hc 0 _ rfl;have hxl:=HL4.out _ (List.getElem_mem hlt);have HKy:=fun W=>Lib.hid (w62 ks[k] W (by omega));have HC:=Lib.hid (j44 A c (ks.take k) ks[k] wr (HK.out.take k) (by rw[List.length_take];omega));rw[List.length_take,Nat.min_eq_left (by omega)]at HC;have HAS:Hid (w26 ks[k]=true→∀x∈ks.take (k+1),w26 x=true):=by
                  intro h x hx;rw[List.take_succ_eq_append_getElem hlt]at hx;rcases List.mem_append.1 hx with hx|hx;·exact HA.out x hx
                  ·rw[List.mem_singleton.1 hx];exact h
                 have HNS:Hid (ks[k]∉ks.take k→(ks.take (k+1)).Nodup):=by intro h;rw[List.take_succ_eq_append_getElem hlt];refine List.nodup_append.2 ⟨HN.out,by simp,?_⟩;intro a ha b hb2 hab;rw[List.mem_singleton.1 hb2]at hab;rw[hab]at ha;exact h ha
                 obtain⟨x,hx⟩:∃x,ks[k]=x:=⟨_,rfl⟩;rw[hx]at c0 HKy HC HAS HNS;simp only[Nat.mul_one,Nat.add_zero]at c0;have hle:=HK.out.le;have hkc:(k:Int)≤(c:Int):=by omega
                 clear hx hc hxl HA HN;subst e;obtain⟨y,hy⟩:∃y,w26 x=y:=⟨_,rfl⟩;rw[hy]at HKy HAS;clear hy;cases y with
                  |false=>clear HAS HNS HC;go_wp2_with(go_at_call 118;refine(HKy _).out.mono ?_;rintro e w1⟨rfl,hw1⟩;obtain rfl:wr=w1:=hw1.symm);go_ret;exact x22 HNO.out HB.out
                  |true=>
                   have HA:=Lib.hid (HAS.out rfl);clear HAS;by_cases hin:x∈ks.take k;·rw[decide_eq_true hin]at HC;clear hin HNS;go_wp2_with(first|(go_at_call 118;refine(HKy _).out.mono ?_;rintro e w1⟨rfl,hw1⟩;obtain rfl:wr=w1:=hw1.symm)|(go_at_call 119;refine HC.out.mono ?_;rintro e w1⟨rfl,hw1⟩;obtain rfl:wr=w1:=hw1.symm));go_ret;exact x22 HNO.out HB.out
                   ·rw[decide_eq_false hin]at HC;have HN:=Lib.hid (HNS.out hin);clear hin HNS;go_wp2_with(first|(go_at_call 118;refine(HKy _).out.mono ?_;rintro e w1⟨rfl,hw1⟩;obtain rfl:wr=w1:=hw1.symm)|(go_at_call 119;refine HC.out.mono ?_;rintro e w1⟨rfl,hw1⟩;obtain rfl:wr=w1:=hw1.symm));go_roundw;case rel=>exact⟨by first|trivial|rfl,k+1,by omega,by go_num,HA.out,HN.out⟩
                    case measure=>simp[intOf];omega
                ·exfalso;have hA:=HA.out;have hN:=HN.out;rw[show k=ks.length by omega,List.take_length]at hA hN;exact HNO.out (HALL.out hA hN)
theorem v135{x:List UInt8}(h:w26 x=true):x.length≤200:=by unfold w26 at h;simp only[Bool.and_eq_true,decide_eq_true_eq]at h;exact h.1.2
theorem y148(A:Option Addr)(c:Nat)(L:List (List UInt8))(w:World)(hks:SpG encT 1 w A c L)(hp:q93 L):Calls Tryz.prog 129 #[.slice A L.length c] w fun e w'=>e=.returned (.bool true)∧Below w.heap.size w w':=by
 have HK:=Lib.hid hks;obtain⟨hl,hky,hnd⟩:=hp;have h1':¬(32:Int)<(L.length:Int):=by omega
 have HKY:=Lib.hid hky;have HND:=Lib.hid hnd;clear hks hky hnd hl;go_enter Tryz.func129,Tryz.ntmps129;go_wp2_with fail;go_loopw[3,4](fun i _ wr=>∃k:Nat,k≤L.length∧i=.int .i64 (k:Int)∧Below w.heap.size w wr)(fun i _ _=>L.length-(intOf i).toNat);case atStart=>exact⟨0,Nat.zero_le _,rfl,Below.refl _ _⟩
 case round=>
  obtain⟨k,hk,rfl,hbw⟩:=hrel;have HB:=Lib.hid hbw;clear hbw;by_cases hlt:k<L.length;·
   obtain⟨b,off,e,hb,hc⟩:=(HK.out.below HB.out).at' k hlt;have c0:=hc 0 _ rfl;have hko:=HKY.out _ (List.getElem_mem hlt);have hxl:=v135 hko;have HKC:=fun W=>Lib.hid (x111 L[k] W (by omega));rw[hko]at HKC;obtain⟨x,hx⟩:∃x,L[k]=x:=⟨_,rfl⟩;have HXE:=Lib.hid hx;rw[hx]at c0 HKC;simp only[Nat.mul_one,Nat.add_zero]at c0;clear hc hxl hko hx;subst e;go_wp2_with(go_at_call 193;refine(HKC _).out.mono ?_;rintro e w1⟨rfl,hw1⟩;obtain rfl:wr=w1:=hw1.symm);go_loopw[4](fun j wq=>∃q:Nat,q≤k∧j=.int .i64 (q:Int)∧Below w.heap.size w wq)(fun j _=>k-(intOf j).toNat);case atStart=>exact⟨0,Nat.zero_le _,rfl,HB.out⟩
   case round=>
    obtain⟨q,hq,rfl,hbq⟩:=hrel;have HBQ:=Lib.hid hbq;clear hbq;by_cases hlq:q<k;·
     obtain⟨b',off',e',hb',hd⟩:=(HK.out.below HBQ.out).at' q (by omega);injection e' with e';injection e' with e1 e2;subst e1 e2;have d0:=hd 0 _ rfl;obtain⟨b',off',e',_,hd2⟩:=(HK.out.below HBQ.out).at' k hlt;injection e' with e';injection e' with e1 e2;subst e1 e2;have d1:=hd2 0 _ rfl;have hlql:q<L.length:=by omega
     have hxy:¬L[q]=L[k]:=List.pairwise_iff_getElem.1 HND.out q k hlql hlt hlq;rw[HXE.out]at d1 hxy;obtain⟨y,hy⟩:∃y,L[q]=y:=⟨_,rfl⟩;rw[hy]at d0 hxy;simp only[Nat.mul_one,Nat.add_zero]at d0 d1;clear hd hd2 hy c0;have hb2:(y==x)=false:=beq_eq_false_iff_ne.2 hxy;clear hxy;go_wp2_with fail;go_quiet(fail);go_wp2_with fail;go_roundw;case rel=>exact⟨q+1,by omega,by go_num,q15 HBQ.out _⟩
     case measure=>simp[intOf];omega
    ·go_wp2_with fail;go_roundw;case rel=>exact⟨k+1,by omega,by go_num,HBQ.out⟩
     case measure=>simp[intOf];omega
  ·go_wp2_with fail;go_ret;exact⟨rfl,HB.out⟩
theorem w113(m:MetaL)(A:Option Addr)(c:Nat)(w:World)(hks:SpG encT 1 w A c m.keys)(hok:MetaOk m):Calls Tryz.prog 70 #[j25 m A c] w fun e w'=>e=.returned (.bool true)∧Below w.heap.size w w':=by
 have HK0:=Lib.hid hks;obtain⟨htg,hmo,hln,hhv,heq,hfr,hwh,her,hkn,hka,hkd,htn⟩:=hok;clear hks;obtain⟨tg,wk,mo,ln,hv,fr,wh,er,ks,tn,kp⟩:=m;unfold j25;simp only at HK0 htg hmo hln hhv heq hfr hwh her hkn hka hkd htn⊢;have hsz:(⟨tg.toArray⟩:ByteArray).size=tg.length:=q19 tg;have hl1:tg.length≤100:=by
  rcases htg with⟨h,_⟩|h;·rw[h];simp
  ·unfold j20 at h;simp only[Bool.and_eq_true,decide_eq_true_eq]at h;exact h.1.2
 have hch:Hid (∀x∈tg,x.toNat≤126):=by
  intro x hx;rcases htg with⟨h,_⟩|h;·rw[h]at hx;simp at hx
  ·unfold j20 at h;simp only[Bool.and_eq_true,List.all_eq_true,decide_eq_true_eq]at h;exact(h.2 x hx).1.2
 have hl2:tn.length≤40:=by unfold j42 at htn;simp only[Bool.and_eq_true,decide_eq_true_eq]at htn;exact htn.1.1
 have HN:=fun W=>Lib.hid (y72 tg wk W);have HTR:=fun W=>Lib.hid (j37 tg wk W (by omega));have HTN:=fun W=>Lib.hid (w81 tn W (by omega));rw[htn]at HTN;have HKY:=fun W h=>Lib.hid (y148 A c ks W h ⟨hkn,hka,hkd⟩);have HZ:Hid ((tg.isEmpty&&!wk)=false→j20 tg=true):=by
  intro h;rcases htg with⟨h1,h2⟩|h1;·rw[h1,h2]at h;cases h
  ·exact h1
 obtain⟨z,hz⟩:∃z,(tg.isEmpty&&!wk)=z:=⟨_,rfl⟩;rw[hz]at HN HZ;clear hz htg hkn hka hkd htn hl2;go_enter Tryz.func70,Tryz.ntmps70;go_upto_region 1 with fail;obtain⟨W0,hW0⟩:∃W0,w.alloc (.cells #[.string ⟨tg.toArray⟩,.bool wk,.int .i64 mo,.int .i64 ln,.int .i64 hv,.int .i64 fr,.int .i64 wh,.int .i64 er,.slice A ks.length c,.string ⟨tn.toArray⟩,.bool kp] 57)=W0:=⟨_,rfl⟩;have HM0:Hid (W0.heap[w.heap.size]?=some (.cells #[.string ⟨tg.toArray⟩,.bool wk,.int .i64 mo,.int .i64 ln,.int .i64 hv,.int .i64 fr,.int .i64 wh,.int .i64 er,.slice A ks.length c,.string ⟨tn.toArray⟩,.bool kp] 57 (0,0))):=by simp only[Hid];rw[←hW0];exact j17 rfl
 have HB0:Hid (Below w.heap.size w W0):=by simp only[Hid];rw[←hW0];(repeat(first|exact Below.refl _ _|refine q15 ?_ _|refine x15 ?_|refine q11 ?_ _|refine w14 ?_ (by simp) _))
 rw[hW0];clear hW0;have v0:=bc 0 HM0.out rfl;have v1:=bc 1 HM0.out rfl;go_cut[13](fun s13 wx=>s13=.bool false∧wx.heap[w.heap.size]?=some (.cells #[.string ⟨tg.toArray⟩,.bool wk,.int .i64 mo,.int .i64 ln,.int .i64 hv,.int .i64 fr,.int .i64 wh,.int .i64 er,.slice A ks.length c,.string ⟨tn.toArray⟩,.bool kp] 57 (0,0))∧Below w.heap.size w wx);case first=>
  cases z with
   |true=>go_wp2_with(go_at_call 127;refine(HN _).out.mono ?_;rintro e w1⟨rfl,hb1⟩);go_meet;exact⟨rfl,j3 hb1 HM0.out,q12 hb1 HB0.out⟩
   |false=>have HT1:=HZ.out rfl;rw[HT1]at HTR;go_wp2_with(first|(go_at_call 128;refine(HTR _).out.mono ?_;rintro e w2⟨rfl,hb2⟩)|(go_at_call 127;refine(HN _).out.mono ?_;rintro e w1⟨rfl,hb1⟩;have HM1:=Lib.hid (j3 hb1 HM0.out);have u0:=bc 0 HM1.out rfl;have u1:=bc 1 HM1.out rfl));go_meet;exact⟨rfl,j3 hb2 HM1.out,q12 hb2 (q12 hb1 HB0.out)⟩
 case rest=>
  obtain⟨rfl,hm,hb⟩:=hcut;have HM:=Lib.hid hm;have HB:=Lib.hid hb;have HK:=Lib.hid (HK0.out.below hb);clear hm hb v0 v1 HM0 HB0 HN HTR HK0 HZ;go_wp2_with fail;go_loopw[3](fun i wr=>wr=wc∧∃k:Nat,k≤tg.length∧i=.int .i64 (k:Int))(fun i _=>tg.length-(intOf i).toNat);case atStart=>exact⟨rfl,0,Nat.zero_le _,rfl⟩
  case round=>
   obtain⟨rfl,k,hk,rfl⟩:=hrel;have v0:=bc 0 HM.out rfl;have v1:=bc 1 HM.out rfl;have v2:=bc 2 HM.out rfl;have v3:=bc 3 HM.out rfl;have v4:=bc 4 HM.out rfl;have v5:=bc 5 HM.out rfl;have v6:=bc 6 HM.out rfl;have v7:=bc 7 HM.out rfl;have v8:=bc 8 HM.out rfl;have v9:=bc 9 HM.out rfl;have vz:=q14 HM.out;by_cases hlt:k<tg.length;·
    have hcl:=hch.out tg[k] (List.getElem_mem hlt);obtain⟨cc,hcc⟩:∃cc,(⟨tg.toArray⟩:ByteArray)[k]'(by rw[hsz];exact hlt)=cc:=⟨_,rfl⟩;have hce:tg[k]=cc:=by rw[←hcc];rfl
    rw[hce]at hcl;have d1':¬(126:Int)<(cc.toNat:Int):=by omega
    clear hcl hce;go_wp2_with fail;go_roundw;case rel=>exact⟨by first|trivial|rfl,k+1,by omega,by go_num⟩
    case measure=>simp[intOf];omega
   ·have e0:¬mo< -1:=by omega
    have e1:¬(253402300799:Int)<mo:=by omega
    have e2:¬ln< -1:=by omega
    have e3:¬(1099511627776:Int)<ln:=by omega
    have e4:¬hv<0:=by omega
    have e5:¬(1099511627776:Int)<hv:=by omega
    have e6:¬fr<0:=by omega
    have e7:¬(1099511627776:Int)<fr:=by omega
    have e8:¬wh<0:=by omega
    have e9:¬(1099511627776:Int)<wh:=by omega
    have e10:¬er<0:=by omega
    have e11:¬(1099511627776:Int)<er:=by omega
    have hcase:(¬(0:Int)≤ln)∨((0:Int)≤ln∧hv=ln):=by omega
    clear hmo hln hhv heq hfr hwh her;rcases hcase with h7|⟨h7,h8⟩;all_goals
     first|(have b8:(hv !=ln)=false:=by rw[bne_eq_false_iff_eq];exact h8)|skip
     try clear h8
     go_wp2_with fail;refine(HKY _ HK.out).out.mono ?_;rintro e w1⟨rfl,hb1⟩;have HM1:=Lib.hid (j3 hb1 HM.out);have u9:=bc 9 HM1.out rfl;have HB1:=Lib.hid (q12 hb1 HB.out);clear hb1;go_wp2_with fail;refine(HTN _).out.mono ?_;rintro e w2⟨rfl,hw2⟩;obtain rfl:w1=w2:=hw2.symm;go_wp2_with fail;go_ret;exact⟨rfl,HB1.out⟩
end Go.Proofs.YtbphndihjdiiiaaGreatDoor
