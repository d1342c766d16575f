/- Contracts of the document's small functions of fields: blanks, tokens, .. -/
import Derived.Test.YtkkomffmnafjkaaGreatDoorZI20
import Derived.Lib.QuietBelow
import Derived.Lib.SlBytesConst
set_option maxHeartbeats 16000000
set_option maxRecDepth 100000
set_option linter.all false
namespace Go.Proofs.YtkkomffmnafjkaaGreatDoor
abbrev bE_:=@Go.wp_region_quiet_below
open Go.RowKit Go.Sort
theorem w61(c:UInt8)(w:World):Calls Tryz.prog 334 #[.int .u8 (c.toNat:Int)] w fun e w'=>e=.returned (.bool (j21 c))∧w'=w:=by
 by_cases h32:c.toNat=32;·
  have q1:((c.toNat:Int)==32)=true:=by rw[h32];rfl
  have HV:Hid (j21 c=true):=by simp only[Hid];rw[k89,h32];rfl
  clear h32;go_enter Tryz.func334,Tryz.ntmps334;go_wp2_with fail;go_ret;exact⟨q17 HV.out.symm,rfl⟩
 ·have q1:((c.toNat:Int)==32)=false:=by rw[j_];omega
  by_cases h9:c.toNat=9;·
   have q2:((c.toNat:Int)==9)=true:=by rw[h9];rfl
   have HV:Hid (j21 c=true):=by simp only[Hid];rw[k89,h9];rfl
   clear h32 h9;go_enter Tryz.func334,Tryz.ntmps334;go_wp2_with fail;go_ret;exact⟨q17 HV.out.symm,rfl⟩
  ·have q2:((c.toNat:Int)==9)=false:=by rw[j_];omega
   have HV:Hid (j21 c=false):=by simp only[Hid];rw[k89];simp[h32,h9]
   clear h32 h9;go_enter Tryz.func334,Tryz.ntmps334;go_wp2_with fail;go_ret;exact⟨q17 HV.out.symm,rfl⟩
theorem q147(l:List UInt8)(w:World)(hl:l.length≤100000):Calls Tryz.prog 319 #[.string ⟨l.toArray⟩] w fun e w'=>e=.returned (.string ⟨(q36 l).toArray⟩)∧w'=w:=by
 go_enter Tryz.func319,Tryz.ntmps319;go_wp2_with fail;go_loop[0](fun s=>∃t:List UInt8,t.length≤l.length∧s=.string ⟨t.toArray⟩∧t.dropWhile j21=l.dropWhile j21)(fun s=>match s with|.string b=>b.size|_=>0);case atStart=>exact⟨l,t_ _,rfl,rfl⟩
 case round=>
  obtain⟨t,htl,rfl,ht⟩:=hrel;have HT:=a_ ht;have hz:(⟨t.toArray⟩:ByteArray).size=t.length:=q19 t;clear ht;by_cases hgo:∃h:0<t.length,j21 t[0]=true;·
   obtain⟨hp,hbl⟩:=hgo;have HT':Hid (t.tail.dropWhile j21=l.dropWhile j21):=(q142 hp hbl).trans HT.out;have e1:(⟨t.toArray⟩:ByteArray).extract 1 t.length=⟨t.tail.toArray⟩:=by have:=ex_drop ⟨t.toArray⟩ 1;rwa[q19,List.drop_one]at this
   obtain⟨cc,hcc⟩:∃cc,(⟨t.toArray⟩:ByteArray)[0]'(by rw[q19];exact hp)=cc:=⟨_,rfl⟩;have HBL:=fun W=>a_ (w61 cc W);have hct:t[0]=cc:=hcc;rw[hct]at hbl;rw[hbl]at HBL;have hp1:(1:Int)≤(t.length:Int):=by omega
   have hp0:(0:Int)<(t.length:Int):=by omega
   clear hct hbl HT;go_wp2_with(go_at_call 334;refine(HBL _).out.mono ?_;rintro e w1⟨rfl,rfl⟩);go_round;case rel=>exact⟨t.tail,by simp;omega,rfl,HT'.out⟩
   case measure=>simp[q19];omega
  ·have HTT:Hid (rtL t=q36 l):=by
    simp only[Hid];rw[y163,←HT.out];by_cases hp:0<t.length;·rw[v153 hp (by rw[P_];exact fun h=>hgo ⟨hp,h⟩)]
    ·obtain rfl:t=[]:=l_ (by omega);rfl
   have hst:t.length=0∨∃hp:0<t.length,j21 t[0]=false:=by
    by_cases hp:0<t.length;·exact .inr ⟨hp,by rw[P_];exact fun h=>hgo ⟨hp,h⟩⟩
    ·exact .inl (by omega)
   clear hgo HT;rcases hst with h0|⟨hp,hbl⟩;case' inl=>
    have hp0:¬(0:Int)<(t.length:Int):=by omega
    go_wp2_with fail;clear h0 hp0
   case' inr=>
    have hp0:(0:Int)<(t.length:Int):=by omega
    obtain⟨cc,hcc⟩:∃cc,(⟨t.toArray⟩:ByteArray)[0]'(by rw[q19];exact hp)=cc:=⟨_,rfl⟩;have HBL:=fun W=>a_ (w61 cc W);have hct:t[0]=cc:=hcc;rw[hct]at hbl;rw[hbl]at HBL;clear hct hbl;go_wp2_with(go_at_call 334;refine(HBL _).out.mono ?_;rintro e w1⟨rfl,rfl⟩);clear HBL
   all_goals
    go_loop[0](fun s=>∃u:List UInt8,u.length≤t.length∧s=.string ⟨u.toArray⟩∧rtL u=q36 l)(fun s=>match s with|.string b=>b.size|_=>0);case atStart=>exact⟨t,t_ _,rfl,HTT.out⟩
    case round=>
     obtain⟨u,hul,rfl,hu⟩:=hrel;have HU:=a_ hu;have hzu:(⟨u.toArray⟩:ByteArray).size=u.length:=q19 u;clear hu HTT;by_cases hp:0<u.length;·
      have wk:IntKind.i64.wrap ((u.length:Int)-1)=(u.length:Int)-1:=M_ _ (by omega);have wt:((u.length:Int)-1).toNat=u.length-1:=by omega
      have hp0:(0:Int)<(u.length:Int):=by omega
      have hp1:(0:Int)≤(u.length:Int)-1:=by omega
      have hp2:(u.length:Int)-1<(u.length:Int):=by omega
      have hp3:(u.length:Int)-1≤(u.length:Int):=by omega
      have e1:(⟨u.toArray⟩:ByteArray).extract 0 (u.length-1)=⟨(u.take (u.length-1)).toArray⟩:=z129 ⟨u.toArray⟩ (u.length-1);have hl1:(u.take (u.length-1)).length=u.length-1:=by simp
      have HLE:Hid ((u.take (u.length-1)).length≤t.length):=by simp only[Hid];omega
      have HLT:Hid ((u.take (u.length-1)).length<u.length):=by simp only[Hid];omega
      obtain⟨cc,hcc⟩:∃cc,(⟨u.toArray⟩:ByteArray)[u.length-1]'(by rw[q19];omega)=cc:=⟨_,rfl⟩;have hcu:u[u.length-1]=cc:=hcc;have HBL:=fun W=>a_ (w61 cc W);cases hb:j21 cc with
       |true=>
        have HU':Hid (rtL (u.take (u.length-1))=q36 l):=(w163 hp (by rw[hcu];exact hb)).trans HU.out;rw[hb]at HBL;clear hcu HU hb;go_wp2_with(go_at_call 334;refine(HBL _).out.mono ?_;rintro e w1⟨rfl,rfl⟩);go_round;case rel=>exact⟨u.take (u.length-1),HLE.out,rfl,HU'.out⟩
        case measure=>exact HLT.out
       |false=>have HU':Hid (u=q36 l):=(rt_stop hp (by rw[hcu];exact hb)).symm.trans HU.out;rw[hb]at HBL;clear hcu HU hb;go_wp2_with(go_at_call 334;refine(HBL _).out.mono ?_;rintro e w1⟨rfl,rfl⟩);go_ret;exact⟨by rw[←HU'.out];rfl,rfl⟩
     ·have hp0:¬(0:Int)<(u.length:Int):=by omega
      have HU':Hid (u=q36 l):=by simp only[Hid];rw[←HU.out];obtain rfl:u=[]:=l_ (by omega);rfl
      go_wp2_with fail;go_ret;exact⟨by rw[←HU'.out];rfl,rfl⟩
theorem y120(l:List UInt8)(w:World)(hl:l.length≤1000000):Calls Tryz.prog 226 #[.string ⟨l.toArray⟩] w fun e w'=>e=.returned (.bool (w23 l))∧w'=w:=by
 have hsz:(⟨l.toArray⟩:ByteArray).size=l.length:=q19 l;go_enter Tryz.func226,Tryz.ntmps226;go_wp2_with fail;go_loopw[4,3](fun _ i wr=>wr=w∧∃k:Nat,k≤l.length∧i=.int .i64 (k:Int)∧(l.take k).all alnB=true)(fun _ i _=>l.length-(intOf i).toNat);case atStart=>exact⟨rfl,0,v_ _,rfl,rfl⟩
 case round=>
  obtain⟨rfl,k,hk,rfl,hall⟩:=hrel;have HA:=a_ hall;clear hall;by_cases hlt:k<l.length;·
   have HS:=a_ (fun h=>q34 hlt HA.out h);have HN:=a_ (fun h=>z92 (j41 hlt h));obtain⟨c,hc⟩:∃c,(⟨l.toArray⟩:ByteArray)[k]'(by rw[hsz];exact hlt)=c:=⟨_,rfl⟩;have hcl:l[k]=c:=hc;rw[hcl]at HS HN;clear hcl HA;rcases x60 c with⟨hc1,hc2⟩|⟨hc1,hc2⟩|⟨hc1,hc2⟩|⟨hc1,hc2⟩|⟨hc1,hc2⟩|⟨hc1,hc2⟩|⟨hc1,hc2⟩;·
    have HT:=a_ (w91 hc1 hc2);have f0:¬(48:Int)≤(c.toNat:Int):=by omega
    have f1:(c.toNat:Int)≤57:=by omega
    have f2:¬(65:Int)≤(c.toNat:Int):=by omega
    have f3:(c.toNat:Int)≤90:=by omega
    have f4:¬(97:Int)≤(c.toNat:Int):=by omega
    have f5:(c.toNat:Int)≤122:=by omega
    have HV:=a_ (HN.out HT.out);clear HN HS HT hc1 hc2;go_wp2_with fail;go_ret;exact⟨q17 HV.out.symm,rfl⟩
   ·have HT:=a_ (y77 hc1 hc2);have f0:(48:Int)≤(c.toNat:Int):=by omega
    have f1:(c.toNat:Int)≤57:=by omega
    have f2:¬(65:Int)≤(c.toNat:Int):=by omega
    have f3:(c.toNat:Int)≤90:=by omega
    have f4:¬(97:Int)≤(c.toNat:Int):=by omega
    have f5:(c.toNat:Int)≤122:=by omega
    have HV:=a_ (HS.out HT.out);clear HN HS HT hc1 hc2;go_wp2_with fail;go_roundw;case rel=>exact⟨by first|trivial|rfl,k+1,by omega,by go_num,HV.out⟩
    case measure=>simp[intOf];omega
   ·have HT:=a_ (w77 hc1 hc2);have f0:(48:Int)≤(c.toNat:Int):=by omega
    have f1:¬(c.toNat:Int)≤57:=by omega
    have f2:¬(65:Int)≤(c.toNat:Int):=by omega
    have f3:(c.toNat:Int)≤90:=by omega
    have f4:¬(97:Int)≤(c.toNat:Int):=by omega
    have f5:(c.toNat:Int)≤122:=by omega
    have HV:=a_ (HN.out HT.out);clear HN HS HT hc1 hc2;go_wp2_with fail;go_ret;exact⟨q17 HV.out.symm,rfl⟩
   ·have HT:=a_ (q78 hc1 hc2);have f0:(48:Int)≤(c.toNat:Int):=by omega
    have f1:¬(c.toNat:Int)≤57:=by omega
    have f2:(65:Int)≤(c.toNat:Int):=by omega
    have f3:(c.toNat:Int)≤90:=by omega
    have f4:¬(97:Int)≤(c.toNat:Int):=by omega
    have f5:(c.toNat:Int)≤122:=by omega
    have HV:=a_ (HS.out HT.out);clear HN HS HT hc1 hc2;go_wp2_with fail;go_roundw;case rel=>exact⟨by first|trivial|rfl,k+1,by omega,by go_num,HV.out⟩
    case measure=>simp[intOf];omega
   ·have HT:=a_ (j78 hc1 hc2);have f0:(48:Int)≤(c.toNat:Int):=by omega
    have f1:¬(c.toNat:Int)≤57:=by omega
    have f2:(65:Int)≤(c.toNat:Int):=by omega
    have f3:¬(c.toNat:Int)≤90:=by omega
    have f4:¬(97:Int)≤(c.toNat:Int):=by omega
    have f5:(c.toNat:Int)≤122:=by omega
    have HV:=a_ (HN.out HT.out);clear HN HS HT hc1 hc2;go_wp2_with fail;go_ret;exact⟨q17 HV.out.symm,rfl⟩
   ·have HT:=a_ (k78 hc1 hc2);have f0:(48:Int)≤(c.toNat:Int):=by omega
    have f1:¬(c.toNat:Int)≤57:=by omega
    have f2:(65:Int)≤(c.toNat:Int):=by omega
    have f3:¬(c.toNat:Int)≤90:=by omega
    have f4:(97:Int)≤(c.toNat:Int):=by omega
    have f5:(c.toNat:Int)≤122:=by omega
    have HV:=a_ (HS.out HT.out);clear HN HS HT hc1 hc2;go_wp2_with fail;go_roundw;case rel=>exact⟨by first|trivial|rfl,k+1,by omega,by go_num,HV.out⟩
    case measure=>simp[intOf];omega
   ·have HT:=a_ (k65 hc1 hc2);have f0:(48:Int)≤(c.toNat:Int):=by omega
    have f1:¬(c.toNat:Int)≤57:=by omega
    have f2:(65:Int)≤(c.toNat:Int):=by omega
    have f3:¬(c.toNat:Int)≤90:=by omega
    have f4:(97:Int)≤(c.toNat:Int):=by omega
    have f5:¬(c.toNat:Int)≤122:=by omega
    have HV:=a_ (HN.out HT.out);clear HN HS HT hc1 hc2;go_wp2_with fail;go_ret;exact⟨q17 HV.out.symm,rfl⟩
  ·have hke:k=l.length:=by omega
   have HF:=HA.out;rw[hke,V_]at HF;clear HA hke;by_cases h1:l.length<1;·
    have HV:Hid (w23 l=false):=by simp only[Hid];unfold w23;rw[k_ (by omega)];rfl
    have h1':¬(1:Int)≤(l.length:Int):=by omega
    clear h1 HF;go_wp2_with fail;go_ret;exact⟨q17 HV.out.symm,rfl⟩
   have h1':(1:Int)≤(l.length:Int):=by omega
   by_cases h2:70<l.length;·
    have HV:Hid (w23 l=false):=by simp only[Hid];unfold w23;rw[k_ (show¬l.length≤70 by omega)];simp
    have h2':¬(l.length:Int)≤70:=by omega
    clear h1 h2 HF;go_wp2_with fail;go_ret;exact⟨q17 HV.out.symm,rfl⟩
   have h2':(l.length:Int)≤70:=by omega
   have HV:Hid (w23 l=true):=z81 (by omega) (by omega) HF;clear HF h1 h2;go_wp2_with fail;go_ret;exact⟨q17 HV.out.symm,rfl⟩
theorem q52{j:Nat}(h:j<15):(#[.int .u8 33,.int .u8 35,.int .u8 36,.int .u8 37,.int .u8 38,.int .u8 39,.int .u8 42,.int .u8 43,.int .u8 45,.int .u8 46,.int .u8 94,.int .u8 95,.int .u8 96,.int .u8 124,.int .u8 126]:Array Value)[j]?=some (.int .u8 ((tokSet[j]'h).toNat:Int)):=by
 have:∀j:Fin 15,(#[.int .u8 33,.int .u8 35,.int .u8 36,.int .u8 37,.int .u8 38,.int .u8 39,.int .u8 42,.int .u8 43,.int .u8 45,.int .u8 46,.int .u8 94,.int .u8 95,.int .u8 96,.int .u8 124,.int .u8 126]:Array Value)[j.val]?=some (.int .u8 ((tokSet[j.val]'j.isLt).toNat:Int)):=by intro j;rcases j with⟨j,hj⟩;rcases j with _|_|_|_|_|_|_|_|_|_|_|_|_|_|_|j;all_goals first|rfl|omega
 exact this ⟨j,h⟩
theorem q48{j:Nat}(h:j<15)(c:UInt8):(tokSet.take (j+1)).contains c=((tokSet.take j).contains c||c==tokSet[j]'h):=by
 rw[n_ (show j<tokSet.length from h),List.contains_append];congr 1;generalize tokSet[j]'h=x;by_cases hc:c=x;·subst hc;simp
 ·simp[hc]
theorem x58(c x:UInt8):((c.toNat:Int)==(x.toNat:Int))=(c==x):=by
 by_cases h:c=x;·subst h;simp
 ·have h2:¬c.toNat=x.toNat:=fun e=>h (UInt8.toNat_inj.1 e);rw[j_.2 h,j_];omega
theorem x133(l:List UInt8)(w:World)(hl:l.length≤1000000):Calls Tryz.prog 318 #[.string ⟨l.toArray⟩] w fun e w'=>e=.returned (.bool (q38 l))∧Below w.heap.size w w':=by
 have hsz:(⟨l.toArray⟩:ByteArray).size=l.length:=q19 l;go_enter Tryz.func318,Tryz.ntmps318;go_wp2_with fail;go_loopw[4,5,7,3](fun _ _ _ i wr=>Below w.heap.size w wr∧∃k:Nat,k≤l.length∧i=.int .i64 (k:Int)∧(l.take k).all tokB=true)(fun _ _ _ i _=>l.length-(intOf i).toNat);case atStart=>exact⟨b_ _ _,0,v_ _,rfl,rfl⟩
 case round=>
  obtain⟨hbw,k,hk,rfl,hall⟩:=hrel;have HA:=a_ hall;have HB:=a_ hbw;clear hall hbw;by_cases hlt:k<l.length;·
   have HS:=a_ (fun h=>q34 hlt HA.out h);have HN:=a_ (fun h=>y109 (j41 hlt h));obtain⟨c,hc⟩:∃c,(⟨l.toArray⟩:ByteArray)[k]'(by rw[hsz];exact hlt)=c:=⟨_,rfl⟩;have hcl:l[k]=c:=hc;rw[hcl]at HS HN;clear hcl HA;rcases x60 c with⟨hc1,hc2⟩|⟨hc1,hc2⟩|⟨hc1,hc2⟩|⟨hc1,hc2⟩|⟨hc1,hc2⟩|⟨hc1,hc2⟩|⟨hc1,hc2⟩;all_goals
    first|(have HT:=a_ (w91 hc1 hc2))|(have HT:=a_ (y77 hc1 hc2))|(have HT:=a_ (w77 hc1 hc2))|(have HT:=a_ (q78 hc1 hc2))|(have HT:=a_ (j78 hc1 hc2))|(have HT:=a_ (k78 hc1 hc2))|(have HT:=a_ (k65 hc1 hc2))
    first|(have f0:¬(48:Int)≤(c.toNat:Int):=by omega)|(have f0:(48:Int)≤(c.toNat:Int):=by omega)
    first|(have f1:(c.toNat:Int)≤57:=by omega)|(have f1:¬(c.toNat:Int)≤57:=by omega)
    first|(have f2:¬(65:Int)≤(c.toNat:Int):=by omega)|(have f2:(65:Int)≤(c.toNat:Int):=by omega)
    first|(have f3:(c.toNat:Int)≤90:=by omega)|(have f3:¬(c.toNat:Int)≤90:=by omega)
    first|(have f4:¬(97:Int)≤(c.toNat:Int):=by omega)|(have f4:(97:Int)≤(c.toNat:Int):=by omega)
    first|(have f5:(c.toNat:Int)≤122:=by omega)|(have f5:¬(c.toNat:Int)≤122:=by omega)
    clear hc1 hc2;have kc:=fun(w:World)(C:Array Value)(n c:Nat)=>Lib.run_convert_bytes_const (P:=Tryz.prog) w 243 5 C n c aS_ be_;go_upto_region 6 with fail;clear f0 f1 f2 f3 f4 f5;go_wp2_with fail;obtain⟨TB,hTB⟩:∃b,wr.heap.size=b:=⟨_,rfl⟩;obtain⟨WB,hWB⟩:∃W,wr.alloc (.cells #[.int .u8 33,.int .u8 35,.int .u8 36,.int .u8 37,.int .u8 38,.int .u8 39,.int .u8 42,.int .u8 43,.int .u8 45,.int .u8 46,.int .u8 94,.int .u8 95,.int .u8 96,.int .u8 124,.int .u8 126] 5 (15,16))=W:=⟨_,rfl⟩;have HWT:Hid (WB.heap[TB]?=some (.cells #[.int .u8 33,.int .u8 35,.int .u8 36,.int .u8 37,.int .u8 38,.int .u8 39,.int .u8 42,.int .u8 43,.int .u8 45,.int .u8 46,.int .u8 94,.int .u8 95,.int .u8 96,.int .u8 124,.int .u8 126] 5 (15,16))):=by simp only[Hid];rw[←hWB,←hTB];exact j17 rfl
    have HWB:Hid (Below w.heap.size w WB):=by rw[←hWB];exact q11 HB.out _
    rw[hWB];try rw[hTB]
    clear hWB hTB HB;go_loopw[5,7,42](fun ok _ i wq=>wq=WB∧∃(j:Nat)(b:Bool),j≤15∧i=.int .i64 (j:Int)∧ok=.bool b∧b=(alnB c||(tokSet.take j).contains c))(fun _ _ i _=>15-(intOf i).toNat);first|(case atStart=>exact⟨rfl,0,false,v_ _,rfl,rfl,by rw[HT.out];rfl⟩)|(case atStart=>exact⟨rfl,0,true,v_ _,rfl,rfl,by rw[HT.out];rfl⟩)
    case round=>
     obtain⟨rfl,j,b,hj,rfl,rfl,hb⟩:=hrel;have HBB:=a_ hb;clear hb;by_cases hlj:j<15;·
      have c0:=j14 HWT.out (q52 hlj);have HNX:=a_ (q48 hlj c);have hq:=x58 c (tokSet[j]'hlj);obtain⟨x,hx⟩:∃x,tokSet[j]'hlj=x:=⟨_,rfl⟩;rw[hx]at c0 HNX hq;obtain⟨cx,hcx⟩:∃b,(c==x)=b:=⟨_,rfl⟩;rw[hcx]at HNX hq;clear hx hcx;have hjl:(j:Int)<15:=by omega
      have HRS:Hid ((b||cx)=(alnB c||(tokSet.take (j+1)).contains c)):=by simp only[Hid];rw[HNX.out,HBB.out,Bool.or_assoc]
      clear HNX HBB;cases b<;>cases cx;all_goals
       go_wp2_with fail;go_roundw;case rel=>exact⟨by first|trivial|rfl,j+1,_,by omega,by go_num,rfl,HRS.out⟩
       case measure=>simp[intOf];omega
     ·have hj15:j=15:=by omega
      subst hj15;have HTK:Hid (b=tokB c):=HBB.out;clear HBB;cases b with
       |true=>
        have HV:=a_ (HS.out HTK.out.symm);clear HN HS HT HTK;go_wp2_with fail;go_roundw;case rel=>exact⟨HWB.out,k+1,by omega,by go_num,HV.out⟩
        case measure=>simp[intOf];omega
       |false=>have HV:=a_ (HN.out HTK.out.symm);clear HN HS HT HTK;go_wp2_with fail;go_ret;exact⟨q17 HV.out.symm,HWB.out⟩
  ·have hke:k=l.length:=by omega
   have HF:=HA.out;rw[hke,V_]at HF;clear HA hke;by_cases h1:1≤l.length;·
    have HV:Hid (q38 l=true):=y100 h1 HF;have h1':(0:Int)<(l.length:Int):=by omega
    clear h1 HF;go_wp2_with fail;go_ret;first|exact⟨q17 HV.out.symm,HB.out⟩|exact⟨q17 (by rw[HV.out];exact s_ (by omega)),HB.out⟩|exact⟨q17 (by rw[HV.out];exact k_ (by omega)),HB.out⟩
   ·have HV:Hid (q38 l=false):=by simp only[Hid];unfold q38;rw[k_ h1];rfl
    have h1':¬(0:Int)<(l.length:Int):=by omega
    clear h1 HF;go_wp2_with fail;go_ret;first|exact⟨q17 HV.out.symm,HB.out⟩|exact⟨q17 (by rw[HV.out];exact s_ (by omega)),HB.out⟩|exact⟨q17 (by rw[HV.out];exact k_ (by omega)),HB.out⟩
theorem j93(n l:List UInt8)(w:World)(hn:n.length≤100000)(hl:l.length≤100000):Calls Tryz.prog 279 #[.agg #[.string ⟨n.toArray⟩,.string ⟨l.toArray⟩]] w fun e w'=>e=.returned (.bool (w22 n l))∧Below w.heap.size w w':=by
 have hsz:(⟨l.toArray⟩:ByteArray).size=l.length:=q19 l;have hsn:(⟨n.toArray⟩:ByteArray).size=n.length:=q19 n;have HT:=fun W=>a_ (x133 n W (by omega));have HR:=fun W=>a_ (q147 l W hl);have hdec:Hid (w22 n l=(decide (n.length≤200)&&decide (l.length≤8192)&&q38 n&&(q36 l==l)&&l.all valB)):=rfl;have hq:Hid ((q36 l==l)=(q36 l==l)):=rfl;obtain⟨tk,htk⟩:∃b,q38 n=b:=⟨_,rfl⟩;obtain⟨tl,htl⟩:∃t,q36 l=t:=⟨_,rfl⟩;rw[htk]at HT hdec;rw[htl]at HR hdec;clear htk htl hq hn;go_enter Tryz.func279,Tryz.ntmps279;go_upto_region 1 with fail;obtain⟨W0,hW0⟩:∃W0,w.alloc (.cells #[.string ⟨n.toArray⟩,.string ⟨l.toArray⟩] 176)=W0:=⟨_,rfl⟩;have HX:Hid (W0.heap[w.heap.size]?=some (.cells #[.string ⟨n.toArray⟩,.string ⟨l.toArray⟩] 176 (0,0))):=by rw[←hW0];exact j17 rfl
 have HB:Hid (Below w.heap.size w W0):=by rw[←hW0];exact q11 (b_ _ _) _
 rw[hW0];clear hW0;have k0:=cell_regrown (bc 0 HX.out rfl);have k1:=cell_regrown (bc 1 HX.out rfl);have cT:∀d os,Calls Tryz.prog 318 #[.string ⟨n.toArray⟩] (grow (redrawn W0 d) os) fun e w''=>e=.returned (.bool tk)∧∃p:Regrown,w''=grow (redrawn W0 p.d) p.os:=fun d os=>Calls.regrown_of (HT _).out;have cR:∀d os,Calls Tryz.prog 319 #[.string ⟨l.toArray⟩] (grow (redrawn W0 d) os) fun e w''=>e=.returned (.string ⟨tl.toArray⟩)∧∃p:Regrown,w''=grow (redrawn W0 p.d) p.os:=fun d os=>Calls.regrown_of ((HR _).out.mono fun e w' h=>⟨h.1,by rw[h.2];exact b_ _ _⟩);cases tk with
  |false=>
   have HV:Hid (w22 n l=false):=by simp only[Hid];rw[hdec.out];simp
   clear hdec;refine bE_ (by kernel_rfl) (by kernel_rfl) ?_;repeat(quiet_step(first|exact cT _ _|exact cR _ _))
   refine wpQuiet_nil ?_;intro _ hw';obtain⟨⟨dq,osq⟩,hw''⟩:=hw';subst hw'';have HBQ:=a_ (q12 (below_regrown W0 dq osq) HB.out);go_wp2_with fail;go_ret;exact⟨q17 HV.out.symm,HBQ.out⟩
  |true=>
   by_cases h1:200<n.length;·
    have HV:Hid (w22 n l=false):=by simp only[Hid];rw[hdec.out,k_ (show¬n.length≤200 by omega)];rfl
    have h1':decide ((200:Int)<(n.length:Int))=true:=s_ (by omega);clear h1 hdec;refine bE_ (by kernel_rfl) (by kernel_rfl) ?_;repeat(quiet_step(first|exact cT _ _|exact cR _ _))
    refine wpQuiet_nil ?_;intro _ hw';obtain⟨⟨dq,osq⟩,hw''⟩:=hw';subst hw'';have HBQ:=a_ (q12 (below_regrown W0 dq osq) HB.out);go_wp2_with fail;go_ret;exact⟨q17 HV.out.symm,HBQ.out⟩
   have h1':decide ((200:Int)<(n.length:Int))=false:=k_ (by omega);by_cases h2:8192<l.length;·
    have HV:Hid (w22 n l=false):=by simp only[Hid];rw[hdec.out,k_ (show¬l.length≤8192 by omega)];simp
    have h2':decide ((8192:Int)<(l.length:Int))=true:=s_ (by omega);clear h1 h2 hdec;refine bE_ (by kernel_rfl) (by kernel_rfl) ?_;repeat(quiet_step(first|exact cT _ _|exact cR _ _))
    refine wpQuiet_nil ?_;intro _ hw';obtain⟨⟨dq,osq⟩,hw''⟩:=hw';subst hw'';have HBQ:=a_ (q12 (below_regrown W0 dq osq) HB.out);go_wp2_with fail;go_ret;exact⟨q17 HV.out.symm,HBQ.out⟩
   have h2':decide ((8192:Int)<(l.length:Int))=false:=k_ (by omega);have H12:Hid (n.length≤200∧l.length≤8192):=by simp only[Hid];omega
   clear h1 h2;obtain⟨q,hq⟩:∃q,(tl==l)=q:=⟨_,rfl⟩;rw[hq]at hdec;have hqn:=hq;clear hq;cases q with
    |false=>
     have HV:Hid (w22 n l=false):=by simp only[Hid];rw[hdec.out];simp
     clear hdec;refine bE_ (by kernel_rfl) (by kernel_rfl) ?_;repeat(quiet_step(first|exact cT _ _|exact cR _ _))
     refine wpQuiet_nil ?_;intro _ hw';obtain⟨⟨dq,osq⟩,hw''⟩:=hw';subst hw'';have HBQ:=a_ (q12 (below_regrown W0 dq osq) HB.out);go_wp2_with fail;go_ret;exact⟨q17 HV.out.symm,HBQ.out⟩
    |true=>
     refine bE_ (by kernel_rfl) (by kernel_rfl) ?_;repeat(quiet_step(first|exact cT _ _|exact cR _ _))
     refine wpQuiet_nil ?_;intro _ hw';obtain⟨⟨dq,osq⟩,hw''⟩:=hw';subst hw'';have HBQ:=a_ (q12 (below_regrown W0 dq osq) HB.out);have HX2:=a_ (j3 (below_regrown W0 dq osq) HX.out);obtain⟨W2,hW2⟩:∃W2,grow (redrawn W0 dq) osq=W2:=⟨_,rfl⟩;rw[hW2]at HX2 HBQ;try rw[hW2]
     have v1:=bc 1 HX2.out rfl;have HAL:Hid (l.all valB=true→w22 n l=true):=by simp only[Hid];intro h;rw[hdec.out,h,s_ H12.out.1,s_ H12.out.2];rfl
     clear hdec k0 k1 cT cR HT HR hqn h1' h2' hW2 H12;go_wp2_with fail;go_loopw[3](fun i wr=>wr=W2∧∃k:Nat,k≤l.length∧i=.int .i64 (k:Int)∧(l.take k).all valB=true)(fun i _=>l.length-(intOf i).toNat);case atStart=>exact⟨rfl,0,v_ _,rfl,rfl⟩
     case round=>
      obtain⟨rfl,k,hk,rfl,hall⟩:=hrel;have HA:=a_ hall;clear hall;by_cases hlt:k<l.length;·
       have HS:=a_ (fun h=>q34 hlt HA.out h);have HN:=a_ (fun h=>q92 (n:=n) (j41 hlt h));obtain⟨c,hc⟩:∃c,(⟨l.toArray⟩:ByteArray)[k]'(by rw[hsz];exact hlt)=c:=⟨_,rfl⟩;have hcl:l[k]=c:=hc;rw[hcl]at HS HN;clear hcl HA;rcases w100 c with⟨hc1,hc2⟩|⟨hc1,hc2⟩|⟨hc1,hc2⟩|⟨hc1,hc2⟩|⟨hc1,hc2⟩;·
        have HT:=a_ (valB_0 hc1 hc2);have f0:(c.toNat:Int)<32:=by omega
        have f1:¬(126:Int)<(c.toNat:Int):=by omega
        have f2:((c.toNat:Int)!=9)=true:=by rw[F_];omega
        have HV:=a_ (HN.out HT.out);clear HN HS HT hc1 hc2;go_wp2_with fail;go_ret;exact⟨q17 HV.out.symm,HBQ.out⟩
       ·have HT:=a_ (valB_9 hc1 hc2);have f0:(c.toNat:Int)<32:=by omega
        have f1:¬(126:Int)<(c.toNat:Int):=by omega
        have f2:((c.toNat:Int)!=9)=false:=by rw[z_];omega
        have HV:=a_ (HS.out HT.out);clear HN HS HT hc1 hc2;go_wp2_with fail;go_roundw;case rel=>exact⟨by first|trivial|rfl,k+1,by omega,by go_num,HV.out⟩
        case measure=>simp[intOf];omega
       ·have HT:=a_ (x126 hc1 hc2);have f0:(c.toNat:Int)<32:=by omega
        have f1:¬(126:Int)<(c.toNat:Int):=by omega
        have f2:((c.toNat:Int)!=9)=true:=by rw[F_];omega
        have HV:=a_ (HN.out HT.out);clear HN HS HT hc1 hc2;go_wp2_with fail;go_ret;exact⟨q17 HV.out.symm,HBQ.out⟩
       ·have HT:=a_ (y126 hc1 hc2);have f0:¬(c.toNat:Int)<32:=by omega
        have f1:¬(126:Int)<(c.toNat:Int):=by omega
        have f2:((c.toNat:Int)!=9)=true:=by rw[F_];omega
        have HV:=a_ (HS.out HT.out);clear HN HS HT hc1 hc2;go_wp2_with fail;go_roundw;case rel=>exact⟨by first|trivial|rfl,k+1,by omega,by go_num,HV.out⟩
        case measure=>simp[intOf];omega
       ·have HT:=a_ (z110 hc1 hc2);have f0:¬(c.toNat:Int)<32:=by omega
        have f1:(126:Int)<(c.toNat:Int):=by omega
        have f2:((c.toNat:Int)!=9)=true:=by rw[F_];omega
        have HV:=a_ (HN.out HT.out);clear HN HS HT hc1 hc2;go_wp2_with fail;go_ret;exact⟨q17 HV.out.symm,HBQ.out⟩
      ·have hke:k=l.length:=by omega
       have HF:=HA.out;rw[hke,V_]at HF;have HV:Hid (w22 n l=true):=HAL.out HF;clear HF HA hke;go_wp2_with fail;go_ret;exact⟨q17 HV.out.symm,HBQ.out⟩
theorem kind_of{l:List UInt8}:kindOk l=(decide (1≤l.length)&&decide (l.length≤100)&&w22 [97] l):=by unfold kindOk w22;rw[show q38 nCT=true by decide,show q38 [97]=true by decide,show decide (nCT.length≤200)=true from rfl,show decide (([97]:List UInt8).length≤200)=true from rfl]
theorem y133(l:List UInt8)(w:World)(hl:l.length≤100000):Calls Tryz.prog 225 #[.string ⟨l.toArray⟩] w fun e w'=>e=.returned (.bool (kindOk l))∧Below w.heap.size w w':=by
 have hsz:(⟨l.toArray⟩:ByteArray).size=l.length:=q19 l;have HF:=fun W=>a_ (j93 [97] l W (by decide) hl);have HK:=a_ (kind_of (l:=l));by_cases h1:l.length<1;·
  have HV:Hid (kindOk l=false):=by simp only[Hid];rw[HK.out,k_ (by omega)];rfl
  have h1':¬(1:Int)≤(l.length:Int):=by omega
  clear h1 HK;go_enter Tryz.func225,Tryz.ntmps225;go_wp2_with fail;go_ret;exact⟨q17 HV.out.symm,b_ _ _⟩
 have h1':(1:Int)≤(l.length:Int):=by omega
 by_cases h2:100<l.length;·
  have HV:Hid (kindOk l=false):=by simp only[Hid];rw[HK.out,k_ (show¬l.length≤100 by omega)];simp
  have h2':¬(l.length:Int)≤100:=by omega
  clear h1 h2 HK;go_enter Tryz.func225,Tryz.ntmps225;go_wp2_with fail;go_ret;exact⟨q17 HV.out.symm,b_ _ _⟩
 have h2':(l.length:Int)≤100:=by omega
 obtain⟨b,hb⟩:∃b,w22 [97] l=b:=⟨_,rfl⟩;have HV:Hid (kindOk l=b):=by simp only[Hid];rw[HK.out,s_ (by omega),s_ (by omega),hb];rfl
 rw[hb]at HF;clear hb HK h1 h2 hl;go_enter Tryz.func225,Tryz.ntmps225;go_wp2_with(go_at_call 279;refine(HF _).out.mono ?_;rintro e w1⟨rfl,hb1⟩);go_ret;exact⟨q17 HV.out.symm,hb1⟩
theorem ex_hex{d:Nat}(h:d<16):(⟨#[48,49,50,51,52,53,54,55,56,57,97,98,99,100,101,102]⟩:ByteArray).extract d (d+1)=⟨[hexD d].toArray⟩:=by
 have:∀k:Fin 16,(⟨#[48,49,50,51,52,53,54,55,56,57,97,98,99,100,101,102]⟩:ByteArray).extract k.val (k.val+1)=⟨[hexD k.val].toArray⟩:=by decide
 exact this ⟨d,h⟩
theorem j147{k U q d:Nat}(hq:q=U/16^k)(hd:q%16=d):hexT (k+1) U=[hexD d]++hexT k U:=by rw[y60,←hq,hd];rfl
theorem q106(n:Int)(w:World)(_:-9223372036854775808≤n∧n≤9223372036854775807):Calls Tryz.prog 157 #[.int .i64 n] w fun e w'=>e=.returned (.string ⟨(q29 n).toArray⟩)∧w'=w:=by
 obtain⟨U,hU⟩:∃U,(n%18446744073709551616).toNat=U:=⟨_,rfl⟩;have hwr:IntKind.u64.wrap n=(U:Int):=by rw[IntKind.wrap_u64];omega
 have hUb:U<18446744073709551616:=by omega
 have HBT:Hid (q29 n=x108++hexT 16 U):=by simp only[Hid];unfold q29;rw[hU]
 clear hU;go_enter Tryz.func157,Tryz.ntmps157;go_wp2_with fail;go_loop[3,4,6,5](fun u t _ i=>∃k q:Nat,k≤16∧i=.int .i64 (k:Int)∧q=U/16^k∧u=.int .u64 (q:Int)∧t=.string ⟨(hexT k U).toArray⟩)(fun _ _ _ i=>16-(intOf i).toNat);case atStart=>exact⟨0,U,by omega,rfl,by simp,rfl,rfl⟩
 case round=>
  obtain⟨k,q,hk,rfl,hq,rfl,rfl⟩:=hrel;have HQ:=a_ hq;clear hq;by_cases hlt:k<16;·
   have hlt':(k:Int)<16:=by omega
   obtain⟨d,hd⟩:∃d,q%16=d:=⟨_,rfl⟩;have HN:=a_ (j147 HQ.out hd);have hd16:d<16:=by omega
   have hr:(q:Int)%16=(d:Int):=by omega
   have hdv:(q:Int)/16=((q/16:Nat):Int):=by omega
   have HQ2:Hid (q/16=U/16^(k+1)):=by simp only[Hid];rw[HQ.out,bg_,Nat.div_div_eq_div_mul]
   have hqU:q≤U:=by rw[HQ.out];exact Nat.div_le_self _ _
   have hw1:IntKind.u64.wrap ((d:Int)+1)=(d:Int)+1:=by rw[IntKind.wrap_u64];omega
   have hx:=ex_hex hd16;have ht1:((d:Int)+1).toNat=d+1:=by omega
   have hb1:(d:Int)+1≤16:=by omega
   have hb2:(d:Int)≤(d:Int)+1:=by omega
   have hb3:d+1≤16:=by omega
   have hc:=catE (a:=[hexD d]) (b:=hexT k U) (by simp only[y50,g_,i_];omega);obtain⟨t2,ht2⟩:∃t,[hexD d]++hexT k U=t:=⟨_,rfl⟩;rw[ht2]at hc HN;obtain⟨q2,hq2⟩:∃q2,q/16=q2:=⟨_,rfl⟩;have hwq:IntKind.u64.wrap (q2:Int)=(q2:Int):=by rw[IntKind.wrap_u64];omega
   rw[hq2]at hdv HQ2;generalize hexT k U=t0 at hc;generalize[hexD d]=t1 at hc hx;clear hd ht2 hq2 HQ;go_wp2_with fail;go_round;case rel=>exact⟨k+1,q2,by omega,by go_num,HQ2.out,by first|rfl|(rw[hwq]),by rw[HN.out]⟩
   case measure=>simp[intOf];omega
  ·obtain rfl:k=16:=by omega
   have hc:=catE (a:=[115,108,105,99,101]) (b:=hexT 16 U) (by simp only[y50,g_,i_];omega);have HB2:Hid (q29 n=[115,108,105,99,101]++hexT 16 U):=HBT.out;generalize[115,108,105,99,101]++hexT 16 U=t2 at hc HB2;generalize hexT 16 U=t0 at hc;clear HBT HQ;go_wp2_with fail;go_ret;rw[HB2.out];exact⟨rfl,rfl⟩
theorem k156{x:Int×Int}{total:Int}{kd bd:List UInt8}(h1:kd.length≤100)(h2:bd.length≤70)(h3:(q21 x total).length≤70):(v181 x total kd bd).length≤1000:=by unfold v181;simp only[e_,g_,i_,show nCT.length=12 from rfl,show nCR.length=13 from rfl];omega
theorem v147(f t total:Int)(kd bd:List UInt8)(w:World)(hfw:f≤9223372036854775807)(htw:t≤9223372036854775807)(hkl:kd.length≤100)(hbl:bd.length≤70)(hcl:(q21 (f,t) total).length≤70):Calls Tryz.prog 224 #[.agg #[.int .i64 f,.int .i64 t],.int .i64 total,.string ⟨kd.toArray⟩,.string ⟨bd.toArray⟩] w fun e w'=>e=.returned (.string ⟨(v181 (f,t) total kd bd).toArray⟩)∧Below w.heap.size w w':=by
 have HX:=fun W=>a_ (q59 f t total W hfw htw);obtain⟨ct,hct⟩:∃t0,q21 (f,t) total=t0:=⟨_,rfl⟩;have HHT:Hid (v181 (f,t) total kd bd=[45,45]++bd++[13,10,67,111,110,116,101,110,116,45,84,121,112,101,58,32]++kd++[13,10,67,111,110,116,101,110,116,45,82,97,110,103,101,58,32]++ct++[13,10,13,10]):=by simp only[Hid];rw[←hct];unfold v181 nCT nCR;simp only[x_,ae_,aL_]
 rw[hct]at HX hcl;obtain⟨x1,K1⟩:∃t,Hid (t=[45,45]++bd):=⟨_,a_ rfl⟩;obtain⟨x2,K2⟩:∃t,Hid (t=x1++[13,10,67,111,110,116,101,110,116,45,84,121,112,101,58,32]):=⟨_,a_ rfl⟩;obtain⟨x3,K3⟩:∃t,Hid (t=x2++kd):=⟨_,a_ rfl⟩;obtain⟨x4,K4⟩:∃t,Hid (t=x3++[13,10,67,111,110,116,101,110,116,45,82,97,110,103,101,58,32]):=⟨_,a_ rfl⟩;obtain⟨x5,K5⟩:∃t,Hid (t=x4++ct):=⟨_,a_ rfl⟩;obtain⟨x6,K6⟩:∃t,Hid (t=x5++[13,10,13,10]):=⟨_,a_ rfl⟩;have N1:Hid (x1.length≤72):=by simp only[Hid];rw[K1.out,e_];simp only[g_,i_];omega
 have N2:Hid (x2.length≤88):=by simp only[Hid];rw[K2.out,e_];have:=N1.out;simp only[g_,i_];omega
 have N3:Hid (x3.length≤188):=by simp only[Hid];rw[K3.out,e_];have:=N2.out;omega
 have N4:Hid (x4.length≤205):=by simp only[Hid];rw[K4.out,e_];have:=N3.out;simp only[g_,i_];omega
 have N5:Hid (x5.length≤275):=by simp only[Hid];rw[K5.out,e_];have:=N4.out;omega
 have hc1:∀W,(Op.stringOp .add ⟨([45,45]:List UInt8).toArray⟩ ⟨bd.toArray⟩).run Tryz.prog W=.ok (.string ⟨x1.toArray⟩) W:=by rw[K1.out];exact catE (by simp only[g_,i_];omega)
 have hc2:∀W,(Op.stringOp .add ⟨x1.toArray⟩ ⟨([13,10,67,111,110,116,101,110,116,45,84,121,112,101,58,32]:List UInt8).toArray⟩).run Tryz.prog W=.ok (.string ⟨x2.toArray⟩) W:=by rw[K2.out];exact catE (by have:=N1.out;simp only[g_,i_];omega)
 have hc3:∀W,(Op.stringOp .add ⟨x2.toArray⟩ ⟨kd.toArray⟩).run Tryz.prog W=.ok (.string ⟨x3.toArray⟩) W:=by rw[K3.out];exact catE (by have:=N2.out;omega)
 have hc4:∀W,(Op.stringOp .add ⟨x3.toArray⟩ ⟨([13,10,67,111,110,116,101,110,116,45,82,97,110,103,101,58,32]:List UInt8).toArray⟩).run Tryz.prog W=.ok (.string ⟨x4.toArray⟩) W:=by rw[K4.out];exact catE (by have:=N3.out;simp only[g_,i_];omega)
 have hc5:∀W,(Op.stringOp .add ⟨x4.toArray⟩ ⟨ct.toArray⟩).run Tryz.prog W=.ok (.string ⟨x5.toArray⟩) W:=by rw[K5.out];exact catE (by have:=N4.out;omega)
 have hc6:∀W,(Op.stringOp .add ⟨x5.toArray⟩ ⟨([13,10,13,10]:List UInt8).toArray⟩).run Tryz.prog W=.ok (.string ⟨x6.toArray⟩) W:=by rw[K6.out];exact catE (by have:=N5.out;simp only[g_,i_];omega)
 have HT:Hid (v181 (f,t) total kd bd=x6):=by simp only[Hid];rw[HHT.out,K6.out,K5.out,K4.out,K3.out,K2.out,K1.out]
 clear K1 K2 K3 K4 K5 K6 N1 N2 N3 N4 N5 HHT hct hfw htw hkl hbl hcl;go_enter Tryz.func224,Tryz.ntmps224;go_wp2_with(go_at_call 156;refine(HX _).out.mono ?_;rintro e w1⟨rfl,hb1⟩);go_ret;rw[HT.out];exact⟨rfl,q12 hb1 (q11 (b_ _ _) _)⟩
theorem w133(A:Option Addr)(c:Nat)(L:List (Int×Int))(total:Int)(kd bd:List UInt8)(w:World)(h:Sp w A c L)(h0:0<L.length)(hl:L.length≤1000)(hc:∀x∈L,q23 x total=true)(hkd:kindOk kd=true)(hbd:w23 bd=true):Calls Tryz.prog 158 #[.slice A L.length c,.int .i64 total,.string ⟨kd.toArray⟩,.string ⟨bd.toArray⟩] w (v92 (x37 L total kd bd) w):=by
 have HH:=a_ h;have HC:=a_ hc;have hbl:bd.length≤70:=by unfold w23 at hbd;simp only[r_,p_]at hbd;exact hbd.1.2
 have hkl:kd.length≤100:=by unfold kindOk at hkd;simp only[r_,p_]at hkd;exact hkd.1.2
 have HKD:=fun W=>a_ (y133 kd W (by omega));have HBD:=fun W=>a_ (y120 bd W (by omega));rw[hbd]at HBD;rw[hkd]at HKD;have HCT:∀(x:Int×Int)(W:World),x∈L→Hid (Calls Tryz.prog 156 #[.agg #[.int .i64 x.1,.int .i64 x.2],.int .i64 total] W fun e w'=>e=.returned (.string ⟨(q21 x total).toArray⟩)∧Below W.heap.size W w'):=fun x W hx=>by have hr:=(j19 x).1 (j48 (hc x hx)).1;exact a_ (q59 x.1 x.2 total W (by omega) (by omega))
 have HHD:∀(x:Int×Int)(W:World),x∈L→Hid (Calls Tryz.prog 224 #[.agg #[.int .i64 x.1,.int .i64 x.2],.int .i64 total,.string ⟨kd.toArray⟩,.string ⟨bd.toArray⟩] W fun e w'=>e=.returned (.string ⟨(v181 x total kd bd).toArray⟩)∧Below W.heap.size W w'):=fun x W hx=>by have hr:=(j19 x).1 (j48 (hc x hx)).1;exact a_ (v147 x.1 x.2 total kd bd W (by omega) (by omega) hkl hbl (w60 (hc x hx)))
 have HHL:Hid (∀x∈L,(v181 x total kd bd).length≤1000):=fun x hx=>k156 hkl hbl (w60 (hc x hx));have hne:((L.length:Int)==0)=false:=by rw[j_];omega
 have H0:=a_ h0;clear h hc hkd hbd h0;go_enter Tryz.func158,Tryz.ntmps158;go_wp2_with fail;go_loopw[10,11,12,13,16](fun out _ _ _ i wr=>∃(k:Nat)(A':Option Addr)(c' m:Nat),k≤L.length∧i=.int .i64 (k:Int)∧m=(j26 total kd bd true (L.take k)).length∧out=.slice A' m c'∧OwnG 89 j18 3 wr w.heap.size A' c' (j26 total kd bd true (L.take k))∧Below w.heap.size w wr)(fun _ _ _ _ i _=>L.length-(intOf i).toNat);case atStart=>exact⟨0,none,0,0,v_ _,rfl,rfl,rfl,OwnG.nil _ _,b_ _ _⟩
 case round=>
  obtain⟨k,A',c',m,hk,rfl,hm,rfl,hown,hbw⟩:=hrel;have HB:=a_ hbw;have HO:=a_ hown;have HM:=a_ hm;have hm2:m≤2000:=by rw[hm,q56,N_];omega
  clear hbw hown hm;by_cases hlt:k<L.length;·
   obtain⟨b,off,e,hb,c1,c2⟩:=(HH.out.below HB.out).at_ hlt;have hmem:=y_ hlt;have HX:=fun W=>HCT L[k] W hmem;have HY:=fun W=>HHD L[k] W hmem;have hhl:=HHL.out _ hmem;have hcx:=HC.out _ hmem;have hie:(q21 L[k] total).isEmpty=false:=by cases hh:(q21 L[k] total).isEmpty with|false=>rfl|true=>have:=w86.1 (aN_.1 hh);rw[hcx]at this;cases this
   have HST:=a_ (k81 (total:=total) (kd:=kd) (bd:=bd) hlt);obtain⟨Q,hQ⟩:∃P,j26 total kd bd true (L.take k)=P:=⟨_,rfl⟩;rw[hQ]at HO HM HST;obtain⟨⟨x1,x2⟩,hx⟩:∃x,L[k]=x:=⟨_,rfl⟩;rw[hx]at c1 c2 HX HY hhl hie HST;simp only at c1 c2 HX HY;obtain⟨ct,hct⟩:∃t,q21 (x1,x2) total=t:=⟨_,rfl⟩;rw[hct]at HX hie;obtain⟨hd,hhd⟩:∃t,v181 (x1,x2) total kd bd=t:=⟨_,rfl⟩;rw[hhd]at HY hhl HST;clear hmem hcx hx hct hhd hQ HCT HHD HHL;rw[e];by_cases hk0:k=0;·
    have hk1:¬(0:Int)<(k:Int):=by omega
    rw[w_ hk0,aL_]at HST;clear hk0;go_wp2_with(
     first
      |(at_builtin;refine x23 (w0:=w) elemPt rfl (.tmp 34) (.tmp 39) rfl A' c' m Q HM.out _ _ rfl (HO.out.below (q12 hb5 (q12 hb4 (q11 (b_ _ _) _)))) [(hd,(0,0)),([],(x1,x2))] 2 rfl rfl rfl (Nat.zero_lt_succ 1) (m+2) rfl (by omega) (q12 hb5 (q12 hb4 (q11 HB.out _))) ?_;intro A6 c6 w6 hown6 hbw6 hg6;clear hg6)
      |(go_at_call 156;refine(HX _).out.mono ?_;rintro e w4⟨rfl,hb4⟩;have p1:=x16 hb4 (k31 _ _ _ _);have p2:=x16 hb4 (w31 _ _ _ _))
      |(go_at_call 224;refine(HY _).out.mono ?_;rintro e w5⟨rfl,hb5⟩;have q1:=x16 hb5 p1;have q2:=x16 hb5 p2));go_roundw;case rel=>exact⟨k+1,A6,c6,m+2,by omega,by go_num,by rw[HST.out,e_,HM.out];rfl,rfl,by rw[HST.out];exact hown6,hbw6⟩
    case measure=>simp[intOf];omega
   ·have hk1:(0:Int)<(k:Int):=by omega
    rw[q_ hk0]at HST;have hc1:=catE (a:=[13,10]) (b:=hd) (by simp only[g_,i_];omega);obtain⟨tt,htt⟩:∃t,[13,10]++hd=t:=⟨_,rfl⟩;rw[htt]at hc1 HST;clear hk0 htt;go_wp2_with(
     first
      |(at_builtin;refine x23 (w0:=w) elemPt rfl (.tmp 34) (.tmp 39) rfl A' c' m Q HM.out _ _ rfl (HO.out.below (q12 hb5 (q12 hb4 (q11 (b_ _ _) _)))) [(tt,(0,0)),([],(x1,x2))] 2 rfl rfl rfl (Nat.zero_lt_succ 1) (m+2) rfl (by omega) (q12 hb5 (q12 hb4 (q11 HB.out _))) ?_;intro A6 c6 w6 hown6 hbw6 hg6;clear hg6)
      |(go_at_call 156;refine(HX _).out.mono ?_;rintro e w4⟨rfl,hb4⟩;have p1:=x16 hb4 (k31 _ _ _ _);have p2:=x16 hb4 (w31 _ _ _ _))
      |(go_at_call 224;refine(HY _).out.mono ?_;rintro e w5⟨rfl,hb5⟩;have q1:=x16 hb5 p1;have q2:=x16 hb5 p2));go_roundw;case rel=>exact⟨k+1,A6,c6,m+2,by omega,by go_num,by rw[HST.out,e_,HM.out];rfl,rfl,by rw[HST.out];exact hown6,hbw6⟩
    case measure=>simp[intOf];omega
  ·have hke:k=L.length:=by omega
   rw[hke,V_]at HM HO;obtain⟨Q,hQ⟩:∃P,j26 total kd bd true L=P:=⟨_,rfl⟩;have HPL:Hid (x37 L total kd bd=Q++[(endT bd,(0,0))]):=by simp only[Hid];rw[←hQ];rfl
   rw[hQ]at HM HO;have hc1:=catE (a:=[13,10,45,45]) (b:=bd) (by simp only[g_,i_];omega);have hc2:=catE (a:=[13,10,45,45]++bd) (b:=[45,45,13,10]) (by simp only[e_,g_,i_];omega);have HET:Hid (endT bd=[13,10,45,45]++bd++[45,45,13,10]):=by simp only[Hid];unfold endT;simp
   generalize[13,10,45,45]++bd++[45,45,13,10]=t3 at hc2 HET;generalize[13,10,45,45]++bd=t1 at hc1 hc2;rw[HET.out]at HPL;have hltk:¬(k:Int)<(L.length:Int):=by omega
   clear hQ HET HCT hke HHD HHL;go_wp2_with(
    first
     |(go_at_call 225;refine(HKD _).out.mono ?_;rintro e w4⟨rfl,hb4⟩)
     |(go_at_call 226;refine(HBD _).out.mono ?_;rintro e w5⟨rfl,hw5⟩;obtain rfl:w4=w5:=hw5.symm)
     |(at_builtin;refine x23 (w0:=w) elemPt rfl (.tmp 55) (.tmp 60) rfl A' c' m Q HM.out _ _ rfl (HO.out.below hb4) [(t3,(0,0))] 1 rfl rfl rfl S_ (m+1) rfl (by omega) (q12 hb4 HB.out) ?_;intro A6 c6 w6 hown6 hbw6 hg6;clear hg6));refine m_ (by simp[results,Tryz.results158,go_sem];try rfl) rfl ?_;rw[HPL.out];exact⟨A6,c6,m+1,by rw[e_,HM.out];rfl,rfl,hown6,hbw6⟩
theorem k147(A:Option Addr)(c n:Nat)(P:List w17)(w:World)(hn:n=P.length)(h:SpG j18 3 w A c P)(hl:P.length≤3000)(hlow:LowP P):Calls Tryz.prog 159 #[.slice A n c] w fun e w'=>e=.returned (.int .i64 (z181 P))∧Below w.heap.size w w':=by
 subst hn;have HH:=a_ h;have HL:=a_ hlow;clear h hlow;go_enter Tryz.func159,Tryz.ntmps159;go_wp2_with fail;go_loopw[3,5,8](fun s _ i wr=>∃(k:Nat)(n:Int),k≤P.length∧i=.int .i64 (k:Int)∧s=.int .i64 n∧0≤n∧n≤k*1099512627776∧w29 n (P.drop k)=z181 P∧Below w.heap.size w wr)(fun _ _ i _=>P.length-(intOf i).toNat);case atStart=>exact⟨0,0,v_ _,rfl,rfl,ao_ _,by omega,rfl,b_ _ _⟩
 case round=>
  obtain⟨k,n,hk,rfl,rfl,hn0,hn1,hs,hbw⟩:=hrel;have HB:=a_ hbw;have HS:=a_ hs;clear hbw hs;by_cases hlt:k<P.length;·
   obtain⟨b,off,e,hb,hc⟩:=(HH.out.below HB.out).at' k hlt;have c0:=hc 0 _ rfl;have c1:=hc 1 _ rfl;have c2:=hc 2 _ rfl;simp only[J_]at c0;have hp:=HL.out _ (y_ hlt);have F1:Hid (P[k].1≠[]→w29 n (P.drop k)=w29 (n+(P[k].1.length:Int)) (P.drop (k+1))):=k92 hlt;have F2:Hid (P[k].1=[]→(okS P[k].2=false∨P[k].2.2=4611686018427387904)→w29 n (P.drop k)=-1):=z101 hlt;have F3:Hid (P[k].1=[]→¬(okS P[k].2=false∨P[k].2.2=4611686018427387904)→w29 n (P.drop k)=w29 (n+(P[k].2.2-P[k].2.1)) (P.drop (k+1))):=x92 hlt;obtain⟨⟨t,x1,x2⟩,hx⟩:∃p,P[k]=p:=⟨_,rfl⟩;rw[hx]at c0 c1 c2 hp F1 F2 F3;simp only at c0 c1 c2 hp F1 F2 F3;have hsz:(⟨t.toArray⟩:ByteArray).size=t.length:=q19 t;have HR:=fun W=>a_ (x64 x1 x2 W);clear hx hc;rw[e];cases hte:t.isEmpty with
    |false=>
     have hne:t≠[]:=by intro hh;rw[hh]at hte;simp at hte
     have HF:=a_ ((F1.out hne).symm.trans HS.out);have hw:IntKind.i64.wrap (n+(t.length:Int))=n+(t.length:Int):=M_ _ (by omega);have hk2:(k:Int)≤3000:=by omega
     have hn2:n+(t.length:Int)≤(k+1:Nat)*1099512627776:=by omega
     clear F1 F2 F3 hne;go_wp2_with fail;go_roundw;case rel=>exact⟨k+1,n+(t.length:Int),by omega,by go_num,rfl,by omega,hn2,HF.out,q11 HB.out _⟩
     case measure=>simp[intOf];omega
    |true=>
     have hte':t=[]:=aN_.1 hte;cases hok:okS (x1,x2)with
      |false=>have HF:Hid (z181 P=-1):=HS.out.symm.trans (F2.out hte' (.inl hok));rw[hok]at HR;clear F1 F2 F3 hte';go_wp2_with(go_at_call 162;refine(HR _).out.mono ?_;rintro e w1⟨rfl,n1,rfl⟩);go_ret;exact⟨by rw[HF.out];rfl,by first|exact q15 (q11 (q11 HB.out _) _) _|(repeat(first|exact b_ _ _|refine q15 ?_ _|refine x15 ?_|refine q11 ?_ _|refine w14 ?_ (by simp) _))⟩
      |true=>
       rw[hok]at HR;by_cases ho:x2=4611686018427387904;·
        have HF:Hid (z181 P=-1):=HS.out.symm.trans (F2.out hte' (.inr ho));have hob:(x2==4611686018427387904)=true:=by rw[aD_];exact ho
        subst ho;clear F1 F2 F3 hte';go_wp2_with(go_at_call 162;refine(HR _).out.mono ?_;rintro e w1⟨rfl,n1,rfl⟩);go_ret;exact⟨by rw[HF.out];rfl,by first|exact q15 (q11 (q11 HB.out _) _) _|(repeat(first|exact b_ _ _|refine q15 ?_ _|refine x15 ?_|refine q11 ?_ _|refine w14 ?_ (by simp) _))⟩
       ·have HF:=a_ ((F3.out hte' (by rw[hok];rintro(h|h)<;>first|exact ho h|cases h)).symm.trans HS.out);have hob:(x2==4611686018427387904)=false:=by rw[j_];exact ho
        obtain⟨r1,r2,r3⟩:=(j19 (x1,x2)).1 hok;have hx2:=hp.2 hok ho;simp only at r1 r2 r3 hx2;have hk2:(k:Int)≤3000:=by omega
        have hw:IntKind.i64.wrap (n+x2)=n+x2:=M_ _ (by omega);have hw2:IntKind.i64.wrap (n+x2-x1)=n+x2-x1:=M_ _ (by omega);have hn2:n+x2-x1≤(k+1:Nat)*1099512627776:=by omega
        have hn3:0≤n+x2-x1:=by omega
        have HF2:Hid (w29 (n+x2-x1) (P.drop (k+1))=z181 P):=by simp only[Hid];rw[show n+x2-x1=n+(x2-x1)by omega];exact HF.out
        clear F1 F2 F3 hte' ho hok r1 r2 r3 hx2 hp hn0 hn1 HF;go_wp2_with(go_at_call 162;refine(HR _).out.mono ?_;rintro e w1⟨rfl,n1,rfl⟩);go_roundw;case rel=>exact⟨k+1,n+x2-x1,by omega,by go_num,rfl,hn3,hn2,HF2.out,by first|exact q15 (q11 (q11 HB.out _) _) _|(repeat(first|exact b_ _ _|refine q15 ?_ _|refine x15 ?_|refine q11 ?_ _|refine w14 ?_ (by simp) _))⟩
        case measure=>simp[intOf];omega
  ·have hke:k=P.length:=by omega
   have HF:Hid (z181 P=n):=by have:=HS.out;rw[hke,List.drop_length]at this;exact this.symm
   have hltk:¬(k:Int)<(P.length:Int):=by omega
   clear hke HS;go_wp2_with fail;go_ret;exact⟨by rw[HF.out];rfl,HB.out⟩
