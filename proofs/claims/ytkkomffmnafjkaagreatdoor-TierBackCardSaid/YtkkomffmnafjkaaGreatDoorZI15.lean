/- Contracts of multi's bounds, and of field's token and Right. -/
import Derived.Test.YtkkomffmnafjkaaGreatDoorZI5
import Derived.Test.YtkkomffmnafjkaaGreatDoorZS9
import Derived.Test.YtkkomffmnafjkaaGreatDoorZLaidJ
import Derived.Lib.IndexLaws
set_option maxHeartbeats 16000000
set_option maxRecDepth 100000
set_option linter.all false
namespace Go.Proofs.YtkkomffmnafjkaaGreatDoor
open Go.RowKit
theorem w91{c:UInt8}(h1:0≤c.toNat)(h2:c.toNat≤47):alnB c=false:=by rw[Bool.eq_false_iff];unfold alnB;simp only[Bool.or_eq_true,Bool.and_eq_true,decide_eq_true_eq,ne_eq,not_or,not_and];omega
theorem y77{c:UInt8}(h1:48≤c.toNat)(h2:c.toNat≤57):alnB c=true:=by unfold alnB;simp only[Bool.or_eq_true,Bool.and_eq_true,decide_eq_true_eq];omega
theorem w77{c:UInt8}(h1:58≤c.toNat)(h2:c.toNat≤64):alnB c=false:=by rw[Bool.eq_false_iff];unfold alnB;simp only[Bool.or_eq_true,Bool.and_eq_true,decide_eq_true_eq,ne_eq,not_or,not_and];omega
theorem q78{c:UInt8}(h1:65≤c.toNat)(h2:c.toNat≤90):alnB c=true:=by unfold alnB;simp only[Bool.or_eq_true,Bool.and_eq_true,decide_eq_true_eq];omega
theorem j78{c:UInt8}(h1:91≤c.toNat)(h2:c.toNat≤96):alnB c=false:=by rw[Bool.eq_false_iff];unfold alnB;simp only[Bool.or_eq_true,Bool.and_eq_true,decide_eq_true_eq,ne_eq,not_or,not_and];omega
theorem k78{c:UInt8}(h1:97≤c.toNat)(h2:c.toNat≤122):alnB c=true:=by unfold alnB;simp only[Bool.or_eq_true,Bool.and_eq_true,decide_eq_true_eq];omega
theorem k65{c:UInt8}(h1:123≤c.toNat)(h2:c.toNat≤255):alnB c=false:=by rw[Bool.eq_false_iff];unfold alnB;simp only[Bool.or_eq_true,Bool.and_eq_true,decide_eq_true_eq,ne_eq,not_or,not_and];omega
theorem x60(c:UInt8):(0≤c.toNat∧c.toNat≤47)∨(48≤c.toNat∧c.toNat≤57)∨(58≤c.toNat∧c.toNat≤64)∨(65≤c.toNat∧c.toNat≤90)∨(91≤c.toNat∧c.toNat≤96)∨(97≤c.toNat∧c.toNat≤122)∨(123≤c.toNat∧c.toNat≤255):=by have:=UInt8.toNat_lt c;omega
theorem z92{l:List UInt8}(h:l.all alnB=false):w23 l=false:=by unfold w23;rw[h,Bool.and_false]
theorem z81{l:List UInt8}(h1:1≤l.length)(h2:l.length≤70)(h:l.all alnB=true):w23 l=true:=by unfold w23;rw[h,decide_eq_true h1,decide_eq_true h2];rfl
theorem j132(l:List UInt8)(w:World)(hl:l.length≤1000000):Calls Tryz.prog 198 #[.string ⟨l.toArray⟩] w fun e w'=>e=.returned (.bool (w23 l))∧w'=w:=by
 have hsz:(⟨l.toArray⟩:ByteArray).size=l.length:=q19 l;by_cases h1:l.length<1;·
  have HV:Hid (w23 l=false):=by simp only[Hid];unfold w23;rw[decide_eq_false (by omega)];rfl
  have h1':(l.length:Int)<1:=by omega
  clear h1;go_enter Tryz.func198,Tryz.ntmps198;go_wp2_with fail;go_ret;exact⟨q17 HV.out.symm,rfl⟩
 by_cases h2:70<l.length;·
  have HV:Hid (w23 l=false):=by simp only[Hid];unfold w23;rw[decide_eq_false (show¬l.length≤70 by omega)];simp
  have h1':¬(l.length:Int)<1:=by omega
  have h2':(70:Int)<(l.length:Int):=by omega
  clear h1 h2;go_enter Tryz.func198,Tryz.ntmps198;go_wp2_with fail;go_ret;exact⟨q17 HV.out.symm,rfl⟩
 have h1':¬(l.length:Int)<1:=by omega
 have h2':¬(70:Int)<(l.length:Int):=by omega
 have H12:Hid (1≤l.length∧l.length≤70):=by simp only[Hid];omega
 clear h1 h2;go_enter Tryz.func198,Tryz.ntmps198;go_wp2_with fail;go_loopw[3,4,15](fun _ _ i wr=>wr=w∧∃k:Nat,k≤l.length∧i=.int .i64 (k:Int)∧(l.take k).all alnB=true)(fun _ _ i _=>l.length-(intOf i).toNat);case atStart=>exact⟨rfl,0,Nat.zero_le _,rfl,rfl⟩
 case round=>
  obtain⟨rfl,k,hk,rfl,hall⟩:=hrel;have HA:=Lib.hid hall;clear hall;by_cases hlt:k<l.length;·
   have HS:=Lib.hid (fun h=>q34 hlt HA.out h);have HN:=Lib.hid (fun h=>z92 (j41 hlt h));obtain⟨c,hc⟩:∃c,(⟨l.toArray⟩:ByteArray)[k]'(by rw[hsz];exact hlt)=c:=⟨_,rfl⟩;have hcl:l[k]=c:=hc;rw[hcl]at HS HN;clear hcl HA;rcases x60 c with⟨hc1,hc2⟩|⟨hc1,hc2⟩|⟨hc1,hc2⟩|⟨hc1,hc2⟩|⟨hc1,hc2⟩|⟨hc1,hc2⟩|⟨hc1,hc2⟩;·
    have HT:=Lib.hid (w91 hc1 hc2);have f0:(c.toNat:Int)<48:=by omega
    have f1:¬(57:Int)<(c.toNat:Int):=by omega
    have f2:(c.toNat:Int)<97:=by omega
    have f3:¬(122:Int)<(c.toNat:Int):=by omega
    have f4:(c.toNat:Int)<65:=by omega
    have f5:¬(90:Int)<(c.toNat:Int):=by omega
    have HV:=Lib.hid (HN.out HT.out);clear HN HS HT hc1 hc2;go_wp2_with fail;go_ret;exact⟨q17 HV.out.symm,rfl⟩
   ·have HT:=Lib.hid (y77 hc1 hc2);have f0:¬(c.toNat:Int)<48:=by omega
    have f1:¬(57:Int)<(c.toNat:Int):=by omega
    have f2:(c.toNat:Int)<97:=by omega
    have f3:¬(122:Int)<(c.toNat:Int):=by omega
    have f4:(c.toNat:Int)<65:=by omega
    have f5:¬(90:Int)<(c.toNat:Int):=by omega
    have HV:=Lib.hid (HS.out HT.out);clear HN HS HT hc1 hc2;go_wp2_with fail;go_roundw;case rel=>exact⟨by first|trivial|rfl,k+1,by omega,by go_num,HV.out⟩
    case measure=>simp[intOf];omega
   ·have HT:=Lib.hid (w77 hc1 hc2);have f0:¬(c.toNat:Int)<48:=by omega
    have f1:(57:Int)<(c.toNat:Int):=by omega
    have f2:(c.toNat:Int)<97:=by omega
    have f3:¬(122:Int)<(c.toNat:Int):=by omega
    have f4:(c.toNat:Int)<65:=by omega
    have f5:¬(90:Int)<(c.toNat:Int):=by omega
    have HV:=Lib.hid (HN.out HT.out);clear HN HS HT hc1 hc2;go_wp2_with fail;go_ret;exact⟨q17 HV.out.symm,rfl⟩
   ·have HT:=Lib.hid (q78 hc1 hc2);have f0:¬(c.toNat:Int)<48:=by omega
    have f1:(57:Int)<(c.toNat:Int):=by omega
    have f2:(c.toNat:Int)<97:=by omega
    have f3:¬(122:Int)<(c.toNat:Int):=by omega
    have f4:¬(c.toNat:Int)<65:=by omega
    have f5:¬(90:Int)<(c.toNat:Int):=by omega
    have HV:=Lib.hid (HS.out HT.out);clear HN HS HT hc1 hc2;go_wp2_with fail;go_roundw;case rel=>exact⟨by first|trivial|rfl,k+1,by omega,by go_num,HV.out⟩
    case measure=>simp[intOf];omega
   ·have HT:=Lib.hid (j78 hc1 hc2);have f0:¬(c.toNat:Int)<48:=by omega
    have f1:(57:Int)<(c.toNat:Int):=by omega
    have f2:(c.toNat:Int)<97:=by omega
    have f3:¬(122:Int)<(c.toNat:Int):=by omega
    have f4:¬(c.toNat:Int)<65:=by omega
    have f5:(90:Int)<(c.toNat:Int):=by omega
    have HV:=Lib.hid (HN.out HT.out);clear HN HS HT hc1 hc2;go_wp2_with fail;go_ret;exact⟨q17 HV.out.symm,rfl⟩
   ·have HT:=Lib.hid (k78 hc1 hc2);have f0:¬(c.toNat:Int)<48:=by omega
    have f1:(57:Int)<(c.toNat:Int):=by omega
    have f2:¬(c.toNat:Int)<97:=by omega
    have f3:¬(122:Int)<(c.toNat:Int):=by omega
    have f4:¬(c.toNat:Int)<65:=by omega
    have f5:(90:Int)<(c.toNat:Int):=by omega
    have HV:=Lib.hid (HS.out HT.out);clear HN HS HT hc1 hc2;go_wp2_with fail;go_roundw;case rel=>exact⟨by first|trivial|rfl,k+1,by omega,by go_num,HV.out⟩
    case measure=>simp[intOf];omega
   ·have HT:=Lib.hid (k65 hc1 hc2);have f0:¬(c.toNat:Int)<48:=by omega
    have f1:(57:Int)<(c.toNat:Int):=by omega
    have f2:¬(c.toNat:Int)<97:=by omega
    have f3:(122:Int)<(c.toNat:Int):=by omega
    have f4:¬(c.toNat:Int)<65:=by omega
    have f5:(90:Int)<(c.toNat:Int):=by omega
    have HV:=Lib.hid (HN.out HT.out);clear HN HS HT hc1 hc2;go_wp2_with fail;go_ret;exact⟨q17 HV.out.symm,rfl⟩
  ·have hke:k=l.length:=by omega
   have HF:=HA.out;rw[hke,List.take_length]at HF;have HV:Hid (w23 l=true):=z81 H12.out.1 H12.out.2 HF;clear HF HA hke;go_wp2_with fail;go_ret;exact⟨q17 HV.out.symm,rfl⟩
def tokSet:List UInt8:=[33,35,36,37,38,39,42,43,45,46,94,95,96,124,126]
def tokB(c:UInt8):Bool:=alnB c||tokSet.contains c
def q38(l:List UInt8):Bool:=decide (1≤l.length)&&l.all tokB
theorem y109{l:List UInt8}(h:l.all tokB=false):q38 l=false:=by unfold q38;rw[h,Bool.and_false]
theorem y100{l:List UInt8}(h1:1≤l.length)(h:l.all tokB=true):q38 l=true:=by unfold q38;rw[h,decide_eq_true h1];rfl
theorem x78(c:UInt8):(0≤Lib.indexByte tokSet c∧tokSet.contains c=true)∨(Lib.indexByte tokSet c<0∧tokSet.contains c=false):=by
 have h:∀n:Fin 256,(0≤Lib.indexByte tokSet (UInt8.ofNat n.val)∧tokSet.contains (UInt8.ofNat n.val)=true)∨(Lib.indexByte tokSet (UInt8.ofNat n.val)<0∧tokSet.contains (UInt8.ofNat n.val)=false):=by decide+kernel
 have:=h ⟨c.toNat,UInt8.toNat_lt c⟩;simpa using this
theorem x56(c:UInt8)(w:World):Calls Tryz.prog 332 #[.string ⟨#[33,35,36,37,38,39,42,43,45,46,94,95,96,124,126]⟩,.int .u8 (c.toNat:Int)] w fun e w'=>e=.returned (.int .i64 (Lib.indexByte tokSet c))∧w'=w:=by
 have h:=Tryz.strings_IndexByte ⟨#[33,35,36,37,38,39,42,43,45,46,94,95,96,124,126]⟩ (c.toNat:Int) w;have e:((c.toNat:Int)).toNat.toUInt8=c:=by simp
 rw[e]at h;exact h
theorem tokB_0{c:UInt8}(h1:0≤c.toNat)(h2:c.toNat≤47){v:Bool}(h:tokSet.contains c=v):tokB c=v:=by unfold tokB;rw[w91 h1 h2,h,Bool.false_or]
theorem tokB_48{c:UInt8}(h1:48≤c.toNat)(h2:c.toNat≤57):tokB c=true:=by unfold tokB;rw[y77 h1 h2];rfl
theorem v126{c:UInt8}(h1:58≤c.toNat)(h2:c.toNat≤64){v:Bool}(h:tokSet.contains c=v):tokB c=v:=by unfold tokB;rw[w77 h1 h2,h,Bool.false_or]
theorem tokB_65{c:UInt8}(h1:65≤c.toNat)(h2:c.toNat≤90):tokB c=true:=by unfold tokB;rw[q78 h1 h2];rfl
theorem k126{c:UInt8}(h1:91≤c.toNat)(h2:c.toNat≤96){v:Bool}(h:tokSet.contains c=v):tokB c=v:=by unfold tokB;rw[j78 h1 h2,h,Bool.false_or]
theorem tokB_97{c:UInt8}(h1:97≤c.toNat)(h2:c.toNat≤122):tokB c=true:=by unfold tokB;rw[k78 h1 h2];rfl
theorem w109{c:UInt8}(h1:123≤c.toNat)(h2:c.toNat≤255){v:Bool}(h:tokSet.contains c=v):tokB c=v:=by unfold tokB;rw[k65 h1 h2,h,Bool.false_or]
theorem x144(l:List UInt8)(w:World)(hl:l.length≤1000000):Calls Tryz.prog 313 #[.string ⟨l.toArray⟩] w fun e w'=>e=.returned (.bool (q38 l))∧w'=w:=by
 have hsz:(⟨l.toArray⟩:ByteArray).size=l.length:=q19 l;by_cases h1:l.length<1;·
  have HV:Hid (q38 l=false):=by simp only[Hid];unfold q38;rw[decide_eq_false (by omega)];rfl
  obtain rfl:l=[]:=List.eq_nil_of_length_eq_zero (by omega);clear h1;go_enter Tryz.func313,Tryz.ntmps313;go_wp2_with fail;go_ret;exact⟨q17 HV.out.symm,rfl⟩
 have hle:(l==[])=false:=by cases l with|nil=>simp at h1|cons a r=>rfl
 have H12:Hid (1≤l.length):=by simp only[Hid];omega
 clear h1;go_enter Tryz.func313,Tryz.ntmps313;go_wp2_with fail;go_loopw[3,4,5,10](fun _ _ _ i wr=>wr=w∧∃k:Nat,k≤l.length∧i=.int .i64 (k:Int)∧(l.take k).all tokB=true)(fun _ _ _ i _=>l.length-(intOf i).toNat);case atStart=>exact⟨rfl,0,Nat.zero_le _,rfl,rfl⟩
 case round=>
  obtain⟨rfl,k,hk,rfl,hall⟩:=hrel;have HA:=Lib.hid hall;clear hall;by_cases hlt:k<l.length;·
   have HS:=Lib.hid (fun h=>q34 hlt HA.out h);have HN:=Lib.hid (fun h=>y109 (j41 hlt h));obtain⟨c,hc⟩:∃c,(⟨l.toArray⟩:ByteArray)[k]'(by rw[hsz];exact hlt)=c:=⟨_,rfl⟩;have hcl:l[k]=c:=hc;rw[hcl]at HS HN;clear hcl HA;rcases x60 c with⟨hc1,hc2⟩|⟨hc1,hc2⟩|⟨hc1,hc2⟩|⟨hc1,hc2⟩|⟨hc1,hc2⟩|⟨hc1,hc2⟩|⟨hc1,hc2⟩;all_goals
    first
     |first|(have f0:¬(97:Int)≤(c.toNat:Int):=by omega)|(have f0:(97:Int)≤(c.toNat:Int):=by omega)
      first|(have f1:(c.toNat:Int)≤122:=by omega)|(have f1:¬(c.toNat:Int)≤122:=by omega)
      first|(have f2:¬(65:Int)≤(c.toNat:Int):=by omega)|(have f2:(65:Int)≤(c.toNat:Int):=by omega)
      first|(have f3:(c.toNat:Int)≤90:=by omega)|(have f3:¬(c.toNat:Int)≤90:=by omega)
      first|(have f4:¬(48:Int)≤(c.toNat:Int):=by omega)|(have f4:(48:Int)≤(c.toNat:Int):=by omega)
      first|(have f5:(c.toNat:Int)≤57:=by omega)|(have f5:¬(c.toNat:Int)≤57:=by omega)
      have HX:=fun W=>Lib.hid (x56 c W);obtain⟨q,hq⟩:∃q,Lib.indexByte tokSet c=q:=⟨_,rfl⟩;have hqs:=x78 c;rw[hq]at HX hqs;clear hq;rcases hqs with⟨hq,hs⟩|⟨hq,hs⟩;·
       first|(have HT:=Lib.hid (tokB_0 hc1 hc2 hs))|(have HT:=Lib.hid (v126 hc1 hc2 hs))|(have HT:=Lib.hid (k126 hc1 hc2 hs))|(have HT:=Lib.hid (w109 hc1 hc2 hs))
       have hq':¬q<0:=by omega
       clear hq hs;have HV:=Lib.hid (HS.out HT.out);clear HN HS HT hc1 hc2;go_wp2_with(go_at_call 332;refine(HX _).out.mono ?_;rintro e w1⟨rfl,rfl⟩);go_roundw;case rel=>exact⟨by first|trivial|rfl,k+1,by omega,by go_num,HV.out⟩
       case measure=>simp[intOf];omega
      ·first|(have HT:=Lib.hid (tokB_0 hc1 hc2 hs))|(have HT:=Lib.hid (v126 hc1 hc2 hs))|(have HT:=Lib.hid (k126 hc1 hc2 hs))|(have HT:=Lib.hid (w109 hc1 hc2 hs))
       have hq':q<0:=by omega
       clear hq hs;have HV:=Lib.hid (HN.out HT.out);clear HN HS HT hc1 hc2;go_wp2_with(go_at_call 332;refine(HX _).out.mono ?_;rintro e w1⟨rfl,rfl⟩);go_ret;exact⟨q17 HV.out.symm,rfl⟩
     |first|(have HT:=Lib.hid (tokB_48 hc1 hc2))|(have HT:=Lib.hid (tokB_65 hc1 hc2))|(have HT:=Lib.hid (tokB_97 hc1 hc2))
      first|(have f0:¬(97:Int)≤(c.toNat:Int):=by omega)|(have f0:(97:Int)≤(c.toNat:Int):=by omega)
      have f1:(c.toNat:Int)≤122:=by omega
      first|(have f2:¬(65:Int)≤(c.toNat:Int):=by omega)|(have f2:(65:Int)≤(c.toNat:Int):=by omega)
      first|(have f3:(c.toNat:Int)≤90:=by omega)|(have f3:¬(c.toNat:Int)≤90:=by omega)
      have f4:(48:Int)≤(c.toNat:Int):=by omega
      first|(have f5:(c.toNat:Int)≤57:=by omega)|(have f5:¬(c.toNat:Int)≤57:=by omega)
      have HV:=Lib.hid (HS.out HT.out);clear HN HS HT hc1 hc2;go_wp2_with fail;go_roundw;case rel=>exact⟨by first|trivial|rfl,k+1,by omega,by go_num,HV.out⟩
      case measure=>simp[intOf];omega
  ·have hke:k=l.length:=by omega
   have HF:=HA.out;rw[hke,List.take_length]at HF;have HV:Hid (q38 l=true):=y100 H12.out HF;clear HF HA hke;go_wp2_with fail;go_ret;exact⟨q17 HV.out.symm,rfl⟩
def valB(c:UInt8):Bool:=(decide (32≤c.toNat)&&decide (c.toNat≤126))||decide (c.toNat=9)
theorem valB_0{c:UInt8}(h1:0≤c.toNat)(h2:c.toNat≤8):valB c=false:=by rw[Bool.eq_false_iff];unfold valB;simp only[Bool.or_eq_true,Bool.and_eq_true,decide_eq_true_eq,ne_eq,not_or,not_and];omega
theorem valB_9{c:UInt8}(h1:9≤c.toNat)(h2:c.toNat≤9):valB c=true:=by unfold valB;simp only[Bool.or_eq_true,Bool.and_eq_true,decide_eq_true_eq];omega
theorem x126{c:UInt8}(h1:10≤c.toNat)(h2:c.toNat≤31):valB c=false:=by rw[Bool.eq_false_iff];unfold valB;simp only[Bool.or_eq_true,Bool.and_eq_true,decide_eq_true_eq,ne_eq,not_or,not_and];omega
theorem y126{c:UInt8}(h1:32≤c.toNat)(h2:c.toNat≤126):valB c=true:=by unfold valB;simp only[Bool.or_eq_true,Bool.and_eq_true,decide_eq_true_eq];omega
theorem z110{c:UInt8}(h1:127≤c.toNat)(h2:c.toNat≤255):valB c=false:=by rw[Bool.eq_false_iff];unfold valB;simp only[Bool.or_eq_true,Bool.and_eq_true,decide_eq_true_eq,ne_eq,not_or,not_and];omega
theorem w100(c:UInt8):(0≤c.toNat∧c.toNat≤8)∨(9≤c.toNat∧c.toNat≤9)∨(10≤c.toNat∧c.toNat≤31)∨(32≤c.toNat∧c.toNat≤126)∨(127≤c.toNat∧c.toNat≤255):=by have:=UInt8.toNat_lt c;omega
def w22(n l:List UInt8):Bool:=decide (n.length≤200)&&decide (l.length≤8192)&&q38 n&&(q36 l==l)&&l.all valB
theorem q92{n l:List UInt8}(h:l.all valB=false):w22 n l=false:=by unfold w22;rw[h,Bool.and_false]
theorem w119{n l:List UInt8}(h1:n.length≤200)(h2:l.length≤8192)(h3:q38 n=true)(h4:(q36 l==l)=true)(h:l.all valB=true):w22 n l=true:=by unfold w22;rw[h,h4,h3,decide_eq_true h1,decide_eq_true h2];rfl
theorem j97(n l:List UInt8)(w:World)(hn:n.length≤1000000)(hl:l.length≤1000000):Calls Tryz.prog 264 #[.agg #[.string ⟨n.toArray⟩,.string ⟨l.toArray⟩]] w fun e w'=>e=.returned (.bool (w22 n l))∧Below w.heap.size w w':=by
 have hsz:(⟨l.toArray⟩:ByteArray).size=l.length:=q19 l;have hsn:(⟨n.toArray⟩:ByteArray).size=n.length:=q19 n;have HT:=fun W=>Lib.hid (x144 n W hn);by_cases h1:200<n.length;·
  have HV:Hid (w22 n l=false):=by simp only[Hid];unfold w22;rw[decide_eq_false (show¬n.length≤200 by omega)];rfl
  have h1':(200:Int)<(n.length:Int):=by omega
  clear h1;go_enter Tryz.func264,Tryz.ntmps264;go_wp2_with fail;go_ret;exact⟨q17 HV.out.symm,q11 (Below.refl _ _) _⟩
 by_cases h2:8192<l.length;·
  have HV:Hid (w22 n l=false):=by simp only[Hid];unfold w22;rw[decide_eq_false (show¬l.length≤8192 by omega)];simp
  have h1':¬(200:Int)<(n.length:Int):=by omega
  have h2':(8192:Int)<(l.length:Int):=by omega
  clear h1 h2;go_enter Tryz.func264,Tryz.ntmps264;go_wp2_with fail;go_ret;exact⟨q17 HV.out.symm,q11 (Below.refl _ _) _⟩
 have h1':¬(200:Int)<(n.length:Int):=by omega
 have h2':¬(8192:Int)<(l.length:Int):=by omega
 have H12:Hid (n.length≤200∧l.length≤8192):=by simp only[Hid];omega
 clear h1 h2;cases ht:q38 n with
  |false=>
   have HV:Hid (w22 n l=false):=by simp only[Hid];unfold w22;rw[ht];simp
   rw[ht]at HT;clear ht;go_enter Tryz.func264,Tryz.ntmps264;go_wp2_with(go_at_call 313;refine(HT _).out.mono ?_;rintro e w1⟨rfl,rfl⟩);go_ret;exact⟨q17 HV.out.symm,q11 (Below.refl _ _) _⟩
  |true=>
   have H3:=Lib.hid ht;rw[ht]at HT;clear ht;have HR:=fun W=>Lib.hid (w162 l W hl);cases hr:(q36 l==l)with
    |false=>
     have HV:Hid (w22 n l=false):=by simp only[Hid];unfold w22;rw[hr];simp
     obtain⟨tl,htl⟩:∃t,q36 l=t:=⟨_,rfl⟩;rw[htl]at HR hr;have hr2:(tl !=l)=true:=by rw[bne,hr];rfl
     clear htl;go_enter Tryz.func264,Tryz.ntmps264;go_wp2_with(go_at_call 313;refine(HT _).out.mono ?_;rintro e w1⟨rfl,rfl⟩);have v0:(w.alloc (.cells #[.string ⟨n.toArray⟩,.string ⟨l.toArray⟩] 176)).cell? ⟨w.heap.size,1,none⟩=some (.string ⟨l.toArray⟩):=by simp[go_sem]
     go_region_held3(fun w'=>w'.cell? ⟨w.heap.size,1,none⟩=some (.string ⟨l.toArray⟩))(first|exact u0|exact v0|fail)((go_at_call 171;refine(HR _).out.mono ?_;rintro e w2⟨rfl,hb2⟩;have u0:=x16 hb2 v0));clear u0 v0;go_wp2_with fail;go_ret;exact⟨q17 HV.out.symm,q12 hb2 (by(repeat(first|exact Below.refl _ _|refine q15 ?_ _|refine x15 ?_|refine q11 ?_ _|refine w14 ?_ (by simp) _)))⟩
    |true=>
     have H4:=Lib.hid hr;obtain⟨tl,htl⟩:∃t,q36 l=t:=⟨_,rfl⟩;rw[htl]at HR hr;have hr2:(tl !=l)=false:=by rw[bne,hr];rfl
     clear htl;go_enter Tryz.func264,Tryz.ntmps264;go_wp2_with(go_at_call 313;refine(HT _).out.mono ?_;rintro e w1⟨rfl,rfl⟩);have v0:(w.alloc (.cells #[.string ⟨n.toArray⟩,.string ⟨l.toArray⟩] 176)).cell? ⟨w.heap.size,1,none⟩=some (.string ⟨l.toArray⟩):=by simp[go_sem]
     go_region_held3(fun w'=>w'.cell? ⟨w.heap.size,1,none⟩=some (.string ⟨l.toArray⟩))(first|exact u0|exact v0|fail)((go_at_call 171;refine(HR _).out.mono ?_;rintro e w2⟨rfl,hb2⟩;have u0:=x16 hb2 v0));have HWB:Hid (Below w.heap.size w w2):=q12 hb2 (by(repeat(first|exact Below.refl _ _|refine q15 ?_ _|refine x15 ?_|refine q11 ?_ _|refine w14 ?_ (by simp) _)));clear v0 hb2;go_wp2_with fail;go_loopw[3,4,30](fun _ _ i wr=>wr=w2∧∃k:Nat,k≤l.length∧i=.int .i64 (k:Int)∧(l.take k).all valB=true)(fun _ _ i _=>l.length-(intOf i).toNat);case atStart=>exact⟨rfl,0,Nat.zero_le _,rfl,rfl⟩
     case round=>
      obtain⟨rfl,k,hk,rfl,hall⟩:=hrel;have HA:=Lib.hid hall;clear hall;by_cases hlt:k<l.length;·
       have HS:=Lib.hid (fun h=>q34 hlt HA.out h);have HN:=Lib.hid (fun h=>q92 (n:=n) (j41 hlt h));obtain⟨c,hc⟩:∃c,(⟨l.toArray⟩:ByteArray)[k]'(by rw[hsz];exact hlt)=c:=⟨_,rfl⟩;have hcl:l[k]=c:=hc;rw[hcl]at HS HN;clear hcl HA;rcases w100 c with⟨hc1,hc2⟩|⟨hc1,hc2⟩|⟨hc1,hc2⟩|⟨hc1,hc2⟩|⟨hc1,hc2⟩;all_goals
        first
         |first|(have HT:=Lib.hid (valB_9 hc1 hc2))|(have HT:=Lib.hid (y126 hc1 hc2))
          first|(have f0:(c.toNat:Int)<32:=by omega)|(have f0:¬(c.toNat:Int)<32:=by omega)
          have f1:¬(126:Int)<(c.toNat:Int):=by omega
          first|(have f2:((c.toNat:Int)!=9)=false:=by rw[bne_eq_false_iff_eq];omega)|(have f2:((c.toNat:Int)!=9)=true:=by rw[bne_iff_ne];omega)
          have HV:=Lib.hid (HS.out HT.out);clear HN HS HT hc1 hc2;go_wp2_with fail;go_roundw;case rel=>exact⟨by first|trivial|rfl,k+1,by omega,by go_num,HV.out⟩
          case measure=>simp[intOf];omega
         |first|(have HT:=Lib.hid (valB_0 hc1 hc2))|(have HT:=Lib.hid (x126 hc1 hc2))|(have HT:=Lib.hid (z110 hc1 hc2))
          first|(have f0:(c.toNat:Int)<32:=by omega)|(have f0:¬(c.toNat:Int)<32:=by omega)
          first|(have f1:¬(126:Int)<(c.toNat:Int):=by omega)|(have f1:(126:Int)<(c.toNat:Int):=by omega)
          have f2:((c.toNat:Int)!=9)=true:=by rw[bne_iff_ne];omega
          have HV:=Lib.hid (HN.out HT.out);clear HN HS HT hc1 hc2;go_wp2_with fail;go_ret;exact⟨q17 HV.out.symm,HWB.out⟩
      ·have hke:k=l.length:=by omega
       have HF:=HA.out;rw[hke,List.take_length]at HF;have HV:Hid (w22 n l=true):=w119 H12.out.1 H12.out.2 H3.out H4.out HF;clear HF HA hke;go_wp2_with fail;go_ret;exact⟨q17 HV.out.symm,HWB.out⟩
end Go.Proofs.YtkkomffmnafjkaaGreatDoor
