/- Contracts of tags, and of numbers of ticks. Contracts of the document's .. -/
import Derived.Test.YtkkomffmnafjkaaGreatDoorZI2
import Derived.Test.YtkkomffmnafjkaaGreatDoorZF0
import Derived.Test.YtkkomffmnafjkaaGreatDoorZE2
import Derived.Test.YtkkomffmnafjkaaGreatDoorZB10
import Derived.Deep.RegionHeld3
import Derived.BigQuiet
import Derived.Test.YtkkomffmnafjkaaGreatDoorZI4
set_option maxHeartbeats 16000000
set_option maxRecDepth 100000
set_option linter.all false
namespace Go.Proofs.YtkkomffmnafjkaaGreatDoor
open Go.RowKit
theorem q34{f:UInt8→Bool}{l:List UInt8}{k:Nat}(hk:k<l.length)(h:(l.take k).all f=true)(h2:f l[k]=true):(l.take (k+1)).all f=true:=by rw[List.take_succ_eq_append_getElem hk,List.all_append,h];simp[h2]
theorem j41{f:UInt8→Bool}{l:List UInt8}{k:Nat}(hk:k<l.length)(h2:f l[k]=false):l.all f=false:=by rw[List.all_eq_false];exact⟨l[k],List.getElem_mem hk,by rw[h2];simp⟩
def tagB(c:UInt8):Bool:=decide (33≤c.toNat)&&decide (c.toNat≤126)&&decide (c.toNat≠34)
theorem j45(l:List UInt8):j20 l=(decide (1≤l.length)&&decide (l.length≤100)&&l.all tagB):=rfl
theorem y110{l:List UInt8}(h:l.all tagB=false):j20 l=false:=by rw[j45,h,Bool.and_false]
theorem q101{l:List UInt8}(h1:1≤l.length)(h2:l.length≤100)(h:l.all tagB=true):j20 l=true:=by rw[j45,h];simp[h1,h2]
theorem k39(l:List UInt8)(wk:Bool)(w:World)(hl:l.length≤1000000):Calls Tryz.prog 65 #[.agg #[.string ⟨l.toArray⟩,.bool wk]] w fun e w'=>e=.returned (.bool (j20 l))∧Below w.heap.size w w':=by
 have hsz:(⟨l.toArray⟩:ByteArray).size=l.length:=q19 l;by_cases h1:l.length<1;·
  have HV:Hid (j20 l=false):=by simp only[Hid];rw[j45,decide_eq_false (by omega)];rfl
  have h1':(l.length:Int)<1:=by omega
  clear h1;go_enter Tryz.func65,Tryz.ntmps65;go_wp2_with fail;go_ret;exact⟨q17 HV.out.symm,by(repeat(first|exact Below.refl _ _|refine q15 ?_ _|refine x15 ?_|refine q11 ?_ _|refine w14 ?_ (by simp) _))⟩
 by_cases h2:100<l.length;·
  have HV:Hid (j20 l=false):=by simp only[Hid];rw[j45,decide_eq_false (show¬l.length≤100 by omega)];simp
  have h1':¬(l.length:Int)<1:=by omega
  have h2':(100:Int)<(l.length:Int):=by omega
  clear h1 h2;go_enter Tryz.func65,Tryz.ntmps65;go_wp2_with fail;go_ret;exact⟨q17 HV.out.symm,by(repeat(first|exact Below.refl _ _|refine q15 ?_ _|refine x15 ?_|refine q11 ?_ _|refine w14 ?_ (by simp) _))⟩
 have h1':¬(l.length:Int)<1:=by omega
 have h2':¬(100:Int)<(l.length:Int):=by omega
 have H12:Hid (1≤l.length∧l.length≤100):=by simp only[Hid];omega
 clear h1 h2;go_enter Tryz.func65,Tryz.ntmps65;go_wp2_with fail;go_loopw[3,4,18](fun _ _ i wr=>wr=w.alloc (.cells #[.string ⟨l.toArray⟩,.bool wk] 25)∧∃k:Nat,k≤l.length∧i=.int .i64 (k:Int)∧(l.take k).all tagB=true)(fun _ _ i _=>l.length-(intOf i).toNat);case atStart=>exact⟨rfl,0,Nat.zero_le _,rfl,rfl⟩
 case round=>
  obtain⟨rfl,k,hk,rfl,hall⟩:=hrel;have HA:=Lib.hid hall;clear hall;by_cases hlt:k<l.length;·
   have HS:=Lib.hid (fun h=>q34 hlt HA.out h);have HN:=Lib.hid (fun h=>y110 (j41 hlt h));obtain⟨c,hc⟩:∃c,(⟨l.toArray⟩:ByteArray)[k]'(by rw[hsz];exact hlt)=c:=⟨_,rfl⟩;have hcl:l[k]=c:=hc;rw[hcl]at HS HN;have hcb:c.toNat<256:=UInt8.toNat_lt _;clear hcl HA;by_cases d1:c.toNat<33;·
    have HV:=Lib.hid (HN.out (by unfold tagB;rw[decide_eq_false (show¬33≤c.toNat by omega)];rfl));have e1:(c.toNat:Int)<33:=by omega
    clear HN HS d1;go_wp2_with fail;go_ret;exact⟨q17 HV.out.symm,by(repeat(first|exact Below.refl _ _|refine q15 ?_ _|refine x15 ?_|refine q11 ?_ _|refine w14 ?_ (by simp) _))⟩
   have e1:¬(c.toNat:Int)<33:=by omega
   by_cases d2:c.toNat=34;·
    have HV:=Lib.hid (HN.out (by unfold tagB;rw[decide_eq_false (show¬c.toNat≠34 by omega)];simp));have e2:(c.toNat:Int)=34:=by omega
    clear HN HS d1 d2;go_wp2_with fail;go_ret;exact⟨q17 HV.out.symm,by(repeat(first|exact Below.refl _ _|refine q15 ?_ _|refine x15 ?_|refine q11 ?_ _|refine w14 ?_ (by simp) _))⟩
   have e2:¬(c.toNat:Int)=34:=by omega
   by_cases d3:126<c.toNat;·
    have HV:=Lib.hid (HN.out (by unfold tagB;rw[decide_eq_false (show¬c.toNat≤126 by omega)];simp));have e3:(126:Int)<(c.toNat:Int):=by omega
    clear HN HS d1 d2 d3;go_wp2_with fail;go_ret;exact⟨q17 HV.out.symm,by(repeat(first|exact Below.refl _ _|refine q15 ?_ _|refine x15 ?_|refine q11 ?_ _|refine w14 ?_ (by simp) _))⟩
   have e3:¬(126:Int)<(c.toNat:Int):=by omega
   have HV:=Lib.hid (HS.out (by unfold tagB;rw[decide_eq_true (show 33≤c.toNat by omega),decide_eq_true (show c.toNat≤126 by omega),decide_eq_true d2];rfl));clear HN HS d1 d2 d3;go_wp2_with fail;go_roundw;case rel=>exact⟨by first|trivial|rfl,k+1,by omega,by go_num,HV.out⟩
   case measure=>simp[intOf];omega
  ·have HV:Hid (j20 l=true):=by have h:=HA.out;rw[List.take_of_length_le (by omega)]at h;exact q101 H12.out.1 H12.out.2 h
   go_wp2_with fail;go_ret;exact⟨q17 HV.out.symm,by(repeat(first|exact Below.refl _ _|refine q15 ?_ _|refine x15 ?_|refine q11 ?_ _|refine w14 ?_ (by simp) _))⟩
def j47(l:List UInt8)(wk:Bool):List UInt8:=if j20 l=true then tagT l wk else[]
theorem v120(l:List UInt8)(wk:Bool)(w:World)(hl:l.length≤900000):Calls Tryz.prog 121 #[.agg #[.string ⟨l.toArray⟩,.bool wk]] w fun e w'=>e=.returned (.string ⟨(j47 l wk).toArray⟩)∧Below w.heap.size w w':=by
 have HR:=fun W=>Lib.hid (k39 l wk W (by omega));cases hok:j20 l;·
  have HV:Hid (j47 l wk=[]):=by simp[Hid,j47,hok]
  rw[hok]at HR;clear hok;go_enter Tryz.func121,Tryz.ntmps121;go_wp2_with fail;refine(HR _).out.mono ?_;rintro e w1⟨rfl,hb1⟩;have HB:Hid (Below w.heap.size w w1):=q12 hb1 (by(repeat(first|exact Below.refl _ _|refine q15 ?_ _|refine x15 ?_|refine q11 ?_ _|refine w14 ?_ (by simp) _)));clear hb1;go_wp2_with fail;go_ret;rw[HV.out];exact⟨rfl,HB.out⟩
 have HV:Hid (j47 l wk=tagT l wk):=by simp[Hid,j47,hok]
 rw[hok]at HR;have hc1:=catE (a:=[34]) (b:=l) (by simp;omega);have hc2:=catE (a:=[34]++l) (b:=[34]) (by simp;omega);have hc3:=catE (a:=[87,47]) (b:=[34]++l++[34]) (by simp;omega);cases wk;·have HT:Hid (tagT l false=[34]++l++[34]):=rfl;generalize[34]++l++[34]=d3 at hc2 hc3 HT;generalize[34]++l=d2 at hc1 hc2;clear hok;go_enter Tryz.func121,Tryz.ntmps121;go_wp2_with fail;refine(HR _).out.mono ?_;rintro e w1⟨rfl,hb1⟩;have v0:=x16 hb1 (show(w.alloc (.cells #[.string ⟨l.toArray⟩,.bool false] 25)).cell? ⟨w.heap.size,0,none⟩=some (.string ⟨l.toArray⟩)from bc 0 (j17 rfl) rfl);have v1:=x16 hb1 (show(w.alloc (.cells #[.string ⟨l.toArray⟩,.bool false] 25)).cell? ⟨w.heap.size,1,none⟩=some (.bool false)from bc 1 (j17 rfl) rfl);have HB:Hid (Below w.heap.size w w1):=q12 hb1 (by(repeat(first|exact Below.refl _ _|refine q15 ?_ _|refine x15 ?_|refine q11 ?_ _|refine w14 ?_ (by simp) _)));clear hb1;go_wp2_with fail;go_ret;rw[HV.out,HT.out];exact⟨rfl,HB.out⟩
 ·have HT:Hid (tagT l true=[87,47]++([34]++l++[34])):=rfl;generalize[87,47]++([34]++l++[34])=d4 at hc3 HT;generalize[34]++l++[34]=d3 at hc2 hc3;generalize[34]++l=d2 at hc1 hc2;clear hok;go_enter Tryz.func121,Tryz.ntmps121;go_wp2_with fail;refine(HR _).out.mono ?_;rintro e w1⟨rfl,hb1⟩;have v0:=x16 hb1 (show(w.alloc (.cells #[.string ⟨l.toArray⟩,.bool true] 25)).cell? ⟨w.heap.size,0,none⟩=some (.string ⟨l.toArray⟩)from bc 0 (j17 rfl) rfl);have v1:=x16 hb1 (show(w.alloc (.cells #[.string ⟨l.toArray⟩,.bool true] 25)).cell? ⟨w.heap.size,1,none⟩=some (.bool true)from bc 1 (j17 rfl) rfl);have HB:Hid (Below w.heap.size w w1):=q12 hb1 (by(repeat(first|exact Below.refl _ _|refine q15 ?_ _|refine x15 ?_|refine q11 ?_ _|refine w14 ?_ (by simp) _)));clear hb1;go_wp2_with fail;go_ret;rw[HV.out,HT.out];exact⟨rfl,HB.out⟩
theorem y65(n:Int)(w:World)(h0:0≤n)(h1:n≤1099511627776):Calls Tryz.prog 169 #[.int .i64 n] w fun e w'=>e=.returned (.int .i64 n)∧w'=w:=by
 have e1:max n 0=n:=by omega
 have e2:min n 1099511627776=n:=by omega
 go_enter Tryz.func169,Tryz.ntmps169;go_wp2_with fail;go_ret;exact⟨by first|rfl|(congr 2<;>omega),rfl⟩
theorem j37(l:List UInt8)(wk:Bool)(w:World)(hl:l.length≤1000000):Calls Tryz.prog 59 #[.agg #[.string ⟨l.toArray⟩,.bool wk]] w fun e w'=>e=.returned (.bool (j20 l))∧Below w.heap.size w w':=by
 have hsz:(⟨l.toArray⟩:ByteArray).size=l.length:=q19 l;by_cases h1:l.length<1;·
  have HV:Hid (j20 l=false):=by simp only[Hid];rw[j45,decide_eq_false (by omega)];rfl
  have h1':(l.length:Int)<1:=by omega
  clear h1;go_enter Tryz.func59,Tryz.ntmps59;go_wp2_with fail;go_ret;exact⟨q17 HV.out.symm,by(repeat(first|exact Below.refl _ _|refine q15 ?_ _|refine x15 ?_|refine q11 ?_ _|refine w14 ?_ (by simp) _))⟩
 by_cases h2:100<l.length;·
  have HV:Hid (j20 l=false):=by simp only[Hid];rw[j45,decide_eq_false (show¬l.length≤100 by omega)];simp
  have h1':¬(l.length:Int)<1:=by omega
  have h2':(100:Int)<(l.length:Int):=by omega
  clear h1 h2;go_enter Tryz.func59,Tryz.ntmps59;go_wp2_with fail;go_ret;exact⟨q17 HV.out.symm,by(repeat(first|exact Below.refl _ _|refine q15 ?_ _|refine x15 ?_|refine q11 ?_ _|refine w14 ?_ (by simp) _))⟩
 have h1':¬(l.length:Int)<1:=by omega
 have h2':¬(100:Int)<(l.length:Int):=by omega
 have H12:Hid (1≤l.length∧l.length≤100):=by simp only[Hid];omega
 clear h1 h2;go_enter Tryz.func59,Tryz.ntmps59;go_wp2_with fail;go_loopw[3,4](fun i _ wr=>wr=w.alloc (.cells #[.string ⟨l.toArray⟩,.bool wk] 25)∧∃k:Nat,k≤l.length∧i=.int .i64 (k:Int)∧(l.take k).all tagB=true)(fun i _ _=>l.length-(intOf i).toNat);case atStart=>exact⟨rfl,0,Nat.zero_le _,rfl,rfl⟩
 case round=>
  obtain⟨rfl,k,hk,rfl,hall⟩:=hrel;have HA:=Lib.hid hall;clear hall;by_cases hlt:k<l.length;·
   have HS:=Lib.hid (fun h=>q34 hlt HA.out h);have HN:=Lib.hid (fun h=>y110 (j41 hlt h));obtain⟨c,hc⟩:∃c,(⟨l.toArray⟩:ByteArray)[k]'(by rw[hsz];exact hlt)=c:=⟨_,rfl⟩;have hcl:l[k]=c:=hc;rw[hcl]at HS HN;have hcb:c.toNat<256:=UInt8.toNat_lt _;clear hcl HA;by_cases d1:c.toNat<33;·
    have HV:=Lib.hid (HN.out (by unfold tagB;rw[decide_eq_false (show¬33≤c.toNat by omega)];rfl));have e1:(c.toNat:Int)<33:=by omega
    clear HN HS d1;go_wp2_with fail;go_ret;exact⟨q17 HV.out.symm,by(repeat(first|exact Below.refl _ _|refine q15 ?_ _|refine x15 ?_|refine q11 ?_ _|refine w14 ?_ (by simp) _))⟩
   have e1:¬(c.toNat:Int)<33:=by omega
   by_cases d2:c.toNat=34;·
    have HV:=Lib.hid (HN.out (by unfold tagB;rw[decide_eq_false (show¬c.toNat≠34 by omega)];simp));have e2:(c.toNat:Int)=34:=by omega
    clear HN HS d1 d2;go_wp2_with fail;go_ret;exact⟨q17 HV.out.symm,by(repeat(first|exact Below.refl _ _|refine q15 ?_ _|refine x15 ?_|refine q11 ?_ _|refine w14 ?_ (by simp) _))⟩
   have e2:¬(c.toNat:Int)=34:=by omega
   by_cases d3:126<c.toNat;·
    have HV:=Lib.hid (HN.out (by unfold tagB;rw[decide_eq_false (show¬c.toNat≤126 by omega)];simp));have e3:(126:Int)<(c.toNat:Int):=by omega
    clear HN HS d1 d2 d3;go_wp2_with fail;go_ret;exact⟨q17 HV.out.symm,by(repeat(first|exact Below.refl _ _|refine q15 ?_ _|refine x15 ?_|refine q11 ?_ _|refine w14 ?_ (by simp) _))⟩
   have e3:¬(126:Int)<(c.toNat:Int):=by omega
   have HV:=Lib.hid (HS.out (by unfold tagB;rw[decide_eq_true (show 33≤c.toNat by omega),decide_eq_true (show c.toNat≤126 by omega),decide_eq_true d2];rfl));clear HN HS d1 d2 d3;go_wp2_with fail;go_roundw;case rel=>exact⟨by first|trivial|rfl,k+1,by omega,by go_num,HV.out⟩
   case measure=>simp[intOf];omega
  ·have HV:Hid (j20 l=true):=by have h:=HA.out;rw[List.take_of_length_le (by omega)]at h;exact q101 H12.out.1 H12.out.2 h
   go_wp2_with fail;go_ret;exact⟨q17 HV.out.symm,by(repeat(first|exact Below.refl _ _|refine q15 ?_ _|refine x15 ?_|refine q11 ?_ _|refine w14 ?_ (by simp) _))⟩
def keyB(c:UInt8):Bool:=decide (33≤c.toNat)&&decide (c.toNat≤126)
theorem k51(l:List UInt8):w26 l=(decide (1≤l.length)&&decide (l.length≤200)&&l.all keyB):=rfl
theorem w110{l:List UInt8}(h:l.all keyB=false):w26 l=false:=by rw[k51,h,Bool.and_false]
theorem j146{l:List UInt8}(h1:1≤l.length)(h2:l.length≤200)(h:l.all keyB=true):w26 l=true:=by rw[k51,h];simp[h1,h2]
theorem w62(l:List UInt8)(w:World)(hl:l.length≤1000000):Calls Tryz.prog 138 #[.string ⟨l.toArray⟩] w fun e w'=>e=.returned (.bool (w26 l))∧w'=w:=by
 have hsz:(⟨l.toArray⟩:ByteArray).size=l.length:=q19 l;by_cases h1:l.length<1;·
  have HV:Hid (w26 l=false):=by simp only[Hid];rw[k51,decide_eq_false (by omega)];rfl
  have h1':(l.length:Int)<1:=by omega
  clear h1;go_enter Tryz.func138,Tryz.ntmps138;go_wp2_with fail;go_ret;exact⟨q17 HV.out.symm,rfl⟩
 by_cases h2:200<l.length;·
  have HV:Hid (w26 l=false):=by simp only[Hid];rw[k51,decide_eq_false (show¬l.length≤200 by omega)];simp
  have h1':¬(l.length:Int)<1:=by omega
  have h2':(200:Int)<(l.length:Int):=by omega
  clear h1 h2;go_enter Tryz.func138,Tryz.ntmps138;go_wp2_with fail;go_ret;exact⟨q17 HV.out.symm,rfl⟩
 have h1':¬(l.length:Int)<1:=by omega
 have h2':¬(200:Int)<(l.length:Int):=by omega
 have H12:Hid (1≤l.length∧l.length≤200):=by simp only[Hid];omega
 clear h1 h2;go_enter Tryz.func138,Tryz.ntmps138;go_wp2_with fail;go_loopw[3,14](fun _ i wr=>wr=w∧∃k:Nat,k≤l.length∧i=.int .i64 (k:Int)∧(l.take k).all keyB=true)(fun _ i _=>l.length-(intOf i).toNat);case atStart=>exact⟨rfl,0,Nat.zero_le _,rfl,rfl⟩
 case round=>
  obtain⟨rfl,k,hk,rfl,hall⟩:=hrel;have HA:=Lib.hid hall;clear hall;by_cases hlt:k<l.length;·
   have HS:=Lib.hid (fun h=>q34 hlt HA.out h);have HN:=Lib.hid (fun h=>w110 (j41 hlt h));obtain⟨c,hc⟩:∃c,(⟨l.toArray⟩:ByteArray)[k]'(by rw[hsz];exact hlt)=c:=⟨_,rfl⟩;have hcl:l[k]=c:=hc;rw[hcl]at HS HN;have hcb:c.toNat<256:=UInt8.toNat_lt _;clear hcl HA;by_cases d1:c.toNat<33;·
    have HV:=Lib.hid (HN.out (by unfold keyB;rw[decide_eq_false (show¬33≤c.toNat by omega)];rfl));have e1:(c.toNat:Int)<33:=by omega
    clear HN HS d1;go_wp2_with fail;go_ret;exact⟨q17 HV.out.symm,rfl⟩
   have e1:¬(c.toNat:Int)<33:=by omega
   by_cases d3:126<c.toNat;·
    have HV:=Lib.hid (HN.out (by unfold keyB;rw[decide_eq_false (show¬c.toNat≤126 by omega)];simp));have e3:(126:Int)<(c.toNat:Int):=by omega
    clear HN HS d1 d3;go_wp2_with fail;go_ret;exact⟨q17 HV.out.symm,rfl⟩
   have e3:¬(126:Int)<(c.toNat:Int):=by omega
   have HV:=Lib.hid (HS.out (by unfold keyB;rw[decide_eq_true (show 33≤c.toNat by omega),decide_eq_true (show c.toNat≤126 by omega)];rfl));clear HN HS d1 d3;go_wp2_with fail;go_roundw;case rel=>exact⟨by first|trivial|rfl,k+1,by omega,by go_num,HV.out⟩
   case measure=>simp[intOf];omega
  ·have HV:Hid (w26 l=true):=by have h:=HA.out;rw[List.take_of_length_le (by omega)]at h;exact j146 H12.out.1 H12.out.2 h
   go_wp2_with fail;go_ret;exact⟨q17 HV.out.symm,rfl⟩
theorem k45(n:Int)(w:World):Calls Tryz.prog 119 #[.int .i64 n] w fun e w'=>e=.returned (.bool (k37 n))∧w'=w:=by
 by_cases h0:0≤n;·
  by_cases h1:n≤1099511627776;all_goals go_enter Tryz.func119,Tryz.ntmps119;go_wp2_with fail;go_ret;exact⟨by simp[k37,h0,h1],rfl⟩
 ·have h0':decide (0≤n)=false:=decide_eq_false h0;have HV:Hid (k37 n=false):=by simp only[Hid];unfold k37;rw[h0'];rfl
  go_enter Tryz.func119,Tryz.ntmps119;go_wp2_with fail;go_ret;exact⟨by rw[HV.out];simp;try omega,rfl⟩
def y78(l:List UInt8):Bool:=decide (l.headD 0=45)
def tenB(c:UInt8):Bool:=w45 c||decide (c.toNat=45)||decide (c.toNat=95)
theorem x51(l:List UInt8):j42 l=(decide (l.length≤40)&&!decide (l.headD 0=45)&&l.all tenB):=rfl
theorem v111{l:List UInt8}(h:l.all tenB=false):j42 l=false:=by rw[x51,h,Bool.and_false]
theorem y92{l:List UInt8}(h:l.headD 0=45):j42 l=false:=by rw[x51,decide_eq_true h];simp
theorem x146{l:List UInt8}(h2:l.length≤40)(h3:l.headD 0≠45)(h:l.all tenB=true):j42 l=true:=by rw[x51,h,decide_eq_true h2,decide_eq_false h3];rfl
theorem tenB_0{c:UInt8}(h1:0≤c.toNat)(h2:c.toNat≤44):tenB c=false:=by rw[Bool.eq_false_iff];unfold tenB w45;simp only[Bool.or_eq_true,Bool.and_eq_true,decide_eq_true_eq,ne_eq,not_or,not_and];omega
theorem w127{c:UInt8}(h1:45≤c.toNat)(h2:c.toNat≤45):tenB c=true:=by unfold tenB w45;simp only[Bool.or_eq_true,Bool.and_eq_true,decide_eq_true_eq];omega
theorem z128{c:UInt8}(h1:46≤c.toNat)(h2:c.toNat≤47):tenB c=false:=by rw[Bool.eq_false_iff];unfold tenB w45;simp only[Bool.or_eq_true,Bool.and_eq_true,decide_eq_true_eq,ne_eq,not_or,not_and];omega
theorem q128{c:UInt8}(h1:48≤c.toNat)(h2:c.toNat≤57):tenB c=true:=by unfold tenB w45;simp only[Bool.or_eq_true,Bool.and_eq_true,decide_eq_true_eq];omega
theorem j128{c:UInt8}(h1:58≤c.toNat)(h2:c.toNat≤64):tenB c=false:=by rw[Bool.eq_false_iff];unfold tenB w45;simp only[Bool.or_eq_true,Bool.and_eq_true,decide_eq_true_eq,ne_eq,not_or,not_and];omega
theorem v128{c:UInt8}(h1:65≤c.toNat)(h2:c.toNat≤90):tenB c=true:=by unfold tenB w45;simp only[Bool.or_eq_true,Bool.and_eq_true,decide_eq_true_eq];omega
theorem k128{c:UInt8}(h1:91≤c.toNat)(h2:c.toNat≤94):tenB c=false:=by rw[Bool.eq_false_iff];unfold tenB w45;simp only[Bool.or_eq_true,Bool.and_eq_true,decide_eq_true_eq,ne_eq,not_or,not_and];omega
theorem x128{c:UInt8}(h1:95≤c.toNat)(h2:c.toNat≤95):tenB c=true:=by unfold tenB w45;simp only[Bool.or_eq_true,Bool.and_eq_true,decide_eq_true_eq];omega
theorem y128{c:UInt8}(h1:96≤c.toNat)(h2:c.toNat≤96):tenB c=false:=by rw[Bool.eq_false_iff];unfold tenB w45;simp only[Bool.or_eq_true,Bool.and_eq_true,decide_eq_true_eq,ne_eq,not_or,not_and];omega
theorem w128{c:UInt8}(h1:97≤c.toNat)(h2:c.toNat≤122):tenB c=true:=by unfold tenB w45;simp only[Bool.or_eq_true,Bool.and_eq_true,decide_eq_true_eq];omega
theorem k111{c:UInt8}(h1:123≤c.toNat)(h2:c.toNat≤255):tenB c=false:=by rw[Bool.eq_false_iff];unfold tenB w45;simp only[Bool.or_eq_true,Bool.and_eq_true,decide_eq_true_eq,ne_eq,not_or,not_and];omega
theorem j101(c:UInt8):(0≤c.toNat∧c.toNat≤44)∨(45≤c.toNat∧c.toNat≤45)∨(46≤c.toNat∧c.toNat≤47)∨(48≤c.toNat∧c.toNat≤57)∨(58≤c.toNat∧c.toNat≤64)∨(65≤c.toNat∧c.toNat≤90)∨(91≤c.toNat∧c.toNat≤94)∨(95≤c.toNat∧c.toNat≤95)∨(96≤c.toNat∧c.toNat≤96)∨(97≤c.toNat∧c.toNat≤122)∨(123≤c.toNat∧c.toNat≤255):=by have:=UInt8.toNat_lt c;omega
theorem k120(l:List UInt8)(w:World)(hl:l.length≤1000000):Calls Tryz.prog 242 #[.string ⟨l.toArray⟩,.string ⟨#[45]⟩] w fun e w'=>e=.returned (.bool (y78 l))∧w'=w:=by
 have hsz:(⟨l.toArray⟩:ByteArray).size=l.length:=q19 l;cases l with
  |nil=>go_enter Tryz.func242,Tryz.ntmps242;go_wp2_with fail;go_ret;exact⟨rfl,rfl⟩
  |cons c r=>
   have hx:(⟨(c::r).toArray⟩:ByteArray).extract 0 1=⟨#[c]⟩:=by rw[z129];rfl
   have hr1:(1:Int)≤(((c::r).length:Nat):Int):=by simp only[List.length_cons];omega
   obtain⟨t,ht⟩:∃t,c::r=t:=⟨_,rfl⟩;have hh:Hid (y78 t=(c==45)):=by simp only[Hid,y78];rw[←ht];show decide (c=45)=(c==45);rw[Bool.eq_iff_iff];simp
   rw[ht]at hx hr1 hsz hl⊢;have hr2:1≤t.length:=by omega
   clear ht;go_enter Tryz.func242,Tryz.ntmps242;go_wp2_with fail;go_ret;rw[hh.out];exact⟨rfl,rfl⟩
theorem q133(l:List UInt8)(w:World)(hl:l.length≤1000000):Calls Tryz.prog 172 #[.string ⟨l.toArray⟩,.string ⟨#[45]⟩] w fun e w'=>e=.returned (.bool (y78 l))∧w'=w:=by have HP:=fun W=>Lib.hid (k120 l W hl);go_enter Tryz.func172,Tryz.ntmps172;go_wp2_with(go_at_call 242;refine(HP _).out.mono ?_;rintro e w1⟨rfl,rfl⟩);go_ret;exact⟨rfl,rfl⟩
theorem w92(l:List UInt8)(w:World)(hl:l.length≤1000000):Calls Tryz.prog 137 #[.string ⟨l.toArray⟩] w fun e w'=>e=.returned (.bool (j42 l))∧w'=w:=by
 have hsz:(⟨l.toArray⟩:ByteArray).size=l.length:=q19 l;have HP:=fun W=>Lib.hid (q133 l W hl);by_cases h2:40<l.length;·
  have HV:Hid (j42 l=false):=by simp only[Hid];rw[x51,decide_eq_false (show¬l.length≤40 by omega)];rfl
  have h2':(40:Int)<(l.length:Int):=by omega
  clear h2;go_enter Tryz.func137,Tryz.ntmps137;go_wp2_with fail;go_ret;exact⟨q17 HV.out.symm,rfl⟩
 have h2':¬(40:Int)<(l.length:Int):=by omega
 by_cases h3:l.headD 0=45;·have HV:=Lib.hid (y92 h3);rw[show y78 l=true from decide_eq_true h3]at HP;clear h2 h3;go_enter Tryz.func137,Tryz.ntmps137;go_wp2_with(go_at_call 172;refine(HP _).out.mono ?_;rintro e w1⟨rfl,rfl⟩);go_ret;exact⟨q17 HV.out.symm,rfl⟩
 have H3:=Lib.hid h3;have H2:Hid (l.length≤40):=by simp only[Hid];omega
 rw[show y78 l=false from decide_eq_false h3]at HP;clear h2 h3;go_enter Tryz.func137,Tryz.ntmps137;go_wp2_with(go_at_call 172;refine(HP _).out.mono ?_;rintro e w1⟨rfl,hw1⟩;obtain rfl:w=w1:=hw1.symm);go_loopw[3,4,5,15](fun _ _ _ i wr=>wr=w∧∃k:Nat,k≤l.length∧i=.int .i64 (k:Int)∧(l.take k).all tenB=true)(fun _ _ _ i _=>l.length-(intOf i).toNat);case atStart=>exact⟨rfl,0,Nat.zero_le _,rfl,rfl⟩
 case round=>
  obtain⟨rfl,k,hk,rfl,hall⟩:=hrel;have HA:=Lib.hid hall;clear hall;by_cases hlt:k<l.length;·
   have HS:=Lib.hid (fun h=>q34 hlt HA.out h);have HN:=Lib.hid (fun h=>v111 (j41 hlt h));obtain⟨c,hc⟩:∃c,(⟨l.toArray⟩:ByteArray)[k]'(by rw[hsz];exact hlt)=c:=⟨_,rfl⟩;have hcl:l[k]=c:=hc;rw[hcl]at HS HN;clear hcl HA;rcases j101 c with⟨hc1,hc2⟩|⟨hc1,hc2⟩|⟨hc1,hc2⟩|⟨hc1,hc2⟩|⟨hc1,hc2⟩|⟨hc1,hc2⟩|⟨hc1,hc2⟩|⟨hc1,hc2⟩|⟨hc1,hc2⟩|⟨hc1,hc2⟩|⟨hc1,hc2⟩;all_goals
    first
     |first|(have HT:=Lib.hid (w127 hc1 hc2))|(have HT:=Lib.hid (q128 hc1 hc2))|(have HT:=Lib.hid (v128 hc1 hc2))|(have HT:=Lib.hid (x128 hc1 hc2))|(have HT:=Lib.hid (w128 hc1 hc2))
      first|(have f0:¬(97:Int)≤(c.toNat:Int):=by omega)|(have f0:(97:Int)≤(c.toNat:Int):=by omega)
      have f1:(c.toNat:Int)≤122:=by omega
      first|(have f2:¬(65:Int)≤(c.toNat:Int):=by omega)|(have f2:(65:Int)≤(c.toNat:Int):=by omega)
      first|(have f3:(c.toNat:Int)≤90:=by omega)|(have f3:¬(c.toNat:Int)≤90:=by omega)
      first|(have f4:¬(48:Int)≤(c.toNat:Int):=by omega)|(have f4:(48:Int)≤(c.toNat:Int):=by omega)
      first|(have f5:(c.toNat:Int)≤57:=by omega)|(have f5:¬(c.toNat:Int)≤57:=by omega)
      first|(have g45:((c.toNat:Int)!=45)=false:=by rw[bne_eq_false_iff_eq];omega)|(have g45:((c.toNat:Int)!=45)=true:=by rw[bne_iff_ne];omega)
      first|(have g95:((c.toNat:Int)!=95)=true:=by rw[bne_iff_ne];omega)|(have g95:((c.toNat:Int)!=95)=false:=by rw[bne_eq_false_iff_eq];omega)
      have HV:=Lib.hid (HS.out HT.out);clear HN HS HT;clear hc1 hc2;go_wp2_with fail;go_roundw;case rel=>exact⟨by first|trivial|rfl,k+1,by omega,by go_num,HV.out⟩
      case measure=>simp[intOf];omega
     |first|(have HT:=Lib.hid (tenB_0 hc1 hc2))|(have HT:=Lib.hid (z128 hc1 hc2))|(have HT:=Lib.hid (j128 hc1 hc2))|(have HT:=Lib.hid (k128 hc1 hc2))|(have HT:=Lib.hid (y128 hc1 hc2))|(have HT:=Lib.hid (k111 hc1 hc2))
      first|(have f0:¬(97:Int)≤(c.toNat:Int):=by omega)|(have f0:(97:Int)≤(c.toNat:Int):=by omega)
      first|(have f1:(c.toNat:Int)≤122:=by omega)|(have f1:¬(c.toNat:Int)≤122:=by omega)
      first|(have f2:¬(65:Int)≤(c.toNat:Int):=by omega)|(have f2:(65:Int)≤(c.toNat:Int):=by omega)
      first|(have f3:(c.toNat:Int)≤90:=by omega)|(have f3:¬(c.toNat:Int)≤90:=by omega)
      first|(have f4:¬(48:Int)≤(c.toNat:Int):=by omega)|(have f4:(48:Int)≤(c.toNat:Int):=by omega)
      first|(have f5:(c.toNat:Int)≤57:=by omega)|(have f5:¬(c.toNat:Int)≤57:=by omega)
      have g45:((c.toNat:Int)!=45)=true:=by rw[bne_iff_ne];omega
      have g95:((c.toNat:Int)!=95)=true:=by rw[bne_iff_ne];omega
      have HV:=Lib.hid (HN.out HT.out);clear HN HS HT;clear hc1 hc2;go_wp2_with fail;go_ret;exact⟨q17 HV.out.symm,rfl⟩
  ·have HV:Hid (j42 l=true):=by have h:=HA.out;rw[List.take_of_length_le (by omega)]at h;exact x146 H2.out H3.out h
   go_wp2_with fail;go_ret;exact⟨q17 HV.out.symm,rfl⟩
theorem w81(l:List UInt8)(w:World)(hl:l.length≤1000000):Calls Tryz.prog 62 #[.string ⟨l.toArray⟩] w fun e w'=>e=.returned (.bool (j42 l))∧w'=w:=by
 have hsz:(⟨l.toArray⟩:ByteArray).size=l.length:=q19 l;go_enter Tryz.func62,Tryz.ntmps62;go_wp2_with fail;go_loopw[3,4](fun i _ wr=>wr=w∧∃k:Nat,k≤l.length∧i=.int .i64 (k:Int)∧(l.take k).all tenB=true∧(0<k→l.headD 0≠45))(fun i _ _=>l.length-(intOf i).toNat);case atStart=>exact⟨rfl,0,Nat.zero_le _,rfl,rfl,fun h=>absurd h (by omega)⟩
 case round=>
  obtain⟨rfl,k,hk,rfl,hall,hz⟩:=hrel;have HA:=Lib.hid hall;clear hall;have HA2:=Lib.hid hz;clear hz;by_cases hlt:k<l.length;·
   have HS:=Lib.hid (fun h=>q34 hlt HA.out h);have HN:=Lib.hid (fun h=>v111 (j41 hlt h));have HH0:Hid (k=0→l.headD 0=l[k]):=by intro hk0;subst hk0;cases l with|nil=>simp at hlt|cons a b=>rfl
   obtain⟨c,hc⟩:∃c,(⟨l.toArray⟩:ByteArray)[k]'(by rw[hsz];exact hlt)=c:=⟨_,rfl⟩;have hcl:l[k]=c:=hc;rw[hcl]at HS HN HH0;clear hcl HA;rcases j101 c with⟨hc1,hc2⟩|⟨hc1,hc2⟩|⟨hc1,hc2⟩|⟨hc1,hc2⟩|⟨hc1,hc2⟩|⟨hc1,hc2⟩|⟨hc1,hc2⟩|⟨hc1,hc2⟩|⟨hc1,hc2⟩|⟨hc1,hc2⟩|⟨hc1,hc2⟩;all_goals
    first
     |have HT:=Lib.hid (w127 hc1 hc2);have f0:(c.toNat:Int)<97:=by omega
      have f1:¬(122:Int)<(c.toNat:Int):=by omega
      have f2:(c.toNat:Int)<65:=by omega
      have f3:¬(90:Int)<(c.toNat:Int):=by omega
      have f4:(c.toNat:Int)<48:=by omega
      have f5:¬(57:Int)<(c.toNat:Int):=by omega
      have g45:((c.toNat:Int)!=45)=false:=by rw[bne_eq_false_iff_eq];omega
      have g95:((c.toNat:Int)!=95)=true:=by rw[bne_iff_ne];omega
      have HV:=Lib.hid (HS.out HT.out);by_cases hk0:k=0;·have HV9:Hid (j42 l=false):=y92 (by rw[HH0.out hk0];exact UInt8.toNat_inj.1 (by show c.toNat=45;omega));subst hk0;clear HN HS HT HH0 HA2;clear hc1 hc2;go_wp2_with fail;go_ret;exact⟨q17 HV9.out.symm,rfl⟩
      ·have HZ:Hid (0<k+1→l.headD 0≠45):=fun _=>HA2.out (by omega);have hk0':¬(k:Int)=0:=by omega
       clear HN HS HT HH0 HA2;clear hc1 hc2;go_wp2_with fail;go_roundw;case rel=>exact⟨by first|trivial|rfl,k+1,by omega,by go_num,HV.out,HZ.out⟩
       case measure=>simp[intOf];omega
     |first|(have HT:=Lib.hid (q128 hc1 hc2))|(have HT:=Lib.hid (v128 hc1 hc2))|(have HT:=Lib.hid (x128 hc1 hc2))|(have HT:=Lib.hid (w128 hc1 hc2))
      first|(have f0:(c.toNat:Int)<97:=by omega)|(have f0:¬(c.toNat:Int)<97:=by omega)
      have f1:¬(122:Int)<(c.toNat:Int):=by omega
      first|(have f2:(c.toNat:Int)<65:=by omega)|(have f2:¬(c.toNat:Int)<65:=by omega)
      first|(have f3:¬(90:Int)<(c.toNat:Int):=by omega)|(have f3:(90:Int)<(c.toNat:Int):=by omega)
      have f4:¬(c.toNat:Int)<48:=by omega
      first|(have f5:¬(57:Int)<(c.toNat:Int):=by omega)|(have f5:(57:Int)<(c.toNat:Int):=by omega)
      have g45:((c.toNat:Int)!=45)=true:=by rw[bne_iff_ne];omega
      first|(have g95:((c.toNat:Int)!=95)=true:=by rw[bne_iff_ne];omega)|(have g95:((c.toNat:Int)!=95)=false:=by rw[bne_eq_false_iff_eq];omega)
      have HV:=Lib.hid (HS.out HT.out);have HZ:Hid (0<k+1→l.headD 0≠45):=by
       intro _;by_cases hk0:k=0;·rw[HH0.out hk0];intro e;rw[e]at hc1 hc2;revert hc1 hc2;decide
       ·exact HA2.out (by omega)
      clear HN HS HT HH0 HA2;clear hc1 hc2;go_wp2_with fail;go_roundw;case rel=>exact⟨by first|trivial|rfl,k+1,by omega,by go_num,HV.out,HZ.out⟩
      case measure=>simp[intOf];omega
     |first|(have HT:=Lib.hid (tenB_0 hc1 hc2))|(have HT:=Lib.hid (z128 hc1 hc2))|(have HT:=Lib.hid (j128 hc1 hc2))|(have HT:=Lib.hid (k128 hc1 hc2))|(have HT:=Lib.hid (y128 hc1 hc2))|(have HT:=Lib.hid (k111 hc1 hc2))
      first|(have f0:(c.toNat:Int)<97:=by omega)|(have f0:¬(c.toNat:Int)<97:=by omega)
      first|(have f1:¬(122:Int)<(c.toNat:Int):=by omega)|(have f1:(122:Int)<(c.toNat:Int):=by omega)
      first|(have f2:(c.toNat:Int)<65:=by omega)|(have f2:¬(c.toNat:Int)<65:=by omega)
      first|(have f3:¬(90:Int)<(c.toNat:Int):=by omega)|(have f3:(90:Int)<(c.toNat:Int):=by omega)
      first|(have f4:(c.toNat:Int)<48:=by omega)|(have f4:¬(c.toNat:Int)<48:=by omega)
      first|(have f5:¬(57:Int)<(c.toNat:Int):=by omega)|(have f5:(57:Int)<(c.toNat:Int):=by omega)
      have g45:((c.toNat:Int)!=45)=true:=by rw[bne_iff_ne];omega
      have g95:((c.toNat:Int)!=95)=true:=by rw[bne_iff_ne];omega
      have HV:=Lib.hid (HN.out HT.out);clear HN HS HT;clear hc1 hc2;go_wp2_with fail;go_ret;exact⟨q17 HV.out.symm,rfl⟩
  ·have HV:Hid (j42 l=decide (l.length≤40)):=by
    have h:=HA.out;rw[List.take_of_length_le (by omega)]at h;have h3:l.headD 0≠45:=by
     by_cases hk0:0<k;·exact HA2.out hk0
     ·obtain rfl:l=[]:=List.eq_nil_of_length_eq_zero (by omega);decide
    simp only[Hid];rw[x51,h,decide_eq_false h3];simp
   go_wp2_with fail;go_ret;exact⟨by rw[HV.out];congr 2;simp;try omega,rfl⟩
theorem x111(l:List UInt8)(w:World)(hl:l.length≤1000000):Calls Tryz.prog 104 #[.string ⟨l.toArray⟩] w fun e w'=>e=.returned (.bool (w26 l))∧w'=w:=by
 have hsz:(⟨l.toArray⟩:ByteArray).size=l.length:=q19 l;go_enter Tryz.func104,Tryz.ntmps104;go_wp2_with fail;go_loopw[3](fun i wr=>wr=w∧∃k:Nat,k≤l.length∧i=.int .i64 (k:Int)∧(l.take k).all keyB=true)(fun i _=>l.length-(intOf i).toNat);case atStart=>exact⟨rfl,0,Nat.zero_le _,rfl,rfl⟩
 case round=>
  obtain⟨rfl,k,hk,rfl,hall⟩:=hrel;have HA:=Lib.hid hall;clear hall;by_cases hlt:k<l.length;·
   have HS:=Lib.hid (fun h=>q34 hlt HA.out h);have HN:=Lib.hid (fun h=>w110 (j41 hlt h));obtain⟨c,hc⟩:∃c,(⟨l.toArray⟩:ByteArray)[k]'(by rw[hsz];exact hlt)=c:=⟨_,rfl⟩;have hcl:l[k]=c:=hc;rw[hcl]at HS HN;have hcb:c.toNat<256:=UInt8.toNat_lt _;clear hcl HA;by_cases d1:c.toNat<33;·
    have HV:=Lib.hid (HN.out (by unfold keyB;rw[decide_eq_false (show¬33≤c.toNat by omega)];rfl));have e1:(c.toNat:Int)<33:=by omega
    clear HN HS d1;go_wp2_with fail;go_ret;exact⟨q17 HV.out.symm,rfl⟩
   have e1:¬(c.toNat:Int)<33:=by omega
   by_cases d3:126<c.toNat;·
    have HV:=Lib.hid (HN.out (by unfold keyB;rw[decide_eq_false (show¬c.toNat≤126 by omega)];simp));have e3:(126:Int)<(c.toNat:Int):=by omega
    clear HN HS d1 d3;go_wp2_with fail;go_ret;exact⟨q17 HV.out.symm,rfl⟩
   have e3:¬(126:Int)<(c.toNat:Int):=by omega
   have HV:=Lib.hid (HS.out (by unfold keyB;rw[decide_eq_true (show 33≤c.toNat by omega),decide_eq_true (show c.toNat≤126 by omega)];rfl));clear HN HS d1 d3;go_wp2_with fail;go_roundw;case rel=>exact⟨by first|trivial|rfl,k+1,by omega,by go_num,HV.out⟩
   case measure=>simp[intOf];omega
  ·have HV:Hid (w26 l=(decide (1≤l.length)&&decide (l.length≤200))):=by have h:=HA.out;rw[List.take_of_length_le (by omega)]at h;simp only[Hid];rw[k51,h,Bool.and_true]
   by_cases h1:0<l.length;·
    have h1':(0:Int)<(l.length:Int):=by omega
    by_cases h2:l.length≤200;·
     have h2':(l.length:Int)≤200:=by omega
     have HV2:Hid (w26 l=true):=by simp only[Hid];rw[HV.out];simp;omega
     clear HV;go_wp2_with fail;go_ret;exact⟨q17 HV2.out.symm,rfl⟩
    ·have h2':¬(l.length:Int)≤200:=by omega
     have HV2:Hid (w26 l=false):=by simp only[Hid];rw[HV.out];simp;omega
     clear HV;go_wp2_with fail;go_ret;exact⟨q17 HV2.out.symm,rfl⟩
   ·have h1':¬(0:Int)<(l.length:Int):=by omega
    have HV2:Hid (w26 l=false):=by simp only[Hid];rw[HV.out];simp;omega
    clear HV;go_wp2_with fail;go_ret;exact⟨q17 HV2.out.symm,rfl⟩
theorem Tryz.fieldInfo:(Tryz.prog.info? 176).map (fun i=>(i.zero,i.size,i.bytes))=some (some (.agg #[.string ⟨#[]⟩,.string ⟨#[]⟩]),2,32):=by kernel_rfl
theorem Tryz.partInfo:(Tryz.prog.info? 89).map (fun i=>(i.zero,i.size,i.bytes))=some (some (.agg #[.string ⟨#[]⟩,.int .i64 0,.int .i64 0]),3,32):=by kernel_rfl
theorem elemFd:ElemK Tryz.prog w18 2 176 71 32 where
 und:=Tryz.underlying71
 info:=by obtain⟨i0,hi,hz0,hz1,hz2⟩:=info_parts Tryz.fieldInfo;exact⟨i0,_,hi,hz0,hz1,hz2,rfl⟩
 pos:=by decide
 small:=by decide
 len _:=rfl
 one _ v hv:=by simp[w18]at hv;rcases hv with rfl|rfl<;>rfl
theorem elemPt:ElemK Tryz.prog j18 3 89 72 32 where
 und:=Tryz.underlying72
 info:=by obtain⟨i0,hi,hz0,hz1,hz2⟩:=info_parts Tryz.partInfo;exact⟨i0,_,hi,hz0,hz1,hz2,rfl⟩
 pos:=by decide
 small:=by decide
 len _:=rfl
 one _ v hv:=by simp[j18]at hv;rcases hv with rfl|rfl|rfl<;>rfl
theorem x23{α:Type}{P:Program}{enc:α→List Value}{n:Nat}{T ST:TypeId}{bytes:Nat}(K:ElemK P enc n T ST bytes){ops:Array Oper}{rest:List Oper}{o:Oper}{a:Act}{Q:Exit→Act→World→Prop}{w w0:World}(hgd:o.guard=none)(s x:Operand)(ho:o.op=.call {callee:=.builtin .append,args:=#[s,x],argTypes:=#[ST,ST]})(A:Option Addr)(c ln:Nat)(L:List α)(hln:ln=L.length)(cs:Array Value)(T':TypeId)(hs:a.eval s=.slice A ln c)(hown:OwnG T enc n w w0.heap.size A c L)(t:List α)(k:Nat)(hk:k=t.length)(hx:a.eval x=.slice (some ⟨w.heap.size,0,none⟩) k k)(hcs:cs.toList=w180 enc t)(h0:0<t.length)(m:Nat)(hm:m=ln+t.length)(hl:m≤1000000)(hbel:Below w0.heap.size w0 w)(h:∀A' c' w',OwnG T enc n w' w0.heap.size A' c' (L++t)→Below w0.heap.size w0 w'→(w.alloc (.cells cs T')).grownBy w' (Value.slice A L.length c).ownBlock→wpList P ops Q rest (a.put o.dst (.slice A' m c')) w'):wpList P ops Q (o::rest) a (w.alloc (.cells cs T')):=by subst hln hk hm;exact k53 (w0:=w0) K hgd s x ho A c L hs (hown.alloc _) (some ⟨w.heap.size,0,none⟩) _ t hx (SpG.built (enc:=enc) (n:=n) K.len w t cs hcs T') h0 hl (q11 hbel _) h
def j25(m:MetaL)(A:Option Addr)(c:Nat):Value:=.agg #[.string ⟨m.tag.toArray⟩,.bool m.weak,.int .i64 m.mo,.int .i64 m.len,.int .i64 m.hv,.int .i64 m.fresh,.int .i64 m.wh,.int .i64 m.er,.slice A m.keys.length c,.string ⟨m.ten.toArray⟩,.bool m.keep]
def w65(s wh er:Int)(ns:Bool):Value:=.agg #[.int .i64 (-1),.int .i64 s,.int .i64 wh,.int .i64 er,.bool ns,.bool false,.bool false]
def offN(n:Int):Int:=if n=0 then-1 else n
theorem w146(m:MetaL)(A:Option Addr)(c:Nat)(w:World)(h1:0≤m.fresh∧m.fresh≤1099511627776)(h2:0≤m.wh∧m.wh≤1099511627776)(h3:0≤m.er∧m.er≤1099511627776):Calls Tryz.prog 124 #[j25 m A c] w fun e w'=>e=.returned (w65 m.fresh (offN m.wh) (offN m.er) (!m.keep))∧Below w.heap.size w w':=by
 obtain⟨tg,wk,mo,ln,hv,fr,wh,er,ks,tn,kp⟩:=m;simp only at h1 h2 h3⊢;have H1:=fun W=>Lib.hid (y65 fr W h1.1 h1.2);have H2:=fun W=>Lib.hid (y65 wh W h2.1 h2.2);have H3:=fun W=>Lib.hid (y65 er W h3.1 h3.2);unfold j25;simp only;go_enter Tryz.func124,Tryz.ntmps124;go_wp2_with fail;go_region_held3(fun w'=>w'.cell? ⟨w.heap.size,5,none⟩=some (.int .i64 fr)∧w'.cell? ⟨w.heap.size,6,none⟩=some (.int .i64 wh)∧w'.cell? ⟨w.heap.size,7,none⟩=some (.int .i64 er)∧w'.cell? ⟨w.heap.size,10,none⟩=some (.bool kp))(simp[go_sem])(first|(go_at_call_of 169(Value.int .i64 fr);refine(H1 _).out.mono ?_;rintro e w1⟨rfl,rfl⟩)|(go_at_call_of 169(Value.int .i64 wh);refine(H2 _).out.mono ?_;rintro e w1⟨rfl,rfl⟩)|(go_at_call_of 169(Value.int .i64 er);refine(H3 _).out.mono ?_;rintro e w1⟨rfl,rfl⟩));all_goals
  by_cases a1:wh=0;·
   have e1:offN wh=-1:=if_pos a1;by_cases a2:er=0;·have e2:offN er=-1:=if_pos a2;go_wp2_with fail;refine bodyPost_ret (by simp[results,Tryz.results124,go_sem];try rfl) rfl ?_;rw[e1,e2];exact⟨rfl,by(repeat(first|exact Below.refl _ _|refine q15 ?_ _|refine x15 ?_|refine q11 ?_ _|refine w14 ?_ (by simp) _))⟩
   ·have e2:offN er=er:=if_neg a2;go_wp2_with fail;refine bodyPost_ret (by simp[results,Tryz.results124,go_sem];try rfl) rfl ?_;rw[e1,e2];exact⟨rfl,by(repeat(first|exact Below.refl _ _|refine q15 ?_ _|refine x15 ?_|refine q11 ?_ _|refine w14 ?_ (by simp) _))⟩
  ·have e1:offN wh=wh:=if_neg a1;by_cases a2:er=0;·have e2:offN er=-1:=if_pos a2;go_wp2_with fail;refine bodyPost_ret (by simp[results,Tryz.results124,go_sem];try rfl) rfl ?_;rw[e1,e2];exact⟨rfl,by(repeat(first|exact Below.refl _ _|refine q15 ?_ _|refine x15 ?_|refine q11 ?_ _|refine w14 ?_ (by simp) _))⟩
   ·have e2:offN er=er:=if_neg a2;go_wp2_with fail;refine bodyPost_ret (by simp[results,Tryz.results124,go_sem];try rfl) rfl ?_;rw[e1,e2];exact⟨rfl,by(repeat(first|exact Below.refl _ _|refine q15 ?_ _|refine x15 ?_|refine q11 ?_ _|refine w14 ?_ (by simp) _))⟩
theorem SpG.take{α:Type}{enc:α→List Value}{n:Nat}{w:World}{A:Option Addr}{c:Nat}{L:List α}(h:SpG enc n w A c L)(k:Nat):SpG enc n w A c (L.take k):=by
 refine⟨Nat.le_trans (by rw[List.length_take];omega) h.le,h.nil_,fun j hj=>?_⟩;have hj2:j<L.length:=by rw[List.length_take]at hj;omega
 obtain⟨b,off,e,hb,hc⟩:=h.at' j hj2;refine⟨b,off,e,hb,fun i v hv=>hc i v ?_⟩;rw[List.getElem_take]at hv;exact hv
def IdxPost(v:List UInt8)(L:List (List UInt8))(w:World)(e:Ending)(w':World):Prop:=(∃n:Int,e=.returned (.int .i64 n)∧((0≤n∧v∈L)∨(n<0∧v∉L)))∧w'=w
theorem y111{v:List UInt8}{L:List (List UInt8)}{k:Nat}(hk:k<L.length)(h:v∉L.take k)(h2:¬v=L[k]):v∉L.take (k+1):=by
 rw[List.take_succ_eq_append_getElem hk];intro hh;rcases List.mem_append.1 hh with hh|hh;·exact h hh
 ·exact h2 (List.mem_singleton.1 hh)
theorem v156(A:Option Addr)(c:Nat)(L:List (List UInt8))(v:List UInt8)(w:World)(h:SpG encT 1 w A c L)(hl:L.length≤1000000):Calls Tryz.prog 200 #[.slice A L.length c,.string ⟨v.toArray⟩] w (IdxPost v L w):=by
 have HH:=Lib.hid h;clear h;go_enter Tryz.func200,Tryz.ntmps200;go_wp2_with fail;go_loopw[5,8](fun _ i wr=>wr=w∧∃k:Nat,k≤L.length∧i=.int .i64 (k:Int)∧v∉L.take k)(fun _ i _=>L.length-(intOf i).toNat);case atStart=>exact⟨rfl,0,Nat.zero_le _,rfl,by simp⟩
 case round=>
  obtain⟨rfl,k,hk,rfl,hn⟩:=hrel;have HN:=Lib.hid hn;clear hn;by_cases hlt:k<L.length;·
   obtain⟨b,off,e,hb,hc⟩:=HH.out.at' k hlt;have c0:=hc 0 _ rfl;have HY:Hid (v=L[k]→v∈L):=fun hh=>by rw[hh];exact List.getElem_mem hlt
   have HS:Hid (¬v=L[k]→v∉L.take (k+1)):=y111 hlt HN.out;obtain⟨x,hx⟩:∃x,L[k]=x:=⟨_,rfl⟩;rw[hx]at c0 HY HS;simp only[Nat.mul_one,Nat.add_zero]at c0;clear hx hc HN;rw[e];by_cases hv:v=x;·
    have HF:=Lib.hid (HY.out hv);have hb2:(v==x)=true:=by rw[hv];exact beq_self_eq_true x
    clear HY HS hv;go_wp2_with fail;go_ret;exact⟨⟨_,rfl,.inl ⟨by omega,HF.out⟩⟩,rfl⟩
   ·have HF:=Lib.hid (HS.out hv);have hb2:(v==x)=false:=beq_eq_false_iff_ne.2 hv;clear HY HS hv;go_wp2_with fail;go_roundw;case rel=>exact⟨trivial,k+1,by omega,by go_num,HF.out⟩
    case measure=>simp[intOf];omega
  ·have hke:k=L.length:=by omega
   have HF:Hid (v∉L):=by have:=HN.out;rw[hke,List.take_length]at this;exact this
   clear HN hke;go_wp2_with fail;go_ret;exact⟨⟨_,rfl,.inr ⟨by decide,HF.out⟩⟩,rfl⟩
theorem j44(A:Option Addr)(c:Nat)(L:List (List UInt8))(v:List UInt8)(w:World)(h:SpG encT 1 w A c L)(hl:L.length≤1000000):Calls Tryz.prog 139 #[.slice A L.length c,.string ⟨v.toArray⟩] w fun e w'=>e=.returned (.bool (decide (v∈L)))∧w'=w:=by
 go_enter Tryz.func139,Tryz.ntmps139;go_wp2_with fail;refine(v156 A c L v w h hl).mono ?_;rintro e w1⟨⟨n,rfl,hn⟩,rfl⟩;rcases hn with⟨h0,hv⟩|⟨h0,hv⟩;·have HV:Hid (decide (v∈L)=true):=decide_eq_true hv;clear hv;go_wp2_with fail;go_ret;exact⟨by rw[HV.out];simp,rfl⟩
 ·have HV:Hid (decide (v∈L)=false):=decide_eq_false hv;clear hv;go_wp2_with fail;go_ret;exact⟨by rw[HV.out];simp;omega,rfl⟩
structure MetaOk(m:MetaL):Prop where
 tg:(m.tag=[]∧m.weak=false)∨j20 m.tag=true
 mo:-1≤m.mo∧m.mo≤253402300799
 ln:-1≤m.len∧m.len≤1099511627776
 hv:0≤m.hv∧m.hv≤1099511627776
 eq:m.len=-1∨m.hv=m.len
 fr:0≤m.fresh∧m.fresh≤1099511627776
 wh:0≤m.wh∧m.wh≤1099511627776
 er:0≤m.er∧m.er≤1099511627776
 kn:m.keys.length≤32
 ka:∀x∈m.keys,w26 x=true
 kd:m.keys.Nodup
 tn:j42 m.ten=true
theorem k54{x:List UInt8}(h:w26 x=true):x.length≤200:=by rw[k51]at h;simp only[Bool.and_eq_true,decide_eq_true_eq]at h;exact h.1.2
theorem z147{x:List UInt8}(h:j42 x=true):x.length≤40:=by rw[x51]at h;simp only[Bool.and_eq_true,decide_eq_true_eq]at h;exact h.1.1
theorem y54{x:List UInt8}(h:j20 x=true):1≤x.length∧x.length≤100:=by rw[j45]at h;simp only[Bool.and_eq_true,decide_eq_true_eq]at h;exact h.1
theorem w87{n:Int}(h:0≤n∧n≤1099511627776):k37 n=true:=by unfold k37;rw[decide_eq_true h.1,decide_eq_true h.2];rfl
theorem y56{α:Type}{L:List α}(h:L.Nodup){k:Nat}(hk:k<L.length):L[k]∉L.take k:=by intro hh;obtain⟨j,hj,e⟩:=List.getElem_of_mem hh;rw[List.getElem_take]at e;rw[List.length_take]at hj;have:=(List.getElem_inj (h₀:=by omega) (h₁:=hk) h).1 e;omega
theorem w68(m:MetaL)(A:Option Addr)(c:Nat)(w:World)(hks:SpG encT 1 w A c m.keys)(hok:MetaOk m):Calls Tryz.prog 81 #[j25 m A c] w fun e w'=>e=.returned (.bool true)∧Below w.heap.size w w':=by
 obtain⟨tg,wk,mo,ln,hv,fr,wh,er,ks,tn,kp⟩:=m;obtain⟨g1,⟨g2,g3⟩,⟨g4,g5⟩,⟨g6,g7⟩,g8,g9,g10,g11,g12,g13,g14,g15⟩:=hok;simp only at g1 g2 g3 g4 g5 g6 g7 g8 g9 g10 g11 g12 g13 g14 g15 hks⊢;unfold j25;simp only;have HK:=Lib.hid hks;have HD:=Lib.hid g14;have HA:=Lib.hid g13;have T1:=fun W=>Lib.hid (k45 fr W);have T2:=fun W=>Lib.hid (k45 wh W);have T3:=fun W=>Lib.hid (k45 er W);rw[w87 g9]at T1;rw[w87 g10]at T2;rw[w87 g11]at T3;have HT:=fun W=>Lib.hid (w92 tn W (by have:=z147 g15;omega));rw[g15]at HT;have f1:¬mo< -1:=by omega
 have f2:¬(253402300799:Int)<mo:=by omega
 have f3:¬ln< -1:=by omega
 have f4:¬(1099511627776:Int)<ln:=by omega
 have f5:¬hv<0:=by omega
 have f6:¬(1099511627776:Int)<hv:=by omega
 have f7:¬(32:Int)<(ks.length:Int):=by omega
 have hcase:(ln !=-1)=false∨((ln !=-1)=true∧(hv !=ln)=false):=by
  by_cases e:ln=-1;·left;rw[bne_eq_false_iff_eq];exact e
  ·right;exact⟨by rw[bne_iff_ne];exact e,by rw[bne_eq_false_iff_eq];omega⟩
 clear hks g14 g13 g2 g3 g4 g5 g6 g7 g8 g9 g10 g11 g12 g15;have hcg:(tg=[]∧wk=false)∨((tg==[])=false∧j20 tg=true):=by
  rcases g1 with h|h;·exact .inl h
  ·right;refine⟨?_,h⟩;have:=(y54 h).1;cases tg with|nil=>simp at this|cons a r=>rfl
 clear g1;rcases hcg with⟨rfl,rfl⟩|⟨hne,hto⟩;·
  rcases hcase with hc1|⟨hc1,hc2⟩;all_goals
   go_enter Tryz.func81,Tryz.ntmps81;go_upto_region 3 with fail;obtain⟨W0,hW0⟩:∃W0,w.alloc (.cells #[.string ⟨#[]⟩,.bool false,.int .i64 mo,.int .i64 ln,.int .i64 hv,.int .i64 fr,.int .i64 wh,.int .i64 er,.slice A ks.length c,.string ⟨tn.toArray⟩,.bool kp] 45)=W0:=⟨_,rfl⟩;have HW0:Hid (W0.heap[w.heap.size]?=some (.cells #[.string ⟨#[]⟩,.bool false,.int .i64 mo,.int .i64 ln,.int .i64 hv,.int .i64 fr,.int .i64 wh,.int .i64 er,.slice A ks.length c,.string ⟨tn.toArray⟩,.bool kp] 45 (0,0))):=by simp only[Hid];rw[←hW0];exact j17 rfl
   have HWB:Hid (Below w.heap.size w W0):=by simp only[Hid];rw[←hW0];exact q11 (Below.refl _ _) _
   rw[hW0];have HK:=Lib.hid (HK.out.below HWB.out);clear hW0;have v2:=bc 2 HW0.out rfl;have v3:=bc 3 HW0.out rfl;have v4:=bc 4 HW0.out rfl;have v5:=bc 5 HW0.out rfl;have v6:=bc 6 HW0.out rfl;have v7:=bc 7 HW0.out rfl;have v8:=bc 8 HW0.out rfl;have v9:=bc 9 HW0.out rfl;have vz:=q14 HW0.out;go_wp2_with(first|(go_at_call_of 119(Value.int .i64 fr);refine(T1 _).out.mono ?_;rintro e w1⟨rfl,hw1⟩;obtain rfl:W0=w1:=hw1.symm)|(go_at_call_of 119(Value.int .i64 wh);refine(T2 _).out.mono ?_;rintro e w1⟨rfl,hw1⟩;obtain rfl:W0=w1:=hw1.symm)|(go_at_call_of 119(Value.int .i64 er);refine(T3 _).out.mono ?_;rintro e w1⟨rfl,hw1⟩;obtain rfl:W0=w1:=hw1.symm)|(go_at_call 137;refine(HT _).out.mono ?_;rintro e w1⟨rfl,hw1⟩;obtain rfl:W0=w1:=hw1.symm));clear v2 v3 v4 v5 v6 v7 v9 T1 T2 T3 HT f1 f2 f3 f4 f5 f6 f7;try clear hc1
   try clear hc2
   go_loopw[3,4,84](fun _ _ i wr=>wr=W0∧∃k:Nat,k≤ks.length∧i=.int .i64 (k:Int))(fun _ _ i _=>ks.length-(intOf i).toNat);case atStart=>exact⟨rfl,0,Nat.zero_le _,rfl⟩
   case round=>
    obtain⟨rfl,k,hk,rfl⟩:=hrel;by_cases hlt:k<ks.length;·
     obtain⟨b,off,e,hb,hc⟩:=HK.out.at' k hlt;have c0:=hc 0 _ rfl;have hkk:=HA.out _ (List.getElem_mem hlt);have HKy:=fun W=>Lib.hid (w62 ks[k] W (by have:=k54 hkk;omega));rw[hkk]at HKy;have HC:=Lib.hid (j44 A c (ks.take k) ks[k] wr (HK.out.take k) (by rw[List.length_take];omega));rw[decide_eq_false (y56 HD.out hlt),List.length_take,Nat.min_eq_left (by omega)]at HC;obtain⟨x,hx⟩:∃x,ks[k]=x:=⟨_,rfl⟩;rw[hx]at c0 HKy HC;simp only[Nat.mul_one,Nat.add_zero]at c0;have hle:=HK.out.le;have hkc:(k:Int)≤(c:Int):=by omega
     clear hx hc hkk HA HD;subst e;go_wp2_with(first|(go_at_call 138;refine(HKy _).out.mono ?_;rintro e w1⟨rfl,hw1⟩;obtain rfl:wr=w1:=hw1.symm)|(go_at_call 139;refine HC.out.mono ?_;rintro e w1⟨rfl,hw1⟩;obtain rfl:wr=w1:=hw1.symm));go_roundw;case rel=>exact⟨by first|trivial|rfl,k+1,by omega,by go_num⟩
     case measure=>simp[intOf];omega
    ·clear HA HD;go_wp2_with fail;go_ret;exact⟨rfl,HWB.out⟩
 have HTG:=fun W=>Lib.hid (k39 tg wk W (by have:=y54 hto;omega));rw[hto]at HTG;clear hto;·
  rcases hcase with hc1|⟨hc1,hc2⟩;all_goals
   go_enter Tryz.func81,Tryz.ntmps81;go_upto_region 3 with(go_at_call 65;refine(HTG _).out.mono ?_;rintro e W0⟨rfl,hb1⟩);have HW0:Hid (W0.heap[w.heap.size]?=some (.cells #[.string ⟨tg.toArray⟩,.bool wk,.int .i64 mo,.int .i64 ln,.int .i64 hv,.int .i64 fr,.int .i64 wh,.int .i64 er,.slice A ks.length c,.string ⟨tn.toArray⟩,.bool kp] 45 (0,0))):=j3 hb1 (j17 rfl);have HWB:Hid (Below w.heap.size w W0):=q12 hb1 (q11 (Below.refl _ _) _);have HK:=Lib.hid (HK.out.below HWB.out);clear hb1 HTG hne;have v2:=bc 2 HW0.out rfl;have v3:=bc 3 HW0.out rfl;have v4:=bc 4 HW0.out rfl;have v5:=bc 5 HW0.out rfl;have v6:=bc 6 HW0.out rfl;have v7:=bc 7 HW0.out rfl;have v8:=bc 8 HW0.out rfl;have v9:=bc 9 HW0.out rfl;have vz:=q14 HW0.out;go_wp2_with(first|(go_at_call_of 119(Value.int .i64 fr);refine(T1 _).out.mono ?_;rintro e w1⟨rfl,hw1⟩;obtain rfl:W0=w1:=hw1.symm)|(go_at_call_of 119(Value.int .i64 wh);refine(T2 _).out.mono ?_;rintro e w1⟨rfl,hw1⟩;obtain rfl:W0=w1:=hw1.symm)|(go_at_call_of 119(Value.int .i64 er);refine(T3 _).out.mono ?_;rintro e w1⟨rfl,hw1⟩;obtain rfl:W0=w1:=hw1.symm)|(go_at_call 137;refine(HT _).out.mono ?_;rintro e w1⟨rfl,hw1⟩;obtain rfl:W0=w1:=hw1.symm));clear v2 v3 v4 v5 v6 v7 v9 T1 T2 T3 HT f1 f2 f3 f4 f5 f6 f7;try clear hc1
   try clear hc2
   go_loopw[3,4,84](fun _ _ i wr=>wr=W0∧∃k:Nat,k≤ks.length∧i=.int .i64 (k:Int))(fun _ _ i _=>ks.length-(intOf i).toNat);case atStart=>exact⟨rfl,0,Nat.zero_le _,rfl⟩
   case round=>
    obtain⟨rfl,k,hk,rfl⟩:=hrel;by_cases hlt:k<ks.length;·
     obtain⟨b,off,e,hb,hc⟩:=HK.out.at' k hlt;have c0:=hc 0 _ rfl;have hkk:=HA.out _ (List.getElem_mem hlt);have HKy:=fun W=>Lib.hid (w62 ks[k] W (by have:=k54 hkk;omega));rw[hkk]at HKy;have HC:=Lib.hid (j44 A c (ks.take k) ks[k] wr (HK.out.take k) (by rw[List.length_take];omega));rw[decide_eq_false (y56 HD.out hlt),List.length_take,Nat.min_eq_left (by omega)]at HC;obtain⟨x,hx⟩:∃x,ks[k]=x:=⟨_,rfl⟩;rw[hx]at c0 HKy HC;simp only[Nat.mul_one,Nat.add_zero]at c0;have hle:=HK.out.le;have hkc:(k:Int)≤(c:Int):=by omega
     clear hx hc hkk HA HD;subst e;go_wp2_with(first|(go_at_call 138;refine(HKy _).out.mono ?_;rintro e w1⟨rfl,hw1⟩;obtain rfl:wr=w1:=hw1.symm)|(go_at_call 139;refine HC.out.mono ?_;rintro e w1⟨rfl,hw1⟩;obtain rfl:wr=w1:=hw1.symm));go_roundw;case rel=>exact⟨by first|trivial|rfl,k+1,by omega,by go_num⟩
     case measure=>simp[intOf];omega
    ·clear HA HD;go_wp2_with fail;go_ret;exact⟨rfl,HWB.out⟩
def w51(Q:Prop)(w:World)(e:Ending)(w':World):Prop:=∃b:Bool,e=.returned (.bool b)∧(b=true→Q)∧Below w.heap.size w w'
theorem j181{Q:Prop}{w w':World}(h:Below w.heap.size w w'):w51 Q w (.returned (.bool false)) w':=⟨false,rfl,(fun h=>by cases h),h⟩
theorem x97{Q:Prop}{w w':World}{b:Bool}(hq:Q)(h:Below w.heap.size w w'):w51 Q w (.returned (.bool b)) w':=⟨b,rfl,fun _=>hq,h⟩
theorem y72(t:List UInt8)(wk:Bool)(w:World):Calls Tryz.prog 60 #[.agg #[.string ⟨t.toArray⟩,.bool wk]] w fun e w'=>e=.returned (.bool (t.isEmpty&&!wk))∧Below w.heap.size w w':=by
 cases hte:t.isEmpty with
  |false=>go_enter Tryz.func60,Tryz.ntmps60;go_wp2_with fail;go_ret;exact⟨rfl,by(repeat(first|exact Below.refl _ _|refine q15 ?_ _|refine x15 ?_|refine q11 ?_ _|refine w14 ?_ (by simp) _))⟩
  |true=>go_enter Tryz.func60,Tryz.ntmps60;go_wp2_with fail;go_ret;exact⟨rfl,by(repeat(first|exact Below.refl _ _|refine q15 ?_ _|refine x15 ?_|refine q11 ?_ _|refine w14 ?_ (by simp) _))⟩
def j46(m:MetaL):Prop:=m.tag.length≤200∧m.keys.length≤40∧m.ten.length≤100∧∀x∈m.keys,x.length≤300
theorem k133(m:MetaL)(A:Option Addr)(c:Nat)(w:World)(hks:SpG encT 1 w A c m.keys):Calls Tryz.prog 15 #[j25 m A c] w (w51 (j46 m) w):=by
 have HK0:=Lib.hid hks;obtain⟨tg,wk,mo,ln,hv,fr,wh,er,ks,tn,kp⟩:=m;unfold j25;simp only at HK0⊢;have hz1:(⟨tg.toArray⟩:ByteArray).size=tg.length:=q19 tg;have hz2:(⟨tn.toArray⟩:ByteArray).size=tn.length:=q19 tn;by_cases h1:200<tg.length;·
  have h1':(200:Int)<(tg.length:Int):=by omega
  clear h1;go_enter Tryz.func15,Tryz.ntmps15;go_wp2_with fail;go_ret;exact j181 (by(repeat(first|exact Below.refl _ _|refine q15 ?_ _|refine x15 ?_|refine q11 ?_ _|refine w14 ?_ (by simp) _)))
 have h1':¬(200:Int)<(tg.length:Int):=by omega
 by_cases h2:40<ks.length;·
  have h2':(40:Int)<(ks.length:Int):=by omega
  clear h2;go_enter Tryz.func15,Tryz.ntmps15;go_wp2_with fail;go_ret;exact j181 (by(repeat(first|exact Below.refl _ _|refine q15 ?_ _|refine x15 ?_|refine q11 ?_ _|refine w14 ?_ (by simp) _)))
 have h2':¬(40:Int)<(ks.length:Int):=by omega
 by_cases h3:100<tn.length;·
  have h3':(100:Int)<(tn.length:Int):=by omega
  clear h3;go_enter Tryz.func15,Tryz.ntmps15;go_wp2_with fail;go_ret;exact j181 (by(repeat(first|exact Below.refl _ _|refine q15 ?_ _|refine x15 ?_|refine q11 ?_ _|refine w14 ?_ (by simp) _)))
 have h3':¬(100:Int)<(tn.length:Int):=by omega
 have HL:Hid (tg.length≤200∧ks.length≤40∧tn.length≤100):=by simp only[Hid];omega
 have hk40:ks.length≤40:=by omega
 clear h1 h2 h3;go_enter Tryz.func15,Tryz.ntmps15;go_wp2_with fail;obtain⟨W0,hW0⟩:∃W0,w.alloc (.cells #[.string ⟨tg.toArray⟩,.bool wk,.int .i64 mo,.int .i64 ln,.int .i64 hv,.int .i64 fr,.int .i64 wh,.int .i64 er,.slice A ks.length c,.string ⟨tn.toArray⟩,.bool kp] 45)=W0:=⟨_,rfl⟩;have HM0:Hid (W0.heap[w.heap.size]?=some (.cells #[.string ⟨tg.toArray⟩,.bool wk,.int .i64 mo,.int .i64 ln,.int .i64 hv,.int .i64 fr,.int .i64 wh,.int .i64 er,.slice A ks.length c,.string ⟨tn.toArray⟩,.bool kp] 45 (0,0))):=by simp only[Hid];rw[←hW0];exact j17 rfl
 have HB0:Hid (Below w.heap.size w W0):=by simp only[Hid];rw[←hW0];(repeat(first|exact Below.refl _ _|refine q15 ?_ _|refine x15 ?_|refine q11 ?_ _|refine w14 ?_ (by simp) _))
 have HK:=Lib.hid (HK0.out.below HB0.out);rw[hW0];clear hW0 HK0 h1' h2' h3';go_loopw[3](fun i wr=>wr=W0∧∃k:Nat,k≤ks.length∧i=.int .i64 (k:Int)∧∀x∈ks.take k,x.length≤300)(fun i _=>ks.length-(intOf i).toNat);case atStart=>exact⟨rfl,0,Nat.zero_le _,rfl,by simp⟩
 case round=>
  obtain⟨rfl,k,hk,rfl,hall⟩:=hrel;have HA:=Lib.hid hall;clear hall;have v8:=bc 8 HM0.out rfl;have vz:=q14 HM0.out;by_cases hlt:k<ks.length;·
   obtain⟨b,off,e,hb,hc⟩:=HK.out.at' k hlt;have c0:=hc 0 _ rfl;have hst:ks[k].length≤300→∀x∈ks.take (k+1),x.length≤300:=by
    intro h x hx;rw[List.take_succ_eq_append_getElem hlt]at hx;rcases List.mem_append.1 hx with hx|hx;·exact HA.out x hx
    ·rw[List.mem_singleton.1 hx];exact h
   have HST:=Lib.hid hst;obtain⟨x,hx⟩:∃x,ks[k]=x:=⟨_,rfl⟩;rw[hx]at c0 HST;simp only[Nat.mul_one,Nat.add_zero]at c0;have hsx:(⟨x.toArray⟩:ByteArray).size=x.length:=q19 x;clear hx hc hst HA;subst e;by_cases hxl:300<x.length;·
    have hx':(300:Int)<(x.length:Int):=by omega
    clear hxl HST;go_wp2_with fail;go_ret;exact j181 HB0.out
   ·have HF:=Lib.hid (HST.out (by omega));have hx':¬(300:Int)<(x.length:Int):=by omega
    clear hxl HST;go_wp2_with fail;go_roundw;case rel=>exact⟨by first|trivial|rfl,k+1,by omega,by go_num,HF.out⟩
    case measure=>simp[intOf];omega
  ·have HF:=HA.out;rw[show k=ks.length from by omega,List.take_length]at HF;have HV:Hid (j46 ⟨tg,wk,mo,ln,hv,fr,wh,er,ks,tn,kp⟩):=⟨HL.out.1,HL.out.2.1,HL.out.2.2,HF⟩;clear HF HA;go_wp2_with fail;go_ret;exact x97 HV.out HB0.out
def q93(L:List (List UInt8)):Prop:=L.length≤32∧(∀x∈L,w26 x=true)∧L.Nodup
theorem j212(A:Option Addr)(c:Nat)(L:List (List UInt8))(w:World)(hks:SpG encT 1 w A c L)(hl:L.length≤1000)(hx:∀x∈L,x.length≤300):Calls Tryz.prog 61 #[.slice A L.length c] w (w51 (q93 L) w):=by
 have HK:=Lib.hid hks;have HX:=Lib.hid hx;clear hks hx;by_cases h1:32<L.length;·
  have h1':(32:Int)<(L.length:Int):=by omega
  clear h1;go_enter Tryz.func61,Tryz.ntmps61;go_wp2_with fail;go_ret;exact j181 (Below.refl _ _)
 have h1':¬(32:Int)<(L.length:Int):=by omega
 have HL:Hid (L.length≤32):=by simp only[Hid];omega
 clear h1;go_enter Tryz.func61,Tryz.ntmps61;go_wp2_with fail;go_loopw[3,4](fun i _ wr=>∃k:Nat,k≤L.length∧i=.int .i64 (k:Int)∧(∀x∈L.take k,w26 x=true)∧(L.take k).Nodup∧Below w.heap.size w wr)(fun i _ _=>L.length-(intOf i).toNat);case atStart=>exact⟨0,Nat.zero_le _,rfl,by simp,by simp,Below.refl _ _⟩
 case round=>
  obtain⟨k,hk,rfl,hall,hnd,hbw⟩:=hrel;have HA:=Lib.hid hall;have HN:=Lib.hid hnd;have HB:=Lib.hid hbw;clear hall hnd hbw;by_cases hlt:k<L.length;·
   obtain⟨b,off,e,hb,hc⟩:=(HK.out.below HB.out).at' k hlt;have c0:=hc 0 _ rfl;have hxl:=HX.out _ (List.getElem_mem hlt);have HKY:=fun W=>Lib.hid (x111 L[k] W (by omega));have HALL:Hid (w26 L[k]=true→∀x∈L.take (k+1),w26 x=true):=by
    intro h x hx;rw[List.take_succ_eq_append_getElem hlt]at hx;rcases List.mem_append.1 hx with hx|hx;·exact HA.out x hx
    ·rw[List.mem_singleton.1 hx];exact h
   have HND:Hid (L[k]∉L.take k→(L.take (k+1)).Nodup):=by intro h;rw[List.take_succ_eq_append_getElem hlt];refine List.nodup_append.2 ⟨HN.out,by simp,?_⟩;intro a ha b hb2 hab;rw[List.mem_singleton.1 hb2]at hab;rw[hab]at ha;exact h ha
   obtain⟨x,hx⟩:∃x,L[k]=x:=⟨_,rfl⟩;rw[hx]at c0 HKY HALL HND;simp only[Nat.mul_one,Nat.add_zero]at c0;clear hc hxl HA HN;subst e;cases hky:w26 x with
    |false=>rw[hky]at HKY;clear hky HALL HND hx;go_wp2_with(go_at_call 104;refine(HKY _).out.mono ?_;rintro e w1⟨rfl,hw1⟩;obtain rfl:wr=w1:=hw1.symm);go_ret;exact j181 HB.out
    |true=>
     rw[hky]at HKY;have HF:=Lib.hid (HALL.out hky);have HXE:=Lib.hid hx;clear hky HALL hx;go_wp2_with(go_at_call 104;refine(HKY _).out.mono ?_;rintro e w1⟨rfl,hw1⟩;obtain rfl:wr=w1:=hw1.symm);go_loopw[4](fun j wq=>∃q:Nat,q≤k∧j=.int .i64 (q:Int)∧x∉L.take q∧Below w.heap.size w wq)(fun j _=>k-(intOf j).toNat);case atStart=>exact⟨0,Nat.zero_le _,rfl,by simp,HB.out⟩
     case round=>
      obtain⟨q,hq,rfl,hnx,hbq⟩:=hrel;have HBQ:=Lib.hid hbq;have HNX:=Lib.hid hnx;clear hnx hbq;by_cases hlq:q<k;·
       obtain⟨b',off',e',hb',hd⟩:=(HK.out.below HBQ.out).at' q (by omega);injection e' with e';injection e' with e1 e2;subst e1 e2;have d0:=hd 0 _ rfl;obtain⟨b',off',e',_,hd2⟩:=(HK.out.below HBQ.out).at' k hlt;injection e' with e';injection e' with e1 e2;subst e1 e2;have d1:=hd2 0 _ rfl;rw[HXE.out]at d1;have hlql:q<L.length:=by omega
       have HY:Hid (¬x=L[q]→x∉L.take (q+1)):=y111 hlql HNX.out;obtain⟨y,hy⟩:∃y,L[q]=y:=⟨_,rfl⟩;rw[hy]at d0 HY;simp only[Nat.mul_one,Nat.add_zero]at d0 d1;clear hd hd2 hy HNX c0;by_cases hxy:y=x;·
        have hb2:(y==x)=true:=by rw[hxy];exact beq_self_eq_true x
        clear HY hxy;go_wp2_with fail;go_quiet(fail);go_wp2_with fail;go_ret;exact j181 (q15 HBQ.out _)
       ·have hb2:(y==x)=false:=beq_eq_false_iff_ne.2 hxy;have HZ:=Lib.hid (HY.out (fun h=>hxy h.symm));clear HY hxy;go_wp2_with fail;go_quiet(fail);go_wp2_with fail;go_roundw;case rel=>exact⟨q+1,by omega,by go_num,HZ.out,q15 HBQ.out _⟩
        case measure=>simp[intOf];omega
      ·have hqk:q=k:=by omega
       have HZ:=Lib.hid (HND.out (by have:=HNX.out;rw[hqk]at this;exact this));clear HNX hqk HND;go_wp2_with fail;go_roundw;case rel=>exact⟨k+1,by omega,by go_num,HF.out,HZ.out,HBQ.out⟩
       case measure=>simp[intOf];omega
  ·have hke:k=L.length:=by omega
   have hA:=HA.out;have hN:=HN.out;rw[hke,List.take_length]at hA hN;have HV:Hid (q93 L):=⟨HL.out,hA,hN⟩;clear hA hN HA HN hke;go_wp2_with fail;go_ret;exact x97 HV.out HB.out
theorem z202(m:MetaL)(A:Option Addr)(c:Nat)(w:World)(hks:SpG encT 1 w A c m.keys)(hsm:j46 m):Calls Tryz.prog 16 #[j25 m A c] w (w51 (MetaOk m) w):=by
 have HK0:=Lib.hid hks;have HSM:=Lib.hid hsm;clear hks hsm;obtain⟨tg,wk,mo,ln,hv,fr,wh,er,ks,tn,kp⟩:=m;unfold j25;simp only at HK0⊢;have hsz:(⟨tg.toArray⟩:ByteArray).size=tg.length:=q19 tg;obtain⟨l1,l2,l3,l4⟩:=HSM.out;simp only at l1 l2 l3 l4;have HN:=fun W=>Lib.hid (y72 tg wk W);have HTR:=fun W=>Lib.hid (j37 tg wk W (by omega));have HTN:=fun W=>Lib.hid (w81 tn W (by omega));have HKY:=fun W h=>Lib.hid (j212 A c ks W h (by omega) l4);have HZ:Hid ((tg.isEmpty&&!wk)=true→tg=[]∧wk=false):=by intro h;rw[Bool.and_eq_true,Bool.not_eq_true']at h;exact⟨List.isEmpty_iff.1 h.1,h.2⟩
 obtain⟨z,hz⟩:∃z,(tg.isEmpty&&!wk)=z:=⟨_,rfl⟩;obtain⟨tk,htk⟩:∃z,j20 tg=z:=⟨_,rfl⟩;rw[hz]at HN HZ;rw[htk]at HTR;have HTK:=Lib.hid htk;clear hz htk l3 l4;go_enter Tryz.func16,Tryz.ntmps16;go_upto_region 1 with fail;obtain⟨W0,hW0⟩:∃W0,w.alloc (.cells #[.string ⟨tg.toArray⟩,.bool wk,.int .i64 mo,.int .i64 ln,.int .i64 hv,.int .i64 fr,.int .i64 wh,.int .i64 er,.slice A ks.length c,.string ⟨tn.toArray⟩,.bool kp] 45)=W0:=⟨_,rfl⟩;have HM0:Hid (W0.heap[w.heap.size]?=some (.cells #[.string ⟨tg.toArray⟩,.bool wk,.int .i64 mo,.int .i64 ln,.int .i64 hv,.int .i64 fr,.int .i64 wh,.int .i64 er,.slice A ks.length c,.string ⟨tn.toArray⟩,.bool kp] 45 (0,0))):=by simp only[Hid];rw[←hW0];exact j17 rfl
 have HB0:Hid (Below w.heap.size w W0):=by simp only[Hid];rw[←hW0];(repeat(first|exact Below.refl _ _|refine q15 ?_ _|refine x15 ?_|refine q11 ?_ _|refine w14 ?_ (by simp) _))
 rw[hW0];clear hW0;have v0:=bc 0 HM0.out rfl;have v1:=bc 1 HM0.out rfl;go_cut[13](fun s13 wx=>s13=.bool (!z&&!tk)∧wx.heap[w.heap.size]?=some (.cells #[.string ⟨tg.toArray⟩,.bool wk,.int .i64 mo,.int .i64 ln,.int .i64 hv,.int .i64 fr,.int .i64 wh,.int .i64 er,.slice A ks.length c,.string ⟨tn.toArray⟩,.bool kp] 45 (0,0))∧Below w.heap.size w wx);case first=>
  cases z with
   |true=>go_wp2_with(go_at_call 60;refine(HN _).out.mono ?_;rintro e w1⟨rfl,hb1⟩);go_meet;exact⟨rfl,j3 hb1 HM0.out,q12 hb1 HB0.out⟩
   |false=>go_wp2_with(first|(go_at_call 59;refine(HTR _).out.mono ?_;rintro e w2⟨rfl,hb2⟩)|(go_at_call 60;refine(HN _).out.mono ?_;rintro e w1⟨rfl,hb1⟩;have HM1:=Lib.hid (j3 hb1 HM0.out);have u0:=bc 0 HM1.out rfl;have u1:=bc 1 HM1.out rfl));go_meet;exact⟨rfl,j3 hb2 HM1.out,q12 hb2 (q12 hb1 HB0.out)⟩
 case rest=>
  obtain⟨rfl,hm,hb⟩:=hcut;have HM:=Lib.hid hm;have HB:=Lib.hid hb;have HK:=Lib.hid (HK0.out.below hb);clear hm hb v0 v1 HM0 HB0 HN HTR HK0;cases hzk:(!z&&!tk)with
   |true=>go_wp2_with fail;go_ret;exact j181 HB.out
   |false=>
    have HTG:Hid ((tg=[]∧wk=false)∨j20 tg=true):=by simp only[Hid];cases z with|true=>exact .inl (HZ.out rfl)|false=>right;rw[HTK.out];simpa using hzk
    clear HZ HTK hzk;go_wp2_with fail;go_loopw[3](fun i wr=>wr=wc∧∃k:Nat,k≤tg.length∧i=.int .i64 (k:Int))(fun i _=>tg.length-(intOf i).toNat);case atStart=>exact⟨rfl,0,Nat.zero_le _,rfl⟩
    case round=>
     obtain⟨rfl,k,hk,rfl⟩:=hrel;have v0:=bc 0 HM.out rfl;have v1:=bc 1 HM.out rfl;have v2:=bc 2 HM.out rfl;have v3:=bc 3 HM.out rfl;have v4:=bc 4 HM.out rfl;have v5:=bc 5 HM.out rfl;have v6:=bc 6 HM.out rfl;have v7:=bc 7 HM.out rfl;have v8:=bc 8 HM.out rfl;have v9:=bc 9 HM.out rfl;have vz:=q14 HM.out;by_cases hlt:k<tg.length;·
      obtain⟨cc,hcc⟩:∃cc,(⟨tg.toArray⟩:ByteArray)[k]'(by rw[hsz];exact hlt)=cc:=⟨_,rfl⟩;by_cases d1:126<cc.toNat;·
       have d1':(126:Int)<(cc.toNat:Int):=by omega
       clear d1;go_wp2_with fail;go_ret;exact j181 HB.out
      ·have d1':¬(126:Int)<(cc.toNat:Int):=by omega
       clear d1;go_wp2_with fail;go_roundw;case rel=>exact⟨by first|trivial|rfl,k+1,by omega,by go_num⟩
       case measure=>simp[intOf];omega
     ·by_cases e0:mo< -1;·go_wp2_with fail;go_ret;exact j181 HB.out
      by_cases e1:(253402300799:Int)<mo;·go_wp2_with fail;go_ret;exact j181 HB.out
      by_cases e2:ln< -1;·go_wp2_with fail;go_ret;exact j181 HB.out
      by_cases e3:(1099511627776:Int)<ln;·go_wp2_with fail;go_ret;exact j181 HB.out
      by_cases e4:hv<0;·go_wp2_with fail;go_ret;exact j181 HB.out
      by_cases e5:(1099511627776:Int)<hv;·go_wp2_with fail;go_ret;exact j181 HB.out
      have hcase:(¬(0:Int)≤ln)∨((0:Int)≤ln∧hv=ln)∨((0:Int)≤ln∧¬hv=ln):=by omega
      rcases hcase with h7|⟨h7,h8⟩|⟨h7,h8⟩;rotate_left 2;·
       have b8:(hv !=ln)=true:=by rw[bne_iff_ne];exact h8
       go_wp2_with fail;go_ret;exact j181 HB.out
      all_goals
       first|(have b8:(hv !=ln)=false:=by rw[bne_eq_false_iff_eq];exact h8)|skip
       have HEQ:Hid (ln=-1∨hv=ln):=by simp only[Hid];omega
       try clear h8
       by_cases g1:fr<0;·go_wp2_with fail;go_ret;exact j181 HB.out
       by_cases g2:(1099511627776:Int)<fr;·go_wp2_with fail;go_ret;exact j181 HB.out
       by_cases g3:wh<0;·go_wp2_with fail;go_ret;exact j181 HB.out
       by_cases g4:(1099511627776:Int)<wh;·go_wp2_with fail;go_ret;exact j181 HB.out
       by_cases g5:er<0;·go_wp2_with fail;go_ret;exact j181 HB.out
       by_cases g6:(1099511627776:Int)<er;·go_wp2_with fail;go_ret;exact j181 HB.out
       go_wp2_with fail;refine(HKY _ HK.out).out.mono ?_;rintro e w1⟨b,rfl,hq,hb1⟩;have HM1:=Lib.hid (j3 hb1 HM.out);have u9:=bc 9 HM1.out rfl;cases b with
        |false=>go_wp2_with fail;go_ret;exact j181 (q12 hb1 HB.out)
        |true=>
         have HQ:=Lib.hid (hq rfl);have HB1:=Lib.hid (q12 hb1 HB.out);clear hq hb1;have HMK:Hid (j42 tn=true→MetaOk ⟨tg,wk,mo,ln,hv,fr,wh,er,ks,tn,kp⟩):=by intro ht;exact⟨HTG.out,by simp only;omega,by simp only;omega,by simp only;omega,HEQ.out,by simp only;omega,by simp only;omega,by simp only;omega,HQ.out.1,HQ.out.2.1,HQ.out.2.2,ht⟩
         go_wp2_with fail;refine(HTN _).out.mono ?_;rintro e w2⟨rfl,hw2⟩;obtain rfl:w1=w2:=hw2.symm;go_wp2_with fail;go_ret;exact⟨_,rfl,HMK.out,HB1.out⟩
abbrev TagL:=List UInt8×Bool
def q27(t:TagL):List Value:=[.string ⟨t.1.toArray⟩,.bool t.2]
def k38(a b:TagL):Bool:=j20 a.1&&j20 b.1&&decide (a.1=b.1)
def k34(a b:TagL):Bool:=!a.2&&!b.2&&k38 a b
def oneT(s:Bool)(t x:TagL):Bool:=if s=true then k34 x t else k38 x t
def inT(T:List TagL)(t:TagL)(s:Bool):Bool:=T.any (oneT s t)
theorem y66{T:List TagL}{t:TagL}{s:Bool}{k:Nat}(hk:k<T.length)(h:inT (T.take k) t s=false)(h2:oneT s t T[k]=false):inT (T.take (k+1)) t s=false:=by unfold inT at*;rw[List.take_succ_eq_append_getElem hk,List.any_append,h];simp[h2]
theorem q79{T:List TagL}{t:TagL}{s:Bool}{k:Nat}(hk:k<T.length)(h2:oneT s t T[k]=true):inT T t s=true:=by unfold inT;rw[List.any_eq_true];exact⟨T[k],List.getElem_mem hk,h2⟩
theorem q135(a b:TagL):k38 a b=k38 b a:=by unfold k38;rw[show decide (a.1=b.1)=decide (b.1=a.1)by rw[decide_eq_decide];exact eq_comm,Bool.and_comm (j20 a.1)]
theorem q113(a b:TagL):k34 a b=k34 b a:=by unfold k34;rw[q135 a b,Bool.and_comm (!a.2)]
def w54(T:List TagL):Prop:=∀t∈T,t.1.length≤1000000
theorem k82(a b:List UInt8)(ak bk:Bool)(w:World)(ha:a.length≤1000000)(hb:b.length≤1000000):Calls Tryz.prog 133 #[.agg #[.string ⟨a.toArray⟩,.bool ak],.agg #[.string ⟨b.toArray⟩,.bool bk]] w fun e w'=>e=.returned (.bool (k38 (a,ak) (b,bk)))∧Below w.heap.size w w':=by
 have HA:=fun W=>Lib.hid (k39 a ak W ha);have HB:=fun W=>Lib.hid (k39 b bk W hb);have HV:Hid (k38 (a,ak) (b,bk)=(j20 a&&j20 b&&decide (a=b))):=rfl;obtain⟨V,hV⟩:∃V,k38 (a,ak) (b,bk)=V:=⟨_,rfl⟩;rw[hV]at HV⊢;clear hV;go_enter Tryz.func133,Tryz.ntmps133;go_upto_region 1 with fail;obtain⟨W0,hW0,X0,X1,HB0⟩:=box2 w #[.string ⟨a.toArray⟩,.bool ak] 25 #[.string ⟨b.toArray⟩,.bool bk] 25;rw[hW0];clear hW0;have v0:=bc 0 X0.out rfl;have v1:=bc 1 X0.out rfl;have vz:=q14 X0.out;have u0:=bc 0 X1.out rfl;have u1:=bc 1 X1.out rfl;have uz:=q14 X1.out;obtain⟨ta,hta⟩:∃x,j20 a=x:=⟨_,rfl⟩;rw[hta]at HA HV;clear hta;cases ta with
  |false=>go_wp2_with(go_at_call_of 65(Value.agg #[.string ⟨a.toArray⟩,.bool ak]);refine(HA _).out.mono ?_;rintro e w1⟨rfl,hb1⟩;have Y0:=Lib.hid (j3 hb1 X0.out);have Y1:=Lib.hid (j3 hb1 X1.out);have k0:=bc 0 Y0.out rfl;have k1:=bc 1 Y0.out rfl;have m0:=bc 0 Y1.out rfl;have m1:=bc 1 Y1.out rfl;have kz:=q14 Y0.out;have mz:=q14 Y1.out);go_ret;exact⟨by rw[HV.out];rfl,q12 hb1 HB0.out⟩
  |true=>
   obtain⟨tb,htb⟩:∃x,j20 b=x:=⟨_,rfl⟩;rw[htb]at HB HV;clear htb;cases tb with
    |false=>go_wp2_with(first|(go_at_call_of 65(Value.agg #[.string ⟨b.toArray⟩,.bool bk]);refine(HB _).out.mono ?_;rintro e w2⟨rfl,hb2⟩;have Z0:=Lib.hid (j3 hb2 Y0.out);have Z1:=Lib.hid (j3 hb2 Y1.out);have k0:=bc 0 Z0.out rfl;have m0:=bc 0 Z1.out rfl;have kz:=q14 Z0.out;have mz:=q14 Z1.out)|(go_at_call_of 65(Value.agg #[.string ⟨a.toArray⟩,.bool ak]);refine(HA _).out.mono ?_;rintro e w1⟨rfl,hb1⟩;have Y0:=Lib.hid (j3 hb1 X0.out);have Y1:=Lib.hid (j3 hb1 X1.out);have k0:=bc 0 Y0.out rfl;have k1:=bc 1 Y0.out rfl;have m0:=bc 0 Y1.out rfl;have m1:=bc 1 Y1.out rfl;have kz:=q14 Y0.out;have mz:=q14 Y1.out));go_ret;exact⟨by rw[HV.out];rfl,q12 hb2 (q12 hb1 HB0.out)⟩
    |true=>
     by_cases he:a=b;·
      have hq:(a==b)=true:=by rw[he];exact beq_self_eq_true b
      rw[decide_eq_true he]at HV;clear he;go_wp2_with(first|(go_at_call_of 65(Value.agg #[.string ⟨b.toArray⟩,.bool bk]);refine(HB _).out.mono ?_;rintro e w2⟨rfl,hb2⟩;have Z0:=Lib.hid (j3 hb2 Y0.out);have Z1:=Lib.hid (j3 hb2 Y1.out);have k0:=bc 0 Z0.out rfl;have m0:=bc 0 Z1.out rfl;have kz:=q14 Z0.out;have mz:=q14 Z1.out)|(go_at_call_of 65(Value.agg #[.string ⟨a.toArray⟩,.bool ak]);refine(HA _).out.mono ?_;rintro e w1⟨rfl,hb1⟩;have Y0:=Lib.hid (j3 hb1 X0.out);have Y1:=Lib.hid (j3 hb1 X1.out);have k0:=bc 0 Y0.out rfl;have k1:=bc 1 Y0.out rfl;have m0:=bc 0 Y1.out rfl;have m1:=bc 1 Y1.out rfl;have kz:=q14 Y0.out;have mz:=q14 Y1.out));go_ret;exact⟨by rw[HV.out];rfl,q12 hb2 (q12 hb1 HB0.out)⟩
     ·have hq:(a==b)=false:=beq_eq_false_iff_ne.2 he;rw[decide_eq_false he]at HV;clear he;go_wp2_with(first|(go_at_call_of 65(Value.agg #[.string ⟨b.toArray⟩,.bool bk]);refine(HB _).out.mono ?_;rintro e w2⟨rfl,hb2⟩;have Z0:=Lib.hid (j3 hb2 Y0.out);have Z1:=Lib.hid (j3 hb2 Y1.out);have k0:=bc 0 Z0.out rfl;have m0:=bc 0 Z1.out rfl;have kz:=q14 Z0.out;have mz:=q14 Z1.out)|(go_at_call_of 65(Value.agg #[.string ⟨a.toArray⟩,.bool ak]);refine(HA _).out.mono ?_;rintro e w1⟨rfl,hb1⟩;have Y0:=Lib.hid (j3 hb1 X0.out);have Y1:=Lib.hid (j3 hb1 X1.out);have k0:=bc 0 Y0.out rfl;have k1:=bc 1 Y0.out rfl;have m0:=bc 0 Y1.out rfl;have m1:=bc 1 Y1.out rfl;have kz:=q14 Y0.out;have mz:=q14 Y1.out));go_ret;exact⟨by rw[HV.out];rfl,q12 hb2 (q12 hb1 HB0.out)⟩
theorem q69(a b:List UInt8)(ak bk:Bool)(w:World)(ha:a.length≤1000000)(hb:b.length≤1000000):Calls Tryz.prog 75 #[.agg #[.string ⟨a.toArray⟩,.bool ak],.agg #[.string ⟨b.toArray⟩,.bool bk]] w fun e w'=>e=.returned (.bool (k34 (a,ak) (b,bk)))∧Below w.heap.size w w':=by
 have HW:=fun W=>Lib.hid (k82 a b ak bk W ha hb);have HV:Hid (k34 (a,ak) (b,bk)=(!ak&&!bk&&k38 (a,ak) (b,bk))):=rfl;obtain⟨V,hV⟩:∃V,k34 (a,ak) (b,bk)=V:=⟨_,rfl⟩;rw[hV]at HV⊢;obtain⟨U,hU⟩:∃U,k38 (a,ak) (b,bk)=U:=⟨_,rfl⟩;rw[hU]at HV HW;clear hV hU;go_enter Tryz.func75,Tryz.ntmps75;go_upto_region 1 with fail;obtain⟨W0,hW0,X0,X1,HB0⟩:=box2 w #[.string ⟨a.toArray⟩,.bool ak] 25 #[.string ⟨b.toArray⟩,.bool bk] 25;rw[hW0];clear hW0;have v0:=bc 0 X0.out rfl;have v1:=bc 1 X0.out rfl;have vz:=q14 X0.out;have u0:=bc 0 X1.out rfl;have u1:=bc 1 X1.out rfl;have uz:=q14 X1.out;cases ak<;>cases bk<;>cases U;all_goals go_wp2_with(go_at_call 133;refine(HW _).out.mono ?_;rintro e w1⟨rfl,hb1⟩;have Y0:=Lib.hid (j3 hb1 X0.out);have Y1:=Lib.hid (j3 hb1 X1.out);have k0:=bc 0 Y0.out rfl;have k1:=bc 1 Y0.out rfl;have m0:=bc 0 Y1.out rfl;have m1:=bc 1 Y1.out rfl;have kz:=q14 Y0.out;have mz:=q14 Y1.out);go_ret;exact⟨by rw[HV.out];rfl,by first|exact q12 hb1 HB0.out|exact HB0.out⟩
theorem tagIn_s(A:Option Addr)(c:Nat)(T:List TagL)(x:List UInt8)(xw:Bool)(w:World)(h:SpG q27 2 w A c T)(hl:T.length≤1000000)(hx:w54 T)(hxl:x.length≤1000000):Calls Tryz.prog 74 #[.slice A T.length c,.agg #[.string ⟨x.toArray⟩,.bool xw],.bool true] w fun e w'=>e=.returned (.bool (inT T (x,xw) true))∧Below w.heap.size w w':=by
 have HK:=Lib.hid h;have HX:=Lib.hid hx;have HXL:=Lib.hid hxl;clear h hx hxl;go_enter Tryz.func74,Tryz.ntmps74;go_upto_region 1 with fail;obtain⟨W0,hW0⟩:∃W,(w.alloc (.cells #[.string ⟨x.toArray⟩,.bool xw] 25))=W:=⟨_,rfl⟩;have X0:Hid (W0.heap[w.heap.size]?=some (.cells #[.string ⟨x.toArray⟩,.bool xw] 25 (0,0))):=by simp only[Hid];rw[←hW0];exact j17 rfl
 have HB0:Hid (Below w.heap.size w W0):=by simp only[Hid];rw[←hW0];exact q11 (Below.refl _ _) _
 rw[hW0];clear hW0;go_wp2_with fail;go_loopw[8,11](fun _ i wr=>∃k:Nat,k≤T.length∧i=.int .i64 (k:Int)∧inT (T.take k) (x,xw) true=false∧Below W0.heap.size W0 wr)(fun _ i _=>T.length-(intOf i).toNat);case atStart=>exact⟨0,Nat.zero_le _,rfl,rfl,Below.refl _ _⟩
 case round=>
  obtain⟨k,hk,rfl,hall,hbw⟩:=hrel;have HA:=Lib.hid hall;have HB:=Lib.hid hbw;clear hall hbw;have Y0:=Lib.hid (j3 HB.out X0.out);have v0:=bc 0 Y0.out rfl;have v1:=bc 1 Y0.out rfl;have vz:=q14 Y0.out;by_cases hlt:k<T.length;·
   obtain⟨b,off,e,hb,hc⟩:=((HK.out.below HB0.out).below HB.out).at' k hlt;have c0:=hc 0 _ rfl;have c1:=hc 1 _ rfl;have htl:=HX.out _ (List.getElem_mem hlt);have HS:=Lib.hid (fun h=>y66 (t:=(x,xw)) (s:=true) hlt HA.out h);have HY:=Lib.hid (fun h=>q79 (t:=(x,xw)) (s:=true) hlt h);obtain⟨⟨t,tw⟩,ht⟩:∃y,T[k]=y:=⟨_,rfl⟩;rw[ht]at c0 c1 HS HY htl;have HR:=fun W=>Lib.hid (q69 t x tw xw W htl HXL.out);simp only[Nat.add_zero]at c0 c1;clear hc ht htl HA;subst e;have HE:Hid (oneT true (x,xw) (t,tw)=k34 (t,tw) (x,xw)):=rfl;obtain⟨z,hz⟩:∃z,k34 (t,tw) (x,xw)=z:=⟨_,rfl⟩;rw[hz]at HR HE;clear hz;cases z with
    |true=>have HV:=Lib.hid (HY.out HE.out);clear HY HS;go_wp2_with(go_at_call 75;refine(HR _).out.mono ?_;rintro e w1⟨rfl,hb1⟩);go_ret;exact⟨by rw[HV.out];rfl,q12 (q12 hb1 (q11 HB.out _)) HB0.out⟩
    |false=>
     have HV:=Lib.hid (HS.out HE.out);clear HY HS;go_wp2_with(go_at_call 75;refine(HR _).out.mono ?_;rintro e w1⟨rfl,hb1⟩);go_roundw;case rel=>exact⟨k+1,by omega,by go_num,HV.out,q12 hb1 (q11 HB.out _)⟩
     case measure=>simp[intOf];omega
  ·have HV:Hid (inT T (x,xw) true=false):=by have h:=HA.out;rw[List.take_of_length_le (by omega)]at h;exact h
   clear HA;go_wp2_with fail;go_ret;exact⟨by rw[HV.out];rfl,q12 HB.out HB0.out⟩
theorem tagIn_w(A:Option Addr)(c:Nat)(T:List TagL)(x:List UInt8)(xw:Bool)(w:World)(h:SpG q27 2 w A c T)(hl:T.length≤1000000)(hx:w54 T)(hxl:x.length≤1000000):Calls Tryz.prog 74 #[.slice A T.length c,.agg #[.string ⟨x.toArray⟩,.bool xw],.bool false] w fun e w'=>e=.returned (.bool (inT T (x,xw) false))∧Below w.heap.size w w':=by
 have HK:=Lib.hid h;have HX:=Lib.hid hx;have HXL:=Lib.hid hxl;clear h hx hxl;go_enter Tryz.func74,Tryz.ntmps74;go_upto_region 1 with fail;obtain⟨W0,hW0⟩:∃W,(w.alloc (.cells #[.string ⟨x.toArray⟩,.bool xw] 25))=W:=⟨_,rfl⟩;have X0:Hid (W0.heap[w.heap.size]?=some (.cells #[.string ⟨x.toArray⟩,.bool xw] 25 (0,0))):=by simp only[Hid];rw[←hW0];exact j17 rfl
 have HB0:Hid (Below w.heap.size w W0):=by simp only[Hid];rw[←hW0];exact q11 (Below.refl _ _) _
 rw[hW0];clear hW0;go_wp2_with fail;go_loopw[8,11](fun _ i wr=>∃k:Nat,k≤T.length∧i=.int .i64 (k:Int)∧inT (T.take k) (x,xw) false=false∧Below W0.heap.size W0 wr)(fun _ i _=>T.length-(intOf i).toNat);case atStart=>exact⟨0,Nat.zero_le _,rfl,rfl,Below.refl _ _⟩
 case round=>
  obtain⟨k,hk,rfl,hall,hbw⟩:=hrel;have HA:=Lib.hid hall;have HB:=Lib.hid hbw;clear hall hbw;have Y0:=Lib.hid (j3 HB.out X0.out);have v0:=bc 0 Y0.out rfl;have v1:=bc 1 Y0.out rfl;have vz:=q14 Y0.out;by_cases hlt:k<T.length;·
   obtain⟨b,off,e,hb,hc⟩:=((HK.out.below HB0.out).below HB.out).at' k hlt;have c0:=hc 0 _ rfl;have c1:=hc 1 _ rfl;have htl:=HX.out _ (List.getElem_mem hlt);have HS:=Lib.hid (fun h=>y66 (t:=(x,xw)) (s:=false) hlt HA.out h);have HY:=Lib.hid (fun h=>q79 (t:=(x,xw)) (s:=false) hlt h);obtain⟨⟨t,tw⟩,ht⟩:∃y,T[k]=y:=⟨_,rfl⟩;rw[ht]at c0 c1 HS HY htl;have HR:=fun W=>Lib.hid (k82 t x tw xw W htl HXL.out);simp only[Nat.add_zero]at c0 c1;clear hc ht htl HA;subst e;have HE:Hid (oneT false (x,xw) (t,tw)=k38 (t,tw) (x,xw)):=rfl;obtain⟨z,hz⟩:∃z,k38 (t,tw) (x,xw)=z:=⟨_,rfl⟩;rw[hz]at HR HE;clear hz;cases z with
    |true=>have HV:=Lib.hid (HY.out HE.out);clear HY HS;go_wp2_with(go_at_call 133;refine(HR _).out.mono ?_;rintro e w1⟨rfl,hb1⟩);go_ret;exact⟨by rw[HV.out];rfl,q12 (q12 hb1 (q11 HB.out _)) HB0.out⟩
    |false=>
     have HV:=Lib.hid (HS.out HE.out);clear HY HS;go_wp2_with(go_at_call 133;refine(HR _).out.mono ?_;rintro e w1⟨rfl,hb1⟩);go_roundw;case rel=>exact⟨k+1,by omega,by go_num,HV.out,q12 hb1 (q11 HB.out _)⟩
     case measure=>simp[intOf];omega
  ·have HV:Hid (inT T (x,xw) false=false):=by have h:=HA.out;rw[List.take_of_length_le (by omega)]at h;exact h
   clear HA;go_wp2_with fail;go_ret;exact⟨by rw[HV.out];rfl,q12 HB.out HB0.out⟩
structure CondL where
 M:List TagL
 N:List TagL
 am:Bool
 an:Bool
 si:Int
 un:Int
 rt:List UInt8
 rw:Bool
structure ShortC(k:CondL):Prop where
 m:k.M.length≤1000000
 n:k.N.length≤1000000
 tm:w54 k.M
 tn:w54 k.N
 rt:k.rt.length≤1000000
theorem j30(l:List UInt8):(l=[]∧(l==[])=true)∨(¬l=[]∧(l==[])=false):=by cases l with|nil=>exact .inl ⟨rfl,rfl⟩|cons a r=>exact .inr ⟨by simp,rfl⟩
structure FewC(k:CondL):Prop where
 m:k.M.length≤40
 n:k.N.length≤40
 tm:∀t∈k.M,t.1.length≤400
 tn:∀t∈k.N,t.1.length≤400
 rt:k.rt.length≤400
theorem FewC.short{k:CondL}(h:FewC k):ShortC k:=⟨by have:=h.m;omega,by have:=h.n;omega,fun t ht=>by have:=h.tm t ht;omega,fun t ht=>by have:=h.tn t ht;omega,by have:=h.rt;omega⟩
end Go.Proofs.YtkkomffmnafjkaaGreatDoor
