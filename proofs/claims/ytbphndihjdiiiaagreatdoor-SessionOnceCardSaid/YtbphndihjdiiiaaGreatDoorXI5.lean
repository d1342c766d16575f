/- Contracts of tags, and of numbers of ticks. Contracts of the document's .. -/
import Derived.Test.YtbphndihjdiiiaaGreatDoorXI2
import Derived.Test.YtbphndihjdiiiaaGreatDoorXF0
import Derived.Test.YtbphndihjdiiiaaGreatDoorXE2
import Derived.Test.YtbphndihjdiiiaaGreatDoorXB11
import Derived.Deep.RegionHeld3
import Derived.BigQuiet
set_option maxHeartbeats 16000000
set_option maxRecDepth 100000
set_option linter.all false
namespace Go.Proofs.YtbphndihjdiiiaaGreatDoor
open Go.RowKit
theorem q34{f:UInt8→Bool}{l:List UInt8}{k:Nat}(hk:k<l.length)(h:(l.take k).all f=true)(h2:f l[k]=true):(l.take (k+1)).all f=true:=by rw[m_ hk,bq_,h];simp[h2]
theorem j41{f:UInt8→Bool}{l:List UInt8}{k:Nat}(hk:k<l.length)(h2:f l[k]=false):l.all f=false:=by rw[List.all_eq_false];exact⟨l[k],A_ hk,by rw[h2];simp⟩
def tagB(c:UInt8):Bool:=decide (33≤c.toNat)&&decide (c.toNat≤126)&&decide (c.toNat≠34)
theorem j45(l:List UInt8):j20 l=(decide (1≤l.length)&&decide (l.length≤100)&&l.all tagB):=rfl
theorem y110{l:List UInt8}(h:l.all tagB=false):j20 l=false:=by rw[j45,h,bz_]
theorem q101{l:List UInt8}(h1:1≤l.length)(h2:l.length≤100)(h:l.all tagB=true):j20 l=true:=by rw[j45,h];simp[h1,h2]
theorem k39(l:List UInt8)(wk:Bool)(w:World)(hl:l.length≤1000000):Calls Tryz.prog 115 #[.agg #[.string ⟨l.toArray⟩,.bool wk]] w fun e w'=>e=.returned (.bool (j20 l))∧Below w.heap.size w w':=by
 have hsz:(⟨l.toArray⟩:ByteArray).size=l.length:=q19 l;by_cases h1:l.length<1;·
  have HV:Hid (j20 l=false):=by simp only[Hid];rw[j45,j_ (by omega)];rfl
  have h1':(l.length:Int)<1:=by omega
  clear h1;go_enter Tryz.func115,Tryz.ntmps115;go_wp2_with fail;go_ret;exact⟨q17 HV.out.symm,by(repeat(first|exact c_ _ _|refine q15 ?_ _|refine x15 ?_|refine q11 ?_ _|refine w14 ?_ (by simp) _))⟩
 by_cases h2:100<l.length;·
  have HV:Hid (j20 l=false):=by simp only[Hid];rw[j45,j_ (show¬l.length≤100 by omega)];simp
  have h1':¬(l.length:Int)<1:=by omega
  have h2':(100:Int)<(l.length:Int):=by omega
  clear h1 h2;go_enter Tryz.func115,Tryz.ntmps115;go_wp2_with fail;go_ret;exact⟨q17 HV.out.symm,by(repeat(first|exact c_ _ _|refine q15 ?_ _|refine x15 ?_|refine q11 ?_ _|refine w14 ?_ (by simp) _))⟩
 have h1':¬(l.length:Int)<1:=by omega
 have h2':¬(100:Int)<(l.length:Int):=by omega
 have H12:Hid (1≤l.length∧l.length≤100):=by simp only[Hid];omega
 clear h1 h2;go_enter Tryz.func115,Tryz.ntmps115;go_wp2_with fail;go_loopw[3,4,18](fun _ _ i wr=>wr=w.alloc (.cells #[.string ⟨l.toArray⟩,.bool wk] 43)∧∃k:Nat,k≤l.length∧i=.int .i64 (k:Int)∧(l.take k).all tagB=true)(fun _ _ i _=>l.length-(intOf i).toNat);case atStart=>exact⟨rfl,0,s_ _,rfl,rfl⟩
 case round=>
  obtain⟨rfl,k,hk,rfl,hall⟩:=hrel;have HA:=a_ hall;clear hall;by_cases hlt:k<l.length;·
   have HS:=a_ (fun h=>q34 hlt HA.out h);have HN:=a_ (fun h=>y110 (j41 hlt h));obtain⟨c,hc⟩:∃c,(⟨l.toArray⟩:ByteArray)[k]'(by rw[hsz];exact hlt)=c:=⟨_,rfl⟩;have hcl:l[k]=c:=hc;rw[hcl]at HS HN;have hcb:c.toNat<256:=ay_ _;clear hcl HA;by_cases d1:c.toNat<33;·
    have HV:=a_ (HN.out (by unfold tagB;rw[j_ (show¬33≤c.toNat by omega)];rfl));have e1:(c.toNat:Int)<33:=by omega
    clear HN HS d1;go_wp2_with fail;go_ret;exact⟨q17 HV.out.symm,by(repeat(first|exact c_ _ _|refine q15 ?_ _|refine x15 ?_|refine q11 ?_ _|refine w14 ?_ (by simp) _))⟩
   have e1:¬(c.toNat:Int)<33:=by omega
   by_cases d2:c.toNat=34;·
    have HV:=a_ (HN.out (by unfold tagB;rw[j_ (show¬c.toNat≠34 by omega)];simp));have e2:(c.toNat:Int)=34:=by omega
    clear HN HS d1 d2;go_wp2_with fail;go_ret;exact⟨q17 HV.out.symm,by(repeat(first|exact c_ _ _|refine q15 ?_ _|refine x15 ?_|refine q11 ?_ _|refine w14 ?_ (by simp) _))⟩
   have e2:¬(c.toNat:Int)=34:=by omega
   by_cases d3:126<c.toNat;·
    have HV:=a_ (HN.out (by unfold tagB;rw[j_ (show¬c.toNat≤126 by omega)];simp));have e3:(126:Int)<(c.toNat:Int):=by omega
    clear HN HS d1 d2 d3;go_wp2_with fail;go_ret;exact⟨q17 HV.out.symm,by(repeat(first|exact c_ _ _|refine q15 ?_ _|refine x15 ?_|refine q11 ?_ _|refine w14 ?_ (by simp) _))⟩
   have e3:¬(126:Int)<(c.toNat:Int):=by omega
   have HV:=a_ (HS.out (by unfold tagB;rw[r_ (show 33≤c.toNat by omega),r_ (show c.toNat≤126 by omega),r_ d2];rfl));clear HN HS d1 d2 d3;go_wp2_with fail;go_roundw;case rel=>exact⟨by first|trivial|rfl,k+1,by omega,by go_num,HV.out⟩
   case measure=>simp[intOf];omega
  ·have HV:Hid (j20 l=true):=by have h:=HA.out;rw[t_ (by omega)]at h;exact q101 H12.out.1 H12.out.2 h
   go_wp2_with fail;go_ret;exact⟨q17 HV.out.symm,by(repeat(first|exact c_ _ _|refine q15 ?_ _|refine x15 ?_|refine q11 ?_ _|refine w14 ?_ (by simp) _))⟩
def j47(l:List UInt8)(wk:Bool):List UInt8:=if j20 l=true then tagT l wk else[]
theorem v120(l:List UInt8)(wk:Bool)(w:World)(hl:l.length≤900000):Calls Tryz.prog 180 #[.agg #[.string ⟨l.toArray⟩,.bool wk]] w fun e w'=>e=.returned (.string ⟨(j47 l wk).toArray⟩)∧Below w.heap.size w w':=by
 have HR:=fun W=>a_ (k39 l wk W (by omega));cases hok:j20 l;·
  have HV:Hid (j47 l wk=[]):=by simp[Hid,j47,hok]
  rw[hok]at HR;clear hok;go_enter Tryz.func180,Tryz.ntmps180;go_wp2_with fail;refine(HR _).out.mono ?_;rintro e w1⟨rfl,hb1⟩;have HB:Hid (Below w.heap.size w w1):=q12 hb1 (by(repeat(first|exact c_ _ _|refine q15 ?_ _|refine x15 ?_|refine q11 ?_ _|refine w14 ?_ (by simp) _)));clear hb1;go_wp2_with fail;go_ret;rw[HV.out];exact⟨rfl,HB.out⟩
 have HV:Hid (j47 l wk=tagT l wk):=by simp[Hid,j47,hok]
 rw[hok]at HR;have hc1:=catE (a:=[34]) (b:=l) (by simp;omega);have hc2:=catE (a:=[34]++l) (b:=[34]) (by simp;omega);have hc3:=catE (a:=[87,47]) (b:=[34]++l++[34]) (by simp;omega);cases wk;·have HT:Hid (tagT l false=[34]++l++[34]):=rfl;generalize[34]++l++[34]=d3 at hc2 hc3 HT;generalize[34]++l=d2 at hc1 hc2;clear hok;go_enter Tryz.func180,Tryz.ntmps180;go_wp2_with fail;refine(HR _).out.mono ?_;rintro e w1⟨rfl,hb1⟩;have v0:=x16 hb1 (show(w.alloc (.cells #[.string ⟨l.toArray⟩,.bool false] 43)).cell? ⟨w.heap.size,0,none⟩=some (.string ⟨l.toArray⟩)from bc 0 (j17 rfl) rfl);have v1:=x16 hb1 (show(w.alloc (.cells #[.string ⟨l.toArray⟩,.bool false] 43)).cell? ⟨w.heap.size,1,none⟩=some (.bool false)from bc 1 (j17 rfl) rfl);have HB:Hid (Below w.heap.size w w1):=q12 hb1 (by(repeat(first|exact c_ _ _|refine q15 ?_ _|refine x15 ?_|refine q11 ?_ _|refine w14 ?_ (by simp) _)));clear hb1;go_wp2_with fail;go_ret;rw[HV.out,HT.out];exact⟨rfl,HB.out⟩
 ·have HT:Hid (tagT l true=[87,47]++([34]++l++[34])):=rfl;generalize[87,47]++([34]++l++[34])=d4 at hc3 HT;generalize[34]++l++[34]=d3 at hc2 hc3;generalize[34]++l=d2 at hc1 hc2;clear hok;go_enter Tryz.func180,Tryz.ntmps180;go_wp2_with fail;refine(HR _).out.mono ?_;rintro e w1⟨rfl,hb1⟩;have v0:=x16 hb1 (show(w.alloc (.cells #[.string ⟨l.toArray⟩,.bool true] 43)).cell? ⟨w.heap.size,0,none⟩=some (.string ⟨l.toArray⟩)from bc 0 (j17 rfl) rfl);have v1:=x16 hb1 (show(w.alloc (.cells #[.string ⟨l.toArray⟩,.bool true] 43)).cell? ⟨w.heap.size,1,none⟩=some (.bool true)from bc 1 (j17 rfl) rfl);have HB:Hid (Below w.heap.size w w1):=q12 hb1 (by(repeat(first|exact c_ _ _|refine q15 ?_ _|refine x15 ?_|refine q11 ?_ _|refine w14 ?_ (by simp) _)));clear hb1;go_wp2_with fail;go_ret;rw[HV.out,HT.out];exact⟨rfl,HB.out⟩
theorem y65(n:Int)(w:World)(h0:0≤n)(h1:n≤1099511627776):Calls Tryz.prog 235 #[.int .i64 n] w fun e w'=>e=.returned (.int .i64 n)∧w'=w:=by
 have e1:max n 0=n:=by omega
 have e2:min n 1099511627776=n:=by omega
 go_enter Tryz.func235,Tryz.ntmps235;go_wp2_with fail;go_ret;exact⟨by first|rfl|(congr 2<;>omega),rfl⟩
theorem j37(l:List UInt8)(wk:Bool)(w:World)(hl:l.length≤1000000):Calls Tryz.prog 128 #[.agg #[.string ⟨l.toArray⟩,.bool wk]] w fun e w'=>e=.returned (.bool (j20 l))∧Below w.heap.size w w':=by
 have hsz:(⟨l.toArray⟩:ByteArray).size=l.length:=q19 l;by_cases h1:l.length<1;·
  have HV:Hid (j20 l=false):=by simp only[Hid];rw[j45,j_ (by omega)];rfl
  have h1':(l.length:Int)<1:=by omega
  clear h1;go_enter Tryz.func128,Tryz.ntmps128;go_wp2_with fail;go_ret;exact⟨q17 HV.out.symm,by(repeat(first|exact c_ _ _|refine q15 ?_ _|refine x15 ?_|refine q11 ?_ _|refine w14 ?_ (by simp) _))⟩
 by_cases h2:100<l.length;·
  have HV:Hid (j20 l=false):=by simp only[Hid];rw[j45,j_ (show¬l.length≤100 by omega)];simp
  have h1':¬(l.length:Int)<1:=by omega
  have h2':(100:Int)<(l.length:Int):=by omega
  clear h1 h2;go_enter Tryz.func128,Tryz.ntmps128;go_wp2_with fail;go_ret;exact⟨q17 HV.out.symm,by(repeat(first|exact c_ _ _|refine q15 ?_ _|refine x15 ?_|refine q11 ?_ _|refine w14 ?_ (by simp) _))⟩
 have h1':¬(l.length:Int)<1:=by omega
 have h2':¬(100:Int)<(l.length:Int):=by omega
 have H12:Hid (1≤l.length∧l.length≤100):=by simp only[Hid];omega
 clear h1 h2;go_enter Tryz.func128,Tryz.ntmps128;go_wp2_with fail;go_loopw[3,4](fun i _ wr=>wr=w.alloc (.cells #[.string ⟨l.toArray⟩,.bool wk] 43)∧∃k:Nat,k≤l.length∧i=.int .i64 (k:Int)∧(l.take k).all tagB=true)(fun i _ _=>l.length-(intOf i).toNat);case atStart=>exact⟨rfl,0,s_ _,rfl,rfl⟩
 case round=>
  obtain⟨rfl,k,hk,rfl,hall⟩:=hrel;have HA:=a_ hall;clear hall;by_cases hlt:k<l.length;·
   have HS:=a_ (fun h=>q34 hlt HA.out h);have HN:=a_ (fun h=>y110 (j41 hlt h));obtain⟨c,hc⟩:∃c,(⟨l.toArray⟩:ByteArray)[k]'(by rw[hsz];exact hlt)=c:=⟨_,rfl⟩;have hcl:l[k]=c:=hc;rw[hcl]at HS HN;have hcb:c.toNat<256:=ay_ _;clear hcl HA;by_cases d1:c.toNat<33;·
    have HV:=a_ (HN.out (by unfold tagB;rw[j_ (show¬33≤c.toNat by omega)];rfl));have e1:(c.toNat:Int)<33:=by omega
    clear HN HS d1;go_wp2_with fail;go_ret;exact⟨q17 HV.out.symm,by(repeat(first|exact c_ _ _|refine q15 ?_ _|refine x15 ?_|refine q11 ?_ _|refine w14 ?_ (by simp) _))⟩
   have e1:¬(c.toNat:Int)<33:=by omega
   by_cases d2:c.toNat=34;·
    have HV:=a_ (HN.out (by unfold tagB;rw[j_ (show¬c.toNat≠34 by omega)];simp));have e2:(c.toNat:Int)=34:=by omega
    clear HN HS d1 d2;go_wp2_with fail;go_ret;exact⟨q17 HV.out.symm,by(repeat(first|exact c_ _ _|refine q15 ?_ _|refine x15 ?_|refine q11 ?_ _|refine w14 ?_ (by simp) _))⟩
   have e2:¬(c.toNat:Int)=34:=by omega
   by_cases d3:126<c.toNat;·
    have HV:=a_ (HN.out (by unfold tagB;rw[j_ (show¬c.toNat≤126 by omega)];simp));have e3:(126:Int)<(c.toNat:Int):=by omega
    clear HN HS d1 d2 d3;go_wp2_with fail;go_ret;exact⟨q17 HV.out.symm,by(repeat(first|exact c_ _ _|refine q15 ?_ _|refine x15 ?_|refine q11 ?_ _|refine w14 ?_ (by simp) _))⟩
   have e3:¬(126:Int)<(c.toNat:Int):=by omega
   have HV:=a_ (HS.out (by unfold tagB;rw[r_ (show 33≤c.toNat by omega),r_ (show c.toNat≤126 by omega),r_ d2];rfl));clear HN HS d1 d2 d3;go_wp2_with fail;go_roundw;case rel=>exact⟨by first|trivial|rfl,k+1,by omega,by go_num,HV.out⟩
   case measure=>simp[intOf];omega
  ·have HV:Hid (j20 l=true):=by have h:=HA.out;rw[t_ (by omega)]at h;exact q101 H12.out.1 H12.out.2 h
   go_wp2_with fail;go_ret;exact⟨q17 HV.out.symm,by(repeat(first|exact c_ _ _|refine q15 ?_ _|refine x15 ?_|refine q11 ?_ _|refine w14 ?_ (by simp) _))⟩
def keyB(c:UInt8):Bool:=decide (33≤c.toNat)&&decide (c.toNat≤126)
theorem k51(l:List UInt8):w26 l=(decide (1≤l.length)&&decide (l.length≤200)&&l.all keyB):=rfl
theorem w110{l:List UInt8}(h:l.all keyB=false):w26 l=false:=by rw[k51,h,bz_]
theorem j146{l:List UInt8}(h1:1≤l.length)(h2:l.length≤200)(h:l.all keyB=true):w26 l=true:=by rw[k51,h];simp[h1,h2]
theorem w62(l:List UInt8)(w:World)(hl:l.length≤1000000):Calls Tryz.prog 118 #[.string ⟨l.toArray⟩] w fun e w'=>e=.returned (.bool (w26 l))∧w'=w:=by
 have hsz:(⟨l.toArray⟩:ByteArray).size=l.length:=q19 l;by_cases h1:l.length<1;·
  have HV:Hid (w26 l=false):=by simp only[Hid];rw[k51,j_ (by omega)];rfl
  have h1':(l.length:Int)<1:=by omega
  clear h1;go_enter Tryz.func118,Tryz.ntmps118;go_wp2_with fail;go_ret;exact⟨q17 HV.out.symm,rfl⟩
 by_cases h2:200<l.length;·
  have HV:Hid (w26 l=false):=by simp only[Hid];rw[k51,j_ (show¬l.length≤200 by omega)];simp
  have h1':¬(l.length:Int)<1:=by omega
  have h2':(200:Int)<(l.length:Int):=by omega
  clear h1 h2;go_enter Tryz.func118,Tryz.ntmps118;go_wp2_with fail;go_ret;exact⟨q17 HV.out.symm,rfl⟩
 have h1':¬(l.length:Int)<1:=by omega
 have h2':¬(200:Int)<(l.length:Int):=by omega
 have H12:Hid (1≤l.length∧l.length≤200):=by simp only[Hid];omega
 clear h1 h2;go_enter Tryz.func118,Tryz.ntmps118;go_wp2_with fail;go_loopw[3,14](fun _ i wr=>wr=w∧∃k:Nat,k≤l.length∧i=.int .i64 (k:Int)∧(l.take k).all keyB=true)(fun _ i _=>l.length-(intOf i).toNat);case atStart=>exact⟨rfl,0,s_ _,rfl,rfl⟩
 case round=>
  obtain⟨rfl,k,hk,rfl,hall⟩:=hrel;have HA:=a_ hall;clear hall;by_cases hlt:k<l.length;·
   have HS:=a_ (fun h=>q34 hlt HA.out h);have HN:=a_ (fun h=>w110 (j41 hlt h));obtain⟨c,hc⟩:∃c,(⟨l.toArray⟩:ByteArray)[k]'(by rw[hsz];exact hlt)=c:=⟨_,rfl⟩;have hcl:l[k]=c:=hc;rw[hcl]at HS HN;have hcb:c.toNat<256:=ay_ _;clear hcl HA;by_cases d1:c.toNat<33;·
    have HV:=a_ (HN.out (by unfold keyB;rw[j_ (show¬33≤c.toNat by omega)];rfl));have e1:(c.toNat:Int)<33:=by omega
    clear HN HS d1;go_wp2_with fail;go_ret;exact⟨q17 HV.out.symm,rfl⟩
   have e1:¬(c.toNat:Int)<33:=by omega
   by_cases d3:126<c.toNat;·
    have HV:=a_ (HN.out (by unfold keyB;rw[j_ (show¬c.toNat≤126 by omega)];simp));have e3:(126:Int)<(c.toNat:Int):=by omega
    clear HN HS d1 d3;go_wp2_with fail;go_ret;exact⟨q17 HV.out.symm,rfl⟩
   have e3:¬(126:Int)<(c.toNat:Int):=by omega
   have HV:=a_ (HS.out (by unfold keyB;rw[r_ (show 33≤c.toNat by omega),r_ (show c.toNat≤126 by omega)];rfl));clear HN HS d1 d3;go_wp2_with fail;go_roundw;case rel=>exact⟨by first|trivial|rfl,k+1,by omega,by go_num,HV.out⟩
   case measure=>simp[intOf];omega
  ·have HV:Hid (w26 l=true):=by have h:=HA.out;rw[t_ (by omega)]at h;exact j146 H12.out.1 H12.out.2 h
   go_wp2_with fail;go_ret;exact⟨q17 HV.out.symm,rfl⟩
theorem k146:∀(m:Nat)(n:Int)(w:World),n.toNat≤m→0≤n→n≤9223372036854775807→Calls Tryz.prog 252 #[.int .i64 n] w fun e w'=>e=.returned (.string ⟨(digN n).toArray⟩)∧Below w.heap.size w w':=by
 intro m;induction m with
  |zero=>
   intro n w hm h0 h1;obtain rfl:n=0:=by omega
   have HD:Hid (digN 0=[48]):=by simp only[Hid];rw[x181 (by omega) (by omega)];rfl
   have kc:=fun W=>q68 W 48 48 rfl;go_enter Tryz.func252,Tryz.ntmps252;go_wp2_with fail;go_ret;rw[HD.out];exact⟨rfl,q11 (c_ _ _) _⟩
  |succ m ih=>
   intro n w hm h0 h1;by_cases h10:n<10;·
    have hc:(48:Int)+n=((UInt8.ofNat (48+n.toNat)).toNat:Int):=by rw[y64 (by omega)];omega
    have HD:Hid (digN n=[UInt8.ofNat (48+n.toNat)]):=by simp only[Hid];rw[x181 h0 h10]
    obtain⟨c,hcc⟩:∃c,UInt8.ofNat (48+n.toNat)=c:=⟨_,rfl⟩;rw[hcc]at hc HD;have kc:=fun W=>q68 W c (c.toNat:Int) rfl;have hcb:(c.toNat:Int)<256:=by have:=ay_ c;omega
    clear hcc ih;go_enter Tryz.func252,Tryz.ntmps252;go_wp2_with fail;go_ret;rw[HD.out];exact⟨rfl,q11 (c_ _ _) _⟩
   ·have hmod:0≤n%10∧n%10<10:=by omega
    have HD:Hid (digN n=digN (n/10)++digN (n%10)):=by simp only[Hid];rw[q61 h10,x181 (n:=n%10) (by omega) (by omega)]
    have hdl:=w21 (n:=n/10) (by omega);have hdl2:=w21 (n:=n%10) (by omega);have hc1:=catE (a:=digN (n/10)) (b:=digN (n%10)) (by omega);have HI:=fun W=>a_ (ih (n/10) W (by omega) (by omega) (by omega));have HI2:=fun W=>a_ (ih (n%10) W (by omega) (by omega) (by omega));clear ih hdl hdl2;generalize digN (n%10)=d2 at HI2 HD hc1;generalize digN (n/10)=d1 at HI HD hc1;go_enter Tryz.func252,Tryz.ntmps252;go_wp2_with fail;refine(HI _).out.mono ?_;rintro e w1⟨rfl,hb1⟩;have HB:=a_ hb1;clear hb1 HI;go_wp2_with fail;refine(HI2 _).out.mono ?_;rintro e w2⟨rfl,hb2⟩;have HB2:=a_ (q12 hb2 HB.out);clear hb2 HI2 HB;go_wp2_with fail;go_ret;rw[HD.out];exact⟨rfl,HB2.out⟩
theorem q156(w:World):Calls Tryz.prog 286 #[] w fun e w'=>e=.returned (.int .i64 1099511627776)∧w'=w:=by go_enter Tryz.func286,Tryz.ntmps286;go_wp2_with fail;go_ret;exact⟨rfl,rfl⟩
theorem y127(n:Int)(w:World)(h1:n≤1099511627776):Calls Tryz.prog 253 #[.int .i64 n] w fun e w'=>e=.returned (.int .i64 n)∧w'=w:=by
 have e1:¬(1099511627776:Int)<n:=by omega
 go_enter Tryz.func253,Tryz.ntmps253;go_wp2_with(go_at_call 286;refine(q156 _).mono ?_;rintro e w1⟨rfl,rfl⟩);go_ret;exact⟨rfl,rfl⟩
theorem z111(n:Int)(w:World)(h0:0≤n)(h1:n≤1099511627776):Calls Tryz.prog 254 #[.int .i64 n] w fun e w'=>e=.returned (.int .i64 n)∧w'=w:=by
 have HC:=fun W=>a_ (y127 n W h1);have e1:¬n<0:=by omega
 go_enter Tryz.func254,Tryz.ntmps254;go_wp2_with(go_at_call 253;refine(HC _).out.mono ?_;rintro e w1⟨rfl,rfl⟩);go_ret;exact⟨rfl,rfl⟩
theorem q111(n:Int)(w:World)(h0:0≤n)(h1:n≤1099511627776):Calls Tryz.prog 255 #[.int .i64 n] w fun e w'=>e=.returned (.int .i64 (if n=0 then-1 else n))∧w'=w:=by
 have HC:=fun W=>a_ (z111 n W h0 h1);by_cases hn:n=0;·rw[B_ hn];subst hn;go_enter Tryz.func255,Tryz.ntmps255;go_wp2_with(go_at_call 254;refine(HC _).out.mono ?_;rintro e w1⟨rfl,rfl⟩);go_ret;exact⟨rfl,rfl⟩
 ·rw[w_ hn];go_enter Tryz.func255,Tryz.ntmps255;go_wp2_with(go_at_call 254;refine(HC _).out.mono ?_;rintro e w1⟨rfl,rfl⟩);go_ret;exact⟨rfl,rfl⟩
theorem k45(n:Int)(w:World):Calls Tryz.prog 116 #[.int .i64 n] w fun e w'=>e=.returned (.bool (k37 n))∧w'=w:=by
 by_cases h0:0≤n;·
  by_cases h1:n≤1099511627776;all_goals go_enter Tryz.func116,Tryz.ntmps116;go_wp2_with fail;go_ret;exact⟨by simp[k37,h0,h1],rfl⟩
 ·have h0':decide (0≤n)=false:=j_ h0;have HV:Hid (k37 n=false):=by simp only[Hid];unfold k37;rw[h0'];rfl
  go_enter Tryz.func116,Tryz.ntmps116;go_wp2_with fail;go_ret;exact⟨by rw[HV.out];simp;try omega,rfl⟩
theorem j111(l:List UInt8)(wk:Bool)(w:World)(hl:l.length≤900000):Calls Tryz.prog 194 #[.agg #[.string ⟨l.toArray⟩,.bool wk]] w fun e w'=>e=.returned (.string ⟨(j47 l wk).toArray⟩)∧Below w.heap.size w w':=by
 have HR:=fun W=>a_ (j37 l wk W (by omega));cases hok:j20 l;·
  have HV:Hid (j47 l wk=[]):=by simp[Hid,j47,hok]
  rw[hok]at HR;clear hok;go_enter Tryz.func194,Tryz.ntmps194;go_wp2_with fail;refine(HR _).out.mono ?_;rintro e w1⟨rfl,hb1⟩;have HB:Hid (Below w.heap.size w w1):=q12 hb1 (by(repeat(first|exact c_ _ _|refine q15 ?_ _|refine x15 ?_|refine q11 ?_ _|refine w14 ?_ (by simp) _)));clear hb1;go_wp2_with fail;go_ret;rw[HV.out];exact⟨rfl,HB.out⟩
 have HV:Hid (j47 l wk=tagT l wk):=by simp[Hid,j47,hok]
 rw[hok]at HR;have hc1:=catE (a:=[34]) (b:=l) (by simp;omega);have hc2:=catE (a:=[34]++l) (b:=[34]) (by simp;omega);have hc3:=catE (a:=[87,47,34]) (b:=l) (by simp;omega);have hc4:=catE (a:=[87,47,34]++l) (b:=[34]) (by simp;omega);cases wk;·have HT:Hid (tagT l false=[34]++l++[34]):=rfl;generalize[34]++l++[34]=d3 at hc2 HT;generalize[34]++l=d2 at hc1 hc2;clear hok hc3 hc4;go_enter Tryz.func194,Tryz.ntmps194;go_wp2_with fail;refine(HR _).out.mono ?_;rintro e w1⟨rfl,hb1⟩;have v0:=x16 hb1 (show(w.alloc (.cells #[.string ⟨l.toArray⟩,.bool false] 43)).cell? ⟨w.heap.size,0,none⟩=some (.string ⟨l.toArray⟩)from bc 0 (j17 rfl) rfl);have v1:=x16 hb1 (show(w.alloc (.cells #[.string ⟨l.toArray⟩,.bool false] 43)).cell? ⟨w.heap.size,1,none⟩=some (.bool false)from bc 1 (j17 rfl) rfl);have HB:Hid (Below w.heap.size w w1):=q12 hb1 (by(repeat(first|exact c_ _ _|refine q15 ?_ _|refine x15 ?_|refine q11 ?_ _|refine w14 ?_ (by simp) _)));clear hb1;go_wp2_with fail;go_ret;rw[HV.out,HT.out];exact⟨rfl,HB.out⟩
 ·have HT:Hid (tagT l true=[87,47,34]++l++[34]):=by simp[Hid,tagT]
  generalize[87,47,34]++l++[34]=d4 at hc4 HT;generalize[87,47,34]++l=d3 at hc3 hc4;clear hok hc1 hc2;go_enter Tryz.func194,Tryz.ntmps194;go_wp2_with fail;refine(HR _).out.mono ?_;rintro e w1⟨rfl,hb1⟩;have v0:=x16 hb1 (show(w.alloc (.cells #[.string ⟨l.toArray⟩,.bool true] 43)).cell? ⟨w.heap.size,0,none⟩=some (.string ⟨l.toArray⟩)from bc 0 (j17 rfl) rfl);have v1:=x16 hb1 (show(w.alloc (.cells #[.string ⟨l.toArray⟩,.bool true] 43)).cell? ⟨w.heap.size,1,none⟩=some (.bool true)from bc 1 (j17 rfl) rfl);have HB:Hid (Below w.heap.size w w1):=q12 hb1 (by(repeat(first|exact c_ _ _|refine q15 ?_ _|refine x15 ?_|refine q11 ?_ _|refine w14 ?_ (by simp) _)));clear hb1;go_wp2_with fail;go_ret;rw[HV.out,HT.out];exact⟨rfl,HB.out⟩
def y78(l:List UInt8):Bool:=decide (l.headD 0=45)
def tenB(c:UInt8):Bool:=w45 c||decide (c.toNat=45)||decide (c.toNat=95)
theorem x51(l:List UInt8):j42 l=(decide (l.length≤40)&&!decide (l.headD 0=45)&&l.all tenB):=rfl
theorem v111{l:List UInt8}(h:l.all tenB=false):j42 l=false:=by rw[x51,h,bz_]
theorem y92{l:List UInt8}(h:l.headD 0=45):j42 l=false:=by rw[x51,r_ h];simp
theorem x146{l:List UInt8}(h2:l.length≤40)(h3:l.headD 0≠45)(h:l.all tenB=true):j42 l=true:=by rw[x51,h,r_ h2,j_ h3];rfl
theorem tenB_0{c:UInt8}(h1:0≤c.toNat)(h2:c.toNat≤44):tenB c=false:=by rw[T_];unfold tenB w45;simp only[I_,q_,p_,ne_eq,not_or,bM_];omega
theorem w127{c:UInt8}(h1:45≤c.toNat)(h2:c.toNat≤45):tenB c=true:=by unfold tenB w45;simp only[I_,q_,p_];omega
theorem z128{c:UInt8}(h1:46≤c.toNat)(h2:c.toNat≤47):tenB c=false:=by rw[T_];unfold tenB w45;simp only[I_,q_,p_,ne_eq,not_or,bM_];omega
theorem q128{c:UInt8}(h1:48≤c.toNat)(h2:c.toNat≤57):tenB c=true:=by unfold tenB w45;simp only[I_,q_,p_];omega
theorem j128{c:UInt8}(h1:58≤c.toNat)(h2:c.toNat≤64):tenB c=false:=by rw[T_];unfold tenB w45;simp only[I_,q_,p_,ne_eq,not_or,bM_];omega
theorem v128{c:UInt8}(h1:65≤c.toNat)(h2:c.toNat≤90):tenB c=true:=by unfold tenB w45;simp only[I_,q_,p_];omega
theorem k128{c:UInt8}(h1:91≤c.toNat)(h2:c.toNat≤94):tenB c=false:=by rw[T_];unfold tenB w45;simp only[I_,q_,p_,ne_eq,not_or,bM_];omega
theorem x128{c:UInt8}(h1:95≤c.toNat)(h2:c.toNat≤95):tenB c=true:=by unfold tenB w45;simp only[I_,q_,p_];omega
theorem y128{c:UInt8}(h1:96≤c.toNat)(h2:c.toNat≤96):tenB c=false:=by rw[T_];unfold tenB w45;simp only[I_,q_,p_,ne_eq,not_or,bM_];omega
theorem w128{c:UInt8}(h1:97≤c.toNat)(h2:c.toNat≤122):tenB c=true:=by unfold tenB w45;simp only[I_,q_,p_];omega
theorem k111{c:UInt8}(h1:123≤c.toNat)(h2:c.toNat≤255):tenB c=false:=by rw[T_];unfold tenB w45;simp only[I_,q_,p_,ne_eq,not_or,bM_];omega
theorem j101(c:UInt8):(0≤c.toNat∧c.toNat≤44)∨(45≤c.toNat∧c.toNat≤45)∨(46≤c.toNat∧c.toNat≤47)∨(48≤c.toNat∧c.toNat≤57)∨(58≤c.toNat∧c.toNat≤64)∨(65≤c.toNat∧c.toNat≤90)∨(91≤c.toNat∧c.toNat≤94)∨(95≤c.toNat∧c.toNat≤95)∨(96≤c.toNat∧c.toNat≤96)∨(97≤c.toNat∧c.toNat≤122)∨(123≤c.toNat∧c.toNat≤255):=by have:=ay_ c;omega
theorem k120(l:List UInt8)(w:World)(hl:l.length≤1000000):Calls Tryz.prog 231 #[.string ⟨l.toArray⟩,.string ⟨#[45]⟩] w fun e w'=>e=.returned (.bool (y78 l))∧w'=w:=by
 have hsz:(⟨l.toArray⟩:ByteArray).size=l.length:=q19 l;cases l with
  |nil=>go_enter Tryz.func231,Tryz.ntmps231;go_wp2_with fail;go_ret;exact⟨rfl,rfl⟩
  |cons c r=>
   have hx:(⟨(c::r).toArray⟩:ByteArray).extract 0 1=⟨#[c]⟩:=by rw[z129];rfl
   have hr1:(1:Int)≤(((c::r).length:Nat):Int):=by simp only[g_];omega
   obtain⟨t,ht⟩:∃t,c::r=t:=⟨_,rfl⟩;have hh:Hid (y78 t=(c==45)):=by simp only[Hid,y78];rw[←ht];show decide (c=45)=(c==45);rw[ao_];simp
   rw[ht]at hx hr1 hsz hl⊢;have hr2:1≤t.length:=by omega
   clear ht;go_enter Tryz.func231,Tryz.ntmps231;go_wp2_with fail;go_ret;rw[hh.out];exact⟨rfl,rfl⟩
theorem q133(l:List UInt8)(w:World)(hl:l.length≤1000000):Calls Tryz.prog 177 #[.string ⟨l.toArray⟩,.string ⟨#[45]⟩] w fun e w'=>e=.returned (.bool (y78 l))∧w'=w:=by have HP:=fun W=>a_ (k120 l W hl);go_enter Tryz.func177,Tryz.ntmps177;go_wp2_with(go_at_call 231;refine(HP _).out.mono ?_;rintro e w1⟨rfl,rfl⟩);go_ret;exact⟨rfl,rfl⟩
theorem w92(l:List UInt8)(w:World)(hl:l.length≤1000000):Calls Tryz.prog 117 #[.string ⟨l.toArray⟩] w fun e w'=>e=.returned (.bool (j42 l))∧w'=w:=by
 have hsz:(⟨l.toArray⟩:ByteArray).size=l.length:=q19 l;have HP:=fun W=>a_ (q133 l W hl);by_cases h2:40<l.length;·
  have HV:Hid (j42 l=false):=by simp only[Hid];rw[x51,j_ (show¬l.length≤40 by omega)];rfl
  have h2':(40:Int)<(l.length:Int):=by omega
  clear h2;go_enter Tryz.func117,Tryz.ntmps117;go_wp2_with fail;go_ret;exact⟨q17 HV.out.symm,rfl⟩
 have h2':¬(40:Int)<(l.length:Int):=by omega
 by_cases h3:l.headD 0=45;·have HV:=a_ (y92 h3);rw[show y78 l=true from r_ h3]at HP;clear h2 h3;go_enter Tryz.func117,Tryz.ntmps117;go_wp2_with(go_at_call 177;refine(HP _).out.mono ?_;rintro e w1⟨rfl,rfl⟩);go_ret;exact⟨q17 HV.out.symm,rfl⟩
 have H3:=a_ h3;have H2:Hid (l.length≤40):=by simp only[Hid];omega
 rw[show y78 l=false from j_ h3]at HP;clear h2 h3;go_enter Tryz.func117,Tryz.ntmps117;go_wp2_with(go_at_call 177;refine(HP _).out.mono ?_;rintro e w1⟨rfl,hw1⟩;obtain rfl:w=w1:=hw1.symm);go_loopw[3,4,5,15](fun _ _ _ i wr=>wr=w∧∃k:Nat,k≤l.length∧i=.int .i64 (k:Int)∧(l.take k).all tenB=true)(fun _ _ _ i _=>l.length-(intOf i).toNat);case atStart=>exact⟨rfl,0,s_ _,rfl,rfl⟩
 case round=>
  obtain⟨rfl,k,hk,rfl,hall⟩:=hrel;have HA:=a_ hall;clear hall;by_cases hlt:k<l.length;·
   have HS:=a_ (fun h=>q34 hlt HA.out h);have HN:=a_ (fun h=>v111 (j41 hlt h));obtain⟨c,hc⟩:∃c,(⟨l.toArray⟩:ByteArray)[k]'(by rw[hsz];exact hlt)=c:=⟨_,rfl⟩;have hcl:l[k]=c:=hc;rw[hcl]at HS HN;clear hcl HA;rcases j101 c with⟨hc1,hc2⟩|⟨hc1,hc2⟩|⟨hc1,hc2⟩|⟨hc1,hc2⟩|⟨hc1,hc2⟩|⟨hc1,hc2⟩|⟨hc1,hc2⟩|⟨hc1,hc2⟩|⟨hc1,hc2⟩|⟨hc1,hc2⟩|⟨hc1,hc2⟩;·
    have HT:=a_ (tenB_0 hc1 hc2);have f0:¬(97:Int)≤(c.toNat:Int):=by omega
    have f1:(c.toNat:Int)≤122:=by omega
    have f2:¬(65:Int)≤(c.toNat:Int):=by omega
    have f3:(c.toNat:Int)≤90:=by omega
    have f4:¬(48:Int)≤(c.toNat:Int):=by omega
    have f5:(c.toNat:Int)≤57:=by omega
    have g45:((c.toNat:Int)!=45)=true:=by rw[y_];omega
    have g95:((c.toNat:Int)!=95)=true:=by rw[y_];omega
    have HV:=a_ (HN.out HT.out);clear HN HS HT;clear hc1 hc2;go_wp2_with fail;go_ret;exact⟨q17 HV.out.symm,rfl⟩
   ·have HT:=a_ (w127 hc1 hc2);have f0:¬(97:Int)≤(c.toNat:Int):=by omega
    have f1:(c.toNat:Int)≤122:=by omega
    have f2:¬(65:Int)≤(c.toNat:Int):=by omega
    have f3:(c.toNat:Int)≤90:=by omega
    have f4:¬(48:Int)≤(c.toNat:Int):=by omega
    have f5:(c.toNat:Int)≤57:=by omega
    have g45:((c.toNat:Int)!=45)=false:=by rw[C_];omega
    have g95:((c.toNat:Int)!=95)=true:=by rw[y_];omega
    have HV:=a_ (HS.out HT.out);clear HN HS HT;clear hc1 hc2;go_wp2_with fail;go_roundw;case rel=>exact⟨by first|trivial|rfl,k+1,by omega,by go_num,HV.out⟩
    case measure=>simp[intOf];omega
   ·have HT:=a_ (z128 hc1 hc2);have f0:¬(97:Int)≤(c.toNat:Int):=by omega
    have f1:(c.toNat:Int)≤122:=by omega
    have f2:¬(65:Int)≤(c.toNat:Int):=by omega
    have f3:(c.toNat:Int)≤90:=by omega
    have f4:¬(48:Int)≤(c.toNat:Int):=by omega
    have f5:(c.toNat:Int)≤57:=by omega
    have g45:((c.toNat:Int)!=45)=true:=by rw[y_];omega
    have g95:((c.toNat:Int)!=95)=true:=by rw[y_];omega
    have HV:=a_ (HN.out HT.out);clear HN HS HT;clear hc1 hc2;go_wp2_with fail;go_ret;exact⟨q17 HV.out.symm,rfl⟩
   ·have HT:=a_ (q128 hc1 hc2);have f0:¬(97:Int)≤(c.toNat:Int):=by omega
    have f1:(c.toNat:Int)≤122:=by omega
    have f2:¬(65:Int)≤(c.toNat:Int):=by omega
    have f3:(c.toNat:Int)≤90:=by omega
    have f4:(48:Int)≤(c.toNat:Int):=by omega
    have f5:(c.toNat:Int)≤57:=by omega
    have g45:((c.toNat:Int)!=45)=true:=by rw[y_];omega
    have g95:((c.toNat:Int)!=95)=true:=by rw[y_];omega
    have HV:=a_ (HS.out HT.out);clear HN HS HT;clear hc1 hc2;go_wp2_with fail;go_roundw;case rel=>exact⟨by first|trivial|rfl,k+1,by omega,by go_num,HV.out⟩
    case measure=>simp[intOf];omega
   ·have HT:=a_ (j128 hc1 hc2);have f0:¬(97:Int)≤(c.toNat:Int):=by omega
    have f1:(c.toNat:Int)≤122:=by omega
    have f2:¬(65:Int)≤(c.toNat:Int):=by omega
    have f3:(c.toNat:Int)≤90:=by omega
    have f4:(48:Int)≤(c.toNat:Int):=by omega
    have f5:¬(c.toNat:Int)≤57:=by omega
    have g45:((c.toNat:Int)!=45)=true:=by rw[y_];omega
    have g95:((c.toNat:Int)!=95)=true:=by rw[y_];omega
    have HV:=a_ (HN.out HT.out);clear HN HS HT;clear hc1 hc2;go_wp2_with fail;go_ret;exact⟨q17 HV.out.symm,rfl⟩
   ·have HT:=a_ (v128 hc1 hc2);have f0:¬(97:Int)≤(c.toNat:Int):=by omega
    have f1:(c.toNat:Int)≤122:=by omega
    have f2:(65:Int)≤(c.toNat:Int):=by omega
    have f3:(c.toNat:Int)≤90:=by omega
    have f4:(48:Int)≤(c.toNat:Int):=by omega
    have f5:¬(c.toNat:Int)≤57:=by omega
    have g45:((c.toNat:Int)!=45)=true:=by rw[y_];omega
    have g95:((c.toNat:Int)!=95)=true:=by rw[y_];omega
    have HV:=a_ (HS.out HT.out);clear HN HS HT;clear hc1 hc2;go_wp2_with fail;go_roundw;case rel=>exact⟨by first|trivial|rfl,k+1,by omega,by go_num,HV.out⟩
    case measure=>simp[intOf];omega
   ·have HT:=a_ (k128 hc1 hc2);have f0:¬(97:Int)≤(c.toNat:Int):=by omega
    have f1:(c.toNat:Int)≤122:=by omega
    have f2:(65:Int)≤(c.toNat:Int):=by omega
    have f3:¬(c.toNat:Int)≤90:=by omega
    have f4:(48:Int)≤(c.toNat:Int):=by omega
    have f5:¬(c.toNat:Int)≤57:=by omega
    have g45:((c.toNat:Int)!=45)=true:=by rw[y_];omega
    have g95:((c.toNat:Int)!=95)=true:=by rw[y_];omega
    have HV:=a_ (HN.out HT.out);clear HN HS HT;clear hc1 hc2;go_wp2_with fail;go_ret;exact⟨q17 HV.out.symm,rfl⟩
   ·have HT:=a_ (x128 hc1 hc2);have f0:¬(97:Int)≤(c.toNat:Int):=by omega
    have f1:(c.toNat:Int)≤122:=by omega
    have f2:(65:Int)≤(c.toNat:Int):=by omega
    have f3:¬(c.toNat:Int)≤90:=by omega
    have f4:(48:Int)≤(c.toNat:Int):=by omega
    have f5:¬(c.toNat:Int)≤57:=by omega
    have g45:((c.toNat:Int)!=45)=true:=by rw[y_];omega
    have g95:((c.toNat:Int)!=95)=false:=by rw[C_];omega
    have HV:=a_ (HS.out HT.out);clear HN HS HT;clear hc1 hc2;go_wp2_with fail;go_roundw;case rel=>exact⟨by first|trivial|rfl,k+1,by omega,by go_num,HV.out⟩
    case measure=>simp[intOf];omega
   ·have HT:=a_ (y128 hc1 hc2);have f0:¬(97:Int)≤(c.toNat:Int):=by omega
    have f1:(c.toNat:Int)≤122:=by omega
    have f2:(65:Int)≤(c.toNat:Int):=by omega
    have f3:¬(c.toNat:Int)≤90:=by omega
    have f4:(48:Int)≤(c.toNat:Int):=by omega
    have f5:¬(c.toNat:Int)≤57:=by omega
    have g45:((c.toNat:Int)!=45)=true:=by rw[y_];omega
    have g95:((c.toNat:Int)!=95)=true:=by rw[y_];omega
    have HV:=a_ (HN.out HT.out);clear HN HS HT;clear hc1 hc2;go_wp2_with fail;go_ret;exact⟨q17 HV.out.symm,rfl⟩
   ·have HT:=a_ (w128 hc1 hc2);have f0:(97:Int)≤(c.toNat:Int):=by omega
    have f1:(c.toNat:Int)≤122:=by omega
    have f2:(65:Int)≤(c.toNat:Int):=by omega
    have f3:¬(c.toNat:Int)≤90:=by omega
    have f4:(48:Int)≤(c.toNat:Int):=by omega
    have f5:¬(c.toNat:Int)≤57:=by omega
    have g45:((c.toNat:Int)!=45)=true:=by rw[y_];omega
    have g95:((c.toNat:Int)!=95)=true:=by rw[y_];omega
    have HV:=a_ (HS.out HT.out);clear HN HS HT;clear hc1 hc2;go_wp2_with fail;go_roundw;case rel=>exact⟨by first|trivial|rfl,k+1,by omega,by go_num,HV.out⟩
    case measure=>simp[intOf];omega
   ·have HT:=a_ (k111 hc1 hc2);have f0:(97:Int)≤(c.toNat:Int):=by omega
    have f1:¬(c.toNat:Int)≤122:=by omega
    have f2:(65:Int)≤(c.toNat:Int):=by omega
    have f3:¬(c.toNat:Int)≤90:=by omega
    have f4:(48:Int)≤(c.toNat:Int):=by omega
    have f5:¬(c.toNat:Int)≤57:=by omega
    have g45:((c.toNat:Int)!=45)=true:=by rw[y_];omega
    have g95:((c.toNat:Int)!=95)=true:=by rw[y_];omega
    have HV:=a_ (HN.out HT.out);clear HN HS HT;clear hc1 hc2;go_wp2_with fail;go_ret;exact⟨q17 HV.out.symm,rfl⟩
  ·have HV:Hid (j42 l=true):=by have h:=HA.out;rw[t_ (by omega)]at h;exact x146 H2.out H3.out h
   go_wp2_with fail;go_ret;exact⟨q17 HV.out.symm,rfl⟩
theorem w81(l:List UInt8)(w:World)(hl:l.length≤1000000):Calls Tryz.prog 130 #[.string ⟨l.toArray⟩] w fun e w'=>e=.returned (.bool (j42 l))∧w'=w:=by
 have hsz:(⟨l.toArray⟩:ByteArray).size=l.length:=q19 l;go_enter Tryz.func130,Tryz.ntmps130;go_wp2_with fail;go_loopw[3,4](fun i _ wr=>wr=w∧∃k:Nat,k≤l.length∧i=.int .i64 (k:Int)∧(l.take k).all tenB=true∧(0<k→l.headD 0≠45))(fun i _ _=>l.length-(intOf i).toNat);case atStart=>exact⟨rfl,0,s_ _,rfl,rfl,fun h=>absurd h (by omega)⟩
 case round=>
  obtain⟨rfl,k,hk,rfl,hall,hz⟩:=hrel;have HA:=a_ hall;clear hall;have HA2:=a_ hz;clear hz;by_cases hlt:k<l.length;·
   have HS:=a_ (fun h=>q34 hlt HA.out h);have HN:=a_ (fun h=>v111 (j41 hlt h));have HH0:Hid (k=0→l.headD 0=l[k]):=by intro hk0;subst hk0;cases l with|nil=>simp at hlt|cons a b=>rfl
   obtain⟨c,hc⟩:∃c,(⟨l.toArray⟩:ByteArray)[k]'(by rw[hsz];exact hlt)=c:=⟨_,rfl⟩;have hcl:l[k]=c:=hc;rw[hcl]at HS HN HH0;clear hcl HA;rcases j101 c with⟨hc1,hc2⟩|⟨hc1,hc2⟩|⟨hc1,hc2⟩|⟨hc1,hc2⟩|⟨hc1,hc2⟩|⟨hc1,hc2⟩|⟨hc1,hc2⟩|⟨hc1,hc2⟩|⟨hc1,hc2⟩|⟨hc1,hc2⟩|⟨hc1,hc2⟩;·
    have HT:=a_ (tenB_0 hc1 hc2);have f0:(c.toNat:Int)<97:=by omega
    have f1:¬(122:Int)<(c.toNat:Int):=by omega
    have f2:(c.toNat:Int)<65:=by omega
    have f3:¬(90:Int)<(c.toNat:Int):=by omega
    have f4:(c.toNat:Int)<48:=by omega
    have f5:¬(57:Int)<(c.toNat:Int):=by omega
    have g45:((c.toNat:Int)!=45)=true:=by rw[y_];omega
    have g95:((c.toNat:Int)!=95)=true:=by rw[y_];omega
    have HV:=a_ (HN.out HT.out);clear HN HS HT;clear hc1 hc2;go_wp2_with fail;go_ret;exact⟨q17 HV.out.symm,rfl⟩
   ·have HT:=a_ (w127 hc1 hc2);have f0:(c.toNat:Int)<97:=by omega
    have f1:¬(122:Int)<(c.toNat:Int):=by omega
    have f2:(c.toNat:Int)<65:=by omega
    have f3:¬(90:Int)<(c.toNat:Int):=by omega
    have f4:(c.toNat:Int)<48:=by omega
    have f5:¬(57:Int)<(c.toNat:Int):=by omega
    have g45:((c.toNat:Int)!=45)=false:=by rw[C_];omega
    have g95:((c.toNat:Int)!=95)=true:=by rw[y_];omega
    have HV:=a_ (HS.out HT.out);by_cases hk0:k=0;·have HV9:Hid (j42 l=false):=y92 (by rw[HH0.out hk0];exact UInt8.toNat_inj.1 (by show c.toNat=45;omega));subst hk0;clear HN HS HT HH0 HA2;clear hc1 hc2;go_wp2_with fail;go_ret;exact⟨q17 HV9.out.symm,rfl⟩
    ·have HZ:Hid (0<k+1→l.headD 0≠45):=fun _=>HA2.out (by omega);have hk0':¬(k:Int)=0:=by omega
     clear HN HS HT HH0 HA2;clear hc1 hc2;go_wp2_with fail;go_roundw;case rel=>exact⟨by first|trivial|rfl,k+1,by omega,by go_num,HV.out,HZ.out⟩
     case measure=>simp[intOf];omega
   ·have HT:=a_ (z128 hc1 hc2);have f0:(c.toNat:Int)<97:=by omega
    have f1:¬(122:Int)<(c.toNat:Int):=by omega
    have f2:(c.toNat:Int)<65:=by omega
    have f3:¬(90:Int)<(c.toNat:Int):=by omega
    have f4:(c.toNat:Int)<48:=by omega
    have f5:¬(57:Int)<(c.toNat:Int):=by omega
    have g45:((c.toNat:Int)!=45)=true:=by rw[y_];omega
    have g95:((c.toNat:Int)!=95)=true:=by rw[y_];omega
    have HV:=a_ (HN.out HT.out);clear HN HS HT;clear hc1 hc2;go_wp2_with fail;go_ret;exact⟨q17 HV.out.symm,rfl⟩
   ·have HT:=a_ (q128 hc1 hc2);have f0:(c.toNat:Int)<97:=by omega
    have f1:¬(122:Int)<(c.toNat:Int):=by omega
    have f2:(c.toNat:Int)<65:=by omega
    have f3:¬(90:Int)<(c.toNat:Int):=by omega
    have f4:¬(c.toNat:Int)<48:=by omega
    have f5:¬(57:Int)<(c.toNat:Int):=by omega
    have g45:((c.toNat:Int)!=45)=true:=by rw[y_];omega
    have g95:((c.toNat:Int)!=95)=true:=by rw[y_];omega
    have HV:=a_ (HS.out HT.out);have HZ:Hid (0<k+1→l.headD 0≠45):=by
     intro _;by_cases hk0:k=0;·rw[HH0.out hk0];intro e;rw[e]at hc1 hc2;revert hc1 hc2;decide
     ·exact HA2.out (by omega)
    clear HN HS HT HH0 HA2;clear hc1 hc2;go_wp2_with fail;go_roundw;case rel=>exact⟨by first|trivial|rfl,k+1,by omega,by go_num,HV.out,HZ.out⟩
    case measure=>simp[intOf];omega
   ·have HT:=a_ (j128 hc1 hc2);have f0:(c.toNat:Int)<97:=by omega
    have f1:¬(122:Int)<(c.toNat:Int):=by omega
    have f2:(c.toNat:Int)<65:=by omega
    have f3:¬(90:Int)<(c.toNat:Int):=by omega
    have f4:¬(c.toNat:Int)<48:=by omega
    have f5:(57:Int)<(c.toNat:Int):=by omega
    have g45:((c.toNat:Int)!=45)=true:=by rw[y_];omega
    have g95:((c.toNat:Int)!=95)=true:=by rw[y_];omega
    have HV:=a_ (HN.out HT.out);clear HN HS HT;clear hc1 hc2;go_wp2_with fail;go_ret;exact⟨q17 HV.out.symm,rfl⟩
   ·have HT:=a_ (v128 hc1 hc2);have f0:(c.toNat:Int)<97:=by omega
    have f1:¬(122:Int)<(c.toNat:Int):=by omega
    have f2:¬(c.toNat:Int)<65:=by omega
    have f3:¬(90:Int)<(c.toNat:Int):=by omega
    have f4:¬(c.toNat:Int)<48:=by omega
    have f5:(57:Int)<(c.toNat:Int):=by omega
    have g45:((c.toNat:Int)!=45)=true:=by rw[y_];omega
    have g95:((c.toNat:Int)!=95)=true:=by rw[y_];omega
    have HV:=a_ (HS.out HT.out);have HZ:Hid (0<k+1→l.headD 0≠45):=by
     intro _;by_cases hk0:k=0;·rw[HH0.out hk0];intro e;rw[e]at hc1 hc2;revert hc1 hc2;decide
     ·exact HA2.out (by omega)
    clear HN HS HT HH0 HA2;clear hc1 hc2;go_wp2_with fail;go_roundw;case rel=>exact⟨by first|trivial|rfl,k+1,by omega,by go_num,HV.out,HZ.out⟩
    case measure=>simp[intOf];omega
   ·have HT:=a_ (k128 hc1 hc2);have f0:(c.toNat:Int)<97:=by omega
    have f1:¬(122:Int)<(c.toNat:Int):=by omega
    have f2:¬(c.toNat:Int)<65:=by omega
    have f3:(90:Int)<(c.toNat:Int):=by omega
    have f4:¬(c.toNat:Int)<48:=by omega
    have f5:(57:Int)<(c.toNat:Int):=by omega
    have g45:((c.toNat:Int)!=45)=true:=by rw[y_];omega
    have g95:((c.toNat:Int)!=95)=true:=by rw[y_];omega
    have HV:=a_ (HN.out HT.out);clear HN HS HT;clear hc1 hc2;go_wp2_with fail;go_ret;exact⟨q17 HV.out.symm,rfl⟩
   ·have HT:=a_ (x128 hc1 hc2);have f0:(c.toNat:Int)<97:=by omega
    have f1:¬(122:Int)<(c.toNat:Int):=by omega
    have f2:¬(c.toNat:Int)<65:=by omega
    have f3:(90:Int)<(c.toNat:Int):=by omega
    have f4:¬(c.toNat:Int)<48:=by omega
    have f5:(57:Int)<(c.toNat:Int):=by omega
    have g45:((c.toNat:Int)!=45)=true:=by rw[y_];omega
    have g95:((c.toNat:Int)!=95)=false:=by rw[C_];omega
    have HV:=a_ (HS.out HT.out);have HZ:Hid (0<k+1→l.headD 0≠45):=by
     intro _;by_cases hk0:k=0;·rw[HH0.out hk0];intro e;rw[e]at hc1 hc2;revert hc1 hc2;decide
     ·exact HA2.out (by omega)
    clear HN HS HT HH0 HA2;clear hc1 hc2;go_wp2_with fail;go_roundw;case rel=>exact⟨by first|trivial|rfl,k+1,by omega,by go_num,HV.out,HZ.out⟩
    case measure=>simp[intOf];omega
   ·have HT:=a_ (y128 hc1 hc2);have f0:(c.toNat:Int)<97:=by omega
    have f1:¬(122:Int)<(c.toNat:Int):=by omega
    have f2:¬(c.toNat:Int)<65:=by omega
    have f3:(90:Int)<(c.toNat:Int):=by omega
    have f4:¬(c.toNat:Int)<48:=by omega
    have f5:(57:Int)<(c.toNat:Int):=by omega
    have g45:((c.toNat:Int)!=45)=true:=by rw[y_];omega
    have g95:((c.toNat:Int)!=95)=true:=by rw[y_];omega
    have HV:=a_ (HN.out HT.out);clear HN HS HT;clear hc1 hc2;go_wp2_with fail;go_ret;exact⟨q17 HV.out.symm,rfl⟩
   ·have HT:=a_ (w128 hc1 hc2);have f0:¬(c.toNat:Int)<97:=by omega
    have f1:¬(122:Int)<(c.toNat:Int):=by omega
    have f2:¬(c.toNat:Int)<65:=by omega
    have f3:(90:Int)<(c.toNat:Int):=by omega
    have f4:¬(c.toNat:Int)<48:=by omega
    have f5:(57:Int)<(c.toNat:Int):=by omega
    have g45:((c.toNat:Int)!=45)=true:=by rw[y_];omega
    have g95:((c.toNat:Int)!=95)=true:=by rw[y_];omega
    have HV:=a_ (HS.out HT.out);have HZ:Hid (0<k+1→l.headD 0≠45):=by
     intro _;by_cases hk0:k=0;·rw[HH0.out hk0];intro e;rw[e]at hc1 hc2;revert hc1 hc2;decide
     ·exact HA2.out (by omega)
    clear HN HS HT HH0 HA2;clear hc1 hc2;go_wp2_with fail;go_roundw;case rel=>exact⟨by first|trivial|rfl,k+1,by omega,by go_num,HV.out,HZ.out⟩
    case measure=>simp[intOf];omega
   ·have HT:=a_ (k111 hc1 hc2);have f0:¬(c.toNat:Int)<97:=by omega
    have f1:(122:Int)<(c.toNat:Int):=by omega
    have f2:¬(c.toNat:Int)<65:=by omega
    have f3:(90:Int)<(c.toNat:Int):=by omega
    have f4:¬(c.toNat:Int)<48:=by omega
    have f5:(57:Int)<(c.toNat:Int):=by omega
    have g45:((c.toNat:Int)!=45)=true:=by rw[y_];omega
    have g95:((c.toNat:Int)!=95)=true:=by rw[y_];omega
    have HV:=a_ (HN.out HT.out);clear HN HS HT;clear hc1 hc2;go_wp2_with fail;go_ret;exact⟨q17 HV.out.symm,rfl⟩
  ·have HV:Hid (j42 l=decide (l.length≤40)):=by
    have h:=HA.out;rw[t_ (by omega)]at h;have h3:l.headD 0≠45:=by
     by_cases hk0:0<k;·exact HA2.out hk0
     ·obtain rfl:l=[]:=n_ (by omega);decide
    simp only[Hid];rw[x51,h,j_ h3];simp
   go_wp2_with fail;go_ret;exact⟨by rw[HV.out];congr 2;simp;try omega,rfl⟩
theorem j156(W:World)(c d:UInt8)(n m:Int)(h:n=(c.toNat:Int))(h':m=(d.toNat:Int)):Sem.run Tryz.prog (convert 112 9 (.slice (some ⟨W.heap.size,0,none⟩) 2 2)) (W.alloc (.cells #[.int .u8 n,.int .u8 m] 5))=.ok (.string ⟨#[c,d]⟩) (W.alloc (.cells #[.int .u8 n,.int .u8 m] 5)):=by subst h h';refine run_convert_bytes_back (W.alloc (.cells #[.int .u8 (c.toNat:Int),.int .u8 (d.toNat:Int)] 5)) 112 9 5 ⟨W.heap.size,0,none⟩ 2 [c,d] ac_ ah_ aw_ ?_;intro j hj;match j,hj with|0,_=>simp[Addr.add]|1,_=>simp[Addr.add]
theorem y51(n:Int)(w:World)(h0:0≤n)(h1:n≤1000000):Calls Tryz.prog 250 #[.int .i64 n] w fun e w'=>e=.returned (.string ⟨(twoD n).toArray⟩)∧Below w.heap.size w w':=by
 have hc:(48:Int)+n/10%10=((dgt (n/10)).toNat:Int):=(v96 _).symm;have hd:(48:Int)+n%10=((dgt n).toNat:Int):=(v96 _).symm;have HT:Hid (twoD n=[dgt (n/10),dgt n]):=rfl;obtain⟨c,hcc⟩:∃c,dgt (n/10)=c:=⟨_,rfl⟩;obtain⟨d,hdd⟩:∃d,dgt n=d:=⟨_,rfl⟩;rw[hcc]at hc HT;rw[hdd]at hd HT;have kc:=fun W=>j156 W c d (c.toNat:Int) (d.toNat:Int) rfl rfl;have hcb:(c.toNat:Int)<256:=by have:=ay_ c;omega
 have hdb:(d.toNat:Int)<256:=by have:=ay_ d;omega
 have hq:0≤n/10∧n/10≤1000000:=by omega
 clear hcc hdd;go_enter Tryz.func250,Tryz.ntmps250;go_wp2_with fail;go_ret;rw[HT.out];exact⟨rfl,by(repeat(first|exact c_ _ _|refine q15 ?_ _|refine x15 ?_|refine q11 ?_ _|refine w14 ?_ (by simp) _))⟩
theorem j133(w:World):Calls Tryz.prog 249 #[] w fun e w'=>e=.returned (.string ⟨weekT.toArray⟩)∧w'=w:=by go_enter Tryz.func249,Tryz.ntmps249;go_wp2_with fail;go_ret;exact⟨rfl,rfl⟩
theorem x120(w:World):Calls Tryz.prog 251 #[] w fun e w'=>e=.returned (.string ⟨yearT.toArray⟩)∧w'=w:=by go_enter Tryz.func251,Tryz.ntmps251;go_wp2_with fail;go_ret;exact⟨rfl,rfl⟩
theorem x111(l:List UInt8)(w:World)(hl:l.length≤1000000):Calls Tryz.prog 193 #[.string ⟨l.toArray⟩] w fun e w'=>e=.returned (.bool (w26 l))∧w'=w:=by
 have hsz:(⟨l.toArray⟩:ByteArray).size=l.length:=q19 l;go_enter Tryz.func193,Tryz.ntmps193;go_wp2_with fail;go_loopw[3](fun i wr=>wr=w∧∃k:Nat,k≤l.length∧i=.int .i64 (k:Int)∧(l.take k).all keyB=true)(fun i _=>l.length-(intOf i).toNat);case atStart=>exact⟨rfl,0,s_ _,rfl,rfl⟩
 case round=>
  obtain⟨rfl,k,hk,rfl,hall⟩:=hrel;have HA:=a_ hall;clear hall;by_cases hlt:k<l.length;·
   have HS:=a_ (fun h=>q34 hlt HA.out h);have HN:=a_ (fun h=>w110 (j41 hlt h));obtain⟨c,hc⟩:∃c,(⟨l.toArray⟩:ByteArray)[k]'(by rw[hsz];exact hlt)=c:=⟨_,rfl⟩;have hcl:l[k]=c:=hc;rw[hcl]at HS HN;have hcb:c.toNat<256:=ay_ _;clear hcl HA;by_cases d1:c.toNat<33;·
    have HV:=a_ (HN.out (by unfold keyB;rw[j_ (show¬33≤c.toNat by omega)];rfl));have e1:(c.toNat:Int)<33:=by omega
    clear HN HS d1;go_wp2_with fail;go_ret;exact⟨q17 HV.out.symm,rfl⟩
   have e1:¬(c.toNat:Int)<33:=by omega
   by_cases d3:126<c.toNat;·
    have HV:=a_ (HN.out (by unfold keyB;rw[j_ (show¬c.toNat≤126 by omega)];simp));have e3:(126:Int)<(c.toNat:Int):=by omega
    clear HN HS d1 d3;go_wp2_with fail;go_ret;exact⟨q17 HV.out.symm,rfl⟩
   have e3:¬(126:Int)<(c.toNat:Int):=by omega
   have HV:=a_ (HS.out (by unfold keyB;rw[r_ (show 33≤c.toNat by omega),r_ (show c.toNat≤126 by omega)];rfl));clear HN HS d1 d3;go_wp2_with fail;go_roundw;case rel=>exact⟨by first|trivial|rfl,k+1,by omega,by go_num,HV.out⟩
   case measure=>simp[intOf];omega
  ·have HV:Hid (w26 l=(decide (1≤l.length)&&decide (l.length≤200))):=by have h:=HA.out;rw[t_ (by omega)]at h;simp only[Hid];rw[k51,h,Bool.and_true]
   by_cases h1:0<l.length;·
    have h1':(0:Int)<(l.length:Int):=by omega
    by_cases h2:l.length≤200;·
     have h2':(l.length:Int)≤200:=by omega
     have HV2:Hid (w26 l=true):=by simp only[Hid];rw[HV.out];simp;omega
     clear HV;go_wp2_with fail;go_ret;exact⟨q17 HV2.out.symm,rfl⟩
    ·have h2':¬(l.length:Int)≤200:=by omega
     have HV2:Hid (w26 l=false):=by simp only[Hid];rw[HV.out];simp;omega
     clear HV;go_wp2_with fail;go_ret;exact⟨q17 HV2.out.symm,rfl⟩
   ·have h1':¬(0:Int)<(l.length:Int):=by omega
    have HV2:Hid (w26 l=false):=by simp only[Hid];rw[HV.out];simp;omega
    clear HV;go_wp2_with fail;go_ret;exact⟨q17 HV2.out.symm,rfl⟩
theorem Tryz.fieldInfo:(Tryz.prog.info? 196).map (fun i=>(i.zero,i.size,i.bytes))=some (some (.agg #[.string ⟨#[]⟩,.string ⟨#[]⟩]),2,32):=by kernel_rfl
theorem Tryz.partInfo:(Tryz.prog.info? 82).map (fun i=>(i.zero,i.size,i.bytes))=some (some (.agg #[.string ⟨#[]⟩,.int .i64 0,.int .i64 0]),3,32):=by kernel_rfl
theorem elemFd:ElemK Tryz.prog w18 2 196 66 32 where
 und:=Tryz.underlying66
 info:=by obtain⟨i0,hi,hz0,hz1,hz2⟩:=aX_ Tryz.fieldInfo;exact⟨i0,_,hi,hz0,hz1,hz2,rfl⟩
 pos:=by decide
 small:=by decide
 len _:=rfl
 one _ v hv:=by simp[w18]at hv;rcases hv with rfl|rfl<;>rfl
theorem elemPt:ElemK Tryz.prog j18 3 82 67 32 where
 und:=Tryz.underlying67
 info:=by obtain⟨i0,hi,hz0,hz1,hz2⟩:=aX_ Tryz.partInfo;exact⟨i0,_,hi,hz0,hz1,hz2,rfl⟩
 pos:=by decide
 small:=by decide
 len _:=rfl
 one _ v hv:=by simp[j18]at hv;rcases hv with rfl|rfl|rfl<;>rfl
theorem x23{α:Type}{P:Program}{enc:α→List Value}{n:Nat}{T ST:TypeId}{bytes:Nat}(K:ElemK P enc n T ST bytes){ops:Array Oper}{rest:List Oper}{o:Oper}{a:Act}{Q:Exit→Act→World→Prop}{w w0:World}(hgd:o.guard=none)(s x:Operand)(ho:o.op=.call {callee:=.builtin .append,args:=#[s,x],argTypes:=#[ST,ST]})(A:Option Addr)(c ln:Nat)(L:List α)(hln:ln=L.length)(cs:Array Value)(T':TypeId)(hs:a.eval s=.slice A ln c)(hown:OwnG T enc n w w0.heap.size A c L)(t:List α)(k:Nat)(hk:k=t.length)(hx:a.eval x=.slice (some ⟨w.heap.size,0,none⟩) k k)(hcs:cs.toList=w180 enc t)(h0:0<t.length)(m:Nat)(hm:m=ln+t.length)(hl:m≤1000000)(hbel:Below w0.heap.size w0 w)(h:∀A' c' w',OwnG T enc n w' w0.heap.size A' c' (L++t)→Below w0.heap.size w0 w'→(w.alloc (.cells cs T')).grownBy w' (Value.slice A L.length c).ownBlock→wpList P ops Q rest (a.put o.dst (.slice A' m c')) w'):wpList P ops Q (o::rest) a (w.alloc (.cells cs T')):=by subst hln hk hm;exact k53 (w0:=w0) K hgd s x ho A c L hs (hown.alloc _) (some ⟨w.heap.size,0,none⟩) _ t hx (SpG.built (enc:=enc) (n:=n) K.len w t cs hcs T') h0 hl (q11 hbel _) h
def j25(m:MetaL)(A:Option Addr)(c:Nat):Value:=.agg #[.string ⟨m.tag.toArray⟩,.bool m.weak,.int .i64 m.mo,.int .i64 m.len,.int .i64 m.hv,.int .i64 m.fresh,.int .i64 m.wh,.int .i64 m.er,.slice A m.keys.length c,.string ⟨m.ten.toArray⟩,.bool m.keep]
def w65(s wh er:Int)(ns:Bool):Value:=.agg #[.int .i64 (-1),.int .i64 s,.int .i64 wh,.int .i64 er,.bool ns,.bool false,.bool false]
def offN(n:Int):Int:=if n=0 then-1 else n
theorem w146(m:MetaL)(A:Option Addr)(c:Nat)(w:World)(h1:0≤m.fresh∧m.fresh≤1099511627776)(h2:0≤m.wh∧m.wh≤1099511627776)(h3:0≤m.er∧m.er≤1099511627776):Calls Tryz.prog 183 #[j25 m A c] w fun e w'=>e=.returned (w65 m.fresh (offN m.wh) (offN m.er) (!m.keep))∧Below w.heap.size w w':=by
 obtain⟨tg,wk,mo,ln,hv,fr,wh,er,ks,tn,kp⟩:=m;simp only at h1 h2 h3⊢;have H1:=fun W=>a_ (y65 fr W h1.1 h1.2);have H2:=fun W=>a_ (y65 wh W h2.1 h2.2);have H3:=fun W=>a_ (y65 er W h3.1 h3.2);unfold j25;simp only;go_enter Tryz.func183,Tryz.ntmps183;go_wp2_with fail;go_region_held3(fun w'=>w'.cell? ⟨w.heap.size,5,none⟩=some (.int .i64 fr)∧w'.cell? ⟨w.heap.size,6,none⟩=some (.int .i64 wh)∧w'.cell? ⟨w.heap.size,7,none⟩=some (.int .i64 er)∧w'.cell? ⟨w.heap.size,10,none⟩=some (.bool kp))(simp[go_sem])(first|(go_at_call_of 235(Value.int .i64 fr);refine(H1 _).out.mono ?_;rintro e w1⟨rfl,rfl⟩)|(go_at_call_of 235(Value.int .i64 wh);refine(H2 _).out.mono ?_;rintro e w1⟨rfl,rfl⟩)|(go_at_call_of 235(Value.int .i64 er);refine(H3 _).out.mono ?_;rintro e w1⟨rfl,rfl⟩));all_goals
  by_cases a1:wh=0;·
   have e1:offN wh=-1:=B_ a1;by_cases a2:er=0;·have e2:offN er=-1:=B_ a2;go_wp2_with fail;refine u_ (by simp[results,Tryz.results183,go_sem];try rfl) rfl ?_;rw[e1,e2];exact⟨rfl,by(repeat(first|exact c_ _ _|refine q15 ?_ _|refine x15 ?_|refine q11 ?_ _|refine w14 ?_ (by simp) _))⟩
   ·have e2:offN er=er:=w_ a2;go_wp2_with fail;refine u_ (by simp[results,Tryz.results183,go_sem];try rfl) rfl ?_;rw[e1,e2];exact⟨rfl,by(repeat(first|exact c_ _ _|refine q15 ?_ _|refine x15 ?_|refine q11 ?_ _|refine w14 ?_ (by simp) _))⟩
  ·have e1:offN wh=wh:=w_ a1;by_cases a2:er=0;·have e2:offN er=-1:=B_ a2;go_wp2_with fail;refine u_ (by simp[results,Tryz.results183,go_sem];try rfl) rfl ?_;rw[e1,e2];exact⟨rfl,by(repeat(first|exact c_ _ _|refine q15 ?_ _|refine x15 ?_|refine q11 ?_ _|refine w14 ?_ (by simp) _))⟩
   ·have e2:offN er=er:=w_ a2;go_wp2_with fail;refine u_ (by simp[results,Tryz.results183,go_sem];try rfl) rfl ?_;rw[e1,e2];exact⟨rfl,by(repeat(first|exact c_ _ _|refine q15 ?_ _|refine x15 ?_|refine q11 ?_ _|refine w14 ?_ (by simp) _))⟩
theorem SpG.take{α:Type}{enc:α→List Value}{n:Nat}{w:World}{A:Option Addr}{c:Nat}{L:List α}(h:SpG enc n w A c L)(k:Nat):SpG enc n w A c (L.take k):=by
 refine⟨ag_ (by rw[H_];omega) h.le,h.nil_,fun j hj=>?_⟩;have hj2:j<L.length:=by rw[H_]at hj;omega
 obtain⟨b,off,e,hb,hc⟩:=h.at' j hj2;refine⟨b,off,e,hb,fun i v hv=>hc i v ?_⟩;rw[List.getElem_take]at hv;exact hv
def IdxPost(v:List UInt8)(L:List (List UInt8))(w:World)(e:Ending)(w':World):Prop:=(∃n:Int,e=.returned (.int .i64 n)∧((0≤n∧v∈L)∨(n<0∧v∉L)))∧w'=w
theorem y111{v:List UInt8}{L:List (List UInt8)}{k:Nat}(hk:k<L.length)(h:v∉L.take k)(h2:¬v=L[k]):v∉L.take (k+1):=by
 rw[m_ hk];intro hh;rcases z_.1 hh with hh|hh;·exact h hh
 ·exact h2 (G_.1 hh)
theorem v156(A:Option Addr)(c:Nat)(L:List (List UInt8))(v:List UInt8)(w:World)(h:SpG encT 1 w A c L)(hl:L.length≤1000000):Calls Tryz.prog 178 #[.slice A L.length c,.string ⟨v.toArray⟩] w (IdxPost v L w):=by
 have HH:=a_ h;clear h;go_enter Tryz.func178,Tryz.ntmps178;go_wp2_with fail;go_loopw[5,8](fun _ i wr=>wr=w∧∃k:Nat,k≤L.length∧i=.int .i64 (k:Int)∧v∉L.take k)(fun _ i _=>L.length-(intOf i).toNat);case atStart=>exact⟨rfl,0,s_ _,rfl,by simp⟩
 case round=>
  obtain⟨rfl,k,hk,rfl,hn⟩:=hrel;have HN:=a_ hn;clear hn;by_cases hlt:k<L.length;·
   obtain⟨b,off,e,hb,hc⟩:=HH.out.at' k hlt;have c0:=hc 0 _ rfl;have HY:Hid (v=L[k]→v∈L):=fun hh=>by rw[hh];exact A_ hlt
   have HS:Hid (¬v=L[k]→v∉L.take (k+1)):=y111 hlt HN.out;obtain⟨x,hx⟩:∃x,L[k]=x:=⟨_,rfl⟩;rw[hx]at c0 HY HS;simp only[aY_,M_]at c0;clear hx hc HN;rw[e];by_cases hv:v=x;·
    have HF:=a_ (HY.out hv);have hb2:(v==x)=true:=by rw[hv];exact beq_self_eq_true x
    clear HY HS hv;go_wp2_with fail;go_ret;exact⟨⟨_,rfl,.inl ⟨by omega,HF.out⟩⟩,rfl⟩
   ·have HF:=a_ (HS.out hv);have hb2:(v==x)=false:=l_.2 hv;clear HY HS hv;go_wp2_with fail;go_roundw;case rel=>exact⟨trivial,k+1,by omega,by go_num,HF.out⟩
    case measure=>simp[intOf];omega
  ·have hke:k=L.length:=by omega
   have HF:Hid (v∉L):=by have:=HN.out;rw[hke,U_]at this;exact this
   clear HN hke;go_wp2_with fail;go_ret;exact⟨⟨_,rfl,.inr ⟨by decide,HF.out⟩⟩,rfl⟩
theorem j44(A:Option Addr)(c:Nat)(L:List (List UInt8))(v:List UInt8)(w:World)(h:SpG encT 1 w A c L)(hl:L.length≤1000000):Calls Tryz.prog 119 #[.slice A L.length c,.string ⟨v.toArray⟩] w fun e w'=>e=.returned (.bool (decide (v∈L)))∧w'=w:=by
 go_enter Tryz.func119,Tryz.ntmps119;go_wp2_with fail;refine(v156 A c L v w h hl).mono ?_;rintro e w1⟨⟨n,rfl,hn⟩,rfl⟩;rcases hn with⟨h0,hv⟩|⟨h0,hv⟩;·have HV:Hid (decide (v∈L)=true):=r_ hv;clear hv;go_wp2_with fail;go_ret;exact⟨by rw[HV.out];simp,rfl⟩
 ·have HV:Hid (decide (v∈L)=false):=j_ hv;clear hv;go_wp2_with fail;go_ret;exact⟨by rw[HV.out];simp;omega,rfl⟩
structure MetaOk(m:MetaL):Prop where
 tg:(m.tag=[]∧m.weak=false)∨j20 m.tag=true
 mo:-1≤m.mo∧m.mo≤253402300799
 ln:-1≤m.len∧m.len≤1099511627776
 hv:0≤m.hv∧m.hv≤1099511627776
 eq:m.len=-1∨m.hv=m.len
 fr:0≤m.fresh∧m.fresh≤1099511627776
 wh:0≤m.wh∧m.wh≤1099511627776
 er:0≤m.er∧m.er≤1099511627776
 kn:m.keys.length≤32
 ka:∀x∈m.keys,w26 x=true
 kd:m.keys.Nodup
 tn:j42 m.ten=true
theorem v133(m:MetaL):metaOk m=true↔MetaOk m:=by
 unfold metaOk tag0 k37 keysOk;simp only[q_,I_,p_,aS_,aK_];constructor;·rintro⟨⟨⟨⟨⟨⟨⟨⟨⟨⟨⟨⟨h1,h2⟩,h3⟩,h4⟩,h5⟩,h6⟩,h7⟩,h8⟩,h9⟩,h10⟩,h11⟩,⟨h12,h13⟩,h14⟩,h15⟩;exact⟨h1,⟨h2,h3⟩,⟨h4,h5⟩,⟨h6,h7⟩,h8,h9,h10,h11,h12,h13,h14,h15⟩
 ·rintro⟨h1,⟨h2,h3⟩,⟨h4,h5⟩,⟨h6,h7⟩,h8,h9,h10,h11,h12,h13,h14,h15⟩;exact⟨⟨⟨⟨⟨⟨⟨⟨⟨⟨⟨⟨h1,h2⟩,h3⟩,h4⟩,h5⟩,h6⟩,h7⟩,h8⟩,h9⟩,h10⟩,h11⟩,⟨h12,h13⟩,h14⟩,h15⟩
theorem k54{x:List UInt8}(h:w26 x=true):x.length≤200:=by rw[k51]at h;simp only[q_,p_]at h;exact h.1.2
theorem z147{x:List UInt8}(h:j42 x=true):x.length≤40:=by rw[x51]at h;simp only[q_,p_]at h;exact h.1.1
theorem y54{x:List UInt8}(h:j20 x=true):1≤x.length∧x.length≤100:=by rw[j45]at h;simp only[q_,p_]at h;exact h.1
theorem w87{n:Int}(h:0≤n∧n≤1099511627776):k37 n=true:=by unfold k37;rw[r_ h.1,r_ h.2];rfl
theorem y56{α:Type}{L:List α}(h:L.Nodup){k:Nat}(hk:k<L.length):L[k]∉L.take k:=by intro hh;obtain⟨j,hj,e⟩:=aA_ hh;rw[List.getElem_take]at e;rw[H_]at hj;have:=(List.getElem_inj (h₀:=by omega) (h₁:=hk) h).1 e;omega
theorem w68(m:MetaL)(A:Option Addr)(c:Nat)(w:World)(hks:SpG encT 1 w A c m.keys)(hok:MetaOk m):Calls Tryz.prog 65 #[j25 m A c] w fun e w'=>e=.returned (.bool true)∧Below w.heap.size w w':=by
 obtain⟨tg,wk,mo,ln,hv,fr,wh,er,ks,tn,kp⟩:=m;obtain⟨g1,⟨g2,g3⟩,⟨g4,g5⟩,⟨g6,g7⟩,g8,g9,g10,g11,g12,g13,g14,g15⟩:=hok;simp only at g1 g2 g3 g4 g5 g6 g7 g8 g9 g10 g11 g12 g13 g14 g15 hks⊢;unfold j25;simp only;have HK:=a_ hks;have HD:=a_ g14;have HA:=a_ g13;have T1:=fun W=>a_ (k45 fr W);have T2:=fun W=>a_ (k45 wh W);have T3:=fun W=>a_ (k45 er W);rw[w87 g9]at T1;rw[w87 g10]at T2;rw[w87 g11]at T3;have HT:=fun W=>a_ (w92 tn W (by have:=z147 g15;omega));rw[g15]at HT;have f1:¬mo< -1:=by omega
 have f2:¬(253402300799:Int)<mo:=by omega
 have f3:¬ln< -1:=by omega
 have f4:¬(1099511627776:Int)<ln:=by omega
 have f5:¬hv<0:=by omega
 have f6:¬(1099511627776:Int)<hv:=by omega
 have f7:¬(32:Int)<(ks.length:Int):=by omega
 have hcase:(ln !=-1)=false∨((ln !=-1)=true∧(hv !=ln)=false):=by
  by_cases e:ln=-1;·left;rw[C_];exact e
  ·right;exact⟨by rw[y_];exact e,by rw[C_];omega⟩
 clear hks g14 g13 g2 g3 g4 g5 g6 g7 g8 g9 g10 g11 g12 g15;have hcg:(tg=[]∧wk=false)∨((tg==[])=false∧j20 tg=true):=by
  rcases g1 with h|h;·exact .inl h
  ·right;refine⟨?_,h⟩;have:=(y54 h).1;cases tg with|nil=>simp at this|cons a r=>rfl
 clear g1;rcases hcg with⟨rfl,rfl⟩|⟨hne,hto⟩;·
  rcases hcase with hc1|⟨hc1,hc2⟩;·
   go_enter Tryz.func65,Tryz.ntmps65;go_upto_region 3 with fail;obtain⟨W0,hW0⟩:∃W0,w.alloc (.cells #[.string ⟨#[]⟩,.bool false,.int .i64 mo,.int .i64 ln,.int .i64 hv,.int .i64 fr,.int .i64 wh,.int .i64 er,.slice A ks.length c,.string ⟨tn.toArray⟩,.bool kp] 57)=W0:=⟨_,rfl⟩;have HW0:Hid (W0.heap[w.heap.size]?=some (.cells #[.string ⟨#[]⟩,.bool false,.int .i64 mo,.int .i64 ln,.int .i64 hv,.int .i64 fr,.int .i64 wh,.int .i64 er,.slice A ks.length c,.string ⟨tn.toArray⟩,.bool kp] 57 (0,0))):=by rw[←hW0];exact j17 rfl
   have HWB:Hid (Below w.heap.size w W0):=by rw[←hW0];exact q11 (c_ _ _) _
   rw[hW0];have HK:=a_ (HK.out.below HWB.out);clear hW0;have v2:=bc 2 HW0.out rfl;have v3:=bc 3 HW0.out rfl;have v4:=bc 4 HW0.out rfl;have v5:=bc 5 HW0.out rfl;have v6:=bc 6 HW0.out rfl;have v7:=bc 7 HW0.out rfl;have v8:=bc 8 HW0.out rfl;have v9:=bc 9 HW0.out rfl;have vz:=q14 HW0.out;go_wp2_with(first|(go_at_call_of 116(Value.int .i64 fr);refine(T1 _).out.mono ?_;rintro e w1⟨rfl,hw1⟩;obtain rfl:W0=w1:=hw1.symm)|(go_at_call_of 116(Value.int .i64 wh);refine(T2 _).out.mono ?_;rintro e w1⟨rfl,hw1⟩;obtain rfl:W0=w1:=hw1.symm)|(go_at_call_of 116(Value.int .i64 er);refine(T3 _).out.mono ?_;rintro e w1⟨rfl,hw1⟩;obtain rfl:W0=w1:=hw1.symm)|(go_at_call 117;refine(HT _).out.mono ?_;rintro e w1⟨rfl,hw1⟩;obtain rfl:W0=w1:=hw1.symm));clear v2 v3 v4 v5 v6 v7 v9 T1 T2 T3 HT f1 f2 f3 f4 f5 f6 f7;try clear hc1
   try clear hc2
   go_loopw[3,4,84](fun _ _ i wr=>wr=W0∧∃k:Nat,k≤ks.length∧i=.int .i64 (k:Int))(fun _ _ i _=>ks.length-(intOf i).toNat);case atStart=>exact⟨rfl,0,s_ _,rfl⟩
   case round=>
    obtain⟨rfl,k,hk,rfl⟩:=hrel;by_cases hlt:k<ks.length;·
     obtain⟨b,off,e,hb,hc⟩:=HK.out.at' k hlt;have c0:=hc 0 _ rfl;have hkk:=HA.out _ (A_ hlt);have HKy:=fun W=>a_ (w62 ks[k] W (by have:=k54 hkk;omega));rw[hkk]at HKy;have HC:=a_ (j44 A c (ks.take k) ks[k] wr (HK.out.take k) (by rw[H_];omega));rw[j_ (y56 HD.out hlt),H_,bp_ (by omega)]at HC;obtain⟨x,hx⟩:∃x,ks[k]=x:=⟨_,rfl⟩;rw[hx]at c0 HKy HC;simp only[aY_,M_]at c0;have hle:=HK.out.le;have hkc:(k:Int)≤(c:Int):=by omega
     clear hx hc hkk HA HD;subst e;go_wp2_with(first|(go_at_call 118;refine(HKy _).out.mono ?_;rintro e w1⟨rfl,hw1⟩;obtain rfl:wr=w1:=hw1.symm)|(go_at_call 119;refine HC.out.mono ?_;rintro e w1⟨rfl,hw1⟩;obtain rfl:wr=w1:=hw1.symm));go_roundw;case rel=>exact⟨by first|trivial|rfl,k+1,by omega,by go_num⟩
     case measure=>simp[intOf];omega
    ·clear HA HD;go_wp2_with fail;go_ret;exact⟨rfl,HWB.out⟩
  ·go_enter Tryz.func65,Tryz.ntmps65;go_upto_region 3 with fail;obtain⟨W0,hW0⟩:∃W0,w.alloc (.cells #[.string ⟨#[]⟩,.bool false,.int .i64 mo,.int .i64 ln,.int .i64 hv,.int .i64 fr,.int .i64 wh,.int .i64 er,.slice A ks.length c,.string ⟨tn.toArray⟩,.bool kp] 57)=W0:=⟨_,rfl⟩;have HW0:Hid (W0.heap[w.heap.size]?=some (.cells #[.string ⟨#[]⟩,.bool false,.int .i64 mo,.int .i64 ln,.int .i64 hv,.int .i64 fr,.int .i64 wh,.int .i64 er,.slice A ks.length c,.string ⟨tn.toArray⟩,.bool kp] 57 (0,0))):=by rw[←hW0];exact j17 rfl
   have HWB:Hid (Below w.heap.size w W0):=by rw[←hW0];exact q11 (c_ _ _) _
   rw[hW0];have HK:=a_ (HK.out.below HWB.out);clear hW0;have v2:=bc 2 HW0.out rfl;have v3:=bc 3 HW0.out rfl;have v4:=bc 4 HW0.out rfl;have v5:=bc 5 HW0.out rfl;have v6:=bc 6 HW0.out rfl;have v7:=bc 7 HW0.out rfl;have v8:=bc 8 HW0.out rfl;have v9:=bc 9 HW0.out rfl;have vz:=q14 HW0.out;go_wp2_with(first|(go_at_call_of 116(Value.int .i64 fr);refine(T1 _).out.mono ?_;rintro e w1⟨rfl,hw1⟩;obtain rfl:W0=w1:=hw1.symm)|(go_at_call_of 116(Value.int .i64 wh);refine(T2 _).out.mono ?_;rintro e w1⟨rfl,hw1⟩;obtain rfl:W0=w1:=hw1.symm)|(go_at_call_of 116(Value.int .i64 er);refine(T3 _).out.mono ?_;rintro e w1⟨rfl,hw1⟩;obtain rfl:W0=w1:=hw1.symm)|(go_at_call 117;refine(HT _).out.mono ?_;rintro e w1⟨rfl,hw1⟩;obtain rfl:W0=w1:=hw1.symm));clear v2 v3 v4 v5 v6 v7 v9 T1 T2 T3 HT f1 f2 f3 f4 f5 f6 f7;try clear hc1
   try clear hc2
   go_loopw[3,4,84](fun _ _ i wr=>wr=W0∧∃k:Nat,k≤ks.length∧i=.int .i64 (k:Int))(fun _ _ i _=>ks.length-(intOf i).toNat);case atStart=>exact⟨rfl,0,s_ _,rfl⟩
   case round=>
    obtain⟨rfl,k,hk,rfl⟩:=hrel;by_cases hlt:k<ks.length;·
     obtain⟨b,off,e,hb,hc⟩:=HK.out.at' k hlt;have c0:=hc 0 _ rfl;have hkk:=HA.out _ (A_ hlt);have HKy:=fun W=>a_ (w62 ks[k] W (by have:=k54 hkk;omega));rw[hkk]at HKy;have HC:=a_ (j44 A c (ks.take k) ks[k] wr (HK.out.take k) (by rw[H_];omega));rw[j_ (y56 HD.out hlt),H_,bp_ (by omega)]at HC;obtain⟨x,hx⟩:∃x,ks[k]=x:=⟨_,rfl⟩;rw[hx]at c0 HKy HC;simp only[aY_,M_]at c0;have hle:=HK.out.le;have hkc:(k:Int)≤(c:Int):=by omega
     clear hx hc hkk HA HD;subst e;go_wp2_with(first|(go_at_call 118;refine(HKy _).out.mono ?_;rintro e w1⟨rfl,hw1⟩;obtain rfl:wr=w1:=hw1.symm)|(go_at_call 119;refine HC.out.mono ?_;rintro e w1⟨rfl,hw1⟩;obtain rfl:wr=w1:=hw1.symm));go_roundw;case rel=>exact⟨by first|trivial|rfl,k+1,by omega,by go_num⟩
     case measure=>simp[intOf];omega
    ·clear HA HD;go_wp2_with fail;go_ret;exact⟨rfl,HWB.out⟩
 have HTG:=fun W=>a_ (k39 tg wk W (by have:=y54 hto;omega));rw[hto]at HTG;clear hto;·
  rcases hcase with hc1|⟨hc1,hc2⟩;·
   go_enter Tryz.func65,Tryz.ntmps65;go_upto_region 3 with(go_at_call 115;refine(HTG _).out.mono ?_;rintro e W0⟨rfl,hb1⟩);have HW0:Hid (W0.heap[w.heap.size]?=some (.cells #[.string ⟨tg.toArray⟩,.bool wk,.int .i64 mo,.int .i64 ln,.int .i64 hv,.int .i64 fr,.int .i64 wh,.int .i64 er,.slice A ks.length c,.string ⟨tn.toArray⟩,.bool kp] 57 (0,0))):=j3 hb1 (j17 rfl);have HWB:Hid (Below w.heap.size w W0):=q12 hb1 (q11 (c_ _ _) _);have HK:=a_ (HK.out.below HWB.out);clear hb1 HTG hne;have v2:=bc 2 HW0.out rfl;have v3:=bc 3 HW0.out rfl;have v4:=bc 4 HW0.out rfl;have v5:=bc 5 HW0.out rfl;have v6:=bc 6 HW0.out rfl;have v7:=bc 7 HW0.out rfl;have v8:=bc 8 HW0.out rfl;have v9:=bc 9 HW0.out rfl;have vz:=q14 HW0.out;go_wp2_with(first|(go_at_call_of 116(Value.int .i64 fr);refine(T1 _).out.mono ?_;rintro e w1⟨rfl,hw1⟩;obtain rfl:W0=w1:=hw1.symm)|(go_at_call_of 116(Value.int .i64 wh);refine(T2 _).out.mono ?_;rintro e w1⟨rfl,hw1⟩;obtain rfl:W0=w1:=hw1.symm)|(go_at_call_of 116(Value.int .i64 er);refine(T3 _).out.mono ?_;rintro e w1⟨rfl,hw1⟩;obtain rfl:W0=w1:=hw1.symm)|(go_at_call 117;refine(HT _).out.mono ?_;rintro e w1⟨rfl,hw1⟩;obtain rfl:W0=w1:=hw1.symm));clear v2 v3 v4 v5 v6 v7 v9 T1 T2 T3 HT f1 f2 f3 f4 f5 f6 f7;try clear hc1
   try clear hc2
   go_loopw[3,4,84](fun _ _ i wr=>wr=W0∧∃k:Nat,k≤ks.length∧i=.int .i64 (k:Int))(fun _ _ i _=>ks.length-(intOf i).toNat);case atStart=>exact⟨rfl,0,s_ _,rfl⟩
   case round=>
    obtain⟨rfl,k,hk,rfl⟩:=hrel;by_cases hlt:k<ks.length;·
     obtain⟨b,off,e,hb,hc⟩:=HK.out.at' k hlt;have c0:=hc 0 _ rfl;have hkk:=HA.out _ (A_ hlt);have HKy:=fun W=>a_ (w62 ks[k] W (by have:=k54 hkk;omega));rw[hkk]at HKy;have HC:=a_ (j44 A c (ks.take k) ks[k] wr (HK.out.take k) (by rw[H_];omega));rw[j_ (y56 HD.out hlt),H_,bp_ (by omega)]at HC;obtain⟨x,hx⟩:∃x,ks[k]=x:=⟨_,rfl⟩;rw[hx]at c0 HKy HC;simp only[aY_,M_]at c0;have hle:=HK.out.le;have hkc:(k:Int)≤(c:Int):=by omega
     clear hx hc hkk HA HD;subst e;go_wp2_with(first|(go_at_call 118;refine(HKy _).out.mono ?_;rintro e w1⟨rfl,hw1⟩;obtain rfl:wr=w1:=hw1.symm)|(go_at_call 119;refine HC.out.mono ?_;rintro e w1⟨rfl,hw1⟩;obtain rfl:wr=w1:=hw1.symm));go_roundw;case rel=>exact⟨by first|trivial|rfl,k+1,by omega,by go_num⟩
     case measure=>simp[intOf];omega
    ·clear HA HD;go_wp2_with fail;go_ret;exact⟨rfl,HWB.out⟩
  ·go_enter Tryz.func65,Tryz.ntmps65;go_upto_region 3 with(go_at_call 115;refine(HTG _).out.mono ?_;rintro e W0⟨rfl,hb1⟩);have HW0:Hid (W0.heap[w.heap.size]?=some (.cells #[.string ⟨tg.toArray⟩,.bool wk,.int .i64 mo,.int .i64 ln,.int .i64 hv,.int .i64 fr,.int .i64 wh,.int .i64 er,.slice A ks.length c,.string ⟨tn.toArray⟩,.bool kp] 57 (0,0))):=j3 hb1 (j17 rfl);have HWB:Hid (Below w.heap.size w W0):=q12 hb1 (q11 (c_ _ _) _);have HK:=a_ (HK.out.below HWB.out);clear hb1 HTG hne;have v2:=bc 2 HW0.out rfl;have v3:=bc 3 HW0.out rfl;have v4:=bc 4 HW0.out rfl;have v5:=bc 5 HW0.out rfl;have v6:=bc 6 HW0.out rfl;have v7:=bc 7 HW0.out rfl;have v8:=bc 8 HW0.out rfl;have v9:=bc 9 HW0.out rfl;have vz:=q14 HW0.out;go_wp2_with(first|(go_at_call_of 116(Value.int .i64 fr);refine(T1 _).out.mono ?_;rintro e w1⟨rfl,hw1⟩;obtain rfl:W0=w1:=hw1.symm)|(go_at_call_of 116(Value.int .i64 wh);refine(T2 _).out.mono ?_;rintro e w1⟨rfl,hw1⟩;obtain rfl:W0=w1:=hw1.symm)|(go_at_call_of 116(Value.int .i64 er);refine(T3 _).out.mono ?_;rintro e w1⟨rfl,hw1⟩;obtain rfl:W0=w1:=hw1.symm)|(go_at_call 117;refine(HT _).out.mono ?_;rintro e w1⟨rfl,hw1⟩;obtain rfl:W0=w1:=hw1.symm));clear v2 v3 v4 v5 v6 v7 v9 T1 T2 T3 HT f1 f2 f3 f4 f5 f6 f7;try clear hc1
   try clear hc2
   go_loopw[3,4,84](fun _ _ i wr=>wr=W0∧∃k:Nat,k≤ks.length∧i=.int .i64 (k:Int))(fun _ _ i _=>ks.length-(intOf i).toNat);case atStart=>exact⟨rfl,0,s_ _,rfl⟩
   case round=>
    obtain⟨rfl,k,hk,rfl⟩:=hrel;by_cases hlt:k<ks.length;·
     obtain⟨b,off,e,hb,hc⟩:=HK.out.at' k hlt;have c0:=hc 0 _ rfl;have hkk:=HA.out _ (A_ hlt);have HKy:=fun W=>a_ (w62 ks[k] W (by have:=k54 hkk;omega));rw[hkk]at HKy;have HC:=a_ (j44 A c (ks.take k) ks[k] wr (HK.out.take k) (by rw[H_];omega));rw[j_ (y56 HD.out hlt),H_,bp_ (by omega)]at HC;obtain⟨x,hx⟩:∃x,ks[k]=x:=⟨_,rfl⟩;rw[hx]at c0 HKy HC;simp only[aY_,M_]at c0;have hle:=HK.out.le;have hkc:(k:Int)≤(c:Int):=by omega
     clear hx hc hkk HA HD;subst e;go_wp2_with(first|(go_at_call 118;refine(HKy _).out.mono ?_;rintro e w1⟨rfl,hw1⟩;obtain rfl:wr=w1:=hw1.symm)|(go_at_call 119;refine HC.out.mono ?_;rintro e w1⟨rfl,hw1⟩;obtain rfl:wr=w1:=hw1.symm));go_roundw;case rel=>exact⟨by first|trivial|rfl,k+1,by omega,by go_num⟩
     case measure=>simp[intOf];omega
    ·clear HA HD;go_wp2_with fail;go_ret;exact⟨rfl,HWB.out⟩
def w51(Q:Prop)(w:World)(e:Ending)(w':World):Prop:=∃b:Bool,e=.returned (.bool b)∧(b=true→Q)∧Below w.heap.size w w'
theorem j181{Q:Prop}{w w':World}(h:Below w.heap.size w w'):w51 Q w (.returned (.bool false)) w':=⟨false,rfl,(fun h=>by cases h),h⟩
theorem x97{Q:Prop}{w w':World}{b:Bool}(hq:Q)(h:Below w.heap.size w w'):w51 Q w (.returned (.bool b)) w':=⟨b,rfl,fun _=>hq,h⟩
theorem y72(t:List UInt8)(wk:Bool)(w:World):Calls Tryz.prog 127 #[.agg #[.string ⟨t.toArray⟩,.bool wk]] w fun e w'=>e=.returned (.bool (t.isEmpty&&!wk))∧Below w.heap.size w w':=by
 cases hte:t.isEmpty with
  |false=>go_enter Tryz.func127,Tryz.ntmps127;go_wp2_with fail;go_ret;exact⟨rfl,by(repeat(first|exact c_ _ _|refine q15 ?_ _|refine x15 ?_|refine q11 ?_ _|refine w14 ?_ (by simp) _))⟩
  |true=>go_enter Tryz.func127,Tryz.ntmps127;go_wp2_with fail;go_ret;exact⟨rfl,by(repeat(first|exact c_ _ _|refine q15 ?_ _|refine x15 ?_|refine q11 ?_ _|refine w14 ?_ (by simp) _))⟩
def j46(m:MetaL):Prop:=m.tag.length≤200∧m.keys.length≤40∧m.ten.length≤100∧∀x∈m.keys,x.length≤300
theorem k133(m:MetaL)(A:Option Addr)(c:Nat)(w:World)(hks:SpG encT 1 w A c m.keys):Calls Tryz.prog 22 #[j25 m A c] w (w51 (j46 m) w):=by
 have HK0:=a_ hks;obtain⟨tg,wk,mo,ln,hv,fr,wh,er,ks,tn,kp⟩:=m;unfold j25;simp only at HK0⊢;have hz1:(⟨tg.toArray⟩:ByteArray).size=tg.length:=q19 tg;have hz2:(⟨tn.toArray⟩:ByteArray).size=tn.length:=q19 tn;by_cases h1:200<tg.length;·
  have h1':(200:Int)<(tg.length:Int):=by omega
  clear h1;go_enter Tryz.func22,Tryz.ntmps22;go_wp2_with fail;go_ret;exact j181 (by(repeat(first|exact c_ _ _|refine q15 ?_ _|refine x15 ?_|refine q11 ?_ _|refine w14 ?_ (by simp) _)))
 have h1':¬(200:Int)<(tg.length:Int):=by omega
 by_cases h2:40<ks.length;·
  have h2':(40:Int)<(ks.length:Int):=by omega
  clear h2;go_enter Tryz.func22,Tryz.ntmps22;go_wp2_with fail;go_ret;exact j181 (by(repeat(first|exact c_ _ _|refine q15 ?_ _|refine x15 ?_|refine q11 ?_ _|refine w14 ?_ (by simp) _)))
 have h2':¬(40:Int)<(ks.length:Int):=by omega
 by_cases h3:100<tn.length;·
  have h3':(100:Int)<(tn.length:Int):=by omega
  clear h3;go_enter Tryz.func22,Tryz.ntmps22;go_wp2_with fail;go_ret;exact j181 (by(repeat(first|exact c_ _ _|refine q15 ?_ _|refine x15 ?_|refine q11 ?_ _|refine w14 ?_ (by simp) _)))
 have h3':¬(100:Int)<(tn.length:Int):=by omega
 have HL:Hid (tg.length≤200∧ks.length≤40∧tn.length≤100):=by simp only[Hid];omega
 have hk40:ks.length≤40:=by omega
 clear h1 h2 h3;go_enter Tryz.func22,Tryz.ntmps22;go_wp2_with fail;obtain⟨W0,hW0⟩:∃W0,w.alloc (.cells #[.string ⟨tg.toArray⟩,.bool wk,.int .i64 mo,.int .i64 ln,.int .i64 hv,.int .i64 fr,.int .i64 wh,.int .i64 er,.slice A ks.length c,.string ⟨tn.toArray⟩,.bool kp] 57)=W0:=⟨_,rfl⟩;have HM0:Hid (W0.heap[w.heap.size]?=some (.cells #[.string ⟨tg.toArray⟩,.bool wk,.int .i64 mo,.int .i64 ln,.int .i64 hv,.int .i64 fr,.int .i64 wh,.int .i64 er,.slice A ks.length c,.string ⟨tn.toArray⟩,.bool kp] 57 (0,0))):=by rw[←hW0];exact j17 rfl
 have HB0:Hid (Below w.heap.size w W0):=by simp only[Hid];rw[←hW0];(repeat(first|exact c_ _ _|refine q15 ?_ _|refine x15 ?_|refine q11 ?_ _|refine w14 ?_ (by simp) _))
 have HK:=a_ (HK0.out.below HB0.out);rw[hW0];clear hW0 HK0 h1' h2' h3';go_loopw[3](fun i wr=>wr=W0∧∃k:Nat,k≤ks.length∧i=.int .i64 (k:Int)∧∀x∈ks.take k,x.length≤300)(fun i _=>ks.length-(intOf i).toNat);case atStart=>exact⟨rfl,0,s_ _,rfl,by simp⟩
 case round=>
  obtain⟨rfl,k,hk,rfl,hall⟩:=hrel;have HA:=a_ hall;clear hall;have v8:=bc 8 HM0.out rfl;have vz:=q14 HM0.out;by_cases hlt:k<ks.length;·
   obtain⟨b,off,e,hb,hc⟩:=HK.out.at' k hlt;have c0:=hc 0 _ rfl;have hst:ks[k].length≤300→∀x∈ks.take (k+1),x.length≤300:=by
    intro h x hx;rw[m_ hlt]at hx;rcases z_.1 hx with hx|hx;·exact HA.out x hx
    ·rw[G_.1 hx];exact h
   have HST:=a_ hst;obtain⟨x,hx⟩:∃x,ks[k]=x:=⟨_,rfl⟩;rw[hx]at c0 HST;simp only[aY_,M_]at c0;have hsx:(⟨x.toArray⟩:ByteArray).size=x.length:=q19 x;clear hx hc hst HA;subst e;by_cases hxl:300<x.length;·
    have hx':(300:Int)<(x.length:Int):=by omega
    clear hxl HST;go_wp2_with fail;go_ret;exact j181 HB0.out
   ·have HF:=a_ (HST.out (by omega));have hx':¬(300:Int)<(x.length:Int):=by omega
    clear hxl HST;go_wp2_with fail;go_roundw;case rel=>exact⟨by first|trivial|rfl,k+1,by omega,by go_num,HF.out⟩
    case measure=>simp[intOf];omega
  ·have HF:=HA.out;rw[show k=ks.length from by omega,U_]at HF;have HV:Hid (j46 ⟨tg,wk,mo,ln,hv,fr,wh,er,ks,tn,kp⟩):=⟨HL.out.1,HL.out.2.1,HL.out.2.2,HF⟩;clear HF HA;go_wp2_with fail;go_ret;exact x97 HV.out HB0.out
def q93(L:List (List UInt8)):Prop:=L.length≤32∧(∀x∈L,w26 x=true)∧L.Nodup
def j33(l:List UInt8):Bool:=decide (1≤l.length)&&decide (l.length≤200)&&decide (l.headD 0=47)&&l.all keyB
theorem w112{l:List UInt8}(h:l.all keyB=false):j33 l=false:=by unfold j33;rw[h,bz_]
theorem j102{l:List UInt8}(h1:1≤l.length)(h2:l.length≤200)(h3:l.headD 0=47)(h:l.all keyB=true):j33 l=true:=by unfold j33;rw[h,r_ h1,r_ h2,r_ h3];rfl
theorem k66{l:List UInt8}(h:0<l.length):l.headD 0=l[0]:=by cases l with|nil=>simp at h|cons a r=>rfl
theorem z135(l:List UInt8)(w:World)(hl:l.length≤1000000):Calls Tryz.prog 108 #[.string ⟨l.toArray⟩] w fun e w'=>e=.returned (.bool (j33 l))∧w'=w:=by
 have hsz:(⟨l.toArray⟩:ByteArray).size=l.length:=q19 l;by_cases h1:l.length<1;·
  have HV:Hid (j33 l=false):=by simp only[Hid];unfold j33;rw[j_ (by omega)];rfl
  have h1':(l.length:Int)<1:=by omega
  clear h1;go_enter Tryz.func108,Tryz.ntmps108;go_wp2_with fail;go_ret;exact⟨q17 HV.out.symm,rfl⟩
 by_cases h2:200<l.length;·
  have HV:Hid (j33 l=false):=by simp only[Hid];unfold j33;rw[j_ (show¬l.length≤200 by omega)];simp
  have h1':¬(l.length:Int)<1:=by omega
  have h2':(200:Int)<(l.length:Int):=by omega
  clear h1 h2;go_enter Tryz.func108,Tryz.ntmps108;go_wp2_with fail;go_ret;exact⟨q17 HV.out.symm,rfl⟩
 have h1':¬(l.length:Int)<1:=by omega
 have h2':¬(200:Int)<(l.length:Int):=by omega
 have hp0:(0:Nat)<l.length:=by omega
 have H12:Hid (1≤l.length∧l.length≤200):=by simp only[Hid];omega
 clear h1 h2;by_cases h3:l.headD 0=47;rotate_left;·
  have HV:Hid (j33 l=false):=by simp only[Hid];unfold j33;rw[j_ h3];simp
  have HD:=a_ h3;obtain⟨c0,hc0⟩:∃c,(⟨l.toArray⟩:ByteArray)[0]'(by rw[hsz];exact hp0)=c:=⟨_,rfl⟩;have hcl:l[0]=c0:=hc0;have h3':¬(c0.toNat:Int)=47:=by intro h;apply HD.out;rw[k66 hp0,hcl];exact UInt8.toNat_inj.1 (by rw[show c0.toNat=47 by omega];rfl)
  have h4':((c0.toNat:Int)!=47)=true:=by rw[y_];exact h3'
  clear h3 hcl HD;go_enter Tryz.func108,Tryz.ntmps108;go_wp2_with fail;go_ret;exact⟨q17 HV.out.symm,rfl⟩
 have HD:=a_ h3;obtain⟨c0,hc0⟩:∃c,(⟨l.toArray⟩:ByteArray)[0]'(by rw[hsz];exact hp0)=c:=⟨_,rfl⟩;have hcl:l[0]=c0:=hc0;have h3':(c0.toNat:Int)=47:=by rw[←hcl,←k66 hp0,h3];rfl
 have h4':((c0.toNat:Int)!=47)=false:=by rw[C_];exact h3'
 clear h3 hcl;go_enter Tryz.func108,Tryz.ntmps108;go_wp2_with fail;clear hc0 h3' h4' h1' h2';go_loopw[3,19](fun _ i wr=>wr=w∧∃k:Nat,k≤l.length∧i=.int .i64 (k:Int)∧(l.take k).all keyB=true)(fun _ i _=>l.length-(intOf i).toNat);case atStart=>exact⟨rfl,0,s_ _,rfl,rfl⟩
 case round=>
  obtain⟨rfl,k,hk,rfl,hall⟩:=hrel;have HA:=a_ hall;clear hall;by_cases hlt:k<l.length;·
   have HS:=a_ (fun h=>q34 hlt HA.out h);have HN:=a_ (fun h=>w112 (j41 hlt h));obtain⟨c,hc⟩:∃c,(⟨l.toArray⟩:ByteArray)[k]'(by rw[hsz];exact hlt)=c:=⟨_,rfl⟩;have hcl:l[k]=c:=hc;rw[hcl]at HS HN;have hcb:c.toNat<256:=ay_ _;clear hcl HA;by_cases d1:c.toNat<33;·
    have HV:=a_ (HN.out (by unfold keyB;rw[j_ (show¬33≤c.toNat by omega)];rfl));have e1:(c.toNat:Int)<33:=by omega
    have e2:(c.toNat:Int)≤32:=by omega
    clear HN HS d1;go_wp2_with fail;go_ret;exact⟨q17 HV.out.symm,rfl⟩
   have e1:¬(c.toNat:Int)<33:=by omega
   have e2:¬(c.toNat:Int)≤32:=by omega
   by_cases d3:126<c.toNat;·
    have HV:=a_ (HN.out (by unfold keyB;rw[j_ (show¬c.toNat≤126 by omega)];simp));have e3:(126:Int)<(c.toNat:Int):=by omega
    clear HN HS d1 d3;go_wp2_with fail;go_ret;exact⟨q17 HV.out.symm,rfl⟩
   have e3:¬(126:Int)<(c.toNat:Int):=by omega
   have HV:=a_ (HS.out (by unfold keyB;rw[r_ (show 33≤c.toNat by omega),r_ (show c.toNat≤126 by omega)];rfl));clear HN HS d1 d3;go_wp2_with fail;go_roundw;case rel=>exact⟨by first|trivial|rfl,k+1,by omega,by go_num,HV.out⟩
   case measure=>simp[intOf];omega
  ·have HV:Hid (j33 l=true):=by have h:=HA.out;rw[t_ (by omega)]at h;exact j102 H12.out.1 H12.out.2 HD.out h
   go_wp2_with fail;go_ret;exact⟨q17 HV.out.symm,rfl⟩
theorem y121(l:List UInt8)(w:World)(hl:l.length≤1000000):Calls Tryz.prog 172 #[.string ⟨l.toArray⟩] w fun e w'=>e=.returned (.bool (j33 l))∧w'=w:=by
 have hsz:(⟨l.toArray⟩:ByteArray).size=l.length:=q19 l;by_cases h1:l.length<1;·
  have HV:Hid (j33 l=false):=by simp only[Hid];unfold j33;rw[j_ (by omega)];rfl
  have h1':(l.length:Int)<1:=by omega
  clear h1;go_enter Tryz.func172,Tryz.ntmps172;go_wp2_with fail;go_ret;exact⟨q17 HV.out.symm,rfl⟩
 by_cases h2:200<l.length;·
  have HV:Hid (j33 l=false):=by simp only[Hid];unfold j33;rw[j_ (show¬l.length≤200 by omega)];simp
  have h1':¬(l.length:Int)<1:=by omega
  have h2':(200:Int)<(l.length:Int):=by omega
  clear h1 h2;go_enter Tryz.func172,Tryz.ntmps172;go_wp2_with fail;go_ret;exact⟨q17 HV.out.symm,rfl⟩
 have h1':¬(l.length:Int)<1:=by omega
 have h2':¬(200:Int)<(l.length:Int):=by omega
 have hp0:(0:Nat)<l.length:=by omega
 have H12:Hid (1≤l.length∧l.length≤200):=by simp only[Hid];omega
 clear h1 h2;by_cases h3:l.headD 0=47;rotate_left;·
  have HV:Hid (j33 l=false):=by simp only[Hid];unfold j33;rw[j_ h3];simp
  have HD:=a_ h3;obtain⟨c0,hc0⟩:∃c,(⟨l.toArray⟩:ByteArray)[0]'(by rw[hsz];exact hp0)=c:=⟨_,rfl⟩;have hcl:l[0]=c0:=hc0;have h3':¬(c0.toNat:Int)=47:=by intro h;apply HD.out;rw[k66 hp0,hcl];exact UInt8.toNat_inj.1 (by rw[show c0.toNat=47 by omega];rfl)
  have h4':((c0.toNat:Int)!=47)=true:=by rw[y_];exact h3'
  clear h3 hcl HD;go_enter Tryz.func172,Tryz.ntmps172;go_wp2_with fail;go_ret;exact⟨q17 HV.out.symm,rfl⟩
 have HD:=a_ h3;obtain⟨c0,hc0⟩:∃c,(⟨l.toArray⟩:ByteArray)[0]'(by rw[hsz];exact hp0)=c:=⟨_,rfl⟩;have hcl:l[0]=c0:=hc0;have h3':(c0.toNat:Int)=47:=by rw[←hcl,←k66 hp0,h3];rfl
 have h4':((c0.toNat:Int)!=47)=false:=by rw[C_];exact h3'
 clear h3 hcl;go_enter Tryz.func172,Tryz.ntmps172;go_wp2_with fail;clear hc0 h3' h4' h1' h2';go_loopw[3](fun i wr=>wr=w∧∃k:Nat,k≤l.length∧i=.int .i64 (k:Int)∧(l.take k).all keyB=true)(fun i _=>l.length-(intOf i).toNat);case atStart=>exact⟨rfl,0,s_ _,rfl,rfl⟩
 case round=>
  obtain⟨rfl,k,hk,rfl,hall⟩:=hrel;have HA:=a_ hall;clear hall;by_cases hlt:k<l.length;·
   have HS:=a_ (fun h=>q34 hlt HA.out h);have HN:=a_ (fun h=>w112 (j41 hlt h));obtain⟨c,hc⟩:∃c,(⟨l.toArray⟩:ByteArray)[k]'(by rw[hsz];exact hlt)=c:=⟨_,rfl⟩;have hcl:l[k]=c:=hc;rw[hcl]at HS HN;have hcb:c.toNat<256:=ay_ _;clear hcl HA;by_cases d1:c.toNat<33;·
    have HV:=a_ (HN.out (by unfold keyB;rw[j_ (show¬33≤c.toNat by omega)];rfl));have e1:(c.toNat:Int)<33:=by omega
    have e2:(c.toNat:Int)≤32:=by omega
    clear HN HS d1;go_wp2_with fail;go_ret;exact⟨q17 HV.out.symm,rfl⟩
   have e1:¬(c.toNat:Int)<33:=by omega
   have e2:¬(c.toNat:Int)≤32:=by omega
   by_cases d3:126<c.toNat;·
    have HV:=a_ (HN.out (by unfold keyB;rw[j_ (show¬c.toNat≤126 by omega)];simp));have e3:(126:Int)<(c.toNat:Int):=by omega
    clear HN HS d1 d3;go_wp2_with fail;go_ret;exact⟨q17 HV.out.symm,rfl⟩
   have e3:¬(126:Int)<(c.toNat:Int):=by omega
   have HV:=a_ (HS.out (by unfold keyB;rw[r_ (show 33≤c.toNat by omega),r_ (show c.toNat≤126 by omega)];rfl));clear HN HS d1 d3;go_wp2_with fail;go_roundw;case rel=>exact⟨by first|trivial|rfl,k+1,by omega,by go_num,HV.out⟩
   case measure=>simp[intOf];omega
  ·have HV:Hid (j33 l=true):=by have h:=HA.out;rw[t_ (by omega)]at h;exact j102 H12.out.1 H12.out.2 HD.out h
   go_wp2_with fail;go_ret;exact⟨q17 HV.out.symm,rfl⟩
end Go.Proofs.YtbphndihjdiiiaaGreatDoor
