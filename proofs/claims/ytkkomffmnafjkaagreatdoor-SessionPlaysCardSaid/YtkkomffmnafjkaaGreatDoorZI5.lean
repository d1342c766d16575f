/- Contracts of tags, and of numbers of ticks. Contracts of the document's .. -/
import Derived.Test.YtkkomffmnafjkaaGreatDoorZE2
import Derived.Test.YtkkomffmnafjkaaGreatDoorZI4
set_option maxHeartbeats 16000000
set_option maxRecDepth 100000
set_option linter.all false
namespace Go.Proofs.YtkkomffmnafjkaaGreatDoor
open Go.RowKit
theorem q34{f:UInt8→Bool}{l:List UInt8}{k:Nat}(hk:k<l.length)(h:(l.take k).all f=true)(h2:f l[k]=true):(l.take (k+1)).all f=true:=by rw[n_ hk,bx_,h];simp[h2]
theorem j41{f:UInt8→Bool}{l:List UInt8}{k:Nat}(hk:k<l.length)(h2:f l[k]=false):l.all f=false:=by rw[List.all_eq_false];exact⟨l[k],y_ hk,by rw[h2];simp⟩
def tagB(c:UInt8):Bool:=decide (33≤c.toNat)&&decide (c.toNat≤126)&&decide (c.toNat≠34)
theorem j45(l:List UInt8):j20 l=(decide (1≤l.length)&&decide (l.length≤100)&&l.all tagB):=rfl
theorem y110{l:List UInt8}(h:l.all tagB=false):j20 l=false:=by rw[j45,h,bG_]
theorem q101{l:List UInt8}(h1:1≤l.length)(h2:l.length≤100)(h:l.all tagB=true):j20 l=true:=by rw[j45,h];simp[h1,h2]
theorem k39(l:List UInt8)(wk:Bool)(w:World)(hl:l.length≤1000000):Calls Tryz.prog 65 #[.agg #[.string ⟨l.toArray⟩,.bool wk]] w fun e w'=>e=.returned (.bool (j20 l))∧Below w.heap.size w w':=by
 have hsz:(⟨l.toArray⟩:ByteArray).size=l.length:=q19 l;by_cases h1:l.length<1;·
  have HV:Hid (j20 l=false):=by simp only[Hid];rw[j45,k_ (by omega)];rfl
  have h1':(l.length:Int)<1:=by omega
  clear h1;go_enter Tryz.func65,Tryz.ntmps65;go_wp2_with fail;go_ret;exact⟨q17 HV.out.symm,by(repeat(first|exact b_ _ _|refine q15 ?_ _|refine x15 ?_|refine q11 ?_ _|refine w14 ?_ (by simp) _))⟩
 by_cases h2:100<l.length;·
  have HV:Hid (j20 l=false):=by simp only[Hid];rw[j45,k_ (show¬l.length≤100 by omega)];simp
  have h1':¬(l.length:Int)<1:=by omega
  have h2':(100:Int)<(l.length:Int):=by omega
  clear h1 h2;go_enter Tryz.func65,Tryz.ntmps65;go_wp2_with fail;go_ret;exact⟨q17 HV.out.symm,by(repeat(first|exact b_ _ _|refine q15 ?_ _|refine x15 ?_|refine q11 ?_ _|refine w14 ?_ (by simp) _))⟩
 have h1':¬(l.length:Int)<1:=by omega
 have h2':¬(100:Int)<(l.length:Int):=by omega
 have H12:Hid (1≤l.length∧l.length≤100):=by simp only[Hid];omega
 clear h1 h2;go_enter Tryz.func65,Tryz.ntmps65;go_wp2_with fail;go_loopw[3,4,18](fun _ _ i wr=>wr=w.alloc (.cells #[.string ⟨l.toArray⟩,.bool wk] 25)∧∃k:Nat,k≤l.length∧i=.int .i64 (k:Int)∧(l.take k).all tagB=true)(fun _ _ i _=>l.length-(intOf i).toNat);case atStart=>exact⟨rfl,0,v_ _,rfl,rfl⟩
 case round=>
  obtain⟨rfl,k,hk,rfl,hall⟩:=hrel;have HA:=a_ hall;clear hall;by_cases hlt:k<l.length;·
   have HS:=a_ (fun h=>q34 hlt HA.out h);have HN:=a_ (fun h=>y110 (j41 hlt h));obtain⟨c,hc⟩:∃c,(⟨l.toArray⟩:ByteArray)[k]'(by rw[hsz];exact hlt)=c:=⟨_,rfl⟩;have hcl:l[k]=c:=hc;rw[hcl]at HS HN;have hcb:c.toNat<256:=aA_ _;clear hcl HA;by_cases d1:c.toNat<33;·
    have HV:=a_ (HN.out (by unfold tagB;rw[k_ (show¬33≤c.toNat by omega)];rfl));have e1:(c.toNat:Int)<33:=by omega
    clear HN HS d1;go_wp2_with fail;go_ret;exact⟨q17 HV.out.symm,by(repeat(first|exact b_ _ _|refine q15 ?_ _|refine x15 ?_|refine q11 ?_ _|refine w14 ?_ (by simp) _))⟩
   have e1:¬(c.toNat:Int)<33:=by omega
   by_cases d2:c.toNat=34;·
    have HV:=a_ (HN.out (by unfold tagB;rw[k_ (show¬c.toNat≠34 by omega)];simp));have e2:(c.toNat:Int)=34:=by omega
    clear HN HS d1 d2;go_wp2_with fail;go_ret;exact⟨q17 HV.out.symm,by(repeat(first|exact b_ _ _|refine q15 ?_ _|refine x15 ?_|refine q11 ?_ _|refine w14 ?_ (by simp) _))⟩
   have e2:¬(c.toNat:Int)=34:=by omega
   by_cases d3:126<c.toNat;·
    have HV:=a_ (HN.out (by unfold tagB;rw[k_ (show¬c.toNat≤126 by omega)];simp));have e3:(126:Int)<(c.toNat:Int):=by omega
    clear HN HS d1 d2 d3;go_wp2_with fail;go_ret;exact⟨q17 HV.out.symm,by(repeat(first|exact b_ _ _|refine q15 ?_ _|refine x15 ?_|refine q11 ?_ _|refine w14 ?_ (by simp) _))⟩
   have e3:¬(126:Int)<(c.toNat:Int):=by omega
   have HV:=a_ (HS.out (by unfold tagB;rw[s_ (show 33≤c.toNat by omega),s_ (show c.toNat≤126 by omega),s_ d2];rfl));clear HN HS d1 d2 d3;go_wp2_with fail;go_roundw;case rel=>exact⟨by first|trivial|rfl,k+1,by omega,by go_num,HV.out⟩
   case measure=>simp[intOf];omega
  ·have HV:Hid (j20 l=true):=by have h:=HA.out;rw[u_ (by omega)]at h;exact q101 H12.out.1 H12.out.2 h
   go_wp2_with fail;go_ret;exact⟨q17 HV.out.symm,by(repeat(first|exact b_ _ _|refine q15 ?_ _|refine x15 ?_|refine q11 ?_ _|refine w14 ?_ (by simp) _))⟩
def j47(l:List UInt8)(wk:Bool):List UInt8:=if j20 l=true then tagT l wk else[]
theorem v120(l:List UInt8)(wk:Bool)(w:World)(hl:l.length≤900000):Calls Tryz.prog 121 #[.agg #[.string ⟨l.toArray⟩,.bool wk]] w fun e w'=>e=.returned (.string ⟨(j47 l wk).toArray⟩)∧Below w.heap.size w w':=by
 have HR:=fun W=>a_ (k39 l wk W (by omega));cases hok:j20 l;·
  have HV:Hid (j47 l wk=[]):=by simp[Hid,j47,hok]
  rw[hok]at HR;clear hok;go_enter Tryz.func121,Tryz.ntmps121;go_wp2_with fail;refine(HR _).out.mono ?_;rintro e w1⟨rfl,hb1⟩;have HB:Hid (Below w.heap.size w w1):=q12 hb1 (by(repeat(first|exact b_ _ _|refine q15 ?_ _|refine x15 ?_|refine q11 ?_ _|refine w14 ?_ (by simp) _)));clear hb1;go_wp2_with fail;go_ret;rw[HV.out];exact⟨rfl,HB.out⟩
 have HV:Hid (j47 l wk=tagT l wk):=by simp[Hid,j47,hok]
 rw[hok]at HR;have hc1:=catE (a:=[34]) (b:=l) (by simp;omega);have hc2:=catE (a:=[34]++l) (b:=[34]) (by simp;omega);have hc3:=catE (a:=[87,47]) (b:=[34]++l++[34]) (by simp;omega);cases wk;·have HT:Hid (tagT l false=[34]++l++[34]):=rfl;generalize[34]++l++[34]=d3 at hc2 hc3 HT;generalize[34]++l=d2 at hc1 hc2;clear hok;go_enter Tryz.func121,Tryz.ntmps121;go_wp2_with fail;refine(HR _).out.mono ?_;rintro e w1⟨rfl,hb1⟩;have v0:=x16 hb1 (show(w.alloc (.cells #[.string ⟨l.toArray⟩,.bool false] 25)).cell? ⟨w.heap.size,0,none⟩=some (.string ⟨l.toArray⟩)from bc 0 (j17 rfl) rfl);have v1:=x16 hb1 (show(w.alloc (.cells #[.string ⟨l.toArray⟩,.bool false] 25)).cell? ⟨w.heap.size,1,none⟩=some (.bool false)from bc 1 (j17 rfl) rfl);have HB:Hid (Below w.heap.size w w1):=q12 hb1 (by(repeat(first|exact b_ _ _|refine q15 ?_ _|refine x15 ?_|refine q11 ?_ _|refine w14 ?_ (by simp) _)));clear hb1;go_wp2_with fail;go_ret;rw[HV.out,HT.out];exact⟨rfl,HB.out⟩
 ·have HT:Hid (tagT l true=[87,47]++([34]++l++[34])):=rfl;generalize[87,47]++([34]++l++[34])=d4 at hc3 HT;generalize[34]++l++[34]=d3 at hc2 hc3;generalize[34]++l=d2 at hc1 hc2;clear hok;go_enter Tryz.func121,Tryz.ntmps121;go_wp2_with fail;refine(HR _).out.mono ?_;rintro e w1⟨rfl,hb1⟩;have v0:=x16 hb1 (show(w.alloc (.cells #[.string ⟨l.toArray⟩,.bool true] 25)).cell? ⟨w.heap.size,0,none⟩=some (.string ⟨l.toArray⟩)from bc 0 (j17 rfl) rfl);have v1:=x16 hb1 (show(w.alloc (.cells #[.string ⟨l.toArray⟩,.bool true] 25)).cell? ⟨w.heap.size,1,none⟩=some (.bool true)from bc 1 (j17 rfl) rfl);have HB:Hid (Below w.heap.size w w1):=q12 hb1 (by(repeat(first|exact b_ _ _|refine q15 ?_ _|refine x15 ?_|refine q11 ?_ _|refine w14 ?_ (by simp) _)));clear hb1;go_wp2_with fail;go_ret;rw[HV.out,HT.out];exact⟨rfl,HB.out⟩
theorem y65(n:Int)(w:World)(h0:0≤n)(h1:n≤1099511627776):Calls Tryz.prog 169 #[.int .i64 n] w fun e w'=>e=.returned (.int .i64 n)∧w'=w:=by
 have e1:max n 0=n:=by omega
 have e2:min n 1099511627776=n:=by omega
 go_enter Tryz.func169,Tryz.ntmps169;go_wp2_with fail;go_ret;exact⟨by first|rfl|(congr 2<;>omega),rfl⟩
theorem j37(l:List UInt8)(wk:Bool)(w:World)(hl:l.length≤1000000):Calls Tryz.prog 59 #[.agg #[.string ⟨l.toArray⟩,.bool wk]] w fun e w'=>e=.returned (.bool (j20 l))∧Below w.heap.size w w':=by
 have hsz:(⟨l.toArray⟩:ByteArray).size=l.length:=q19 l;by_cases h1:l.length<1;·
  have HV:Hid (j20 l=false):=by simp only[Hid];rw[j45,k_ (by omega)];rfl
  have h1':(l.length:Int)<1:=by omega
  clear h1;go_enter Tryz.func59,Tryz.ntmps59;go_wp2_with fail;go_ret;exact⟨q17 HV.out.symm,by(repeat(first|exact b_ _ _|refine q15 ?_ _|refine x15 ?_|refine q11 ?_ _|refine w14 ?_ (by simp) _))⟩
 by_cases h2:100<l.length;·
  have HV:Hid (j20 l=false):=by simp only[Hid];rw[j45,k_ (show¬l.length≤100 by omega)];simp
  have h1':¬(l.length:Int)<1:=by omega
  have h2':(100:Int)<(l.length:Int):=by omega
  clear h1 h2;go_enter Tryz.func59,Tryz.ntmps59;go_wp2_with fail;go_ret;exact⟨q17 HV.out.symm,by(repeat(first|exact b_ _ _|refine q15 ?_ _|refine x15 ?_|refine q11 ?_ _|refine w14 ?_ (by simp) _))⟩
 have h1':¬(l.length:Int)<1:=by omega
 have h2':¬(100:Int)<(l.length:Int):=by omega
 have H12:Hid (1≤l.length∧l.length≤100):=by simp only[Hid];omega
 clear h1 h2;go_enter Tryz.func59,Tryz.ntmps59;go_wp2_with fail;go_loopw[3,4](fun i _ wr=>wr=w.alloc (.cells #[.string ⟨l.toArray⟩,.bool wk] 25)∧∃k:Nat,k≤l.length∧i=.int .i64 (k:Int)∧(l.take k).all tagB=true)(fun i _ _=>l.length-(intOf i).toNat);case atStart=>exact⟨rfl,0,v_ _,rfl,rfl⟩
 case round=>
  obtain⟨rfl,k,hk,rfl,hall⟩:=hrel;have HA:=a_ hall;clear hall;by_cases hlt:k<l.length;·
   have HS:=a_ (fun h=>q34 hlt HA.out h);have HN:=a_ (fun h=>y110 (j41 hlt h));obtain⟨c,hc⟩:∃c,(⟨l.toArray⟩:ByteArray)[k]'(by rw[hsz];exact hlt)=c:=⟨_,rfl⟩;have hcl:l[k]=c:=hc;rw[hcl]at HS HN;have hcb:c.toNat<256:=aA_ _;clear hcl HA;by_cases d1:c.toNat<33;·
    have HV:=a_ (HN.out (by unfold tagB;rw[k_ (show¬33≤c.toNat by omega)];rfl));have e1:(c.toNat:Int)<33:=by omega
    clear HN HS d1;go_wp2_with fail;go_ret;exact⟨q17 HV.out.symm,by(repeat(first|exact b_ _ _|refine q15 ?_ _|refine x15 ?_|refine q11 ?_ _|refine w14 ?_ (by simp) _))⟩
   have e1:¬(c.toNat:Int)<33:=by omega
   by_cases d2:c.toNat=34;·
    have HV:=a_ (HN.out (by unfold tagB;rw[k_ (show¬c.toNat≠34 by omega)];simp));have e2:(c.toNat:Int)=34:=by omega
    clear HN HS d1 d2;go_wp2_with fail;go_ret;exact⟨q17 HV.out.symm,by(repeat(first|exact b_ _ _|refine q15 ?_ _|refine x15 ?_|refine q11 ?_ _|refine w14 ?_ (by simp) _))⟩
   have e2:¬(c.toNat:Int)=34:=by omega
   by_cases d3:126<c.toNat;·
    have HV:=a_ (HN.out (by unfold tagB;rw[k_ (show¬c.toNat≤126 by omega)];simp));have e3:(126:Int)<(c.toNat:Int):=by omega
    clear HN HS d1 d2 d3;go_wp2_with fail;go_ret;exact⟨q17 HV.out.symm,by(repeat(first|exact b_ _ _|refine q15 ?_ _|refine x15 ?_|refine q11 ?_ _|refine w14 ?_ (by simp) _))⟩
   have e3:¬(126:Int)<(c.toNat:Int):=by omega
   have HV:=a_ (HS.out (by unfold tagB;rw[s_ (show 33≤c.toNat by omega),s_ (show c.toNat≤126 by omega),s_ d2];rfl));clear HN HS d1 d2 d3;go_wp2_with fail;go_roundw;case rel=>exact⟨by first|trivial|rfl,k+1,by omega,by go_num,HV.out⟩
   case measure=>simp[intOf];omega
  ·have HV:Hid (j20 l=true):=by have h:=HA.out;rw[u_ (by omega)]at h;exact q101 H12.out.1 H12.out.2 h
   go_wp2_with fail;go_ret;exact⟨q17 HV.out.symm,by(repeat(first|exact b_ _ _|refine q15 ?_ _|refine x15 ?_|refine q11 ?_ _|refine w14 ?_ (by simp) _))⟩
def keyB(c:UInt8):Bool:=decide (33≤c.toNat)&&decide (c.toNat≤126)
theorem k51(l:List UInt8):w26 l=(decide (1≤l.length)&&decide (l.length≤200)&&l.all keyB):=rfl
theorem w110{l:List UInt8}(h:l.all keyB=false):w26 l=false:=by rw[k51,h,bG_]
theorem j146{l:List UInt8}(h1:1≤l.length)(h2:l.length≤200)(h:l.all keyB=true):w26 l=true:=by rw[k51,h];simp[h1,h2]
theorem w62(l:List UInt8)(w:World)(hl:l.length≤1000000):Calls Tryz.prog 138 #[.string ⟨l.toArray⟩] w fun e w'=>e=.returned (.bool (w26 l))∧w'=w:=by
 have hsz:(⟨l.toArray⟩:ByteArray).size=l.length:=q19 l;by_cases h1:l.length<1;·
  have HV:Hid (w26 l=false):=by simp only[Hid];rw[k51,k_ (by omega)];rfl
  have h1':(l.length:Int)<1:=by omega
  clear h1;go_enter Tryz.func138,Tryz.ntmps138;go_wp2_with fail;go_ret;exact⟨q17 HV.out.symm,rfl⟩
 by_cases h2:200<l.length;·
  have HV:Hid (w26 l=false):=by simp only[Hid];rw[k51,k_ (show¬l.length≤200 by omega)];simp
  have h1':¬(l.length:Int)<1:=by omega
  have h2':(200:Int)<(l.length:Int):=by omega
  clear h1 h2;go_enter Tryz.func138,Tryz.ntmps138;go_wp2_with fail;go_ret;exact⟨q17 HV.out.symm,rfl⟩
 have h1':¬(l.length:Int)<1:=by omega
 have h2':¬(200:Int)<(l.length:Int):=by omega
 have H12:Hid (1≤l.length∧l.length≤200):=by simp only[Hid];omega
 clear h1 h2;go_enter Tryz.func138,Tryz.ntmps138;go_wp2_with fail;go_loopw[3,14](fun _ i wr=>wr=w∧∃k:Nat,k≤l.length∧i=.int .i64 (k:Int)∧(l.take k).all keyB=true)(fun _ i _=>l.length-(intOf i).toNat);case atStart=>exact⟨rfl,0,v_ _,rfl,rfl⟩
 case round=>
  obtain⟨rfl,k,hk,rfl,hall⟩:=hrel;have HA:=a_ hall;clear hall;by_cases hlt:k<l.length;·
   have HS:=a_ (fun h=>q34 hlt HA.out h);have HN:=a_ (fun h=>w110 (j41 hlt h));obtain⟨c,hc⟩:∃c,(⟨l.toArray⟩:ByteArray)[k]'(by rw[hsz];exact hlt)=c:=⟨_,rfl⟩;have hcl:l[k]=c:=hc;rw[hcl]at HS HN;have hcb:c.toNat<256:=aA_ _;clear hcl HA;by_cases d1:c.toNat<33;·
    have HV:=a_ (HN.out (by unfold keyB;rw[k_ (show¬33≤c.toNat by omega)];rfl));have e1:(c.toNat:Int)<33:=by omega
    clear HN HS d1;go_wp2_with fail;go_ret;exact⟨q17 HV.out.symm,rfl⟩
   have e1:¬(c.toNat:Int)<33:=by omega
   by_cases d3:126<c.toNat;·
    have HV:=a_ (HN.out (by unfold keyB;rw[k_ (show¬c.toNat≤126 by omega)];simp));have e3:(126:Int)<(c.toNat:Int):=by omega
    clear HN HS d1 d3;go_wp2_with fail;go_ret;exact⟨q17 HV.out.symm,rfl⟩
   have e3:¬(126:Int)<(c.toNat:Int):=by omega
   have HV:=a_ (HS.out (by unfold keyB;rw[s_ (show 33≤c.toNat by omega),s_ (show c.toNat≤126 by omega)];rfl));clear HN HS d1 d3;go_wp2_with fail;go_roundw;case rel=>exact⟨by first|trivial|rfl,k+1,by omega,by go_num,HV.out⟩
   case measure=>simp[intOf];omega
  ·have HV:Hid (w26 l=true):=by have h:=HA.out;rw[u_ (by omega)]at h;exact j146 H12.out.1 H12.out.2 h
   go_wp2_with fail;go_ret;exact⟨q17 HV.out.symm,rfl⟩
theorem k146:∀(m:Nat)(n:Int)(w:World),n.toNat≤m→0≤n→n≤9223372036854775807→Calls Tryz.prog 275 #[.int .i64 n] w fun e w'=>e=.returned (.string ⟨(digN n).toArray⟩)∧Below w.heap.size w w':=by
 intro m;induction m with
  |zero=>
   intro n w hm h0 h1;obtain rfl:n=0:=by omega
   have HD:Hid (digN 0=[48]):=by simp only[Hid];rw[x181 (by omega) (by omega)];rfl
   have kc:=fun W=>q68 W 48 48 rfl;go_enter Tryz.func275,Tryz.ntmps275;go_wp2_with fail;go_ret;rw[HD.out];exact⟨rfl,q11 (b_ _ _) _⟩
  |succ m ih=>
   intro n w hm h0 h1;by_cases h10:n<10;·
    have hc:(48:Int)+n=((UInt8.ofNat (48+n.toNat)).toNat:Int):=by rw[y64 (by omega)];omega
    have HD:Hid (digN n=[UInt8.ofNat (48+n.toNat)]):=by simp only[Hid];rw[x181 h0 h10]
    obtain⟨c,hcc⟩:∃c,UInt8.ofNat (48+n.toNat)=c:=⟨_,rfl⟩;rw[hcc]at hc HD;have kc:=fun W=>q68 W c (c.toNat:Int) rfl;have hcb:(c.toNat:Int)<256:=by have:=aA_ c;omega
    clear hcc ih;go_enter Tryz.func275,Tryz.ntmps275;go_wp2_with fail;go_ret;rw[HD.out];exact⟨rfl,q11 (b_ _ _) _⟩
   ·have hmod:0≤n%10∧n%10<10:=by omega
    have HD:Hid (digN n=digN (n/10)++digN (n%10)):=by simp only[Hid];rw[q61 h10,x181 (n:=n%10) (by omega) (by omega)]
    have hdl:=w21 (n:=n/10) (by omega);have hdl2:=w21 (n:=n%10) (by omega);have hc1:=catE (a:=digN (n/10)) (b:=digN (n%10)) (by omega);have HI:=fun W=>a_ (ih (n/10) W (by omega) (by omega) (by omega));have HI2:=fun W=>a_ (ih (n%10) W (by omega) (by omega) (by omega));clear ih hdl hdl2;generalize digN (n%10)=d2 at HI2 HD hc1;generalize digN (n/10)=d1 at HI HD hc1;go_enter Tryz.func275,Tryz.ntmps275;go_wp2_with fail;refine(HI _).out.mono ?_;rintro e w1⟨rfl,hb1⟩;have HB:=a_ hb1;clear hb1 HI;go_wp2_with fail;refine(HI2 _).out.mono ?_;rintro e w2⟨rfl,hb2⟩;have HB2:=a_ (q12 hb2 HB.out);clear hb2 HI2 HB;go_wp2_with fail;go_ret;rw[HD.out];exact⟨rfl,HB2.out⟩
theorem q156(w:World):Calls Tryz.prog 317 #[] w fun e w'=>e=.returned (.int .i64 1099511627776)∧w'=w:=by go_enter Tryz.func317,Tryz.ntmps317;go_wp2_with fail;go_ret;exact⟨rfl,rfl⟩
theorem y127(n:Int)(w:World)(h1:n≤1099511627776):Calls Tryz.prog 276 #[.int .i64 n] w fun e w'=>e=.returned (.int .i64 n)∧w'=w:=by
 have e1:¬(1099511627776:Int)<n:=by omega
 go_enter Tryz.func276,Tryz.ntmps276;go_wp2_with(go_at_call 317;refine(q156 _).mono ?_;rintro e w1⟨rfl,rfl⟩);go_ret;exact⟨rfl,rfl⟩
theorem z111(n:Int)(w:World)(h0:0≤n)(h1:n≤1099511627776):Calls Tryz.prog 277 #[.int .i64 n] w fun e w'=>e=.returned (.int .i64 n)∧w'=w:=by
 have HC:=fun W=>a_ (y127 n W h1);have e1:¬n<0:=by omega
 go_enter Tryz.func277,Tryz.ntmps277;go_wp2_with(go_at_call 276;refine(HC _).out.mono ?_;rintro e w1⟨rfl,rfl⟩);go_ret;exact⟨rfl,rfl⟩
theorem q111(n:Int)(w:World)(h0:0≤n)(h1:n≤1099511627776):Calls Tryz.prog 278 #[.int .i64 n] w fun e w'=>e=.returned (.int .i64 (if n=0 then-1 else n))∧w'=w:=by
 have HC:=fun W=>a_ (z111 n W h0 h1);by_cases hn:n=0;·rw[w_ hn];subst hn;go_enter Tryz.func278,Tryz.ntmps278;go_wp2_with(go_at_call 277;refine(HC _).out.mono ?_;rintro e w1⟨rfl,rfl⟩);go_ret;exact⟨rfl,rfl⟩
 ·rw[q_ hn];go_enter Tryz.func278,Tryz.ntmps278;go_wp2_with(go_at_call 277;refine(HC _).out.mono ?_;rintro e w1⟨rfl,rfl⟩);go_ret;exact⟨rfl,rfl⟩
theorem k45(n:Int)(w:World):Calls Tryz.prog 119 #[.int .i64 n] w fun e w'=>e=.returned (.bool (k37 n))∧w'=w:=by
 by_cases h0:0≤n;·
  by_cases h1:n≤1099511627776;all_goals go_enter Tryz.func119,Tryz.ntmps119;go_wp2_with fail;go_ret;exact⟨by simp[k37,h0,h1],rfl⟩
 ·have h0':decide (0≤n)=false:=k_ h0;have HV:Hid (k37 n=false):=by simp only[Hid];unfold k37;rw[h0'];rfl
  go_enter Tryz.func119,Tryz.ntmps119;go_wp2_with fail;go_ret;exact⟨by rw[HV.out];simp;try omega,rfl⟩
theorem j111(l:List UInt8)(wk:Bool)(w:World)(hl:l.length≤900000):Calls Tryz.prog 215 #[.agg #[.string ⟨l.toArray⟩,.bool wk]] w fun e w'=>e=.returned (.string ⟨(j47 l wk).toArray⟩)∧Below w.heap.size w w':=by
 have HR:=fun W=>a_ (j37 l wk W (by omega));cases hok:j20 l;·
  have HV:Hid (j47 l wk=[]):=by simp[Hid,j47,hok]
  rw[hok]at HR;clear hok;go_enter Tryz.func215,Tryz.ntmps215;go_wp2_with fail;refine(HR _).out.mono ?_;rintro e w1⟨rfl,hb1⟩;have HB:Hid (Below w.heap.size w w1):=q12 hb1 (by(repeat(first|exact b_ _ _|refine q15 ?_ _|refine x15 ?_|refine q11 ?_ _|refine w14 ?_ (by simp) _)));clear hb1;go_wp2_with fail;go_ret;rw[HV.out];exact⟨rfl,HB.out⟩
 have HV:Hid (j47 l wk=tagT l wk):=by simp[Hid,j47,hok]
 rw[hok]at HR;have hc1:=catE (a:=[34]) (b:=l) (by simp;omega);have hc2:=catE (a:=[34]++l) (b:=[34]) (by simp;omega);have hc3:=catE (a:=[87,47,34]) (b:=l) (by simp;omega);have hc4:=catE (a:=[87,47,34]++l) (b:=[34]) (by simp;omega);cases wk;·have HT:Hid (tagT l false=[34]++l++[34]):=rfl;generalize[34]++l++[34]=d3 at hc2 HT;generalize[34]++l=d2 at hc1 hc2;clear hok hc3 hc4;go_enter Tryz.func215,Tryz.ntmps215;go_wp2_with fail;refine(HR _).out.mono ?_;rintro e w1⟨rfl,hb1⟩;have v0:=x16 hb1 (show(w.alloc (.cells #[.string ⟨l.toArray⟩,.bool false] 25)).cell? ⟨w.heap.size,0,none⟩=some (.string ⟨l.toArray⟩)from bc 0 (j17 rfl) rfl);have v1:=x16 hb1 (show(w.alloc (.cells #[.string ⟨l.toArray⟩,.bool false] 25)).cell? ⟨w.heap.size,1,none⟩=some (.bool false)from bc 1 (j17 rfl) rfl);have HB:Hid (Below w.heap.size w w1):=q12 hb1 (by(repeat(first|exact b_ _ _|refine q15 ?_ _|refine x15 ?_|refine q11 ?_ _|refine w14 ?_ (by simp) _)));clear hb1;go_wp2_with fail;go_ret;rw[HV.out,HT.out];exact⟨rfl,HB.out⟩
 ·have HT:Hid (tagT l true=[87,47,34]++l++[34]):=by simp[Hid,tagT]
  generalize[87,47,34]++l++[34]=d4 at hc4 HT;generalize[87,47,34]++l=d3 at hc3 hc4;clear hok hc1 hc2;go_enter Tryz.func215,Tryz.ntmps215;go_wp2_with fail;refine(HR _).out.mono ?_;rintro e w1⟨rfl,hb1⟩;have v0:=x16 hb1 (show(w.alloc (.cells #[.string ⟨l.toArray⟩,.bool true] 25)).cell? ⟨w.heap.size,0,none⟩=some (.string ⟨l.toArray⟩)from bc 0 (j17 rfl) rfl);have v1:=x16 hb1 (show(w.alloc (.cells #[.string ⟨l.toArray⟩,.bool true] 25)).cell? ⟨w.heap.size,1,none⟩=some (.bool true)from bc 1 (j17 rfl) rfl);have HB:Hid (Below w.heap.size w w1):=q12 hb1 (by(repeat(first|exact b_ _ _|refine q15 ?_ _|refine x15 ?_|refine q11 ?_ _|refine w14 ?_ (by simp) _)));clear hb1;go_wp2_with fail;go_ret;rw[HV.out,HT.out];exact⟨rfl,HB.out⟩
def y78(l:List UInt8):Bool:=decide (l.headD 0=45)
def tenB(c:UInt8):Bool:=w45 c||decide (c.toNat=45)||decide (c.toNat=95)
theorem x51(l:List UInt8):j42 l=(decide (l.length≤40)&&!decide (l.headD 0=45)&&l.all tenB):=rfl
theorem v111{l:List UInt8}(h:l.all tenB=false):j42 l=false:=by rw[x51,h,bG_]
theorem y92{l:List UInt8}(h:l.headD 0=45):j42 l=false:=by rw[x51,s_ h];simp
theorem x146{l:List UInt8}(h2:l.length≤40)(h3:l.headD 0≠45)(h:l.all tenB=true):j42 l=true:=by rw[x51,h,s_ h2,k_ h3];rfl
theorem tenB_0{c:UInt8}(h1:0≤c.toNat)(h2:c.toNat≤44):tenB c=false:=by rw[P_];unfold tenB w45;simp only[I_,r_,p_,ne_eq,not_or,bR_];omega
theorem w127{c:UInt8}(h1:45≤c.toNat)(h2:c.toNat≤45):tenB c=true:=by unfold tenB w45;simp only[I_,r_,p_];omega
theorem z128{c:UInt8}(h1:46≤c.toNat)(h2:c.toNat≤47):tenB c=false:=by rw[P_];unfold tenB w45;simp only[I_,r_,p_,ne_eq,not_or,bR_];omega
theorem q128{c:UInt8}(h1:48≤c.toNat)(h2:c.toNat≤57):tenB c=true:=by unfold tenB w45;simp only[I_,r_,p_];omega
theorem j128{c:UInt8}(h1:58≤c.toNat)(h2:c.toNat≤64):tenB c=false:=by rw[P_];unfold tenB w45;simp only[I_,r_,p_,ne_eq,not_or,bR_];omega
theorem v128{c:UInt8}(h1:65≤c.toNat)(h2:c.toNat≤90):tenB c=true:=by unfold tenB w45;simp only[I_,r_,p_];omega
theorem k128{c:UInt8}(h1:91≤c.toNat)(h2:c.toNat≤94):tenB c=false:=by rw[P_];unfold tenB w45;simp only[I_,r_,p_,ne_eq,not_or,bR_];omega
theorem x128{c:UInt8}(h1:95≤c.toNat)(h2:c.toNat≤95):tenB c=true:=by unfold tenB w45;simp only[I_,r_,p_];omega
theorem y128{c:UInt8}(h1:96≤c.toNat)(h2:c.toNat≤96):tenB c=false:=by rw[P_];unfold tenB w45;simp only[I_,r_,p_,ne_eq,not_or,bR_];omega
theorem w128{c:UInt8}(h1:97≤c.toNat)(h2:c.toNat≤122):tenB c=true:=by unfold tenB w45;simp only[I_,r_,p_];omega
theorem k111{c:UInt8}(h1:123≤c.toNat)(h2:c.toNat≤255):tenB c=false:=by rw[P_];unfold tenB w45;simp only[I_,r_,p_,ne_eq,not_or,bR_];omega
theorem j101(c:UInt8):(0≤c.toNat∧c.toNat≤44)∨(45≤c.toNat∧c.toNat≤45)∨(46≤c.toNat∧c.toNat≤47)∨(48≤c.toNat∧c.toNat≤57)∨(58≤c.toNat∧c.toNat≤64)∨(65≤c.toNat∧c.toNat≤90)∨(91≤c.toNat∧c.toNat≤94)∨(95≤c.toNat∧c.toNat≤95)∨(96≤c.toNat∧c.toNat≤96)∨(97≤c.toNat∧c.toNat≤122)∨(123≤c.toNat∧c.toNat≤255):=by have:=aA_ c;omega
theorem k120(l:List UInt8)(w:World)(hl:l.length≤1000000):Calls Tryz.prog 242 #[.string ⟨l.toArray⟩,.string ⟨#[45]⟩] w fun e w'=>e=.returned (.bool (y78 l))∧w'=w:=by
 have hsz:(⟨l.toArray⟩:ByteArray).size=l.length:=q19 l;cases l with
  |nil=>go_enter Tryz.func242,Tryz.ntmps242;go_wp2_with fail;go_ret;exact⟨rfl,rfl⟩
  |cons c r=>
   have hx:(⟨(c::r).toArray⟩:ByteArray).extract 0 1=⟨#[c]⟩:=by rw[z129];rfl
   have hr1:(1:Int)≤(((c::r).length:Nat):Int):=by simp only[g_];omega
   obtain⟨t,ht⟩:∃t,c::r=t:=⟨_,rfl⟩;have hh:Hid (y78 t=(c==45)):=by simp only[Hid,y78];rw[←ht];show decide (c=45)=(c==45);rw[ak_];simp
   rw[ht]at hx hr1 hsz hl⊢;have hr2:1≤t.length:=by omega
   clear ht;go_enter Tryz.func242,Tryz.ntmps242;go_wp2_with fail;go_ret;rw[hh.out];exact⟨rfl,rfl⟩
theorem q133(l:List UInt8)(w:World)(hl:l.length≤1000000):Calls Tryz.prog 172 #[.string ⟨l.toArray⟩,.string ⟨#[45]⟩] w fun e w'=>e=.returned (.bool (y78 l))∧w'=w:=by have HP:=fun W=>a_ (k120 l W hl);go_enter Tryz.func172,Tryz.ntmps172;go_wp2_with(go_at_call 242;refine(HP _).out.mono ?_;rintro e w1⟨rfl,rfl⟩);go_ret;exact⟨rfl,rfl⟩
theorem w92(l:List UInt8)(w:World)(hl:l.length≤1000000):Calls Tryz.prog 137 #[.string ⟨l.toArray⟩] w fun e w'=>e=.returned (.bool (j42 l))∧w'=w:=by
 have hsz:(⟨l.toArray⟩:ByteArray).size=l.length:=q19 l;have HP:=fun W=>a_ (q133 l W hl);by_cases h2:40<l.length;·
  have HV:Hid (j42 l=false):=by simp only[Hid];rw[x51,k_ (show¬l.length≤40 by omega)];rfl
  have h2':(40:Int)<(l.length:Int):=by omega
  clear h2;go_enter Tryz.func137,Tryz.ntmps137;go_wp2_with fail;go_ret;exact⟨q17 HV.out.symm,rfl⟩
 have h2':¬(40:Int)<(l.length:Int):=by omega
 by_cases h3:l.headD 0=45;·have HV:=a_ (y92 h3);rw[show y78 l=true from s_ h3]at HP;clear h2 h3;go_enter Tryz.func137,Tryz.ntmps137;go_wp2_with(go_at_call 172;refine(HP _).out.mono ?_;rintro e w1⟨rfl,rfl⟩);go_ret;exact⟨q17 HV.out.symm,rfl⟩
 have H3:=a_ h3;have H2:Hid (l.length≤40):=by simp only[Hid];omega
 rw[show y78 l=false from k_ h3]at HP;clear h2 h3;go_enter Tryz.func137,Tryz.ntmps137;go_wp2_with(go_at_call 172;refine(HP _).out.mono ?_;rintro e w1⟨rfl,hw1⟩;obtain rfl:w=w1:=hw1.symm);go_loopw[3,4,5,15](fun _ _ _ i wr=>wr=w∧∃k:Nat,k≤l.length∧i=.int .i64 (k:Int)∧(l.take k).all tenB=true)(fun _ _ _ i _=>l.length-(intOf i).toNat);case atStart=>exact⟨rfl,0,v_ _,rfl,rfl⟩
 case round=>
  obtain⟨rfl,k,hk,rfl,hall⟩:=hrel;have HA:=a_ hall;clear hall;by_cases hlt:k<l.length;·
   have HS:=a_ (fun h=>q34 hlt HA.out h);have HN:=a_ (fun h=>v111 (j41 hlt h));obtain⟨c,hc⟩:∃c,(⟨l.toArray⟩:ByteArray)[k]'(by rw[hsz];exact hlt)=c:=⟨_,rfl⟩;have hcl:l[k]=c:=hc;rw[hcl]at HS HN;clear hcl HA;rcases j101 c with⟨hc1,hc2⟩|⟨hc1,hc2⟩|⟨hc1,hc2⟩|⟨hc1,hc2⟩|⟨hc1,hc2⟩|⟨hc1,hc2⟩|⟨hc1,hc2⟩|⟨hc1,hc2⟩|⟨hc1,hc2⟩|⟨hc1,hc2⟩|⟨hc1,hc2⟩;all_goals
    first
     |first|(have HT:=a_ (w127 hc1 hc2))|(have HT:=a_ (q128 hc1 hc2))|(have HT:=a_ (v128 hc1 hc2))|(have HT:=a_ (x128 hc1 hc2))|(have HT:=a_ (w128 hc1 hc2))
      first|(have f0:¬(97:Int)≤(c.toNat:Int):=by omega)|(have f0:(97:Int)≤(c.toNat:Int):=by omega)
      have f1:(c.toNat:Int)≤122:=by omega
      first|(have f2:¬(65:Int)≤(c.toNat:Int):=by omega)|(have f2:(65:Int)≤(c.toNat:Int):=by omega)
      first|(have f3:(c.toNat:Int)≤90:=by omega)|(have f3:¬(c.toNat:Int)≤90:=by omega)
      first|(have f4:¬(48:Int)≤(c.toNat:Int):=by omega)|(have f4:(48:Int)≤(c.toNat:Int):=by omega)
      first|(have f5:(c.toNat:Int)≤57:=by omega)|(have f5:¬(c.toNat:Int)≤57:=by omega)
      first|(have g45:((c.toNat:Int)!=45)=false:=by rw[z_];omega)|(have g45:((c.toNat:Int)!=45)=true:=by rw[F_];omega)
      first|(have g95:((c.toNat:Int)!=95)=true:=by rw[F_];omega)|(have g95:((c.toNat:Int)!=95)=false:=by rw[z_];omega)
      have HV:=a_ (HS.out HT.out);clear HN HS HT;clear hc1 hc2;go_wp2_with fail;go_roundw;case rel=>exact⟨by first|trivial|rfl,k+1,by omega,by go_num,HV.out⟩
      case measure=>simp[intOf];omega
     |first|(have HT:=a_ (tenB_0 hc1 hc2))|(have HT:=a_ (z128 hc1 hc2))|(have HT:=a_ (j128 hc1 hc2))|(have HT:=a_ (k128 hc1 hc2))|(have HT:=a_ (y128 hc1 hc2))|(have HT:=a_ (k111 hc1 hc2))
      first|(have f0:¬(97:Int)≤(c.toNat:Int):=by omega)|(have f0:(97:Int)≤(c.toNat:Int):=by omega)
      first|(have f1:(c.toNat:Int)≤122:=by omega)|(have f1:¬(c.toNat:Int)≤122:=by omega)
      first|(have f2:¬(65:Int)≤(c.toNat:Int):=by omega)|(have f2:(65:Int)≤(c.toNat:Int):=by omega)
      first|(have f3:(c.toNat:Int)≤90:=by omega)|(have f3:¬(c.toNat:Int)≤90:=by omega)
      first|(have f4:¬(48:Int)≤(c.toNat:Int):=by omega)|(have f4:(48:Int)≤(c.toNat:Int):=by omega)
      first|(have f5:(c.toNat:Int)≤57:=by omega)|(have f5:¬(c.toNat:Int)≤57:=by omega)
      have g45:((c.toNat:Int)!=45)=true:=by rw[F_];omega
      have g95:((c.toNat:Int)!=95)=true:=by rw[F_];omega
      have HV:=a_ (HN.out HT.out);clear HN HS HT;clear hc1 hc2;go_wp2_with fail;go_ret;exact⟨q17 HV.out.symm,rfl⟩
  ·have HV:Hid (j42 l=true):=by have h:=HA.out;rw[u_ (by omega)]at h;exact x146 H2.out H3.out h
   go_wp2_with fail;go_ret;exact⟨q17 HV.out.symm,rfl⟩
theorem w81(l:List UInt8)(w:World)(hl:l.length≤1000000):Calls Tryz.prog 62 #[.string ⟨l.toArray⟩] w fun e w'=>e=.returned (.bool (j42 l))∧w'=w:=by
 have hsz:(⟨l.toArray⟩:ByteArray).size=l.length:=q19 l;go_enter Tryz.func62,Tryz.ntmps62;go_wp2_with fail;go_loopw[3,4](fun i _ wr=>wr=w∧∃k:Nat,k≤l.length∧i=.int .i64 (k:Int)∧(l.take k).all tenB=true∧(0<k→l.headD 0≠45))(fun i _ _=>l.length-(intOf i).toNat);case atStart=>exact⟨rfl,0,v_ _,rfl,rfl,fun h=>absurd h (by omega)⟩
 case round=>
  obtain⟨rfl,k,hk,rfl,hall,hz⟩:=hrel;have HA:=a_ hall;clear hall;have HA2:=a_ hz;clear hz;by_cases hlt:k<l.length;·
   have HS:=a_ (fun h=>q34 hlt HA.out h);have HN:=a_ (fun h=>v111 (j41 hlt h));have HH0:Hid (k=0→l.headD 0=l[k]):=by intro hk0;subst hk0;cases l with|nil=>simp at hlt|cons a b=>rfl
   obtain⟨c,hc⟩:∃c,(⟨l.toArray⟩:ByteArray)[k]'(by rw[hsz];exact hlt)=c:=⟨_,rfl⟩;have hcl:l[k]=c:=hc;rw[hcl]at HS HN HH0;clear hcl HA;rcases j101 c with⟨hc1,hc2⟩|⟨hc1,hc2⟩|⟨hc1,hc2⟩|⟨hc1,hc2⟩|⟨hc1,hc2⟩|⟨hc1,hc2⟩|⟨hc1,hc2⟩|⟨hc1,hc2⟩|⟨hc1,hc2⟩|⟨hc1,hc2⟩|⟨hc1,hc2⟩;all_goals
    first
     |have HT:=a_ (w127 hc1 hc2);have f0:(c.toNat:Int)<97:=by omega
      have f1:¬(122:Int)<(c.toNat:Int):=by omega
      have f2:(c.toNat:Int)<65:=by omega
      have f3:¬(90:Int)<(c.toNat:Int):=by omega
      have f4:(c.toNat:Int)<48:=by omega
      have f5:¬(57:Int)<(c.toNat:Int):=by omega
      have g45:((c.toNat:Int)!=45)=false:=by rw[z_];omega
      have g95:((c.toNat:Int)!=95)=true:=by rw[F_];omega
      have HV:=a_ (HS.out HT.out);by_cases hk0:k=0;·have HV9:Hid (j42 l=false):=y92 (by rw[HH0.out hk0];exact UInt8.toNat_inj.1 (by show c.toNat=45;omega));subst hk0;clear HN HS HT HH0 HA2;clear hc1 hc2;go_wp2_with fail;go_ret;exact⟨q17 HV9.out.symm,rfl⟩
      ·have HZ:Hid (0<k+1→l.headD 0≠45):=fun _=>HA2.out (by omega);have hk0':¬(k:Int)=0:=by omega
       clear HN HS HT HH0 HA2;clear hc1 hc2;go_wp2_with fail;go_roundw;case rel=>exact⟨by first|trivial|rfl,k+1,by omega,by go_num,HV.out,HZ.out⟩
       case measure=>simp[intOf];omega
     |first|(have HT:=a_ (q128 hc1 hc2))|(have HT:=a_ (v128 hc1 hc2))|(have HT:=a_ (x128 hc1 hc2))|(have HT:=a_ (w128 hc1 hc2))
      first|(have f0:(c.toNat:Int)<97:=by omega)|(have f0:¬(c.toNat:Int)<97:=by omega)
      have f1:¬(122:Int)<(c.toNat:Int):=by omega
      first|(have f2:(c.toNat:Int)<65:=by omega)|(have f2:¬(c.toNat:Int)<65:=by omega)
      first|(have f3:¬(90:Int)<(c.toNat:Int):=by omega)|(have f3:(90:Int)<(c.toNat:Int):=by omega)
      have f4:¬(c.toNat:Int)<48:=by omega
      first|(have f5:¬(57:Int)<(c.toNat:Int):=by omega)|(have f5:(57:Int)<(c.toNat:Int):=by omega)
      have g45:((c.toNat:Int)!=45)=true:=by rw[F_];omega
      first|(have g95:((c.toNat:Int)!=95)=true:=by rw[F_];omega)|(have g95:((c.toNat:Int)!=95)=false:=by rw[z_];omega)
      have HV:=a_ (HS.out HT.out);have HZ:Hid (0<k+1→l.headD 0≠45):=by
       intro _;by_cases hk0:k=0;·rw[HH0.out hk0];intro e;rw[e]at hc1 hc2;revert hc1 hc2;decide
       ·exact HA2.out (by omega)
      clear HN HS HT HH0 HA2;clear hc1 hc2;go_wp2_with fail;go_roundw;case rel=>exact⟨by first|trivial|rfl,k+1,by omega,by go_num,HV.out,HZ.out⟩
      case measure=>simp[intOf];omega
     |first|(have HT:=a_ (tenB_0 hc1 hc2))|(have HT:=a_ (z128 hc1 hc2))|(have HT:=a_ (j128 hc1 hc2))|(have HT:=a_ (k128 hc1 hc2))|(have HT:=a_ (y128 hc1 hc2))|(have HT:=a_ (k111 hc1 hc2))
      first|(have f0:(c.toNat:Int)<97:=by omega)|(have f0:¬(c.toNat:Int)<97:=by omega)
      first|(have f1:¬(122:Int)<(c.toNat:Int):=by omega)|(have f1:(122:Int)<(c.toNat:Int):=by omega)
      first|(have f2:(c.toNat:Int)<65:=by omega)|(have f2:¬(c.toNat:Int)<65:=by omega)
      first|(have f3:¬(90:Int)<(c.toNat:Int):=by omega)|(have f3:(90:Int)<(c.toNat:Int):=by omega)
      first|(have f4:(c.toNat:Int)<48:=by omega)|(have f4:¬(c.toNat:Int)<48:=by omega)
      first|(have f5:¬(57:Int)<(c.toNat:Int):=by omega)|(have f5:(57:Int)<(c.toNat:Int):=by omega)
      have g45:((c.toNat:Int)!=45)=true:=by rw[F_];omega
      have g95:((c.toNat:Int)!=95)=true:=by rw[F_];omega
      have HV:=a_ (HN.out HT.out);clear HN HS HT;clear hc1 hc2;go_wp2_with fail;go_ret;exact⟨q17 HV.out.symm,rfl⟩
  ·have HV:Hid (j42 l=decide (l.length≤40)):=by
    have h:=HA.out;rw[u_ (by omega)]at h;have h3:l.headD 0≠45:=by
     by_cases hk0:0<k;·exact HA2.out hk0
     ·obtain rfl:l=[]:=l_ (by omega);decide
    simp only[Hid];rw[x51,h,k_ h3];simp
   go_wp2_with fail;go_ret;exact⟨by rw[HV.out];congr 2;simp;try omega,rfl⟩
theorem j156(W:World)(c d:UInt8)(n m:Int)(h:n=(c.toNat:Int))(h':m=(d.toNat:Int)):Sem.run Tryz.prog (convert 243 9 (.slice (some ⟨W.heap.size,0,none⟩) 2 2)) (W.alloc (.cells #[.int .u8 n,.int .u8 m] 5))=.ok (.string ⟨#[c,d]⟩) (W.alloc (.cells #[.int .u8 n,.int .u8 m] 5)):=by subst h h';refine run_convert_bytes_back (W.alloc (.cells #[.int .u8 (c.toNat:Int),.int .u8 (d.toNat:Int)] 5)) 243 9 5 ⟨W.heap.size,0,none⟩ 2 [c,d] aS_ be_ ay_ ?_;intro j hj;match j,hj with|0,_=>simp[Addr.add]|1,_=>simp[Addr.add]
theorem y51(n:Int)(w:World)(h0:0≤n)(h1:n≤1000000):Calls Tryz.prog 273 #[.int .i64 n] w fun e w'=>e=.returned (.string ⟨(twoD n).toArray⟩)∧Below w.heap.size w w':=by
 have hc:(48:Int)+n/10%10=((dgt (n/10)).toNat:Int):=(v96 _).symm;have hd:(48:Int)+n%10=((dgt n).toNat:Int):=(v96 _).symm;have HT:Hid (twoD n=[dgt (n/10),dgt n]):=rfl;obtain⟨c,hcc⟩:∃c,dgt (n/10)=c:=⟨_,rfl⟩;obtain⟨d,hdd⟩:∃d,dgt n=d:=⟨_,rfl⟩;rw[hcc]at hc HT;rw[hdd]at hd HT;have kc:=fun W=>j156 W c d (c.toNat:Int) (d.toNat:Int) rfl rfl;have hcb:(c.toNat:Int)<256:=by have:=aA_ c;omega
 have hdb:(d.toNat:Int)<256:=by have:=aA_ d;omega
 have hq:0≤n/10∧n/10≤1000000:=by omega
 clear hcc hdd;go_enter Tryz.func273,Tryz.ntmps273;go_wp2_with fail;go_ret;rw[HT.out];exact⟨rfl,by(repeat(first|exact b_ _ _|refine q15 ?_ _|refine x15 ?_|refine q11 ?_ _|refine w14 ?_ (by simp) _))⟩
theorem j133(w:World):Calls Tryz.prog 272 #[] w fun e w'=>e=.returned (.string ⟨weekT.toArray⟩)∧w'=w:=by go_enter Tryz.func272,Tryz.ntmps272;go_wp2_with fail;go_ret;exact⟨rfl,rfl⟩
theorem x120(w:World):Calls Tryz.prog 274 #[] w fun e w'=>e=.returned (.string ⟨yearT.toArray⟩)∧w'=w:=by go_enter Tryz.func274,Tryz.ntmps274;go_wp2_with fail;go_ret;exact⟨rfl,rfl⟩
theorem x111(l:List UInt8)(w:World)(hl:l.length≤1000000):Calls Tryz.prog 104 #[.string ⟨l.toArray⟩] w fun e w'=>e=.returned (.bool (w26 l))∧w'=w:=by
 have hsz:(⟨l.toArray⟩:ByteArray).size=l.length:=q19 l;go_enter Tryz.func104,Tryz.ntmps104;go_wp2_with fail;go_loopw[3](fun i wr=>wr=w∧∃k:Nat,k≤l.length∧i=.int .i64 (k:Int)∧(l.take k).all keyB=true)(fun i _=>l.length-(intOf i).toNat);case atStart=>exact⟨rfl,0,v_ _,rfl,rfl⟩
 case round=>
  obtain⟨rfl,k,hk,rfl,hall⟩:=hrel;have HA:=a_ hall;clear hall;by_cases hlt:k<l.length;·
   have HS:=a_ (fun h=>q34 hlt HA.out h);have HN:=a_ (fun h=>w110 (j41 hlt h));obtain⟨c,hc⟩:∃c,(⟨l.toArray⟩:ByteArray)[k]'(by rw[hsz];exact hlt)=c:=⟨_,rfl⟩;have hcl:l[k]=c:=hc;rw[hcl]at HS HN;have hcb:c.toNat<256:=aA_ _;clear hcl HA;by_cases d1:c.toNat<33;·
    have HV:=a_ (HN.out (by unfold keyB;rw[k_ (show¬33≤c.toNat by omega)];rfl));have e1:(c.toNat:Int)<33:=by omega
    clear HN HS d1;go_wp2_with fail;go_ret;exact⟨q17 HV.out.symm,rfl⟩
   have e1:¬(c.toNat:Int)<33:=by omega
   by_cases d3:126<c.toNat;·
    have HV:=a_ (HN.out (by unfold keyB;rw[k_ (show¬c.toNat≤126 by omega)];simp));have e3:(126:Int)<(c.toNat:Int):=by omega
    clear HN HS d1 d3;go_wp2_with fail;go_ret;exact⟨q17 HV.out.symm,rfl⟩
   have e3:¬(126:Int)<(c.toNat:Int):=by omega
   have HV:=a_ (HS.out (by unfold keyB;rw[s_ (show 33≤c.toNat by omega),s_ (show c.toNat≤126 by omega)];rfl));clear HN HS d1 d3;go_wp2_with fail;go_roundw;case rel=>exact⟨by first|trivial|rfl,k+1,by omega,by go_num,HV.out⟩
   case measure=>simp[intOf];omega
  ·have HV:Hid (w26 l=(decide (1≤l.length)&&decide (l.length≤200))):=by have h:=HA.out;rw[u_ (by omega)]at h;simp only[Hid];rw[k51,h,Bool.and_true]
   by_cases h1:0<l.length;·
    have h1':(0:Int)<(l.length:Int):=by omega
    by_cases h2:l.length≤200;·
     have h2':(l.length:Int)≤200:=by omega
     have HV2:Hid (w26 l=true):=by simp only[Hid];rw[HV.out];simp;omega
     clear HV;go_wp2_with fail;go_ret;exact⟨q17 HV2.out.symm,rfl⟩
    ·have h2':¬(l.length:Int)≤200:=by omega
     have HV2:Hid (w26 l=false):=by simp only[Hid];rw[HV.out];simp;omega
     clear HV;go_wp2_with fail;go_ret;exact⟨q17 HV2.out.symm,rfl⟩
   ·have h1':¬(0:Int)<(l.length:Int):=by omega
    have HV2:Hid (w26 l=false):=by simp only[Hid];rw[HV.out];simp;omega
    clear HV;go_wp2_with fail;go_ret;exact⟨q17 HV2.out.symm,rfl⟩
theorem Tryz.fieldInfo:(Tryz.prog.info? 176).map (fun i=>(i.zero,i.size,i.bytes))=some (some (.agg #[.string ⟨#[]⟩,.string ⟨#[]⟩]),2,32):=by kernel_rfl
theorem Tryz.partInfo:(Tryz.prog.info? 89).map (fun i=>(i.zero,i.size,i.bytes))=some (some (.agg #[.string ⟨#[]⟩,.int .i64 0,.int .i64 0]),3,32):=by kernel_rfl
theorem elemFd:ElemK Tryz.prog w18 2 176 71 32 where
 und:=Tryz.underlying71
 info:=by obtain⟨i0,hi,hz0,hz1,hz2⟩:=aT_ Tryz.fieldInfo;exact⟨i0,_,hi,hz0,hz1,hz2,rfl⟩
 pos:=by decide
 small:=by decide
 len _:=rfl
 one _ v hv:=by simp[w18]at hv;rcases hv with rfl|rfl<;>rfl
theorem elemPt:ElemK Tryz.prog j18 3 89 72 32 where
 und:=Tryz.underlying72
 info:=by obtain⟨i0,hi,hz0,hz1,hz2⟩:=aT_ Tryz.partInfo;exact⟨i0,_,hi,hz0,hz1,hz2,rfl⟩
 pos:=by decide
 small:=by decide
 len _:=rfl
 one _ v hv:=by simp[j18]at hv;rcases hv with rfl|rfl|rfl<;>rfl
theorem x23{α:Type}{P:Program}{enc:α→List Value}{n:Nat}{T ST:TypeId}{bytes:Nat}(K:ElemK P enc n T ST bytes){ops:Array Oper}{rest:List Oper}{o:Oper}{a:Act}{Q:Exit→Act→World→Prop}{w w0:World}(hgd:o.guard=none)(s x:Operand)(ho:o.op=.call {callee:=.builtin .append,args:=#[s,x],argTypes:=#[ST,ST]})(A:Option Addr)(c ln:Nat)(L:List α)(hln:ln=L.length)(cs:Array Value)(T':TypeId)(hs:a.eval s=.slice A ln c)(hown:OwnG T enc n w w0.heap.size A c L)(t:List α)(k:Nat)(hk:k=t.length)(hx:a.eval x=.slice (some ⟨w.heap.size,0,none⟩) k k)(hcs:cs.toList=w180 enc t)(h0:0<t.length)(m:Nat)(hm:m=ln+t.length)(hl:m≤1000000)(hbel:Below w0.heap.size w0 w)(h:∀A' c' w',OwnG T enc n w' w0.heap.size A' c' (L++t)→Below w0.heap.size w0 w'→(w.alloc (.cells cs T')).grownBy w' (Value.slice A L.length c).ownBlock→wpList P ops Q rest (a.put o.dst (.slice A' m c')) w'):wpList P ops Q (o::rest) a (w.alloc (.cells cs T')):=by subst hln hk hm;exact k53 (w0:=w0) K hgd s x ho A c L hs (hown.alloc _) (some ⟨w.heap.size,0,none⟩) _ t hx (SpG.built (enc:=enc) (n:=n) K.len w t cs hcs T') h0 hl (q11 hbel _) h
def j25(m:MetaL)(A:Option Addr)(c:Nat):Value:=.agg #[.string ⟨m.tag.toArray⟩,.bool m.weak,.int .i64 m.mo,.int .i64 m.len,.int .i64 m.hv,.int .i64 m.fresh,.int .i64 m.wh,.int .i64 m.er,.slice A m.keys.length c,.string ⟨m.ten.toArray⟩,.bool m.keep]
def w65(s wh er:Int)(ns:Bool):Value:=.agg #[.int .i64 (-1),.int .i64 s,.int .i64 wh,.int .i64 er,.bool ns,.bool false,.bool false]
def offN(n:Int):Int:=if n=0 then-1 else n
theorem w146(m:MetaL)(A:Option Addr)(c:Nat)(w:World)(h1:0≤m.fresh∧m.fresh≤1099511627776)(h2:0≤m.wh∧m.wh≤1099511627776)(h3:0≤m.er∧m.er≤1099511627776):Calls Tryz.prog 124 #[j25 m A c] w fun e w'=>e=.returned (w65 m.fresh (offN m.wh) (offN m.er) (!m.keep))∧Below w.heap.size w w':=by
 obtain⟨tg,wk,mo,ln,hv,fr,wh,er,ks,tn,kp⟩:=m;simp only at h1 h2 h3⊢;have H1:=fun W=>a_ (y65 fr W h1.1 h1.2);have H2:=fun W=>a_ (y65 wh W h2.1 h2.2);have H3:=fun W=>a_ (y65 er W h3.1 h3.2);unfold j25;simp only;go_enter Tryz.func124,Tryz.ntmps124;go_wp2_with fail;go_region_held3(fun w'=>w'.cell? ⟨w.heap.size,5,none⟩=some (.int .i64 fr)∧w'.cell? ⟨w.heap.size,6,none⟩=some (.int .i64 wh)∧w'.cell? ⟨w.heap.size,7,none⟩=some (.int .i64 er)∧w'.cell? ⟨w.heap.size,10,none⟩=some (.bool kp))(simp[go_sem])(first|(go_at_call_of 169(Value.int .i64 fr);refine(H1 _).out.mono ?_;rintro e w1⟨rfl,rfl⟩)|(go_at_call_of 169(Value.int .i64 wh);refine(H2 _).out.mono ?_;rintro e w1⟨rfl,rfl⟩)|(go_at_call_of 169(Value.int .i64 er);refine(H3 _).out.mono ?_;rintro e w1⟨rfl,rfl⟩));all_goals
  by_cases a1:wh=0;·
   have e1:offN wh=-1:=w_ a1;by_cases a2:er=0;·have e2:offN er=-1:=w_ a2;go_wp2_with fail;refine m_ (by simp[results,Tryz.results124,go_sem];try rfl) rfl ?_;rw[e1,e2];exact⟨rfl,by(repeat(first|exact b_ _ _|refine q15 ?_ _|refine x15 ?_|refine q11 ?_ _|refine w14 ?_ (by simp) _))⟩
   ·have e2:offN er=er:=q_ a2;go_wp2_with fail;refine m_ (by simp[results,Tryz.results124,go_sem];try rfl) rfl ?_;rw[e1,e2];exact⟨rfl,by(repeat(first|exact b_ _ _|refine q15 ?_ _|refine x15 ?_|refine q11 ?_ _|refine w14 ?_ (by simp) _))⟩
  ·have e1:offN wh=wh:=q_ a1;by_cases a2:er=0;·have e2:offN er=-1:=w_ a2;go_wp2_with fail;refine m_ (by simp[results,Tryz.results124,go_sem];try rfl) rfl ?_;rw[e1,e2];exact⟨rfl,by(repeat(first|exact b_ _ _|refine q15 ?_ _|refine x15 ?_|refine q11 ?_ _|refine w14 ?_ (by simp) _))⟩
   ·have e2:offN er=er:=q_ a2;go_wp2_with fail;refine m_ (by simp[results,Tryz.results124,go_sem];try rfl) rfl ?_;rw[e1,e2];exact⟨rfl,by(repeat(first|exact b_ _ _|refine q15 ?_ _|refine x15 ?_|refine q11 ?_ _|refine w14 ?_ (by simp) _))⟩
theorem SpG.take{α:Type}{enc:α→List Value}{n:Nat}{w:World}{A:Option Addr}{c:Nat}{L:List α}(h:SpG enc n w A c L)(k:Nat):SpG enc n w A c (L.take k):=by
 refine⟨ai_ (by rw[N_];omega) h.le,h.nil_,fun j hj=>?_⟩;have hj2:j<L.length:=by rw[N_]at hj;omega
 obtain⟨b,off,e,hb,hc⟩:=h.at' j hj2;refine⟨b,off,e,hb,fun i v hv=>hc i v ?_⟩;rw[List.getElem_take]at hv;exact hv
def IdxPost(v:List UInt8)(L:List (List UInt8))(w:World)(e:Ending)(w':World):Prop:=(∃n:Int,e=.returned (.int .i64 n)∧((0≤n∧v∈L)∨(n<0∧v∉L)))∧w'=w
theorem y111{v:List UInt8}{L:List (List UInt8)}{k:Nat}(hk:k<L.length)(h:v∉L.take k)(h2:¬v=L[k]):v∉L.take (k+1):=by
 rw[n_ hk];intro hh;rcases A_.1 hh with hh|hh;·exact h hh
 ·exact h2 (D_.1 hh)
theorem v156(A:Option Addr)(c:Nat)(L:List (List UInt8))(v:List UInt8)(w:World)(h:SpG encT 1 w A c L)(hl:L.length≤1000000):Calls Tryz.prog 200 #[.slice A L.length c,.string ⟨v.toArray⟩] w (IdxPost v L w):=by
 have HH:=a_ h;clear h;go_enter Tryz.func200,Tryz.ntmps200;go_wp2_with fail;go_loopw[5,8](fun _ i wr=>wr=w∧∃k:Nat,k≤L.length∧i=.int .i64 (k:Int)∧v∉L.take k)(fun _ i _=>L.length-(intOf i).toNat);case atStart=>exact⟨rfl,0,v_ _,rfl,by simp⟩
 case round=>
  obtain⟨rfl,k,hk,rfl,hn⟩:=hrel;have HN:=a_ hn;clear hn;by_cases hlt:k<L.length;·
   obtain⟨b,off,e,hb,hc⟩:=HH.out.at' k hlt;have c0:=hc 0 _ rfl;have HY:Hid (v=L[k]→v∈L):=fun hh=>by rw[hh];exact y_ hlt
   have HS:Hid (¬v=L[k]→v∉L.take (k+1)):=y111 hlt HN.out;obtain⟨x,hx⟩:∃x,L[k]=x:=⟨_,rfl⟩;rw[hx]at c0 HY HS;simp only[bn_,J_]at c0;clear hx hc HN;rw[e];by_cases hv:v=x;·
    have HF:=a_ (HY.out hv);have hb2:(v==x)=true:=by rw[hv];exact beq_self_eq_true x
    clear HY HS hv;go_wp2_with fail;go_ret;exact⟨⟨_,rfl,.inl ⟨by omega,HF.out⟩⟩,rfl⟩
   ·have HF:=a_ (HS.out hv);have hb2:(v==x)=false:=j_.2 hv;clear HY HS hv;go_wp2_with fail;go_roundw;case rel=>exact⟨trivial,k+1,by omega,by go_num,HF.out⟩
    case measure=>simp[intOf];omega
  ·have hke:k=L.length:=by omega
   have HF:Hid (v∉L):=by have:=HN.out;rw[hke,V_]at this;exact this
   clear HN hke;go_wp2_with fail;go_ret;exact⟨⟨_,rfl,.inr ⟨by decide,HF.out⟩⟩,rfl⟩
theorem j44(A:Option Addr)(c:Nat)(L:List (List UInt8))(v:List UInt8)(w:World)(h:SpG encT 1 w A c L)(hl:L.length≤1000000):Calls Tryz.prog 139 #[.slice A L.length c,.string ⟨v.toArray⟩] w fun e w'=>e=.returned (.bool (decide (v∈L)))∧w'=w:=by
 go_enter Tryz.func139,Tryz.ntmps139;go_wp2_with fail;refine(v156 A c L v w h hl).mono ?_;rintro e w1⟨⟨n,rfl,hn⟩,rfl⟩;rcases hn with⟨h0,hv⟩|⟨h0,hv⟩;·have HV:Hid (decide (v∈L)=true):=s_ hv;clear hv;go_wp2_with fail;go_ret;exact⟨by rw[HV.out];simp,rfl⟩
 ·have HV:Hid (decide (v∈L)=false):=k_ hv;clear hv;go_wp2_with fail;go_ret;exact⟨by rw[HV.out];simp;omega,rfl⟩
structure MetaOk(m:MetaL):Prop where
 tg:(m.tag=[]∧m.weak=false)∨j20 m.tag=true
 mo:-1≤m.mo∧m.mo≤253402300799
 ln:-1≤m.len∧m.len≤1099511627776
 hv:0≤m.hv∧m.hv≤1099511627776
 eq:m.len=-1∨m.hv=m.len
 fr:0≤m.fresh∧m.fresh≤1099511627776
 wh:0≤m.wh∧m.wh≤1099511627776
 er:0≤m.er∧m.er≤1099511627776
 kn:m.keys.length≤32
 ka:∀x∈m.keys,w26 x=true
 kd:m.keys.Nodup
 tn:j42 m.ten=true
theorem v133(m:MetaL):metaOk m=true↔MetaOk m:=by
 unfold metaOk tag0 k37 keysOk;simp only[r_,I_,p_,av_,aP_];constructor;·rintro⟨⟨⟨⟨⟨⟨⟨⟨⟨⟨⟨⟨h1,h2⟩,h3⟩,h4⟩,h5⟩,h6⟩,h7⟩,h8⟩,h9⟩,h10⟩,h11⟩,⟨h12,h13⟩,h14⟩,h15⟩;exact⟨h1,⟨h2,h3⟩,⟨h4,h5⟩,⟨h6,h7⟩,h8,h9,h10,h11,h12,h13,h14,h15⟩
 ·rintro⟨h1,⟨h2,h3⟩,⟨h4,h5⟩,⟨h6,h7⟩,h8,h9,h10,h11,h12,h13,h14,h15⟩;exact⟨⟨⟨⟨⟨⟨⟨⟨⟨⟨⟨⟨h1,h2⟩,h3⟩,h4⟩,h5⟩,h6⟩,h7⟩,h8⟩,h9⟩,h10⟩,h11⟩,⟨h12,h13⟩,h14⟩,h15⟩
theorem k54{x:List UInt8}(h:w26 x=true):x.length≤200:=by rw[k51]at h;simp only[r_,p_]at h;exact h.1.2
theorem z147{x:List UInt8}(h:j42 x=true):x.length≤40:=by rw[x51]at h;simp only[r_,p_]at h;exact h.1.1
theorem y54{x:List UInt8}(h:j20 x=true):1≤x.length∧x.length≤100:=by rw[j45]at h;simp only[r_,p_]at h;exact h.1
theorem w87{n:Int}(h:0≤n∧n≤1099511627776):k37 n=true:=by unfold k37;rw[s_ h.1,s_ h.2];rfl
theorem y56{α:Type}{L:List α}(h:L.Nodup){k:Nat}(hk:k<L.length):L[k]∉L.take k:=by intro hh;obtain⟨j,hj,e⟩:=as_ hh;rw[List.getElem_take]at e;rw[N_]at hj;have:=(List.getElem_inj (h₀:=by omega) (h₁:=hk) h).1 e;omega
theorem w68(m:MetaL)(A:Option Addr)(c:Nat)(w:World)(hks:SpG encT 1 w A c m.keys)(hok:MetaOk m):Calls Tryz.prog 81 #[j25 m A c] w fun e w'=>e=.returned (.bool true)∧Below w.heap.size w w':=by
 obtain⟨tg,wk,mo,ln,hv,fr,wh,er,ks,tn,kp⟩:=m;obtain⟨g1,⟨g2,g3⟩,⟨g4,g5⟩,⟨g6,g7⟩,g8,g9,g10,g11,g12,g13,g14,g15⟩:=hok;simp only at g1 g2 g3 g4 g5 g6 g7 g8 g9 g10 g11 g12 g13 g14 g15 hks⊢;unfold j25;simp only;have HK:=a_ hks;have HD:=a_ g14;have HA:=a_ g13;have T1:=fun W=>a_ (k45 fr W);have T2:=fun W=>a_ (k45 wh W);have T3:=fun W=>a_ (k45 er W);rw[w87 g9]at T1;rw[w87 g10]at T2;rw[w87 g11]at T3;have HT:=fun W=>a_ (w92 tn W (by have:=z147 g15;omega));rw[g15]at HT;have f1:¬mo< -1:=by omega
 have f2:¬(253402300799:Int)<mo:=by omega
 have f3:¬ln< -1:=by omega
 have f4:¬(1099511627776:Int)<ln:=by omega
 have f5:¬hv<0:=by omega
 have f6:¬(1099511627776:Int)<hv:=by omega
 have f7:¬(32:Int)<(ks.length:Int):=by omega
 have hcase:(ln !=-1)=false∨((ln !=-1)=true∧(hv !=ln)=false):=by
  by_cases e:ln=-1;·left;rw[z_];exact e
  ·right;exact⟨by rw[F_];exact e,by rw[z_];omega⟩
 clear hks g14 g13 g2 g3 g4 g5 g6 g7 g8 g9 g10 g11 g12 g15;have hcg:(tg=[]∧wk=false)∨((tg==[])=false∧j20 tg=true):=by
  rcases g1 with h|h;·exact .inl h
  ·right;refine⟨?_,h⟩;have:=(y54 h).1;cases tg with|nil=>simp at this|cons a r=>rfl
 clear g1;rcases hcg with⟨rfl,rfl⟩|⟨hne,hto⟩;·
  rcases hcase with hc1|⟨hc1,hc2⟩;all_goals
   go_enter Tryz.func81,Tryz.ntmps81;go_upto_region 3 with fail;obtain⟨W0,hW0⟩:∃W0,w.alloc (.cells #[.string ⟨#[]⟩,.bool false,.int .i64 mo,.int .i64 ln,.int .i64 hv,.int .i64 fr,.int .i64 wh,.int .i64 er,.slice A ks.length c,.string ⟨tn.toArray⟩,.bool kp] 45)=W0:=⟨_,rfl⟩;have HW0:Hid (W0.heap[w.heap.size]?=some (.cells #[.string ⟨#[]⟩,.bool false,.int .i64 mo,.int .i64 ln,.int .i64 hv,.int .i64 fr,.int .i64 wh,.int .i64 er,.slice A ks.length c,.string ⟨tn.toArray⟩,.bool kp] 45 (0,0))):=by rw[←hW0];exact j17 rfl
   have HWB:Hid (Below w.heap.size w W0):=by rw[←hW0];exact q11 (b_ _ _) _
   rw[hW0];have HK:=a_ (HK.out.below HWB.out);clear hW0;have v2:=bc 2 HW0.out rfl;have v3:=bc 3 HW0.out rfl;have v4:=bc 4 HW0.out rfl;have v5:=bc 5 HW0.out rfl;have v6:=bc 6 HW0.out rfl;have v7:=bc 7 HW0.out rfl;have v8:=bc 8 HW0.out rfl;have v9:=bc 9 HW0.out rfl;have vz:=q14 HW0.out;go_wp2_with(first|(go_at_call_of 119(Value.int .i64 fr);refine(T1 _).out.mono ?_;rintro e w1⟨rfl,hw1⟩;obtain rfl:W0=w1:=hw1.symm)|(go_at_call_of 119(Value.int .i64 wh);refine(T2 _).out.mono ?_;rintro e w1⟨rfl,hw1⟩;obtain rfl:W0=w1:=hw1.symm)|(go_at_call_of 119(Value.int .i64 er);refine(T3 _).out.mono ?_;rintro e w1⟨rfl,hw1⟩;obtain rfl:W0=w1:=hw1.symm)|(go_at_call 137;refine(HT _).out.mono ?_;rintro e w1⟨rfl,hw1⟩;obtain rfl:W0=w1:=hw1.symm));clear v2 v3 v4 v5 v6 v7 v9 T1 T2 T3 HT f1 f2 f3 f4 f5 f6 f7;try clear hc1
   try clear hc2
   go_loopw[3,4,84](fun _ _ i wr=>wr=W0∧∃k:Nat,k≤ks.length∧i=.int .i64 (k:Int))(fun _ _ i _=>ks.length-(intOf i).toNat);case atStart=>exact⟨rfl,0,v_ _,rfl⟩
   case round=>
    obtain⟨rfl,k,hk,rfl⟩:=hrel;by_cases hlt:k<ks.length;·
     obtain⟨b,off,e,hb,hc⟩:=HK.out.at' k hlt;have c0:=hc 0 _ rfl;have hkk:=HA.out _ (y_ hlt);have HKy:=fun W=>a_ (w62 ks[k] W (by have:=k54 hkk;omega));rw[hkk]at HKy;have HC:=a_ (j44 A c (ks.take k) ks[k] wr (HK.out.take k) (by rw[N_];omega));rw[k_ (y56 HD.out hlt),N_,Nat.min_eq_left (by omega)]at HC;obtain⟨x,hx⟩:∃x,ks[k]=x:=⟨_,rfl⟩;rw[hx]at c0 HKy HC;simp only[bn_,J_]at c0;have hle:=HK.out.le;have hkc:(k:Int)≤(c:Int):=by omega
     clear hx hc hkk HA HD;subst e;go_wp2_with(first|(go_at_call 138;refine(HKy _).out.mono ?_;rintro e w1⟨rfl,hw1⟩;obtain rfl:wr=w1:=hw1.symm)|(go_at_call 139;refine HC.out.mono ?_;rintro e w1⟨rfl,hw1⟩;obtain rfl:wr=w1:=hw1.symm));go_roundw;case rel=>exact⟨by first|trivial|rfl,k+1,by omega,by go_num⟩
     case measure=>simp[intOf];omega
    ·clear HA HD;go_wp2_with fail;go_ret;exact⟨rfl,HWB.out⟩
 have HTG:=fun W=>a_ (k39 tg wk W (by have:=y54 hto;omega));rw[hto]at HTG;clear hto;·
  rcases hcase with hc1|⟨hc1,hc2⟩;all_goals
   go_enter Tryz.func81,Tryz.ntmps81;go_upto_region 3 with(go_at_call 65;refine(HTG _).out.mono ?_;rintro e W0⟨rfl,hb1⟩);have HW0:Hid (W0.heap[w.heap.size]?=some (.cells #[.string ⟨tg.toArray⟩,.bool wk,.int .i64 mo,.int .i64 ln,.int .i64 hv,.int .i64 fr,.int .i64 wh,.int .i64 er,.slice A ks.length c,.string ⟨tn.toArray⟩,.bool kp] 45 (0,0))):=j3 hb1 (j17 rfl);have HWB:Hid (Below w.heap.size w W0):=q12 hb1 (q11 (b_ _ _) _);have HK:=a_ (HK.out.below HWB.out);clear hb1 HTG hne;have v2:=bc 2 HW0.out rfl;have v3:=bc 3 HW0.out rfl;have v4:=bc 4 HW0.out rfl;have v5:=bc 5 HW0.out rfl;have v6:=bc 6 HW0.out rfl;have v7:=bc 7 HW0.out rfl;have v8:=bc 8 HW0.out rfl;have v9:=bc 9 HW0.out rfl;have vz:=q14 HW0.out;go_wp2_with(first|(go_at_call_of 119(Value.int .i64 fr);refine(T1 _).out.mono ?_;rintro e w1⟨rfl,hw1⟩;obtain rfl:W0=w1:=hw1.symm)|(go_at_call_of 119(Value.int .i64 wh);refine(T2 _).out.mono ?_;rintro e w1⟨rfl,hw1⟩;obtain rfl:W0=w1:=hw1.symm)|(go_at_call_of 119(Value.int .i64 er);refine(T3 _).out.mono ?_;rintro e w1⟨rfl,hw1⟩;obtain rfl:W0=w1:=hw1.symm)|(go_at_call 137;refine(HT _).out.mono ?_;rintro e w1⟨rfl,hw1⟩;obtain rfl:W0=w1:=hw1.symm));clear v2 v3 v4 v5 v6 v7 v9 T1 T2 T3 HT f1 f2 f3 f4 f5 f6 f7;try clear hc1
   try clear hc2
   go_loopw[3,4,84](fun _ _ i wr=>wr=W0∧∃k:Nat,k≤ks.length∧i=.int .i64 (k:Int))(fun _ _ i _=>ks.length-(intOf i).toNat);case atStart=>exact⟨rfl,0,v_ _,rfl⟩
   case round=>
    obtain⟨rfl,k,hk,rfl⟩:=hrel;by_cases hlt:k<ks.length;·
     obtain⟨b,off,e,hb,hc⟩:=HK.out.at' k hlt;have c0:=hc 0 _ rfl;have hkk:=HA.out _ (y_ hlt);have HKy:=fun W=>a_ (w62 ks[k] W (by have:=k54 hkk;omega));rw[hkk]at HKy;have HC:=a_ (j44 A c (ks.take k) ks[k] wr (HK.out.take k) (by rw[N_];omega));rw[k_ (y56 HD.out hlt),N_,Nat.min_eq_left (by omega)]at HC;obtain⟨x,hx⟩:∃x,ks[k]=x:=⟨_,rfl⟩;rw[hx]at c0 HKy HC;simp only[bn_,J_]at c0;have hle:=HK.out.le;have hkc:(k:Int)≤(c:Int):=by omega
     clear hx hc hkk HA HD;subst e;go_wp2_with(first|(go_at_call 138;refine(HKy _).out.mono ?_;rintro e w1⟨rfl,hw1⟩;obtain rfl:wr=w1:=hw1.symm)|(go_at_call 139;refine HC.out.mono ?_;rintro e w1⟨rfl,hw1⟩;obtain rfl:wr=w1:=hw1.symm));go_roundw;case rel=>exact⟨by first|trivial|rfl,k+1,by omega,by go_num⟩
     case measure=>simp[intOf];omega
    ·clear HA HD;go_wp2_with fail;go_ret;exact⟨rfl,HWB.out⟩
def w51(Q:Prop)(w:World)(e:Ending)(w':World):Prop:=∃b:Bool,e=.returned (.bool b)∧(b=true→Q)∧Below w.heap.size w w'
theorem j181{Q:Prop}{w w':World}(h:Below w.heap.size w w'):w51 Q w (.returned (.bool false)) w':=⟨false,rfl,(fun h=>by cases h),h⟩
theorem x97{Q:Prop}{w w':World}{b:Bool}(hq:Q)(h:Below w.heap.size w w'):w51 Q w (.returned (.bool b)) w':=⟨b,rfl,fun _=>hq,h⟩
theorem y72(t:List UInt8)(wk:Bool)(w:World):Calls Tryz.prog 60 #[.agg #[.string ⟨t.toArray⟩,.bool wk]] w fun e w'=>e=.returned (.bool (t.isEmpty&&!wk))∧Below w.heap.size w w':=by
 cases hte:t.isEmpty with
  |false=>go_enter Tryz.func60,Tryz.ntmps60;go_wp2_with fail;go_ret;exact⟨rfl,by(repeat(first|exact b_ _ _|refine q15 ?_ _|refine x15 ?_|refine q11 ?_ _|refine w14 ?_ (by simp) _))⟩
  |true=>go_enter Tryz.func60,Tryz.ntmps60;go_wp2_with fail;go_ret;exact⟨rfl,by(repeat(first|exact b_ _ _|refine q15 ?_ _|refine x15 ?_|refine q11 ?_ _|refine w14 ?_ (by simp) _))⟩
def j46(m:MetaL):Prop:=m.tag.length≤200∧m.keys.length≤40∧m.ten.length≤100∧∀x∈m.keys,x.length≤300
theorem k133(m:MetaL)(A:Option Addr)(c:Nat)(w:World)(hks:SpG encT 1 w A c m.keys):Calls Tryz.prog 15 #[j25 m A c] w (w51 (j46 m) w):=by
 have HK0:=a_ hks;obtain⟨tg,wk,mo,ln,hv,fr,wh,er,ks,tn,kp⟩:=m;unfold j25;simp only at HK0⊢;have hz1:(⟨tg.toArray⟩:ByteArray).size=tg.length:=q19 tg;have hz2:(⟨tn.toArray⟩:ByteArray).size=tn.length:=q19 tn;by_cases h1:200<tg.length;·
  have h1':(200:Int)<(tg.length:Int):=by omega
  clear h1;go_enter Tryz.func15,Tryz.ntmps15;go_wp2_with fail;go_ret;exact j181 (by(repeat(first|exact b_ _ _|refine q15 ?_ _|refine x15 ?_|refine q11 ?_ _|refine w14 ?_ (by simp) _)))
 have h1':¬(200:Int)<(tg.length:Int):=by omega
 by_cases h2:40<ks.length;·
  have h2':(40:Int)<(ks.length:Int):=by omega
  clear h2;go_enter Tryz.func15,Tryz.ntmps15;go_wp2_with fail;go_ret;exact j181 (by(repeat(first|exact b_ _ _|refine q15 ?_ _|refine x15 ?_|refine q11 ?_ _|refine w14 ?_ (by simp) _)))
 have h2':¬(40:Int)<(ks.length:Int):=by omega
 by_cases h3:100<tn.length;·
  have h3':(100:Int)<(tn.length:Int):=by omega
  clear h3;go_enter Tryz.func15,Tryz.ntmps15;go_wp2_with fail;go_ret;exact j181 (by(repeat(first|exact b_ _ _|refine q15 ?_ _|refine x15 ?_|refine q11 ?_ _|refine w14 ?_ (by simp) _)))
 have h3':¬(100:Int)<(tn.length:Int):=by omega
 have HL:Hid (tg.length≤200∧ks.length≤40∧tn.length≤100):=by simp only[Hid];omega
 have hk40:ks.length≤40:=by omega
 clear h1 h2 h3;go_enter Tryz.func15,Tryz.ntmps15;go_wp2_with fail;obtain⟨W0,hW0⟩:∃W0,w.alloc (.cells #[.string ⟨tg.toArray⟩,.bool wk,.int .i64 mo,.int .i64 ln,.int .i64 hv,.int .i64 fr,.int .i64 wh,.int .i64 er,.slice A ks.length c,.string ⟨tn.toArray⟩,.bool kp] 45)=W0:=⟨_,rfl⟩;have HM0:Hid (W0.heap[w.heap.size]?=some (.cells #[.string ⟨tg.toArray⟩,.bool wk,.int .i64 mo,.int .i64 ln,.int .i64 hv,.int .i64 fr,.int .i64 wh,.int .i64 er,.slice A ks.length c,.string ⟨tn.toArray⟩,.bool kp] 45 (0,0))):=by rw[←hW0];exact j17 rfl
 have HB0:Hid (Below w.heap.size w W0):=by simp only[Hid];rw[←hW0];(repeat(first|exact b_ _ _|refine q15 ?_ _|refine x15 ?_|refine q11 ?_ _|refine w14 ?_ (by simp) _))
 have HK:=a_ (HK0.out.below HB0.out);rw[hW0];clear hW0 HK0 h1' h2' h3';go_loopw[3](fun i wr=>wr=W0∧∃k:Nat,k≤ks.length∧i=.int .i64 (k:Int)∧∀x∈ks.take k,x.length≤300)(fun i _=>ks.length-(intOf i).toNat);case atStart=>exact⟨rfl,0,v_ _,rfl,by simp⟩
 case round=>
  obtain⟨rfl,k,hk,rfl,hall⟩:=hrel;have HA:=a_ hall;clear hall;have v8:=bc 8 HM0.out rfl;have vz:=q14 HM0.out;by_cases hlt:k<ks.length;·
   obtain⟨b,off,e,hb,hc⟩:=HK.out.at' k hlt;have c0:=hc 0 _ rfl;have hst:ks[k].length≤300→∀x∈ks.take (k+1),x.length≤300:=by
    intro h x hx;rw[n_ hlt]at hx;rcases A_.1 hx with hx|hx;·exact HA.out x hx
    ·rw[D_.1 hx];exact h
   have HST:=a_ hst;obtain⟨x,hx⟩:∃x,ks[k]=x:=⟨_,rfl⟩;rw[hx]at c0 HST;simp only[bn_,J_]at c0;have hsx:(⟨x.toArray⟩:ByteArray).size=x.length:=q19 x;clear hx hc hst HA;subst e;by_cases hxl:300<x.length;·
    have hx':(300:Int)<(x.length:Int):=by omega
    clear hxl HST;go_wp2_with fail;go_ret;exact j181 HB0.out
   ·have HF:=a_ (HST.out (by omega));have hx':¬(300:Int)<(x.length:Int):=by omega
    clear hxl HST;go_wp2_with fail;go_roundw;case rel=>exact⟨by first|trivial|rfl,k+1,by omega,by go_num,HF.out⟩
    case measure=>simp[intOf];omega
  ·have HF:=HA.out;rw[show k=ks.length from by omega,V_]at HF;have HV:Hid (j46 ⟨tg,wk,mo,ln,hv,fr,wh,er,ks,tn,kp⟩):=⟨HL.out.1,HL.out.2.1,HL.out.2.2,HF⟩;clear HF HA;go_wp2_with fail;go_ret;exact x97 HV.out HB0.out
def q93(L:List (List UInt8)):Prop:=L.length≤32∧(∀x∈L,w26 x=true)∧L.Nodup
def j33(l:List UInt8):Bool:=decide (1≤l.length)&&decide (l.length≤200)&&decide (l.headD 0=47)&&l.all keyB
theorem w112{l:List UInt8}(h:l.all keyB=false):j33 l=false:=by unfold j33;rw[h,bG_]
theorem j102{l:List UInt8}(h1:1≤l.length)(h2:l.length≤200)(h3:l.headD 0=47)(h:l.all keyB=true):j33 l=true:=by unfold j33;rw[h,s_ h1,s_ h2,s_ h3];rfl
theorem k66{l:List UInt8}(h:0<l.length):l.headD 0=l[0]:=by cases l with|nil=>simp at h|cons a r=>rfl
theorem z135(l:List UInt8)(w:World)(hl:l.length≤1000000):Calls Tryz.prog 63 #[.string ⟨l.toArray⟩] w fun e w'=>e=.returned (.bool (j33 l))∧w'=w:=by
 have hsz:(⟨l.toArray⟩:ByteArray).size=l.length:=q19 l;by_cases h1:l.length<1;·
  have HV:Hid (j33 l=false):=by simp only[Hid];unfold j33;rw[k_ (by omega)];rfl
  have h1':(l.length:Int)<1:=by omega
  clear h1;go_enter Tryz.func63,Tryz.ntmps63;go_wp2_with fail;go_ret;exact⟨q17 HV.out.symm,rfl⟩
 by_cases h2:200<l.length;·
  have HV:Hid (j33 l=false):=by simp only[Hid];unfold j33;rw[k_ (show¬l.length≤200 by omega)];simp
  have h1':¬(l.length:Int)<1:=by omega
  have h2':(200:Int)<(l.length:Int):=by omega
  clear h1 h2;go_enter Tryz.func63,Tryz.ntmps63;go_wp2_with fail;go_ret;exact⟨q17 HV.out.symm,rfl⟩
 have h1':¬(l.length:Int)<1:=by omega
 have h2':¬(200:Int)<(l.length:Int):=by omega
 have hp0:(0:Nat)<l.length:=by omega
 have H12:Hid (1≤l.length∧l.length≤200):=by simp only[Hid];omega
 clear h1 h2;by_cases h3:l.headD 0=47;rotate_left;·
  have HV:Hid (j33 l=false):=by simp only[Hid];unfold j33;rw[k_ h3];simp
  have HD:=a_ h3;obtain⟨c0,hc0⟩:∃c,(⟨l.toArray⟩:ByteArray)[0]'(by rw[hsz];exact hp0)=c:=⟨_,rfl⟩;have hcl:l[0]=c0:=hc0;have h3':¬(c0.toNat:Int)=47:=by intro h;apply HD.out;rw[k66 hp0,hcl];exact UInt8.toNat_inj.1 (by rw[show c0.toNat=47 by omega];rfl)
  have h4':((c0.toNat:Int)!=47)=true:=by rw[F_];exact h3'
  clear h3 hcl HD;go_enter Tryz.func63,Tryz.ntmps63;go_wp2_with fail;go_ret;exact⟨q17 HV.out.symm,rfl⟩
 have HD:=a_ h3;obtain⟨c0,hc0⟩:∃c,(⟨l.toArray⟩:ByteArray)[0]'(by rw[hsz];exact hp0)=c:=⟨_,rfl⟩;have hcl:l[0]=c0:=hc0;have h3':(c0.toNat:Int)=47:=by rw[←hcl,←k66 hp0,h3];rfl
 have h4':((c0.toNat:Int)!=47)=false:=by rw[z_];exact h3'
 clear h3 hcl;go_enter Tryz.func63,Tryz.ntmps63;go_wp2_with fail;clear hc0 h3' h4' h1' h2';go_loopw[3,19](fun _ i wr=>wr=w∧∃k:Nat,k≤l.length∧i=.int .i64 (k:Int)∧(l.take k).all keyB=true)(fun _ i _=>l.length-(intOf i).toNat);case atStart=>exact⟨rfl,0,v_ _,rfl,rfl⟩
 case round=>
  obtain⟨rfl,k,hk,rfl,hall⟩:=hrel;have HA:=a_ hall;clear hall;by_cases hlt:k<l.length;·
   have HS:=a_ (fun h=>q34 hlt HA.out h);have HN:=a_ (fun h=>w112 (j41 hlt h));obtain⟨c,hc⟩:∃c,(⟨l.toArray⟩:ByteArray)[k]'(by rw[hsz];exact hlt)=c:=⟨_,rfl⟩;have hcl:l[k]=c:=hc;rw[hcl]at HS HN;have hcb:c.toNat<256:=aA_ _;clear hcl HA;by_cases d1:c.toNat<33;·
    have HV:=a_ (HN.out (by unfold keyB;rw[k_ (show¬33≤c.toNat by omega)];rfl));have e1:(c.toNat:Int)<33:=by omega
    have e2:(c.toNat:Int)≤32:=by omega
    clear HN HS d1;go_wp2_with fail;go_ret;exact⟨q17 HV.out.symm,rfl⟩
   have e1:¬(c.toNat:Int)<33:=by omega
   have e2:¬(c.toNat:Int)≤32:=by omega
   by_cases d3:126<c.toNat;·
    have HV:=a_ (HN.out (by unfold keyB;rw[k_ (show¬c.toNat≤126 by omega)];simp));have e3:(126:Int)<(c.toNat:Int):=by omega
    clear HN HS d1 d3;go_wp2_with fail;go_ret;exact⟨q17 HV.out.symm,rfl⟩
   have e3:¬(126:Int)<(c.toNat:Int):=by omega
   have HV:=a_ (HS.out (by unfold keyB;rw[s_ (show 33≤c.toNat by omega),s_ (show c.toNat≤126 by omega)];rfl));clear HN HS d1 d3;go_wp2_with fail;go_roundw;case rel=>exact⟨by first|trivial|rfl,k+1,by omega,by go_num,HV.out⟩
   case measure=>simp[intOf];omega
  ·have HV:Hid (j33 l=true):=by have h:=HA.out;rw[u_ (by omega)]at h;exact j102 H12.out.1 H12.out.2 HD.out h
   go_wp2_with fail;go_ret;exact⟨q17 HV.out.symm,rfl⟩
theorem y121(l:List UInt8)(w:World)(hl:l.length≤1000000):Calls Tryz.prog 57 #[.string ⟨l.toArray⟩] w fun e w'=>e=.returned (.bool (j33 l))∧w'=w:=by
 have hsz:(⟨l.toArray⟩:ByteArray).size=l.length:=q19 l;by_cases h1:l.length<1;·
  have HV:Hid (j33 l=false):=by simp only[Hid];unfold j33;rw[k_ (by omega)];rfl
  have h1':(l.length:Int)<1:=by omega
  clear h1;go_enter Tryz.func57,Tryz.ntmps57;go_wp2_with fail;go_ret;exact⟨q17 HV.out.symm,rfl⟩
 by_cases h2:200<l.length;·
  have HV:Hid (j33 l=false):=by simp only[Hid];unfold j33;rw[k_ (show¬l.length≤200 by omega)];simp
  have h1':¬(l.length:Int)<1:=by omega
  have h2':(200:Int)<(l.length:Int):=by omega
  clear h1 h2;go_enter Tryz.func57,Tryz.ntmps57;go_wp2_with fail;go_ret;exact⟨q17 HV.out.symm,rfl⟩
 have h1':¬(l.length:Int)<1:=by omega
 have h2':¬(200:Int)<(l.length:Int):=by omega
 have hp0:(0:Nat)<l.length:=by omega
 have H12:Hid (1≤l.length∧l.length≤200):=by simp only[Hid];omega
 clear h1 h2;by_cases h3:l.headD 0=47;rotate_left;·
  have HV:Hid (j33 l=false):=by simp only[Hid];unfold j33;rw[k_ h3];simp
  have HD:=a_ h3;obtain⟨c0,hc0⟩:∃c,(⟨l.toArray⟩:ByteArray)[0]'(by rw[hsz];exact hp0)=c:=⟨_,rfl⟩;have hcl:l[0]=c0:=hc0;have h3':¬(c0.toNat:Int)=47:=by intro h;apply HD.out;rw[k66 hp0,hcl];exact UInt8.toNat_inj.1 (by rw[show c0.toNat=47 by omega];rfl)
  have h4':((c0.toNat:Int)!=47)=true:=by rw[F_];exact h3'
  clear h3 hcl HD;go_enter Tryz.func57,Tryz.ntmps57;go_wp2_with fail;go_ret;exact⟨q17 HV.out.symm,rfl⟩
 have HD:=a_ h3;obtain⟨c0,hc0⟩:∃c,(⟨l.toArray⟩:ByteArray)[0]'(by rw[hsz];exact hp0)=c:=⟨_,rfl⟩;have hcl:l[0]=c0:=hc0;have h3':(c0.toNat:Int)=47:=by rw[←hcl,←k66 hp0,h3];rfl
 have h4':((c0.toNat:Int)!=47)=false:=by rw[z_];exact h3'
 clear h3 hcl;go_enter Tryz.func57,Tryz.ntmps57;go_wp2_with fail;clear hc0 h3' h4' h1' h2';go_loopw[3](fun i wr=>wr=w∧∃k:Nat,k≤l.length∧i=.int .i64 (k:Int)∧(l.take k).all keyB=true)(fun i _=>l.length-(intOf i).toNat);case atStart=>exact⟨rfl,0,v_ _,rfl,rfl⟩
 case round=>
  obtain⟨rfl,k,hk,rfl,hall⟩:=hrel;have HA:=a_ hall;clear hall;by_cases hlt:k<l.length;·
   have HS:=a_ (fun h=>q34 hlt HA.out h);have HN:=a_ (fun h=>w112 (j41 hlt h));obtain⟨c,hc⟩:∃c,(⟨l.toArray⟩:ByteArray)[k]'(by rw[hsz];exact hlt)=c:=⟨_,rfl⟩;have hcl:l[k]=c:=hc;rw[hcl]at HS HN;have hcb:c.toNat<256:=aA_ _;clear hcl HA;by_cases d1:c.toNat<33;·
    have HV:=a_ (HN.out (by unfold keyB;rw[k_ (show¬33≤c.toNat by omega)];rfl));have e1:(c.toNat:Int)<33:=by omega
    have e2:(c.toNat:Int)≤32:=by omega
    clear HN HS d1;go_wp2_with fail;go_ret;exact⟨q17 HV.out.symm,rfl⟩
   have e1:¬(c.toNat:Int)<33:=by omega
   have e2:¬(c.toNat:Int)≤32:=by omega
   by_cases d3:126<c.toNat;·
    have HV:=a_ (HN.out (by unfold keyB;rw[k_ (show¬c.toNat≤126 by omega)];simp));have e3:(126:Int)<(c.toNat:Int):=by omega
    clear HN HS d1 d3;go_wp2_with fail;go_ret;exact⟨q17 HV.out.symm,rfl⟩
   have e3:¬(126:Int)<(c.toNat:Int):=by omega
   have HV:=a_ (HS.out (by unfold keyB;rw[s_ (show 33≤c.toNat by omega),s_ (show c.toNat≤126 by omega)];rfl));clear HN HS d1 d3;go_wp2_with fail;go_roundw;case rel=>exact⟨by first|trivial|rfl,k+1,by omega,by go_num,HV.out⟩
   case measure=>simp[intOf];omega
  ·have HV:Hid (j33 l=true):=by have h:=HA.out;rw[u_ (by omega)]at h;exact j102 H12.out.1 H12.out.2 HD.out h
   go_wp2_with fail;go_ret;exact⟨q17 HV.out.symm,rfl⟩
abbrev TagL:=List UInt8×Bool
def q27(t:TagL):List Value:=[.string ⟨t.1.toArray⟩,.bool t.2]
def tgs(T:List TagL):Bool:=T.all fun t=>j20 t.1
theorem z113{T:List TagL}{k:Nat}(hk:k<T.length)(h:tgs (T.take k)=true)(h2:j20 T[k].1=true):tgs (T.take (k+1))=true:=by unfold tgs at*;rw[n_ hk,bx_,h];simp[h2]
theorem tgs_no{T:List TagL}{k:Nat}(hk:k<T.length)(h2:j20 T[k].1=false):tgs T=false:=by unfold tgs;rw[List.all_eq_false];exact⟨T[k],y_ hk,by rw[h2];simp⟩
def k47(any:Bool)(T:List TagL):Bool:=decide (T.length≤32)&&!(any&&decide (0<T.length))&&tgs T
def j61(T:List TagL):Bool:=tgs T&&decide (T.length≤32)
def k38(a b:TagL):Bool:=j20 a.1&&j20 b.1&&decide (a.1=b.1)
def k34(a b:TagL):Bool:=!a.2&&!b.2&&k38 a b
def oneT(s:Bool)(t x:TagL):Bool:=if s=true then k34 x t else k38 x t
def inT(T:List TagL)(t:TagL)(s:Bool):Bool:=T.any (oneT s t)
theorem y66{T:List TagL}{t:TagL}{s:Bool}{k:Nat}(hk:k<T.length)(h:inT (T.take k) t s=false)(h2:oneT s t T[k]=false):inT (T.take (k+1)) t s=false:=by unfold inT at*;rw[n_ hk,List.any_append,h];simp[h2]
theorem q79{T:List TagL}{t:TagL}{s:Bool}{k:Nat}(hk:k<T.length)(h2:oneT s t T[k]=true):inT T t s=true:=by unfold inT;rw[List.any_eq_true];exact⟨T[k],y_ hk,h2⟩
theorem q135(a b:TagL):k38 a b=k38 b a:=by unfold k38;rw[show decide (a.1=b.1)=decide (b.1=a.1)by rw[decide_eq_decide];exact eq_comm,Bool.and_comm (j20 a.1)]
theorem q113(a b:TagL):k34 a b=k34 b a:=by unfold k34;rw[q135 a b,Bool.and_comm (!a.2)]
def w54(T:List TagL):Prop:=∀t∈T,t.1.length≤1000000
theorem k82(a b:List UInt8)(ak bk:Bool)(w:World)(ha:a.length≤1000000)(hb:b.length≤1000000):Calls Tryz.prog 133 #[.agg #[.string ⟨a.toArray⟩,.bool ak],.agg #[.string ⟨b.toArray⟩,.bool bk]] w fun e w'=>e=.returned (.bool (k38 (a,ak) (b,bk)))∧Below w.heap.size w w':=by
 have HA:=fun W=>a_ (k39 a ak W ha);have HB:=fun W=>a_ (k39 b bk W hb);have HV:Hid (k38 (a,ak) (b,bk)=(j20 a&&j20 b&&decide (a=b))):=rfl;obtain⟨V,hV⟩:∃V,k38 (a,ak) (b,bk)=V:=⟨_,rfl⟩;rw[hV]at HV⊢;clear hV;go_enter Tryz.func133,Tryz.ntmps133;go_upto_region 1 with fail;obtain⟨W0,hW0,X0,X1,HB0⟩:=box2 w #[.string ⟨a.toArray⟩,.bool ak] 25 #[.string ⟨b.toArray⟩,.bool bk] 25;rw[hW0];clear hW0;obtain⟨v0,v1⟩:=bc2 X0.out rfl rfl;have vz:=q14 X0.out;obtain⟨u0,u1⟩:=bc2 X1.out rfl rfl;have uz:=q14 X1.out;obtain⟨ta,hta⟩:∃x,j20 a=x:=⟨_,rfl⟩;rw[hta]at HA HV;clear hta;cases ta with
  |false=>go_wp2_with(go_at_call_of 65(Value.agg #[.string ⟨a.toArray⟩,.bool ak]);refine(HA _).out.mono ?_;rintro e w1⟨rfl,hb1⟩;have Y0:=a_ (j3 hb1 X0.out);have Y1:=a_ (j3 hb1 X1.out);obtain⟨k0,k1⟩:=bc2 Y0.out rfl rfl;obtain⟨m0,m1⟩:=bc2 Y1.out rfl rfl;have kz:=q14 Y0.out;have mz:=q14 Y1.out);go_ret;exact⟨by rw[HV.out];rfl,q12 hb1 HB0.out⟩
  |true=>
   obtain⟨tb,htb⟩:∃x,j20 b=x:=⟨_,rfl⟩;rw[htb]at HB HV;clear htb;cases tb with
    |false=>go_wp2_with(first|(go_at_call_of 65(Value.agg #[.string ⟨b.toArray⟩,.bool bk]);refine(HB _).out.mono ?_;rintro e w2⟨rfl,hb2⟩;have Z0:=a_ (j3 hb2 Y0.out);have Z1:=a_ (j3 hb2 Y1.out);have k0:=bc 0 Z0.out rfl;have m0:=bc 0 Z1.out rfl;have kz:=q14 Z0.out;have mz:=q14 Z1.out)|(go_at_call_of 65(Value.agg #[.string ⟨a.toArray⟩,.bool ak]);refine(HA _).out.mono ?_;rintro e w1⟨rfl,hb1⟩;have Y0:=a_ (j3 hb1 X0.out);have Y1:=a_ (j3 hb1 X1.out);obtain⟨k0,k1⟩:=bc2 Y0.out rfl rfl;obtain⟨m0,m1⟩:=bc2 Y1.out rfl rfl;have kz:=q14 Y0.out;have mz:=q14 Y1.out));go_ret;exact⟨by rw[HV.out];rfl,q12 hb2 (q12 hb1 HB0.out)⟩
    |true=>
     by_cases he:a=b;·
      have hq:(a==b)=true:=by rw[he];exact beq_self_eq_true b
      rw[s_ he]at HV;clear he;go_wp2_with(first|(go_at_call_of 65(Value.agg #[.string ⟨b.toArray⟩,.bool bk]);refine(HB _).out.mono ?_;rintro e w2⟨rfl,hb2⟩;have Z0:=a_ (j3 hb2 Y0.out);have Z1:=a_ (j3 hb2 Y1.out);have k0:=bc 0 Z0.out rfl;have m0:=bc 0 Z1.out rfl;have kz:=q14 Z0.out;have mz:=q14 Z1.out)|(go_at_call_of 65(Value.agg #[.string ⟨a.toArray⟩,.bool ak]);refine(HA _).out.mono ?_;rintro e w1⟨rfl,hb1⟩;have Y0:=a_ (j3 hb1 X0.out);have Y1:=a_ (j3 hb1 X1.out);obtain⟨k0,k1⟩:=bc2 Y0.out rfl rfl;obtain⟨m0,m1⟩:=bc2 Y1.out rfl rfl;have kz:=q14 Y0.out;have mz:=q14 Y1.out));go_ret;exact⟨by rw[HV.out];rfl,q12 hb2 (q12 hb1 HB0.out)⟩
     ·have hq:(a==b)=false:=j_.2 he;rw[k_ he]at HV;clear he;go_wp2_with(first|(go_at_call_of 65(Value.agg #[.string ⟨b.toArray⟩,.bool bk]);refine(HB _).out.mono ?_;rintro e w2⟨rfl,hb2⟩;have Z0:=a_ (j3 hb2 Y0.out);have Z1:=a_ (j3 hb2 Y1.out);have k0:=bc 0 Z0.out rfl;have m0:=bc 0 Z1.out rfl;have kz:=q14 Z0.out;have mz:=q14 Z1.out)|(go_at_call_of 65(Value.agg #[.string ⟨a.toArray⟩,.bool ak]);refine(HA _).out.mono ?_;rintro e w1⟨rfl,hb1⟩;have Y0:=a_ (j3 hb1 X0.out);have Y1:=a_ (j3 hb1 X1.out);obtain⟨k0,k1⟩:=bc2 Y0.out rfl rfl;obtain⟨m0,m1⟩:=bc2 Y1.out rfl rfl;have kz:=q14 Y0.out;have mz:=q14 Y1.out));go_ret;exact⟨by rw[HV.out];rfl,q12 hb2 (q12 hb1 HB0.out)⟩
theorem j74(a b:List UInt8)(ak bk:Bool)(w:World)(ha:a.length≤1000000)(hb:b.length≤1000000):Calls Tryz.prog 227 #[.agg #[.string ⟨a.toArray⟩,.bool ak],.agg #[.string ⟨b.toArray⟩,.bool bk]] w fun e w'=>e=.returned (.bool (k38 (a,ak) (b,bk)))∧Below w.heap.size w w':=by
 have HA:=fun W=>a_ (j37 a ak W ha);have HB:=fun W=>a_ (j37 b bk W hb);have HV:Hid (k38 (a,ak) (b,bk)=(j20 a&&j20 b&&decide (a=b))):=rfl;obtain⟨V,hV⟩:∃V,k38 (a,ak) (b,bk)=V:=⟨_,rfl⟩;rw[hV]at HV⊢;clear hV;go_enter Tryz.func227,Tryz.ntmps227;go_upto_region 1 with fail;obtain⟨W0,hW0,X0,X1,HB0⟩:=box2 w #[.string ⟨a.toArray⟩,.bool ak] 25 #[.string ⟨b.toArray⟩,.bool bk] 25;rw[hW0];clear hW0;obtain⟨v0,v1⟩:=bc2 X0.out rfl rfl;have vz:=q14 X0.out;obtain⟨u0,u1⟩:=bc2 X1.out rfl rfl;have uz:=q14 X1.out;obtain⟨ta,hta⟩:∃x,j20 a=x:=⟨_,rfl⟩;rw[hta]at HA HV;clear hta;cases ta with
  |false=>go_wp2_with(go_at_call_of 59(Value.agg #[.string ⟨a.toArray⟩,.bool ak]);refine(HA _).out.mono ?_;rintro e w1⟨rfl,hb1⟩;have Y0:=a_ (j3 hb1 X0.out);have Y1:=a_ (j3 hb1 X1.out);obtain⟨k0,k1⟩:=bc2 Y0.out rfl rfl;obtain⟨m0,m1⟩:=bc2 Y1.out rfl rfl;have kz:=q14 Y0.out;have mz:=q14 Y1.out);go_ret;exact⟨by rw[HV.out];rfl,q12 hb1 HB0.out⟩
  |true=>
   obtain⟨tb,htb⟩:∃x,j20 b=x:=⟨_,rfl⟩;rw[htb]at HB HV;clear htb;cases tb with
    |false=>go_wp2_with(first|(go_at_call_of 59(Value.agg #[.string ⟨b.toArray⟩,.bool bk]);refine(HB _).out.mono ?_;rintro e w2⟨rfl,hb2⟩;have Z0:=a_ (j3 hb2 Y0.out);have Z1:=a_ (j3 hb2 Y1.out);have k0:=bc 0 Z0.out rfl;have m0:=bc 0 Z1.out rfl;have kz:=q14 Z0.out;have mz:=q14 Z1.out)|(go_at_call_of 59(Value.agg #[.string ⟨a.toArray⟩,.bool ak]);refine(HA _).out.mono ?_;rintro e w1⟨rfl,hb1⟩;have Y0:=a_ (j3 hb1 X0.out);have Y1:=a_ (j3 hb1 X1.out);obtain⟨k0,k1⟩:=bc2 Y0.out rfl rfl;obtain⟨m0,m1⟩:=bc2 Y1.out rfl rfl;have kz:=q14 Y0.out;have mz:=q14 Y1.out));go_ret;exact⟨by rw[HV.out];rfl,q12 hb2 (q12 hb1 HB0.out)⟩
    |true=>
     by_cases he:a=b;·
      have hq:(a==b)=true:=by rw[he];exact beq_self_eq_true b
      rw[s_ he]at HV;clear he;go_wp2_with(first|(go_at_call_of 59(Value.agg #[.string ⟨b.toArray⟩,.bool bk]);refine(HB _).out.mono ?_;rintro e w2⟨rfl,hb2⟩;have Z0:=a_ (j3 hb2 Y0.out);have Z1:=a_ (j3 hb2 Y1.out);have k0:=bc 0 Z0.out rfl;have m0:=bc 0 Z1.out rfl;have kz:=q14 Z0.out;have mz:=q14 Z1.out)|(go_at_call_of 59(Value.agg #[.string ⟨a.toArray⟩,.bool ak]);refine(HA _).out.mono ?_;rintro e w1⟨rfl,hb1⟩;have Y0:=a_ (j3 hb1 X0.out);have Y1:=a_ (j3 hb1 X1.out);obtain⟨k0,k1⟩:=bc2 Y0.out rfl rfl;obtain⟨m0,m1⟩:=bc2 Y1.out rfl rfl;have kz:=q14 Y0.out;have mz:=q14 Y1.out));go_ret;exact⟨by rw[HV.out];rfl,q12 hb2 (q12 hb1 HB0.out)⟩
     ·have hq:(a==b)=false:=j_.2 he;rw[k_ he]at HV;clear he;go_wp2_with(first|(go_at_call_of 59(Value.agg #[.string ⟨b.toArray⟩,.bool bk]);refine(HB _).out.mono ?_;rintro e w2⟨rfl,hb2⟩;have Z0:=a_ (j3 hb2 Y0.out);have Z1:=a_ (j3 hb2 Y1.out);have k0:=bc 0 Z0.out rfl;have m0:=bc 0 Z1.out rfl;have kz:=q14 Z0.out;have mz:=q14 Z1.out)|(go_at_call_of 59(Value.agg #[.string ⟨a.toArray⟩,.bool ak]);refine(HA _).out.mono ?_;rintro e w1⟨rfl,hb1⟩;have Y0:=a_ (j3 hb1 X0.out);have Y1:=a_ (j3 hb1 X1.out);obtain⟨k0,k1⟩:=bc2 Y0.out rfl rfl;obtain⟨m0,m1⟩:=bc2 Y1.out rfl rfl;have kz:=q14 Y0.out;have mz:=q14 Y1.out));go_ret;exact⟨by rw[HV.out];rfl,q12 hb2 (q12 hb1 HB0.out)⟩
theorem q69(a b:List UInt8)(ak bk:Bool)(w:World)(ha:a.length≤1000000)(hb:b.length≤1000000):Calls Tryz.prog 75 #[.agg #[.string ⟨a.toArray⟩,.bool ak],.agg #[.string ⟨b.toArray⟩,.bool bk]] w fun e w'=>e=.returned (.bool (k34 (a,ak) (b,bk)))∧Below w.heap.size w w':=by
 have HW:=fun W=>a_ (k82 a b ak bk W ha hb);have HV:Hid (k34 (a,ak) (b,bk)=(!ak&&!bk&&k38 (a,ak) (b,bk))):=rfl;obtain⟨V,hV⟩:∃V,k34 (a,ak) (b,bk)=V:=⟨_,rfl⟩;rw[hV]at HV⊢;obtain⟨U,hU⟩:∃U,k38 (a,ak) (b,bk)=U:=⟨_,rfl⟩;rw[hU]at HV HW;clear hV hU;go_enter Tryz.func75,Tryz.ntmps75;go_upto_region 1 with fail;obtain⟨W0,hW0,X0,X1,HB0⟩:=box2 w #[.string ⟨a.toArray⟩,.bool ak] 25 #[.string ⟨b.toArray⟩,.bool bk] 25;rw[hW0];clear hW0;obtain⟨v0,v1⟩:=bc2 X0.out rfl rfl;have vz:=q14 X0.out;obtain⟨u0,u1⟩:=bc2 X1.out rfl rfl;have uz:=q14 X1.out;cases ak<;>cases bk<;>cases U;all_goals go_wp2_with(go_at_call 133;refine(HW _).out.mono ?_;rintro e w1⟨rfl,hb1⟩;have Y0:=a_ (j3 hb1 X0.out);have Y1:=a_ (j3 hb1 X1.out);obtain⟨k0,k1⟩:=bc2 Y0.out rfl rfl;obtain⟨m0,m1⟩:=bc2 Y1.out rfl rfl;have kz:=q14 Y0.out;have mz:=q14 Y1.out);go_ret;exact⟨by rw[HV.out];rfl,by first|exact q12 hb1 HB0.out|exact HB0.out⟩
theorem x63(a b:List UInt8)(ak bk:Bool)(w:World)(ha:a.length≤1000000)(hb:b.length≤1000000):Calls Tryz.prog 161 #[.agg #[.string ⟨a.toArray⟩,.bool ak],.agg #[.string ⟨b.toArray⟩,.bool bk]] w fun e w'=>e=.returned (.bool (k34 (a,ak) (b,bk)))∧Below w.heap.size w w':=by
 have HW:=fun W=>a_ (j74 a b ak bk W ha hb);have HV:Hid (k34 (a,ak) (b,bk)=(!ak&&!bk&&k38 (a,ak) (b,bk))):=rfl;obtain⟨V,hV⟩:∃V,k34 (a,ak) (b,bk)=V:=⟨_,rfl⟩;rw[hV]at HV⊢;obtain⟨U,hU⟩:∃U,k38 (a,ak) (b,bk)=U:=⟨_,rfl⟩;rw[hU]at HV HW;clear hV hU;go_enter Tryz.func161,Tryz.ntmps161;go_upto_region 1 with fail;obtain⟨W0,hW0,X0,X1,HB0⟩:=box2 w #[.string ⟨a.toArray⟩,.bool ak] 25 #[.string ⟨b.toArray⟩,.bool bk] 25;rw[hW0];clear hW0;obtain⟨v0,v1⟩:=bc2 X0.out rfl rfl;have vz:=q14 X0.out;obtain⟨u0,u1⟩:=bc2 X1.out rfl rfl;have uz:=q14 X1.out;cases ak<;>cases bk<;>cases U;all_goals go_wp2_with(go_at_call 227;refine(HW _).out.mono ?_;rintro e w1⟨rfl,hb1⟩;have Y0:=a_ (j3 hb1 X0.out);have Y1:=a_ (j3 hb1 X1.out);obtain⟨k0,k1⟩:=bc2 Y0.out rfl rfl;obtain⟨m0,m1⟩:=bc2 Y1.out rfl rfl;have kz:=q14 Y0.out;have mz:=q14 Y1.out);go_ret;exact⟨by rw[HV.out];rfl,by first|exact q12 hb1 HB0.out|exact HB0.out⟩
theorem k74(A:Option Addr)(c:Nat)(T:List TagL)(am:Bool)(w:World)(h:SpG q27 2 w A c T)(hl:T.length≤1000000)(hx:w54 T):Calls Tryz.prog 134 #[.slice A T.length c,.bool am] w fun e w'=>e=.returned (.bool (k47 am T))∧Below w.heap.size w w':=by
 have HK:=a_ h;have HX:=a_ hx;clear h hx;have HL:Hid (k47 am T=(decide (T.length≤32)&&!(am&&decide (0<T.length))&&tgs T)):=rfl;obtain⟨V,hV⟩:∃V,k47 am T=V:=⟨_,rfl⟩;rw[hV]at HL⊢;clear hV;by_cases h1:32<T.length;·
  rw[k_ (show¬T.length≤32 by omega)]at HL;have h1':(32:Int)<(T.length:Int):=by omega
  clear h1;go_enter Tryz.func134,Tryz.ntmps134;go_wp2_with fail;go_ret;exact⟨by rw[HL.out];rfl,by(repeat(first|exact b_ _ _|refine q15 ?_ _|refine x15 ?_|refine q11 ?_ _|refine w14 ?_ (by simp) _))⟩
 rw[s_ (show T.length≤32 by omega)]at HL;have h1':¬(32:Int)<(T.length:Int):=by omega
 clear h1;have hcs:(am&&decide (0<T.length))=true∧am=true∧0<T.length∨(am&&decide (0<T.length))=false∧(am=false∨T.length=0):=by
  by_cases h:0<T.length;·rw[s_ h];cases am<;>simp[h]
  ·rw[k_ h];right;exact⟨by simp,.inr (by omega)⟩
 rcases hcs with⟨h2,rfl,h3⟩|⟨h2,h3⟩;·
  rw[h2]at HL;have h3':(0:Int)<(T.length:Int):=by omega
  clear h2 h3;go_enter Tryz.func134,Tryz.ntmps134;go_wp2_with fail;go_ret;exact⟨by rw[HL.out];rfl,by(repeat(first|exact b_ _ _|refine q15 ?_ _|refine x15 ?_|refine q11 ?_ _|refine w14 ?_ (by simp) _))⟩
 rw[h2]at HL;clear h2;have hcases:am=false∨(am=true∧¬(0:Int)<(T.length:Int)):=by cases am with|false=>exact .inl rfl|true=>exact .inr ⟨rfl,by have:=h3.resolve_left (by simp);omega⟩
 clear h3;rcases hcases with rfl|⟨rfl,h4'⟩;·
  go_enter Tryz.func134,Tryz.ntmps134;go_wp2_with fail;go_loopw[6,20](fun _ i wr=>∃k:Nat,k≤T.length∧i=.int .i64 (k:Int)∧tgs (T.take k)=true∧Below w.heap.size w wr)(fun _ i _=>T.length-(intOf i).toNat);case atStart=>exact⟨0,v_ _,rfl,rfl,by(repeat(first|exact b_ _ _|refine q15 ?_ _|refine x15 ?_|refine q11 ?_ _|refine w14 ?_ (by simp) _))⟩
  case round=>
   obtain⟨k,hk,rfl,hall,hbw⟩:=hrel;have HA:=a_ hall;have HB:=a_ hbw;clear hall hbw;by_cases hlt:k<T.length;·
    obtain⟨b,off,e,hb,hc⟩:=(HK.out.below HB.out).at' k hlt;have c0:=hc 0 _ rfl;have c1:=hc 1 _ rfl;have hxl:=HX.out _ (y_ hlt);have HS:=a_ (fun h=>z113 hlt HA.out h);have HN:=a_ (fun h=>tgs_no hlt h);obtain⟨⟨t,tw⟩,ht⟩:∃x,T[k]=x:=⟨_,rfl⟩;rw[ht]at c0 c1 HS HN hxl;have HR:=fun W=>a_ (k39 t tw W hxl);simp only[J_]at c0 c1 HS HN;clear hc ht hxl HA;subst e;obtain⟨z,hz⟩:∃z,j20 t=z:=⟨_,rfl⟩;rw[hz]at HR HS HN;clear hz;cases z with
     |false=>have HV:=a_ (HN.out rfl);clear HN HS;go_wp2_with(go_at_call 65;refine(HR _).out.mono ?_;rintro e w1⟨rfl,hb1⟩);go_ret;exact⟨by rw[HL.out,HV.out];rfl,q12 hb1 (q11 HB.out _)⟩
     |true=>
      have HV:=a_ (HS.out rfl);clear HN HS;go_wp2_with(go_at_call 65;refine(HR _).out.mono ?_;rintro e w1⟨rfl,hb1⟩);go_roundw;case rel=>exact⟨k+1,by omega,by go_num,HV.out,q12 hb1 (q11 HB.out _)⟩
      case measure=>simp[intOf];omega
   ·have HV:Hid (tgs T=true):=by have h:=HA.out;rw[u_ (by omega)]at h;exact h
    clear HA;go_wp2_with fail;go_ret;exact⟨by rw[HL.out,HV.out];rfl,HB.out⟩
 ·go_enter Tryz.func134,Tryz.ntmps134;go_wp2_with fail;go_loopw[6,20](fun _ i wr=>∃k:Nat,k≤T.length∧i=.int .i64 (k:Int)∧tgs (T.take k)=true∧Below w.heap.size w wr)(fun _ i _=>T.length-(intOf i).toNat);case atStart=>exact⟨0,v_ _,rfl,rfl,by(repeat(first|exact b_ _ _|refine q15 ?_ _|refine x15 ?_|refine q11 ?_ _|refine w14 ?_ (by simp) _))⟩
  case round=>
   obtain⟨k,hk,rfl,hall,hbw⟩:=hrel;have HA:=a_ hall;have HB:=a_ hbw;clear hall hbw;by_cases hlt:k<T.length;·exfalso;omega
   ·have HV:Hid (tgs T=true):=by have h:=HA.out;rw[u_ (by omega)]at h;exact h
    clear HA;go_wp2_with fail;go_ret;exact⟨by rw[HL.out,HV.out];rfl,HB.out⟩
theorem v102(A:Option Addr)(c:Nat)(T:List TagL)(w:World)(h:SpG q27 2 w A c T)(hl:T.length≤1000000)(hx:w54 T):Calls Tryz.prog 212 #[.slice A T.length c] w fun e w'=>e=.returned (.bool (j61 T))∧Below w.heap.size w w':=by
 have HK:=a_ h;have HX:=a_ hx;clear h hx;have HL:Hid (j61 T=(tgs T&&decide (T.length≤32))):=rfl;obtain⟨V,hV⟩:∃V,j61 T=V:=⟨_,rfl⟩;rw[hV]at HL⊢;clear hV;go_enter Tryz.func212,Tryz.ntmps212;go_wp2_with fail;go_loopw[4,7](fun _ i wr=>∃k:Nat,k≤T.length∧i=.int .i64 (k:Int)∧tgs (T.take k)=true∧Below w.heap.size w wr)(fun _ i _=>T.length-(intOf i).toNat);case atStart=>exact⟨0,v_ _,rfl,rfl,by(repeat(first|exact b_ _ _|refine q15 ?_ _|refine x15 ?_|refine q11 ?_ _|refine w14 ?_ (by simp) _))⟩
 case round=>
  obtain⟨k,hk,rfl,hall,hbw⟩:=hrel;have HA:=a_ hall;have HB:=a_ hbw;clear hall hbw;by_cases hlt:k<T.length;·
   obtain⟨b,off,e,hb,hc⟩:=(HK.out.below HB.out).at' k hlt;have c0:=hc 0 _ rfl;have c1:=hc 1 _ rfl;have hxl:=HX.out _ (y_ hlt);have HS:=a_ (fun h=>z113 hlt HA.out h);have HN:=a_ (fun h=>tgs_no hlt h);obtain⟨⟨t,tw⟩,ht⟩:∃x,T[k]=x:=⟨_,rfl⟩;rw[ht]at c0 c1 HS HN hxl;have HR:=fun W=>a_ (j37 t tw W hxl);simp only[J_]at c0 c1 HS HN;clear hc ht hxl HA;subst e;obtain⟨z,hz⟩:∃z,j20 t=z:=⟨_,rfl⟩;rw[hz]at HR HS HN;clear hz;cases z with
    |false=>have HV:=a_ (HN.out rfl);clear HN HS;go_wp2_with(go_at_call 59;refine(HR _).out.mono ?_;rintro e w1⟨rfl,hb1⟩);go_ret;exact⟨by rw[HL.out,HV.out];rfl,q12 hb1 (q11 HB.out _)⟩
    |true=>
     have HV:=a_ (HS.out rfl);clear HN HS;go_wp2_with(go_at_call 59;refine(HR _).out.mono ?_;rintro e w1⟨rfl,hb1⟩);go_roundw;case rel=>exact⟨k+1,by omega,by go_num,HV.out,q12 hb1 (q11 HB.out _)⟩
     case measure=>simp[intOf];omega
  ·have HV:Hid (tgs T=true):=by have h:=HA.out;rw[u_ (by omega)]at h;exact h
   clear HA;by_cases h1:T.length≤32;·
    rw[s_ h1]at HL;have h1':(T.length:Int)≤32:=by omega
    clear h1;go_wp2_with fail;go_ret;exact⟨by rw[HL.out,HV.out];rfl,HB.out⟩
   ·rw[k_ h1]at HL;have h1':¬(T.length:Int)≤32:=by omega
    clear h1;go_wp2_with fail;go_ret;exact⟨by rw[HL.out,HV.out];rfl,HB.out⟩
theorem tagIn_s(A:Option Addr)(c:Nat)(T:List TagL)(x:List UInt8)(xw:Bool)(w:World)(h:SpG q27 2 w A c T)(hl:T.length≤1000000)(hx:w54 T)(hxl:x.length≤1000000):Calls Tryz.prog 74 #[.slice A T.length c,.agg #[.string ⟨x.toArray⟩,.bool xw],.bool true] w fun e w'=>e=.returned (.bool (inT T (x,xw) true))∧Below w.heap.size w w':=by
 have HK:=a_ h;have HX:=a_ hx;have HXL:=a_ hxl;clear h hx hxl;go_enter Tryz.func74,Tryz.ntmps74;go_upto_region 1 with fail;obtain⟨W0,hW0⟩:∃W,(w.alloc (.cells #[.string ⟨x.toArray⟩,.bool xw] 25))=W:=⟨_,rfl⟩;have X0:Hid (W0.heap[w.heap.size]?=some (.cells #[.string ⟨x.toArray⟩,.bool xw] 25 (0,0))):=by rw[←hW0];exact j17 rfl
 have HB0:Hid (Below w.heap.size w W0):=by rw[←hW0];exact q11 (b_ _ _) _
 rw[hW0];clear hW0;go_wp2_with fail;go_loopw[8,11](fun _ i wr=>∃k:Nat,k≤T.length∧i=.int .i64 (k:Int)∧inT (T.take k) (x,xw) true=false∧Below W0.heap.size W0 wr)(fun _ i _=>T.length-(intOf i).toNat);case atStart=>exact⟨0,v_ _,rfl,rfl,b_ _ _⟩
 case round=>
  obtain⟨k,hk,rfl,hall,hbw⟩:=hrel;have HA:=a_ hall;have HB:=a_ hbw;clear hall hbw;have Y0:=a_ (j3 HB.out X0.out);obtain⟨v0,v1⟩:=bc2 Y0.out rfl rfl;have vz:=q14 Y0.out;by_cases hlt:k<T.length;·
   obtain⟨b,off,e,hb,hc⟩:=((HK.out.below HB0.out).below HB.out).at' k hlt;have c0:=hc 0 _ rfl;have c1:=hc 1 _ rfl;have htl:=HX.out _ (y_ hlt);have HS:=a_ (fun h=>y66 (t:=(x,xw)) (s:=true) hlt HA.out h);have HY:=a_ (fun h=>q79 (t:=(x,xw)) (s:=true) hlt h);obtain⟨⟨t,tw⟩,ht⟩:∃y,T[k]=y:=⟨_,rfl⟩;rw[ht]at c0 c1 HS HY htl;have HR:=fun W=>a_ (q69 t x tw xw W htl HXL.out);simp only[J_]at c0 c1;clear hc ht htl HA;subst e;have HE:Hid (oneT true (x,xw) (t,tw)=k34 (t,tw) (x,xw)):=rfl;obtain⟨z,hz⟩:∃z,k34 (t,tw) (x,xw)=z:=⟨_,rfl⟩;rw[hz]at HR HE;clear hz;cases z with
    |true=>have HV:=a_ (HY.out HE.out);clear HY HS;go_wp2_with(go_at_call 75;refine(HR _).out.mono ?_;rintro e w1⟨rfl,hb1⟩);go_ret;exact⟨by rw[HV.out];rfl,q12 (q12 hb1 (q11 HB.out _)) HB0.out⟩
    |false=>
     have HV:=a_ (HS.out HE.out);clear HY HS;go_wp2_with(go_at_call 75;refine(HR _).out.mono ?_;rintro e w1⟨rfl,hb1⟩);go_roundw;case rel=>exact⟨k+1,by omega,by go_num,HV.out,q12 hb1 (q11 HB.out _)⟩
     case measure=>simp[intOf];omega
  ·have HV:Hid (inT T (x,xw) true=false):=by have h:=HA.out;rw[u_ (by omega)]at h;exact h
   clear HA;go_wp2_with fail;go_ret;exact⟨by rw[HV.out];rfl,q12 HB.out HB0.out⟩
theorem rone_s(A:Option Addr)(c:Nat)(T:List TagL)(x:List UInt8)(xw:Bool)(w:World)(h:SpG q27 2 w A c T)(hl:T.length≤1000000)(hx:w54 T)(hxl:x.length≤1000000):Calls Tryz.prog 160 #[.slice A T.length c,.agg #[.string ⟨x.toArray⟩,.bool xw],.bool true] w fun e w'=>e=.returned (.bool (inT T (x,xw) true))∧Below w.heap.size w w':=by
 have HK:=a_ h;have HX:=a_ hx;have HXL:=a_ hxl;clear h hx hxl;go_enter Tryz.func160,Tryz.ntmps160;go_upto_region 1 with fail;obtain⟨W0,hW0⟩:∃W,(w.alloc (.cells #[.string ⟨x.toArray⟩,.bool xw] 25))=W:=⟨_,rfl⟩;have X0:Hid (W0.heap[w.heap.size]?=some (.cells #[.string ⟨x.toArray⟩,.bool xw] 25 (0,0))):=by rw[←hW0];exact j17 rfl
 have HB0:Hid (Below w.heap.size w W0):=by rw[←hW0];exact q11 (b_ _ _) _
 rw[hW0];clear hW0;go_wp2_with fail;go_loopw[8,11](fun _ i wr=>∃k:Nat,k≤T.length∧i=.int .i64 (k:Int)∧inT (T.take k) (x,xw) true=false∧Below W0.heap.size W0 wr)(fun _ i _=>T.length-(intOf i).toNat);case atStart=>exact⟨0,v_ _,rfl,rfl,b_ _ _⟩
 case round=>
  obtain⟨k,hk,rfl,hall,hbw⟩:=hrel;have HA:=a_ hall;have HB:=a_ hbw;clear hall hbw;have Y0:=a_ (j3 HB.out X0.out);obtain⟨v0,v1⟩:=bc2 Y0.out rfl rfl;have vz:=q14 Y0.out;by_cases hlt:k<T.length;·
   obtain⟨b,off,e,hb,hc⟩:=((HK.out.below HB0.out).below HB.out).at' k hlt;have c0:=hc 0 _ rfl;have c1:=hc 1 _ rfl;have htl:=HX.out _ (y_ hlt);have HS:=a_ (fun h=>y66 (t:=(x,xw)) (s:=true) hlt HA.out h);have HY:=a_ (fun h=>q79 (t:=(x,xw)) (s:=true) hlt h);obtain⟨⟨t,tw⟩,ht⟩:∃y,T[k]=y:=⟨_,rfl⟩;rw[ht]at c0 c1 HS HY htl;have HR:=fun W=>a_ (x63 t x tw xw W htl HXL.out);simp only[J_]at c0 c1;clear hc ht htl HA;subst e;have HE:Hid (oneT true (x,xw) (t,tw)=k34 (t,tw) (x,xw)):=rfl;obtain⟨z,hz⟩:∃z,k34 (t,tw) (x,xw)=z:=⟨_,rfl⟩;rw[hz]at HR HE;clear hz;cases z with
    |true=>have HV:=a_ (HY.out HE.out);clear HY HS;go_wp2_with(go_at_call 161;refine(HR _).out.mono ?_;rintro e w1⟨rfl,hb1⟩);go_ret;exact⟨by rw[HV.out];rfl,q12 (q12 hb1 (q11 HB.out _)) HB0.out⟩
    |false=>
     have HV:=a_ (HS.out HE.out);clear HY HS;go_wp2_with(go_at_call 161;refine(HR _).out.mono ?_;rintro e w1⟨rfl,hb1⟩);go_roundw;case rel=>exact⟨k+1,by omega,by go_num,HV.out,q12 hb1 (q11 HB.out _)⟩
     case measure=>simp[intOf];omega
  ·have HV:Hid (inT T (x,xw) true=false):=by have h:=HA.out;rw[u_ (by omega)]at h;exact h
   clear HA;go_wp2_with fail;go_ret;exact⟨by rw[HV.out];rfl,q12 HB.out HB0.out⟩
theorem tagIn_w(A:Option Addr)(c:Nat)(T:List TagL)(x:List UInt8)(xw:Bool)(w:World)(h:SpG q27 2 w A c T)(hl:T.length≤1000000)(hx:w54 T)(hxl:x.length≤1000000):Calls Tryz.prog 74 #[.slice A T.length c,.agg #[.string ⟨x.toArray⟩,.bool xw],.bool false] w fun e w'=>e=.returned (.bool (inT T (x,xw) false))∧Below w.heap.size w w':=by
 have HK:=a_ h;have HX:=a_ hx;have HXL:=a_ hxl;clear h hx hxl;go_enter Tryz.func74,Tryz.ntmps74;go_upto_region 1 with fail;obtain⟨W0,hW0⟩:∃W,(w.alloc (.cells #[.string ⟨x.toArray⟩,.bool xw] 25))=W:=⟨_,rfl⟩;have X0:Hid (W0.heap[w.heap.size]?=some (.cells #[.string ⟨x.toArray⟩,.bool xw] 25 (0,0))):=by rw[←hW0];exact j17 rfl
 have HB0:Hid (Below w.heap.size w W0):=by rw[←hW0];exact q11 (b_ _ _) _
 rw[hW0];clear hW0;go_wp2_with fail;go_loopw[8,11](fun _ i wr=>∃k:Nat,k≤T.length∧i=.int .i64 (k:Int)∧inT (T.take k) (x,xw) false=false∧Below W0.heap.size W0 wr)(fun _ i _=>T.length-(intOf i).toNat);case atStart=>exact⟨0,v_ _,rfl,rfl,b_ _ _⟩
 case round=>
  obtain⟨k,hk,rfl,hall,hbw⟩:=hrel;have HA:=a_ hall;have HB:=a_ hbw;clear hall hbw;have Y0:=a_ (j3 HB.out X0.out);obtain⟨v0,v1⟩:=bc2 Y0.out rfl rfl;have vz:=q14 Y0.out;by_cases hlt:k<T.length;·
   obtain⟨b,off,e,hb,hc⟩:=((HK.out.below HB0.out).below HB.out).at' k hlt;have c0:=hc 0 _ rfl;have c1:=hc 1 _ rfl;have htl:=HX.out _ (y_ hlt);have HS:=a_ (fun h=>y66 (t:=(x,xw)) (s:=false) hlt HA.out h);have HY:=a_ (fun h=>q79 (t:=(x,xw)) (s:=false) hlt h);obtain⟨⟨t,tw⟩,ht⟩:∃y,T[k]=y:=⟨_,rfl⟩;rw[ht]at c0 c1 HS HY htl;have HR:=fun W=>a_ (k82 t x tw xw W htl HXL.out);simp only[J_]at c0 c1;clear hc ht htl HA;subst e;have HE:Hid (oneT false (x,xw) (t,tw)=k38 (t,tw) (x,xw)):=rfl;obtain⟨z,hz⟩:∃z,k38 (t,tw) (x,xw)=z:=⟨_,rfl⟩;rw[hz]at HR HE;clear hz;cases z with
    |true=>have HV:=a_ (HY.out HE.out);clear HY HS;go_wp2_with(go_at_call 133;refine(HR _).out.mono ?_;rintro e w1⟨rfl,hb1⟩);go_ret;exact⟨by rw[HV.out];rfl,q12 (q12 hb1 (q11 HB.out _)) HB0.out⟩
    |false=>
     have HV:=a_ (HS.out HE.out);clear HY HS;go_wp2_with(go_at_call 133;refine(HR _).out.mono ?_;rintro e w1⟨rfl,hb1⟩);go_roundw;case rel=>exact⟨k+1,by omega,by go_num,HV.out,q12 hb1 (q11 HB.out _)⟩
     case measure=>simp[intOf];omega
  ·have HV:Hid (inT T (x,xw) false=false):=by have h:=HA.out;rw[u_ (by omega)]at h;exact h
   clear HA;go_wp2_with fail;go_ret;exact⟨by rw[HV.out];rfl,q12 HB.out HB0.out⟩
theorem rone_w(A:Option Addr)(c:Nat)(T:List TagL)(x:List UInt8)(xw:Bool)(w:World)(h:SpG q27 2 w A c T)(hl:T.length≤1000000)(hx:w54 T)(hxl:x.length≤1000000):Calls Tryz.prog 160 #[.slice A T.length c,.agg #[.string ⟨x.toArray⟩,.bool xw],.bool false] w fun e w'=>e=.returned (.bool (inT T (x,xw) false))∧Below w.heap.size w w':=by
 have HK:=a_ h;have HX:=a_ hx;have HXL:=a_ hxl;clear h hx hxl;go_enter Tryz.func160,Tryz.ntmps160;go_upto_region 1 with fail;obtain⟨W0,hW0⟩:∃W,(w.alloc (.cells #[.string ⟨x.toArray⟩,.bool xw] 25))=W:=⟨_,rfl⟩;have X0:Hid (W0.heap[w.heap.size]?=some (.cells #[.string ⟨x.toArray⟩,.bool xw] 25 (0,0))):=by rw[←hW0];exact j17 rfl
 have HB0:Hid (Below w.heap.size w W0):=by rw[←hW0];exact q11 (b_ _ _) _
 rw[hW0];clear hW0;go_wp2_with fail;go_loopw[8,11](fun _ i wr=>∃k:Nat,k≤T.length∧i=.int .i64 (k:Int)∧inT (T.take k) (x,xw) false=false∧Below W0.heap.size W0 wr)(fun _ i _=>T.length-(intOf i).toNat);case atStart=>exact⟨0,v_ _,rfl,rfl,b_ _ _⟩
 case round=>
  obtain⟨k,hk,rfl,hall,hbw⟩:=hrel;have HA:=a_ hall;have HB:=a_ hbw;clear hall hbw;have Y0:=a_ (j3 HB.out X0.out);obtain⟨v0,v1⟩:=bc2 Y0.out rfl rfl;have vz:=q14 Y0.out;by_cases hlt:k<T.length;·
   obtain⟨b,off,e,hb,hc⟩:=((HK.out.below HB0.out).below HB.out).at' k hlt;have c0:=hc 0 _ rfl;have c1:=hc 1 _ rfl;have htl:=HX.out _ (y_ hlt);have HS:=a_ (fun h=>y66 (t:=(x,xw)) (s:=false) hlt HA.out h);have HY:=a_ (fun h=>q79 (t:=(x,xw)) (s:=false) hlt h);obtain⟨⟨t,tw⟩,ht⟩:∃y,T[k]=y:=⟨_,rfl⟩;rw[ht]at c0 c1 HS HY htl;have HR:=fun W=>a_ (j74 t x tw xw W htl HXL.out);simp only[J_]at c0 c1;clear hc ht htl HA;subst e;have HE:Hid (oneT false (x,xw) (t,tw)=k38 (t,tw) (x,xw)):=rfl;obtain⟨z,hz⟩:∃z,k38 (t,tw) (x,xw)=z:=⟨_,rfl⟩;rw[hz]at HR HE;clear hz;cases z with
    |true=>have HV:=a_ (HY.out HE.out);clear HY HS;go_wp2_with(go_at_call 227;refine(HR _).out.mono ?_;rintro e w1⟨rfl,hb1⟩);go_ret;exact⟨by rw[HV.out];rfl,q12 (q12 hb1 (q11 HB.out _)) HB0.out⟩
    |false=>
     have HV:=a_ (HS.out HE.out);clear HY HS;go_wp2_with(go_at_call 227;refine(HR _).out.mono ?_;rintro e w1⟨rfl,hb1⟩);go_roundw;case rel=>exact⟨k+1,by omega,by go_num,HV.out,q12 hb1 (q11 HB.out _)⟩
     case measure=>simp[intOf];omega
  ·have HV:Hid (inT T (x,xw) false=false):=by have h:=HA.out;rw[u_ (by omega)]at h;exact h
   clear HA;go_wp2_with fail;go_ret;exact⟨by rw[HV.out];rfl,q12 HB.out HB0.out⟩
theorem j35(n:Int):(twoD n).length=2:=rfl
theorem j113(t:List UInt8)(k:Int)(h0:0≤k):(⟨t.toArray⟩:ByteArray).extract (3*k).toNat (3*k+3).toNat=⟨(x18 t k).toArray⟩:=by
 have e:(⟨t.toArray⟩:ByteArray).extract (3*k).toNat (3*k+3).toNat=⟨((t.drop (3*k).toNat).take ((3*k+3).toNat-(3*k).toNat)).toArray⟩:=q73 (by rw[ch_,bK_]);have e1:(3*k).toNat=3*k.toNat:=by omega
 have e2:(3*k+3).toNat-(3*k).toNat=3:=by omega
 rw[e,e2,e1];rfl
def j158(v:List UInt8)(w:World)(e:Ending)(w':World):Prop:=e=.returned (.tuple #[.string ⟨v.toArray⟩,.int .i64 0])∧Below w.heap.size w w'
theorem j69(n:Int)(w:World)(h0:0≤n)(h1:n≤253402300799):Calls Tryz.prog 216 #[.int .i64 n] w (j158 (q42 n) w):=by
 obtain⟨b1,b2,b3,b4,b5,b6,b7,b8⟩:=y125 (n:=n/86400) (by omega) (by omega);have HT:Hid (q42 n=x18 weekT (dayN (n/86400)).week++[44,32]++twoD (dayN (n/86400)).date++[32]++x18 yearT ((dayN (n/86400)).month-1)++[32]++twoD ((dayN (n/86400)).year/100)++twoD ((dayN (n/86400)).year%100)++[32]++twoD (n%86400/3600)++[58]++twoD (n%86400/60%60)++[58]++twoD (n%86400%60)++[32,71,77,84]):=by simp only[Hid];unfold q42;rw[←x154];simp
 obtain⟨s,hs⟩:∃s,n%86400=s:=⟨_,rfl⟩;have hs1:0≤s∧s<86400:=by omega
 rw[hs]at HT;obtain⟨y,m,d,k,hday⟩:∃y m d k,dayN (n/86400)=⟨y,m,d,k⟩:=⟨_,_,_,_,rfl⟩;have HD:∀W,Hid (Calls Tryz.prog 271 #[.int .i64 n] W fun e w'=>e=.returned (.tuple #[.agg #[.int .i64 y,.int .i64 m,.int .i64 d,.int .i64 k],.int .i64 s])∧Below W.heap.size W w'):=fun W=>a_ ((q120 n W h0 h1).mono fun e w' h=>by rw[j58,hday,hs]at h;exact h);rw[hday]at HT b1 b2 b3 b4 b5 b6 b7 b8;simp only at HT b1 b2 b3 b4 b5 b6 b7 b8;have hn1:(x18 weekT k).length=3:=q60 b7 (by show 3*k+3≤((21:Nat):Int);omega);have hn2:(x18 yearT (m-1)).length=3:=q60 (by omega) (by show 3*(m-1)+3≤((36:Nat):Int);omega);have hx1:=j113 weekT k b7;have hx2:(⟨yearT.toArray⟩:ByteArray).extract (3*m-3).toNat (3*m).toNat=⟨(x18 yearT (m-1)).toArray⟩:=by
  have h:=j113 yearT (m-1) (by omega);have e1:3*(m-1)=3*m-3:=by omega
  have e2:3*(m-1)+3=3*m:=by omega
  rw[e2,e1]at h;exact h
 have hz1:(⟨weekT.toArray⟩:ByteArray).size=21:=by decide
 have hz2:(⟨yearT.toArray⟩:ByteArray).size=36:=by decide
 have hl1:weekT.length=21:=rfl;have hl2:yearT.length=36:=rfl;have R1:=fun W=>a_ (y51 d W (by omega) (by omega));have R2:=fun W=>a_ (y51 (y/100) W (by omega) (by omega));have R3:=fun W=>a_ (y51 (y%100) W (by omega) (by omega));have R4:=fun W=>a_ (y51 (s/3600) W (by omega) (by omega));have R5:=fun W=>a_ (y51 (s/60%60) W (by omega) (by omega));have R6:=fun W=>a_ (y51 (s%60) W (by omega) (by omega));have RW:=fun W=>a_ (j133 W);have RM:=fun W=>a_ (x120 W);have k0:=catE (a:=x18 weekT k) (b:=[44,32]) (by simp only[hn1,g_,i_];omega);have k1:=catE (a:=x18 weekT k++[44,32]) (b:=twoD d) (by simp only[e_,hn1,j35,g_,i_];omega);have k2:=catE (a:=x18 weekT k++[44,32]++twoD d) (b:=[32]) (by simp only[e_,hn1,j35,g_,i_];omega);have k3:=catE (a:=x18 weekT k++[44,32]++twoD d++[32]) (b:=x18 yearT (m-1)) (by simp only[e_,hn1,hn2,j35,g_,i_];omega);have k4:=catE (a:=x18 weekT k++[44,32]++twoD d++[32]++x18 yearT (m-1)) (b:=[32]) (by simp only[e_,hn1,hn2,j35,g_,i_];omega);have k5:=catE (a:=x18 weekT k++[44,32]++twoD d++[32]++x18 yearT (m-1)++[32]) (b:=twoD (y/100)) (by simp only[e_,hn1,hn2,j35,g_,i_];omega);have k6:=catE (a:=x18 weekT k++[44,32]++twoD d++[32]++x18 yearT (m-1)++[32]++twoD (y/100)) (b:=twoD (y%100)) (by simp only[e_,hn1,hn2,j35,g_,i_];omega);have k7:=catE (a:=x18 weekT k++[44,32]++twoD d++[32]++x18 yearT (m-1)++[32]++twoD (y/100)++twoD (y%100)) (b:=[32]) (by simp only[e_,hn1,hn2,j35,g_,i_];omega);have k8:=catE (a:=x18 weekT k++[44,32]++twoD d++[32]++x18 yearT (m-1)++[32]++twoD (y/100)++twoD (y%100)++[32]) (b:=twoD (s/3600)) (by simp only[e_,hn1,hn2,j35,g_,i_];omega);have k9:=catE (a:=x18 weekT k++[44,32]++twoD d++[32]++x18 yearT (m-1)++[32]++twoD (y/100)++twoD (y%100)++[32]++twoD (s/3600)) (b:=[58]) (by simp only[e_,hn1,hn2,j35,g_,i_];omega);have k10:=catE (a:=x18 weekT k++[44,32]++twoD d++[32]++x18 yearT (m-1)++[32]++twoD (y/100)++twoD (y%100)++[32]++twoD (s/3600)++[58]) (b:=twoD (s/60%60)) (by simp only[e_,hn1,hn2,j35,g_,i_];omega);have k11:=catE (a:=x18 weekT k++[44,32]++twoD d++[32]++x18 yearT (m-1)++[32]++twoD (y/100)++twoD (y%100)++[32]++twoD (s/3600)++[58]++twoD (s/60%60)) (b:=[58]) (by simp only[e_,hn1,hn2,j35,g_,i_];omega);have k12:=catE (a:=x18 weekT k++[44,32]++twoD d++[32]++x18 yearT (m-1)++[32]++twoD (y/100)++twoD (y%100)++[32]++twoD (s/3600)++[58]++twoD (s/60%60)++[58]) (b:=twoD (s%60)) (by simp only[e_,hn1,hn2,j35,g_,i_];omega);have k13:=catE (a:=x18 weekT k++[44,32]++twoD d++[32]++x18 yearT (m-1)++[32]++twoD (y/100)++twoD (y%100)++[32]++twoD (s/3600)++[58]++twoD (s/60%60)++[58]++twoD (s%60)) (b:=[32,71,77,84]) (by simp only[e_,hn1,hn2,j35,g_,i_];omega);generalize x18 weekT k++[44,32]++twoD d++[32]++x18 yearT (m-1)++[32]++twoD (y/100)++twoD (y%100)++[32]++twoD (s/3600)++[58]++twoD (s/60%60)++[58]++twoD (s%60)++[32,71,77,84]=t14 at k13 HT;generalize x18 weekT k++[44,32]++twoD d++[32]++x18 yearT (m-1)++[32]++twoD (y/100)++twoD (y%100)++[32]++twoD (s/3600)++[58]++twoD (s/60%60)++[58]++twoD (s%60)=t13 at k12 k13;generalize x18 weekT k++[44,32]++twoD d++[32]++x18 yearT (m-1)++[32]++twoD (y/100)++twoD (y%100)++[32]++twoD (s/3600)++[58]++twoD (s/60%60)++[58]=t12 at k11 k12;generalize x18 weekT k++[44,32]++twoD d++[32]++x18 yearT (m-1)++[32]++twoD (y/100)++twoD (y%100)++[32]++twoD (s/3600)++[58]++twoD (s/60%60)=t11 at k10 k11;generalize x18 weekT k++[44,32]++twoD d++[32]++x18 yearT (m-1)++[32]++twoD (y/100)++twoD (y%100)++[32]++twoD (s/3600)++[58]=t10 at k9 k10;generalize x18 weekT k++[44,32]++twoD d++[32]++x18 yearT (m-1)++[32]++twoD (y/100)++twoD (y%100)++[32]++twoD (s/3600)=t9 at k8 k9;generalize x18 weekT k++[44,32]++twoD d++[32]++x18 yearT (m-1)++[32]++twoD (y/100)++twoD (y%100)++[32]=t8 at k7 k8;generalize x18 weekT k++[44,32]++twoD d++[32]++x18 yearT (m-1)++[32]++twoD (y/100)++twoD (y%100)=t7 at k6 k7;generalize x18 weekT k++[44,32]++twoD d++[32]++x18 yearT (m-1)++[32]++twoD (y/100)=t6 at k5 k6;generalize x18 weekT k++[44,32]++twoD d++[32]++x18 yearT (m-1)++[32]=t5 at k4 k5;generalize x18 weekT k++[44,32]++twoD d++[32]++x18 yearT (m-1)=t4 at k3 k4;generalize x18 weekT k++[44,32]++twoD d++[32]=t3 at k2 k3;generalize x18 weekT k++[44,32]++twoD d=t2 at k1 k2;generalize x18 weekT k++[44,32]=t1 at k0 k1;generalize x18 weekT k=t0 at hx1 k0;generalize x18 yearT (m-1)=tm at hx2 k3;generalize twoD d=q1 at R1 k1;generalize twoD (y/100)=q2 at R2 k5;generalize twoD (y%100)=q3 at R3 k6;generalize twoD (s/3600)=q4 at R4 k8;generalize twoD (s/60%60)=q5 at R5 k10;generalize twoD (s%60)=q6 at R6 k12;generalize weekT=wt at RW hx1 hz1 hl1;generalize yearT=yt at RM hx2 hz2 hl2;have g0:(0:Int)≤3*k:=by omega
 have g1:3*k≤3*k+3:=by omega
 have g2:3*k+3≤(wt.length:Int):=by omega
 have g3:3*k+3≤21:=by omega
 have g4:(0:Int)≤3*m-3:=by omega
 have g5:3*m-3≤3*m:=by omega
 have g6:3*m≤(yt.length:Int):=by omega
 have g7:3*m≤36:=by omega
 have g8:(3:Int)≤3*m:=by omega
 have g9:¬3*m-3<0:=by omega
 have g10:(3*m).toNat≤yt.length:=by omega
 have g11:(3*m-3).toNat≤(3*m).toNat:=by omega
 have p1:IntKind.i64.wrap (3*k)=3*k:=M_ _ (by omega);have p2:IntKind.i64.wrap (3*k+3)=3*k+3:=M_ _ (by omega);have p3:IntKind.i64.wrap (3*m)=3*m:=M_ _ (by omega);have p4:IntKind.i64.wrap (3*m-3)=3*m-3:=M_ _ (by omega);have p5:IntKind.i64.wrap (y.tdiv 100)=y/100:=IntWalk.i64_quo y 100 ⟨by omega,by omega,by omega⟩;have p6:y.tmod 100=y%100:=IntWalk.rem_in y 100 (by omega);clear hday hs hn1 hn2;go_enter Tryz.func216,Tryz.ntmps216;go_wp2_with fail;refine(HD _).out.mono ?_;rintro e w1⟨rfl,hb1⟩;clear HD;go_wp2_with fail;obtain⟨W0,hW0⟩:∃W0,w1.alloc (.cells #[.int .i64 y,.int .i64 m,.int .i64 d,.int .i64 k] 323)=W0:=⟨_,rfl⟩;have HW0:Hid (W0.heap[w1.heap.size]?=some (.cells #[.int .i64 y,.int .i64 m,.int .i64 d,.int .i64 k] 323 (0,0))):=by rw[←hW0];exact j17 rfl
 have HWB:Hid (Below w.heap.size w W0):=by rw[←hW0];exact q11 hb1 _
 obtain⟨db,hdb⟩:∃db,w1.heap.size=db:=⟨_,rfl⟩;rw[hdb]at HW0;rw[hW0];try rw[hdb]
 clear hW0 hdb hb1;have v0:W0.cell? ⟨db,0,none⟩=some (.int .i64 y):=bc 0 HW0.out rfl;have v1:W0.cell? ⟨db,1,none⟩=some (.int .i64 m):=bc 1 HW0.out rfl;have v2:W0.cell? ⟨db,2,none⟩=some (.int .i64 d):=bc 2 HW0.out rfl;have v3:W0.cell? ⟨db,3,none⟩=some (.int .i64 k):=bc 3 HW0.out rfl;have vz:=q14 HW0.out;clear HW0;go_region_held3(fun w'=>w'.cell? ⟨db,0,none⟩=some (.int .i64 y)∧w'.cell? ⟨db,1,none⟩=some (.int .i64 m)∧w'.cell? ⟨db,2,none⟩=some (.int .i64 d)∧w'.cell? ⟨db,3,none⟩=some (.int .i64 k))(first|exact⟨u0,u1,u2,u3⟩|exact⟨v0,v1,v2,v3⟩|fail)(first|(go_at_call 272;refine(RW _).out.mono ?_;rintro e w2⟨rfl,rfl⟩)|(go_at_call 274;refine(RM _).out.mono ?_;rintro e w2⟨rfl,rfl⟩)|(go_at_call_of 273(Value.int .i64 d);refine(R1 _).out.mono ?_;rintro e w3⟨rfl,hb3⟩;first|(replace u0:=x16 hb3 u0;replace u1:=x16 hb3 u1;replace u2:=x16 hb3 u2;replace u3:=x16 hb3 u3)|(have u0:=x16 hb3 v0;have u1:=x16 hb3 v1;have u2:=x16 hb3 v2;have u3:=x16 hb3 v3))|(go_at_call_has 273(Value.int .i64 (y/100));refine(R2 _).out.mono ?_;rintro e w4⟨rfl,hb4⟩;first|(replace u0:=x16 hb4 u0;replace u1:=x16 hb4 u1;replace u2:=x16 hb4 u2;replace u3:=x16 hb4 u3)|(have u0:=x16 hb4 v0;have u1:=x16 hb4 v1;have u2:=x16 hb4 v2;have u3:=x16 hb4 v3))|(go_at_call_has 273(Value.int .i64 (y%100));refine(R3 _).out.mono ?_;rintro e w5⟨rfl,hb5⟩;first|(replace u0:=x16 hb5 u0;replace u1:=x16 hb5 u1;replace u2:=x16 hb5 u2;replace u3:=x16 hb5 u3)|(have u0:=x16 hb5 v0;have u1:=x16 hb5 v1;have u2:=x16 hb5 v2;have u3:=x16 hb5 v3)));clear u0 u1 u2 u3 v0 v1 v2 v3 vz;go_wp2_with(first|(go_at_call_has 273(Value.int .i64 (s/3600));refine(R4 _).out.mono ?_;rintro e w6⟨rfl,hb6⟩)|(go_at_call_has 273(Value.int .i64 (s/60%60));refine(R5 _).out.mono ?_;rintro e w7⟨rfl,hb7⟩)|(go_at_call_has 273(Value.int .i64 (s%60));refine(R6 _).out.mono ?_;rintro e w8⟨rfl,hb8⟩));refine m_ (by simp[results,Tryz.results216,go_sem];try rfl) rfl ?_;refine⟨by rw[HT.out],?_⟩;refine q12 hb8 (q12 hb7 (q12 hb6 ?_));first|exact q12 hb3 (q12 hb4 (q12 hb5 (by first|exact HWB.out|exact x15 HWB.out|exact q15 HWB.out _)))|exact q12 hb3 (q12 hb5 (q12 hb4 (by first|exact HWB.out|exact x15 HWB.out|exact q15 HWB.out _)))|exact q12 hb4 (q12 hb3 (q12 hb5 (by first|exact HWB.out|exact x15 HWB.out|exact q15 HWB.out _)))|exact q12 hb4 (q12 hb5 (q12 hb3 (by first|exact HWB.out|exact x15 HWB.out|exact q15 HWB.out _)))|exact q12 hb5 (q12 hb3 (q12 hb4 (by first|exact HWB.out|exact x15 HWB.out|exact q15 HWB.out _)))|exact q12 hb5 (q12 hb4 (q12 hb3 (by first|exact HWB.out|exact x15 HWB.out|exact q15 HWB.out _)))
def k33(n:Int):Bool:=decide (n=-1)||(decide (0≤n)&&decide (n≤253402300799))
structure CondL where
 M:List TagL
 N:List TagL
 am:Bool
 an:Bool
 si:Int
 un:Int
 rt:List UInt8
 rw:Bool
def w39(k:CondL):Bool:=k47 k.am k.M&&k47 k.an k.N&&k33 k.si&&k33 k.un&&(decide (k.rt=[])||j20 k.rt)
theorem w121(n:Int)(w:World)(h:n<0∨253402300799<n):Calls Tryz.prog 122 #[.int .i64 n] w fun e w'=>e=.returned (.tuple #[.string ⟨#[]⟩,.int .i64 1])∧Below w.heap.size w w':=by
 by_cases h0:n<0;·clear h;go_enter Tryz.func122,Tryz.ntmps122;go_wp2_with fail;go_ret2;exact⟨rfl,by(repeat(first|exact b_ _ _|refine q15 ?_ _|refine x15 ?_|refine q11 ?_ _|refine w14 ?_ (by simp) _))⟩
 ·have h1:(253402300799:Int)<n:=by omega
  clear h;go_enter Tryz.func122,Tryz.ntmps122;go_wp2_with fail;go_ret2;exact⟨rfl,by(repeat(first|exact b_ _ _|refine q15 ?_ _|refine x15 ?_|refine q11 ?_ _|refine w14 ?_ (by simp) _))⟩
theorem v113(n:Int)(w:World)(h:n<0∨253402300799<n):Calls Tryz.prog 216 #[.int .i64 n] w fun e w'=>e=.returned (.tuple #[.string ⟨#[]⟩,.int .i64 1])∧Below w.heap.size w w':=by
 by_cases h0:n<0;·clear h;go_enter Tryz.func216,Tryz.ntmps216;go_wp2_with fail;go_ret2;exact⟨rfl,by(repeat(first|exact b_ _ _|refine q15 ?_ _|refine x15 ?_|refine q11 ?_ _|refine w14 ?_ (by simp) _))⟩
 ·have h1:(253402300799:Int)<n:=by omega
  clear h;go_enter Tryz.func216,Tryz.ntmps216;go_wp2_with fail;go_ret2;exact⟨rfl,by(repeat(first|exact b_ _ _|refine q15 ?_ _|refine x15 ?_|refine q11 ?_ _|refine w14 ?_ (by simp) _))⟩
theorem k102(n:Int)(w:World):Calls Tryz.prog 135 #[.int .i64 n] w fun e w'=>e=.returned (.bool (k33 n))∧Below w.heap.size w w':=by
 by_cases h:n<0∨253402300799<n;·
  have HT:=fun W=>a_ (w121 n W h);by_cases h1:n=-1;·
   have hb:(n==-1)=true:=by rw[aD_];exact h1
   have HV:Hid (k33 n=true):=by simp only[Hid];unfold k33;rw[s_ h1];rfl
   clear h h1;go_enter Tryz.func135,Tryz.ntmps135;go_wp2_with(go_at_call 122;refine(HT _).out.mono ?_;rintro e w1⟨rfl,hb1⟩);go_ret;exact⟨by rw[HV.out];rfl,hb1⟩
  ·have hb:(n==-1)=false:=by rw[j_];exact h1
   have HV:Hid (k33 n=false):=by
    simp only[Hid];unfold k33;rw[k_ h1];rcases h with h|h;·rw[k_ (show¬0≤n by omega)];rfl
    ·rw[k_ (show¬n≤253402300799 by omega)];simp
   clear h h1;go_enter Tryz.func135,Tryz.ntmps135;go_wp2_with(go_at_call 122;refine(HT _).out.mono ?_;rintro e w1⟨rfl,hb1⟩);go_ret;exact⟨by rw[HV.out];rfl,hb1⟩
 ·have HT:=fun W=>a_ (x72 n W (by omega) (by omega));have hb:(n==-1)=false:=by rw[j_];omega
  have HV:Hid (k33 n=true):=by simp only[Hid];unfold k33;rw[s_ (show 0≤n by omega),s_ (show n≤253402300799 by omega)];simp
  clear h;go_enter Tryz.func135,Tryz.ntmps135;go_wp2_with(go_at_call 122;refine(HT _).out.mono ?_;rintro e w1⟨rfl,hb1⟩);go_ret;exact⟨by rw[HV.out];rfl,hb1⟩
theorem w102(n:Int)(w:World):Calls Tryz.prog 213 #[.int .i64 n] w fun e w'=>e=.returned (.bool (k33 n))∧Below w.heap.size w w':=by
 by_cases h:n<0∨253402300799<n;·
  have HT:=fun W=>a_ (v113 n W h);by_cases h1:n=-1;·
   have hb:(n==-1)=true:=by rw[aD_];exact h1
   have HV:Hid (k33 n=true):=by simp only[Hid];unfold k33;rw[s_ h1];rfl
   clear h h1;go_enter Tryz.func213,Tryz.ntmps213;go_wp2_with(go_at_call 216;refine(HT _).out.mono ?_;rintro e w1⟨rfl,hb1⟩);go_ret;exact⟨by rw[HV.out];rfl,hb1⟩
  ·have hb:(n==-1)=false:=by rw[j_];exact h1
   have HV:Hid (k33 n=false):=by
    simp only[Hid];unfold k33;rw[k_ h1];rcases h with h|h;·rw[k_ (show¬0≤n by omega)];rfl
    ·rw[k_ (show¬n≤253402300799 by omega)];simp
   clear h h1;go_enter Tryz.func213,Tryz.ntmps213;go_wp2_with(go_at_call 216;refine(HT _).out.mono ?_;rintro e w1⟨rfl,hb1⟩);go_ret;exact⟨by rw[HV.out];rfl,hb1⟩
 ·have HT:=fun W=>a_ (j69 n W (by omega) (by omega));have hb:(n==-1)=false:=by rw[j_];omega
  have HV:Hid (k33 n=true):=by simp only[Hid];unfold k33;rw[s_ (show 0≤n by omega),s_ (show n≤253402300799 by omega)];simp
  clear h;go_enter Tryz.func213,Tryz.ntmps213;go_wp2_with(go_at_call 216;refine(HT _).out.mono ?_;rintro e w1⟨rfl,hb1⟩);go_ret;exact⟨by rw[HV.out];rfl,hb1⟩
def j57(k:CondL)(A1:Option Addr)(c1:Nat)(A2:Option Addr)(c2:Nat):Value:=.agg #[.slice A1 k.M.length c1,.slice A2 k.N.length c2,.bool k.am,.bool k.an,.int .i64 k.si,.int .i64 k.un,.string ⟨k.rt.toArray⟩,.bool k.rw]
structure ShortC(k:CondL):Prop where
 m:k.M.length≤1000000
 n:k.N.length≤1000000
 tm:w54 k.M
 tn:w54 k.N
 rt:k.rt.length≤1000000
theorem j30(l:List UInt8):(l=[]∧(l==[])=true)∨(¬l=[]∧(l==[])=false):=by cases l with|nil=>exact .inl ⟨rfl,rfl⟩|cons a r=>exact .inr ⟨by simp,rfl⟩
theorem v106(k:CondL)(A1:Option Addr)(c1:Nat)(A2:Option Addr)(c2:Nat)(w:World)(h1:SpG q27 2 w A1 c1 k.M)(h2:SpG q27 2 w A2 c2 k.N)(hs:ShortC k):Calls Tryz.prog 77 #[j57 k A1 c1 A2 c2] w fun e w'=>e=.returned (.bool (w39 k))∧Below w.heap.size w w':=by
 obtain⟨M,N,am,an,si,un,rt,rw⟩:=k;obtain⟨l1,l2,l3,l4,l5⟩:=hs;simp only at l1 l2 l3 l4 l5 h1 h2;have HM:=a_ h1;have HN:=a_ h2;have H1:=fun W h=>a_ (k74 A1 c1 M am W h l1 l3);have H2:=fun W h=>a_ (k74 A2 c2 N an W h l2 l4);have H3:=fun W=>a_ (k102 si W);have H4:=fun W=>a_ (k102 un W);have H5:=fun W=>a_ (k39 rt rw W l5);have HV:Hid (w39 ⟨M,N,am,an,si,un,rt,rw⟩=(k47 am M&&k47 an N&&k33 si&&k33 un&&(decide (rt=[])||j20 rt))):=rfl;obtain⟨V,hV⟩:∃V,w39 ⟨M,N,am,an,si,un,rt,rw⟩=V:=⟨_,rfl⟩;rw[hV]at HV⊢;unfold j57;simp only;clear hV h1 h2 l1 l2 l3 l4 l5;obtain⟨b1,e1⟩:∃b,k47 am M=b:=⟨_,rfl⟩;obtain⟨b2,e2⟩:∃b,k47 an N=b:=⟨_,rfl⟩;obtain⟨b3,e3⟩:∃b,k33 si=b:=⟨_,rfl⟩;obtain⟨b4,e4⟩:∃b,k33 un=b:=⟨_,rfl⟩;obtain⟨b5,e5⟩:∃b,j20 rt=b:=⟨_,rfl⟩;rw[e1,e2,e3,e4,e5]at HV;rw[e1]at H1;rw[e2]at H2;rw[e3]at H3;rw[e4]at H4;rw[e5]at H5;clear e1 e2 e3 e4 e5;go_enter Tryz.func77,Tryz.ntmps77;go_upto_region 1 with fail;obtain⟨W0,hW0⟩:∃W,(w.alloc (.cells #[.slice A1 M.length c1,.slice A2 N.length c2,.bool am,.bool an,.int .i64 si,.int .i64 un,.string ⟨rt.toArray⟩,.bool rw] 27))=W:=⟨_,rfl⟩;have X0:Hid (W0.heap[w.heap.size]?=some (.cells #[.slice A1 M.length c1,.slice A2 N.length c2,.bool am,.bool an,.int .i64 si,.int .i64 un,.string ⟨rt.toArray⟩,.bool rw] 27 (0,0))):=by rw[←hW0];exact j17 rfl
 have HB0:Hid (Below w.heap.size w W0):=by rw[←hW0];exact q11 (b_ _ _) _
 rw[hW0];clear hW0;obtain⟨v0,v1,v2,v3,v4,v5,v6,v7⟩:=bc8 X0.out;have vz:=q14 X0.out;have hsel:b1=false∨(b1=true∧b2=false)∨(b1=true∧b2=true∧b3=false)∨(b1=true∧b2=true∧b3=true∧b4=false)∨(b1=true∧b2=true∧b3=true∧b4=true):=by cases b1<;>cases b2<;>cases b3<;>cases b4<;>simp
 rcases j30 rt with⟨rfl,hq⟩|⟨hne,hq⟩;rotate_left;rw[k_ hne]at HV;clear hne;rotate_left;all_goals
  rcases hsel with rfl|⟨rfl,rfl⟩|⟨rfl,rfl,rfl⟩|⟨rfl,rfl,rfl,rfl⟩|⟨rfl,rfl,rfl,rfl⟩;all_goals go_wp2_with(first|(go_at_call 65;refine(H5 _).out.mono ?_;rintro e w5⟨rfl,hb5⟩)|(go_at_call_of 135(Value.int .i64 un);refine(H4 _).out.mono ?_;rintro e w4⟨rfl,hb4⟩;have Y4:=a_ (j3 hb4 Y3.out);obtain⟨v0,v1,v2,v3,v4,v5,v6,v7⟩:=bc8 Y4.out;have vz:=q14 Y4.out)|(go_at_call_of 135(Value.int .i64 si);refine(H3 _).out.mono ?_;rintro e w3⟨rfl,hb3⟩;have Y3:=a_ (j3 hb3 Y2.out);obtain⟨v0,v1,v2,v3,v4,v5,v6,v7⟩:=bc8 Y3.out;have vz:=q14 Y3.out)|(go_at_call_of 134(Value.slice A2 N.length c2);refine(H2 _ ((HN.out.below HB0.out).below hb1)).out.mono ?_;rintro e w2⟨rfl,hb2⟩;have Y2:=a_ (j3 hb2 Y1.out);obtain⟨v0,v1,v2,v3,v4,v5,v6,v7⟩:=bc8 Y2.out;have vz:=q14 Y2.out)|(go_at_call_of 134(Value.slice A1 M.length c1);refine(H1 _ (HM.out.below HB0.out)).out.mono ?_;rintro e w1⟨rfl,hb1⟩;have Y1:=a_ (j3 hb1 X0.out);obtain⟨v0,v1,v2,v3,v4,v5,v6,v7⟩:=bc8 Y1.out;have vz:=q14 Y1.out));go_ret;exact⟨by rw[HV.out];first|rfl|(simp;done)|(cases b5<;>rfl),(by repeat(first|exact HB0.out|refine q12 (by assumption) ?_))⟩
theorem v158(l:List UInt8)(wk:Bool)(w:World):Calls Tryz.prog 214 #[.agg #[.string ⟨l.toArray⟩,.bool wk]] w fun e w'=>e=.returned (.bool (decide (l=[])&&wk))∧Below w.heap.size w w':=by
 rcases j30 l with⟨rfl,hq⟩|⟨hne,hq⟩;·go_enter Tryz.func214,Tryz.ntmps214;go_wp2_with fail;go_ret;exact⟨by simp,by(repeat(first|exact b_ _ _|refine q15 ?_ _|refine x15 ?_|refine q11 ?_ _|refine w14 ?_ (by simp) _))⟩
 ·rw[k_ hne];go_enter Tryz.func214,Tryz.ntmps214;go_wp2_with fail;go_ret;exact⟨rfl,by(repeat(first|exact b_ _ _|refine q15 ?_ _|refine x15 ?_|refine q11 ?_ _|refine w14 ?_ (by simp) _))⟩
theorem j135{k:CondL}(h:(k.am&&decide (0<k.M.length))=true∨(k.an&&decide (0<k.N.length))=true):w39 k=false:=by unfold w39 k47;rcases h with h|h<;>rw[h]<;>simp
theorem z122{k:CondL}(h1:(k.am&&decide (0<k.M.length))=false)(h2:(k.an&&decide (0<k.N.length))=false):w39 k=(j61 k.M&&j61 k.N&&k33 k.si&&k33 k.un&&(decide (k.rt=[])||j20 k.rt)):=by unfold w39 k47 j61;rw[h1,h2];cases tgs k.M<;>cases tgs k.N<;>simp
theorem w97(k:CondL)(A1:Option Addr)(c1:Nat)(A2:Option Addr)(c2:Nat)(w:World)(h1:SpG q27 2 w A1 c1 k.M)(h2:SpG q27 2 w A2 c2 k.N)(hs:ShortC k):Calls Tryz.prog 147 #[j57 k A1 c1 A2 c2] w fun e w'=>e=.returned (.bool (w39 k))∧Below w.heap.size w w':=by
 have HBAD:=a_ (j135 (k:=k));have HGOOD:=a_ (z122 (k:=k));obtain⟨M,N,am,an,si,un,rt,rw⟩:=k;obtain⟨l1,l2,l3,l4,l5⟩:=hs;simp only at l1 l2 l3 l4 l5 h1 h2 HBAD HGOOD;have HM:=a_ h1;have HN:=a_ h2;have H1:=fun W h=>a_ (v102 A1 c1 M W h l1 l3);have H2:=fun W h=>a_ (v102 A2 c2 N W h l2 l4);have H3:=fun W=>a_ (w102 si W);have H4:=fun W=>a_ (w102 un W);have H5:=fun W=>a_ (j37 rt rw W l5);have H6:=fun W=>a_ (v158 rt rw W);obtain⟨V,hV⟩:∃V,w39 ⟨M,N,am,an,si,un,rt,rw⟩=V:=⟨_,rfl⟩;rw[hV]at HBAD HGOOD⊢;unfold j57;simp only;obtain⟨b1,e1⟩:∃b,j61 M=b:=⟨_,rfl⟩;obtain⟨b2,e2⟩:∃b,j61 N=b:=⟨_,rfl⟩;obtain⟨b3,e3⟩:∃b,k33 si=b:=⟨_,rfl⟩;obtain⟨b4,e4⟩:∃b,k33 un=b:=⟨_,rfl⟩;obtain⟨b5,e5⟩:∃b,j20 rt=b:=⟨_,rfl⟩;rw[e1,e2,e3,e4,e5]at HGOOD;rw[e1]at H1;rw[e2]at H2;rw[e3]at H3;rw[e4]at H4;rw[e5]at H5;obtain⟨ml,q7⟩:∃x,M.length=x:=⟨_,rfl⟩;obtain⟨nl,q8⟩:∃x,N.length=x:=⟨_,rfl⟩;rw[q7]at H1 HBAD HGOOD⊢;rw[q8]at H2 HBAD HGOOD⊢;clear hV h1 h2 l1 l2 l3 l4 l5 e1 e2 e3 e4 e5 q7 q8;go_enter Tryz.func147,Tryz.ntmps147;go_upto_region 1 with fail;obtain⟨W0,hW0⟩:∃W,(w.alloc (.cells #[.slice A1 ml c1,.slice A2 nl c2,.bool am,.bool an,.int .i64 si,.int .i64 un,.string ⟨rt.toArray⟩,.bool rw] 27))=W:=⟨_,rfl⟩;have X0:Hid (W0.heap[w.heap.size]?=some (.cells #[.slice A1 ml c1,.slice A2 nl c2,.bool am,.bool an,.int .i64 si,.int .i64 un,.string ⟨rt.toArray⟩,.bool rw] 27 (0,0))):=by rw[←hW0];exact j17 rfl
 have HB0:Hid (Below w.heap.size w W0):=by rw[←hW0];exact q11 (b_ _ _) _
 rw[hW0];clear hW0;obtain⟨v0,v1,v2,v3,v4,v5,v6,v7⟩:=bc8 X0.out;have vz:=q14 X0.out;go_cut[21](fun s wx=>s=.bool ((am&&decide (0<ml))||(an&&decide (0<nl)))∧wx=W0);case first=>
  cases am<;>cases an<;>by_cases hm:0<ml<;>by_cases hn:0<nl;all_goals
   first|(have hm':(0:Int)<(ml:Int):=by omega)|(have hm':¬(0:Int)<(ml:Int):=by omega)
   first|(have hn':(0:Int)<(nl:Int):=by omega)|(have hn':¬(0:Int)<(nl:Int):=by omega)
   go_wp2_with fail;go_meet;exact⟨by simp[hm,hn],rfl⟩
 case rest=>
  obtain⟨rfl,rfl⟩:=hcut;obtain⟨x1,y1⟩:∃z,(am&&decide (0<ml))=z:=⟨_,rfl⟩;obtain⟨x2,y2⟩:∃z,(an&&decide (0<nl))=z:=⟨_,rfl⟩;rw[y1,y2]at HBAD HGOOD⊢;clear y1 y2;obtain⟨z,hz⟩:∃z,(x1||x2)=z:=⟨_,rfl⟩;rw[hz];cases z with
   |true=>have HV:Hid (V=false):=HBAD.out (by simpa using hz);clear HBAD HGOOD hz;go_wp2_with fail;go_ret;exact⟨by rw[HV.out];rfl,HB0.out⟩
   |false=>
    rw[Bool.or_eq_false_iff]at hz;have HV:=a_ (HGOOD.out hz.1 hz.2);clear HBAD HGOOD hz;have hsel:b1=false∨(b1=true∧b2=false)∨(b1=true∧b2=true∧b3=false)∨(b1=true∧b2=true∧b3=true∧b4=false)∨(b1=true∧b2=true∧b3=true∧b4=true):=by cases b1<;>cases b2<;>cases b3<;>cases b4<;>simp
    rcases j30 rt with⟨rfl,hq⟩|⟨hne,hq⟩;rotate_left;rw[k_ hne]at HV H6;clear hne;rotate_left;cases rw;all_goals
     rcases hsel with rfl|⟨rfl,rfl⟩|⟨rfl,rfl,rfl⟩|⟨rfl,rfl,rfl,rfl⟩|⟨rfl,rfl,rfl,rfl⟩;all_goals go_wp2_with(first|(go_at_call 59;refine(H5 _).out.mono ?_;rintro e w6⟨rfl,hb6⟩)|(go_at_call 214;refine(H6 _).out.mono ?_;rintro e w5⟨rfl,hb5⟩;have Y5:=a_ (j3 hb5 Y4.out);obtain⟨v0,v1,v2,v3,v4,v5,v6,v7⟩:=bc8 Y5.out;have vz:=q14 Y5.out)|(go_at_call_of 213(Value.int .i64 un);refine(H4 _).out.mono ?_;rintro e w4⟨rfl,hb4⟩;have Y4:=a_ (j3 hb4 Y3.out);obtain⟨v0,v1,v2,v3,v4,v5,v6,v7⟩:=bc8 Y4.out;have vz:=q14 Y4.out)|(go_at_call_of 213(Value.int .i64 si);refine(H3 _).out.mono ?_;rintro e w3⟨rfl,hb3⟩;have Y3:=a_ (j3 hb3 Y2.out);obtain⟨v0,v1,v2,v3,v4,v5,v6,v7⟩:=bc8 Y3.out;have vz:=q14 Y3.out)|(go_at_call_of 212(Value.slice A2 nl c2);refine(H2 _ ((HN.out.below HB0.out).below hb1)).out.mono ?_;rintro e w2⟨rfl,hb2⟩;have Y2:=a_ (j3 hb2 Y1.out);obtain⟨v0,v1,v2,v3,v4,v5,v6,v7⟩:=bc8 Y2.out;have vz:=q14 Y2.out)|(go_at_call_of 212(Value.slice A1 ml c1);refine(H1 _ (HM.out.below HB0.out)).out.mono ?_;rintro e w1⟨rfl,hb1⟩;have Y1:=a_ (j3 hb1 X0.out);obtain⟨v0,v1,v2,v3,v4,v5,v6,v7⟩:=bc8 Y1.out;have vz:=q14 Y1.out));go_ret;exact⟨by rw[HV.out];first|(simp;done)|(cases b5<;>rfl),(by repeat(first|exact HB0.out|refine q12 (by assumption) ?_))⟩
structure FewC(k:CondL):Prop where
 m:k.M.length≤40
 n:k.N.length≤40
 tm:∀t∈k.M,t.1.length≤400
 tn:∀t∈k.N,t.1.length≤400
 rt:k.rt.length≤400
theorem FewC.short{k:CondL}(h:FewC k):ShortC k:=⟨by have:=h.m;omega,by have:=h.n;omega,fun t ht=>by have:=h.tm t ht;omega,fun t ht=>by have:=h.tn t ht;omega,by have:=h.rt;omega⟩
theorem k148(k:CondL)(A1:Option Addr)(c1:Nat)(A2:Option Addr)(c2:Nat)(w:World)(h1:SpG q27 2 w A1 c1 k.M)(h2:SpG q27 2 w A2 c2 k.N)(hrt:k.rt.length≤4611686018427387904):Calls Tryz.prog 76 #[j57 k A1 c1 A2 c2] w (w51 (FewC k) w):=by
 obtain⟨M,N,am,an,si,un,rt,rw⟩:=k;simp only at h1 h2 hrt;have HM:=a_ h1;have HN:=a_ h2;have hsz:(⟨rt.toArray⟩:ByteArray).size=rt.length:=q19 rt;unfold j57;simp only;clear h1 h2;go_enter Tryz.func76,Tryz.ntmps76;go_upto_region 1 with fail;obtain⟨W0,hW0⟩:∃W,(w.alloc (.cells #[.slice A1 M.length c1,.slice A2 N.length c2,.bool am,.bool an,.int .i64 si,.int .i64 un,.string ⟨rt.toArray⟩,.bool rw] 27))=W:=⟨_,rfl⟩;have X0:Hid (W0.heap[w.heap.size]?=some (.cells #[.slice A1 M.length c1,.slice A2 N.length c2,.bool am,.bool an,.int .i64 si,.int .i64 un,.string ⟨rt.toArray⟩,.bool rw] 27 (0,0))):=by rw[←hW0];exact j17 rfl
 have HB0:Hid (Below w.heap.size w W0):=by rw[←hW0];exact q11 (b_ _ _) _
 rw[hW0];clear hW0;obtain⟨v0,v1,v2,v3,v4,v5,v6,v7⟩:=bc8 X0.out;have vz:=q14 X0.out;go_wp2_with fail;obtain⟨BW,hBW⟩:∃W,W0.alloc (.cells #[.slice A1 M.length c1,.slice A2 N.length c2] 23)=W:=⟨_,rfl⟩;have XR:Hid (BW.heap[W0.heap.size]?=some (.cells #[.slice A1 M.length c1,.slice A2 N.length c2] 23 (0,0))):=by rw[←hBW];exact j17 rfl
 have HBW:Hid (Below w.heap.size w BW):=by rw[←hBW];exact q11 HB0.out _
 rw[hBW];clear hBW X0 HB0 v0 v1 v2 v3 v4 v5 v6 v7 vz;go_loopw[3,5,7,18,27](fun n _ _ i _ wr=>∃(k:Nat)(m:Int),k≤2∧i=.int .i64 (k:Int)∧n=.int .i64 m∧(rt.length:Int)≤m∧m≤(rt.length:Int)+(k:Int)*16000∧(0<k→M.length≤40∧∀t∈M,t.1.length≤400)∧(1<k→N.length≤40∧∀t∈N,t.1.length≤400)∧Below BW.heap.size BW wr)(fun _ _ _ i _ _=>2-(intOf i).toNat);case atStart=>exact⟨0,rt.length,by omega,rfl,by first|rfl|(rw[hsz]),by omega,by omega,by omega,by omega,b_ _ _⟩
 case round=>
  obtain⟨k,m,hk,rfl,rfl,hm1,hm2,hM,hN,hbw⟩:=hrel;have HB:=a_ hbw;have HMF:=a_ hM;have HNF:=a_ hN;have YR:=a_ (j3 hbw XR.out);have yz:=q14 YR.out;clear hbw hM hN;by_cases hlt:k<2;·
   have hcases:∃(A:Option Addr)(c:Nat)(T:List TagL),SpG q27 2 wr A c T∧(#[.slice A1 M.length c1,.slice A2 N.length c2]:Array Value)[k]?=some (.slice A T.length c)∧(T.length≤40→(∀t∈T,t.1.length≤400)→(0<k+1→M.length≤40∧∀t∈M,t.1.length≤400)∧(1<k+1→N.length≤40∧∀t∈N,t.1.length≤400)):=by
    have hk2:k=0∨k=1:=by omega
    rcases hk2 with rfl|rfl;·exact⟨A1,c1,M,HM.out.below (q12 HB.out HBW.out),rfl,fun h1 h2=>⟨fun _=>⟨h1,h2⟩,fun h=>absurd h (by omega)⟩⟩
    ·exact⟨A2,c2,N,HN.out.below (q12 HB.out HBW.out),rfl,fun h1 h2=>⟨fun _=>HMF.out (by omega),fun _=>⟨h1,h2⟩⟩⟩
   obtain⟨A,c,T,hT,hc,hF⟩:=hcases;have HT:=a_ hT;have HF:=a_ hF;have c0:=(j14 YR.out hc);clear hT hF hc HMF HNF;have hk2:(k:Int)<2:=by omega
   by_cases h40:40<T.length;·
    have h40':(40:Int)<(T.length:Int):=by omega
    go_wp2_with fail;go_ret;exact j181 (q12 HB.out HBW.out)
   have h40':¬(40:Int)<(T.length:Int):=by omega
   go_wp2_with fail;go_loopw[3,7,27](fun n _ j wq=>∃(q:Nat)(u:Int),q≤T.length∧j=.int .i64 (q:Int)∧n=.int .i64 u∧m≤u∧u≤m+(q:Int)*400∧(∀t∈T.take q,t.1.length≤400)∧Below wr.heap.size wr wq)(fun _ _ j _=>T.length-(intOf j).toNat);case atStart=>exact⟨0,m,v_ _,rfl,rfl,by omega,by omega,by simp,b_ _ _⟩
   case round=>
    obtain⟨q,u,hq,rfl,rfl,hu1,hu2,hall,hbq⟩:=hrel;have HBQ:=a_ hbq;have HA:=a_ hall;clear hbq hall;by_cases hlq:q<T.length;·
     obtain⟨b,off,e,hb,hc⟩:=(HT.out.below HBQ.out).at' q hlq;have d0:=hc 0 _ rfl;have d1:=hc 1 _ rfl;have HST:Hid (T[q].1.length≤400→∀t∈T.take (q+1),t.1.length≤400):=by
      intro h t ht;rw[n_ hlq]at ht;rcases A_.1 ht with ht|ht;·exact HA.out t ht
      ·rw[D_.1 ht];exact h
     obtain⟨⟨t,tw⟩,ht⟩:∃y,T[q]=y:=⟨_,rfl⟩;rw[ht]at d0 d1 HST;have htz:(⟨t.toArray⟩:ByteArray).size=t.length:=q19 t;simp only[J_]at d0 d1 HST;clear hc ht HA;subst e;have hk20:(k:Int)*16000≤16000:=by omega
     have hq16:(q:Int)*400≤16000:=by omega
     by_cases h4:400<t.length;·
      have h4':(400:Int)<(t.length:Int):=by omega
      go_wp2_with fail;go_ret;exact j181 (q12 (q11 HBQ.out _) (q12 HB.out HBW.out))
     ·have h4':¬(400:Int)<(t.length:Int):=by omega
      have HAN:=a_ (HST.out (by omega));go_wp2_with fail;go_roundw;case rel=>exact⟨q+1,u+t.length,by omega,by go_num,by first|rfl|go_num,by omega,by omega,HAN.out,q11 HBQ.out _⟩
      case measure=>simp[intOf];omega
    ·have hqe:q=T.length:=by omega
     have hAL:=HA.out;rw[hqe,V_]at hAL;have HFF:=a_ (HF.out (by omega) hAL);clear HA hAL;go_wp2_with fail;go_roundw;case rel=>exact⟨k+1,u,by omega,by go_num,rfl,by omega,by omega,HFF.out.1,HFF.out.2,q12 HBQ.out HB.out⟩
     case measure=>simp[intOf];omega
  ·have hk2:k=2:=by omega
   subst hk2;by_cases h4:m≤400;·have HF:Hid (FewC ⟨M,N,am,an,si,un,rt,rw⟩):=⟨(HMF.out (by omega)).1,(HNF.out (by omega)).1,(HMF.out (by omega)).2,(HNF.out (by omega)).2,by simp only;omega⟩;go_wp2_with fail;go_ret;exact x97 HF.out (q12 HB.out HBW.out)
   ·go_wp2_with fail;go_ret;exact j181 (q12 HB.out HBW.out)
def y63(Q:Prop)(w:World)(e:Ending)(w':World):Prop:=∃b:Bool,e=.returned (.bool b)∧(b=true↔Q)∧Below w.heap.size w w'
theorem x22{Q:Prop}{w w':World}(hq:¬Q)(h:Below w.heap.size w w'):y63 Q w (.returned (.bool false)) w':=⟨false,rfl,⟨(fun h=>by cases h),fun h=>absurd h hq⟩,h⟩
theorem iff_yes{Q:Prop}{w w':World}(hq:Q)(h:Below w.heap.size w w'):y63 Q w (.returned (.bool true)) w':=⟨true,rfl,⟨fun _=>hq,fun _=>rfl⟩,h⟩
theorem k158{l:List UInt8}(h:j20 l=true){k:Nat}(hk:k<l.length):l[k].toNat≤126:=by rw[j45]at h;simp only[r_,av_]at h;have:=h.2 _ (y_ hk);unfold tagB at this;simp only[r_,p_]at this;exact this.1.2
theorem dup_no{α:Type}{L:List α}{q k:Nat}(hk:k<L.length)(hq:q<k)(h:L[q]'(by omega)=L[k]):¬L.Nodup:=by intro hn;have:=(List.getElem_inj (h₀:=by omega) (h₁:=hk) hn).1 h;omega
theorem x148(A:Option Addr)(c:Nat)(L:List (List UInt8))(w:World)(hks:SpG encT 1 w A c L)(hl:L.length≤1000)(hx:∀x∈L,x.length≤300):Calls Tryz.prog 61 #[.slice A L.length c] w (y63 (q93 L) w):=by
 have HK:=a_ hks;have HX:=a_ hx;clear hks hx;by_cases h1:32<L.length;·
  have h1':(32:Int)<(L.length:Int):=by omega
  clear h1;go_enter Tryz.func61,Tryz.ntmps61;go_wp2_with fail;go_ret;exact x22 (fun h=>by have:=h.1;omega) (b_ _ _)
 have h1':¬(32:Int)<(L.length:Int):=by omega
 have HL:Hid (L.length≤32):=by simp only[Hid];omega
 clear h1;go_enter Tryz.func61,Tryz.ntmps61;go_wp2_with fail;go_loopw[3,4](fun i _ wr=>∃k:Nat,k≤L.length∧i=.int .i64 (k:Int)∧(∀x∈L.take k,w26 x=true)∧(L.take k).Nodup∧Below w.heap.size w wr)(fun i _ _=>L.length-(intOf i).toNat);case atStart=>exact⟨0,v_ _,rfl,by simp,by simp,b_ _ _⟩
 case round=>
  obtain⟨k,hk,rfl,hall,hnd,hbw⟩:=hrel;have HA:=a_ hall;have HN:=a_ hnd;have HB:=a_ hbw;clear hall hnd hbw;by_cases hlt:k<L.length;·
   obtain⟨b,off,e,hb,hc⟩:=(HK.out.below HB.out).at' k hlt;have c0:=hc 0 _ rfl;have hxl:=HX.out _ (y_ hlt);have HKY:=fun W=>a_ (x111 L[k] W (by omega));have HALL:Hid (w26 L[k]=true→∀x∈L.take (k+1),w26 x=true):=by
    intro h x hx;rw[n_ hlt]at hx;rcases A_.1 hx with hx|hx;·exact HA.out x hx
    ·rw[D_.1 hx];exact h
   have HND:Hid (L[k]∉L.take k→(L.take (k+1)).Nodup):=by intro h;rw[n_ hlt];refine List.nodup_append.2 ⟨HN.out,by simp,?_⟩;intro a ha b hb2 hab;rw[D_.1 hb2]at hab;rw[hab]at ha;exact h ha
   have HNO:Hid (w26 L[k]=false→¬q93 L):=by intro h hp;have:=hp.2.1 _ (y_ hlt);rw[h]at this;cases this
   obtain⟨x,hx⟩:∃x,L[k]=x:=⟨_,rfl⟩;rw[hx]at c0 HKY HALL HND HNO;simp only[bn_,J_]at c0;clear hc hxl HA HN;subst e;cases hky:w26 x with
    |false=>rw[hky]at HKY;have HNK:=a_ (HNO.out hky);clear hky HALL HND hx HNO;go_wp2_with(go_at_call 104;refine(HKY _).out.mono ?_;rintro e w1⟨rfl,hw1⟩;obtain rfl:wr=w1:=hw1.symm);go_ret;exact x22 HNK.out HB.out
    |true=>
     rw[hky]at HKY;have HF:=a_ (HALL.out hky);have HXE:=a_ hx;clear hky HALL hx HNO;go_wp2_with(go_at_call 104;refine(HKY _).out.mono ?_;rintro e w1⟨rfl,hw1⟩;obtain rfl:wr=w1:=hw1.symm);go_loopw[4](fun j wq=>∃q:Nat,q≤k∧j=.int .i64 (q:Int)∧x∉L.take q∧Below w.heap.size w wq)(fun j _=>k-(intOf j).toNat);case atStart=>exact⟨0,v_ _,rfl,by simp,HB.out⟩
     case round=>
      obtain⟨q,hq,rfl,hnx,hbq⟩:=hrel;have HBQ:=a_ hbq;have HNX:=a_ hnx;clear hnx hbq;by_cases hlq:q<k;·
       obtain⟨b',off',e',hb',hd⟩:=(HK.out.below HBQ.out).at' q (by omega);injection e' with e';injection e' with e1 e2;subst e1 e2;have d0:=hd 0 _ rfl;obtain⟨b',off',e',_,hd2⟩:=(HK.out.below HBQ.out).at' k hlt;injection e' with e';injection e' with e1 e2;subst e1 e2;have d1:=hd2 0 _ rfl;rw[HXE.out]at d1;have hlql:q<L.length:=by omega
       have HY:Hid (¬x=L[q]→x∉L.take (q+1)):=y111 hlql HNX.out;have HDU:Hid (L[q]=x→¬q93 L):=by intro h hp;exact dup_no hlt hlq (h.trans HXE.out.symm) hp.2.2
       obtain⟨y,hy⟩:∃y,L[q]=y:=⟨_,rfl⟩;rw[hy]at d0 HY HDU;simp only[bn_,J_]at d0 d1;clear hd hd2 hy HNX c0;by_cases hxy:y=x;·
        have hb2:(y==x)=true:=by rw[hxy];exact beq_self_eq_true x
        have HNK:=a_ (HDU.out hxy);clear HY hxy HDU;go_wp2_with fail;go_quiet(fail);go_wp2_with fail;go_ret;exact x22 HNK.out (q15 HBQ.out _)
       ·have hb2:(y==x)=false:=j_.2 hxy;have HZ:=a_ (HY.out (fun h=>hxy h.symm));clear HY hxy HDU;go_wp2_with fail;go_quiet(fail);go_wp2_with fail;go_roundw;case rel=>exact⟨q+1,by omega,by go_num,HZ.out,q15 HBQ.out _⟩
        case measure=>simp[intOf];omega
      ·have hqk:q=k:=by omega
       have HZ:=a_ (HND.out (by have:=HNX.out;rw[hqk]at this;exact this));clear HNX hqk HND;go_wp2_with fail;go_roundw;case rel=>exact⟨k+1,by omega,by go_num,HF.out,HZ.out,HBQ.out⟩
       case measure=>simp[intOf];omega
  ·have hke:k=L.length:=by omega
   have hA:=HA.out;have hN:=HN.out;rw[hke,V_]at hA hN;have HV:Hid (q93 L):=⟨HL.out,hA,hN⟩;clear hA hN HA HN hke;go_wp2_with fail;go_ret;exact iff_yes HV.out HB.out
theorem k113(m:MetaL)(A:Option Addr)(c:Nat)(w:World)(hks:SpG encT 1 w A c m.keys)(hsm:j46 m):Calls Tryz.prog 16 #[j25 m A c] w (y63 (MetaOk m) w):=by
 have HK0:=a_ hks;have HSM:=a_ hsm;clear hks hsm;obtain⟨tg,wk,mo,ln,hv,fr,wh,er,ks,tn,kp⟩:=m;unfold j25;simp only at HK0⊢;have hsz:(⟨tg.toArray⟩:ByteArray).size=tg.length:=q19 tg;obtain⟨l1,l2,l3,l4⟩:=HSM.out;simp only at l1 l2 l3 l4;have HN:=fun W=>a_ (y72 tg wk W);have HTR:=fun W=>a_ (j37 tg wk W (by omega));have HTN:=fun W=>a_ (w81 tn W (by omega));have HKY:=fun W h=>a_ (x148 A c ks W h (by omega) l4);have HZN:Hid ((!(tg.isEmpty&&!wk)&&!j20 tg)=true→¬MetaOk ⟨tg,wk,mo,ln,hv,fr,wh,er,ks,tn,kp⟩):=by
  intro h hok;rw[r_,aP_,aP_]at h;rcases hok.tg with⟨h1,h2⟩|h1;·simp only at h1 h2;rw[h1,h2]at h;simp at h
  ·simp only at h1;rw[h1]at h;cases h.2
 have HZ:Hid ((tg.isEmpty&&!wk)=true→tg=[]∧wk=false):=by intro h;rw[r_,aP_]at h;exact⟨aN_.1 h.1,h.2⟩
 obtain⟨z,hz⟩:∃z,(tg.isEmpty&&!wk)=z:=⟨_,rfl⟩;obtain⟨tk,htk⟩:∃z,j20 tg=z:=⟨_,rfl⟩;rw[hz]at HN HZ HZN;rw[htk]at HTR HZN;have HTK:=a_ htk;clear hz htk l3 l4;go_enter Tryz.func16,Tryz.ntmps16;go_upto_region 1 with fail;obtain⟨W0,hW0⟩:∃W0,w.alloc (.cells #[.string ⟨tg.toArray⟩,.bool wk,.int .i64 mo,.int .i64 ln,.int .i64 hv,.int .i64 fr,.int .i64 wh,.int .i64 er,.slice A ks.length c,.string ⟨tn.toArray⟩,.bool kp] 45)=W0:=⟨_,rfl⟩;have HM0:Hid (W0.heap[w.heap.size]?=some (.cells #[.string ⟨tg.toArray⟩,.bool wk,.int .i64 mo,.int .i64 ln,.int .i64 hv,.int .i64 fr,.int .i64 wh,.int .i64 er,.slice A ks.length c,.string ⟨tn.toArray⟩,.bool kp] 45 (0,0))):=by rw[←hW0];exact j17 rfl
 have HB0:Hid (Below w.heap.size w W0):=by simp only[Hid];rw[←hW0];(repeat(first|exact b_ _ _|refine q15 ?_ _|refine x15 ?_|refine q11 ?_ _|refine w14 ?_ (by simp) _))
 rw[hW0];clear hW0;obtain⟨v0,v1⟩:=bc2 HM0.out rfl rfl;go_cut[13](fun s13 wx=>s13=.bool (!z&&!tk)∧wx.heap[w.heap.size]?=some (.cells #[.string ⟨tg.toArray⟩,.bool wk,.int .i64 mo,.int .i64 ln,.int .i64 hv,.int .i64 fr,.int .i64 wh,.int .i64 er,.slice A ks.length c,.string ⟨tn.toArray⟩,.bool kp] 45 (0,0))∧Below w.heap.size w wx);case first=>
  cases z with
   |true=>go_wp2_with(go_at_call 60;refine(HN _).out.mono ?_;rintro e w1⟨rfl,hb1⟩);go_meet;exact⟨rfl,j3 hb1 HM0.out,q12 hb1 HB0.out⟩
   |false=>go_wp2_with(first|(go_at_call 59;refine(HTR _).out.mono ?_;rintro e w2⟨rfl,hb2⟩)|(go_at_call 60;refine(HN _).out.mono ?_;rintro e w1⟨rfl,hb1⟩;have HM1:=a_ (j3 hb1 HM0.out);have u0:=bc 0 HM1.out rfl;have u1:=bc 1 HM1.out rfl));go_meet;exact⟨rfl,j3 hb2 HM1.out,q12 hb2 (q12 hb1 HB0.out)⟩
 case rest=>
  obtain⟨rfl,hm,hb⟩:=hcut;have HM:=a_ hm;have HB:=a_ hb;have HK:=a_ (HK0.out.below hb);clear hm hb v0 v1 HM0 HB0 HN HTR HK0;cases hzk:(!z&&!tk)with
   |true=>have HNK:=a_ (HZN.out hzk);go_wp2_with fail;go_ret;exact x22 HNK.out HB.out
   |false=>
    have HTG:Hid ((tg=[]∧wk=false)∨j20 tg=true):=by simp only[Hid];cases z with|true=>exact .inl (HZ.out rfl)|false=>right;rw[HTK.out];simpa using hzk
    clear HZ HTK HZN hzk;go_wp2_with fail;go_loopw[3](fun i wr=>wr=wc∧∃k:Nat,k≤tg.length∧i=.int .i64 (k:Int))(fun i _=>tg.length-(intOf i).toNat);case atStart=>exact⟨rfl,0,v_ _,rfl⟩
    case round=>
     obtain⟨rfl,k,hk,rfl⟩:=hrel;obtain⟨v0,v1,v2,v3,v4,v5,v6,v7,v8,v9,_⟩:=bc11 HM.out;have vz:=q14 HM.out;by_cases hlt:k<tg.length;·
      obtain⟨cc,hcc⟩:∃cc,(⟨tg.toArray⟩:ByteArray)[k]'(by rw[hsz];exact hlt)=cc:=⟨_,rfl⟩;by_cases d1:126<cc.toNat;·
       exfalso;rcases HTG.out with⟨h1,_⟩|h1;·rw[h1]at hlt;simp at hlt
       ·have:=k158 h1 hlt;rw[show tg[k]=cc from hcc]at this;omega
      ·have d1':¬(126:Int)<(cc.toNat:Int):=by omega
       clear d1;go_wp2_with fail;go_roundw;case rel=>exact⟨by first|trivial|rfl,k+1,by omega,by go_num⟩
       case measure=>simp[intOf];omega
     ·by_cases e0:mo< -1;·go_wp2_with fail;go_ret;exact x22 (by intro hok;obtain⟨_,⟨q1,q2⟩,⟨q3,q4⟩,⟨q5,q6⟩,q7,q8,q9,q10,_⟩:=hok;simp only at q1 q2 q3 q4 q5 q6 q7 q8 q9 q10;omega) HB.out
      by_cases e1:(253402300799:Int)<mo;·go_wp2_with fail;go_ret;exact x22 (by intro hok;obtain⟨_,⟨q1,q2⟩,⟨q3,q4⟩,⟨q5,q6⟩,q7,q8,q9,q10,_⟩:=hok;simp only at q1 q2 q3 q4 q5 q6 q7 q8 q9 q10;omega) HB.out
      by_cases e2:ln< -1;·go_wp2_with fail;go_ret;exact x22 (by intro hok;obtain⟨_,⟨q1,q2⟩,⟨q3,q4⟩,⟨q5,q6⟩,q7,q8,q9,q10,_⟩:=hok;simp only at q1 q2 q3 q4 q5 q6 q7 q8 q9 q10;omega) HB.out
      by_cases e3:(1099511627776:Int)<ln;·go_wp2_with fail;go_ret;exact x22 (by intro hok;obtain⟨_,⟨q1,q2⟩,⟨q3,q4⟩,⟨q5,q6⟩,q7,q8,q9,q10,_⟩:=hok;simp only at q1 q2 q3 q4 q5 q6 q7 q8 q9 q10;omega) HB.out
      by_cases e4:hv<0;·go_wp2_with fail;go_ret;exact x22 (by intro hok;obtain⟨_,⟨q1,q2⟩,⟨q3,q4⟩,⟨q5,q6⟩,q7,q8,q9,q10,_⟩:=hok;simp only at q1 q2 q3 q4 q5 q6 q7 q8 q9 q10;omega) HB.out
      by_cases e5:(1099511627776:Int)<hv;·go_wp2_with fail;go_ret;exact x22 (by intro hok;obtain⟨_,⟨q1,q2⟩,⟨q3,q4⟩,⟨q5,q6⟩,q7,q8,q9,q10,_⟩:=hok;simp only at q1 q2 q3 q4 q5 q6 q7 q8 q9 q10;omega) HB.out
      have hcase:(¬(0:Int)≤ln)∨((0:Int)≤ln∧hv=ln)∨((0:Int)≤ln∧¬hv=ln):=by omega
      rcases hcase with h7|⟨h7,h8⟩|⟨h7,h8⟩;rotate_left 2;·
       have b8:(hv !=ln)=true:=by rw[F_];exact h8
       go_wp2_with fail;go_ret;exact x22 (by intro hok;obtain⟨_,⟨q1,q2⟩,⟨q3,q4⟩,⟨q5,q6⟩,q7,q8,q9,q10,_⟩:=hok;simp only at q1 q2 q3 q4 q5 q6 q7 q8 q9 q10;omega) HB.out
      all_goals
       first|(have b8:(hv !=ln)=false:=by rw[z_];exact h8)|skip
       have HEQ:Hid (ln=-1∨hv=ln):=by simp only[Hid];omega
       try clear h8
       by_cases g1:fr<0;·go_wp2_with fail;go_ret;exact x22 (by intro hok;obtain⟨_,⟨q1,q2⟩,⟨q3,q4⟩,⟨q5,q6⟩,q7,q8,q9,q10,_⟩:=hok;simp only at q1 q2 q3 q4 q5 q6 q7 q8 q9 q10;omega) HB.out
       by_cases g2:(1099511627776:Int)<fr;·go_wp2_with fail;go_ret;exact x22 (by intro hok;obtain⟨_,⟨q1,q2⟩,⟨q3,q4⟩,⟨q5,q6⟩,q7,q8,q9,q10,_⟩:=hok;simp only at q1 q2 q3 q4 q5 q6 q7 q8 q9 q10;omega) HB.out
       by_cases g3:wh<0;·go_wp2_with fail;go_ret;exact x22 (by intro hok;obtain⟨_,⟨q1,q2⟩,⟨q3,q4⟩,⟨q5,q6⟩,q7,q8,q9,q10,_⟩:=hok;simp only at q1 q2 q3 q4 q5 q6 q7 q8 q9 q10;omega) HB.out
       by_cases g4:(1099511627776:Int)<wh;·go_wp2_with fail;go_ret;exact x22 (by intro hok;obtain⟨_,⟨q1,q2⟩,⟨q3,q4⟩,⟨q5,q6⟩,q7,q8,q9,q10,_⟩:=hok;simp only at q1 q2 q3 q4 q5 q6 q7 q8 q9 q10;omega) HB.out
       by_cases g5:er<0;·go_wp2_with fail;go_ret;exact x22 (by intro hok;obtain⟨_,⟨q1,q2⟩,⟨q3,q4⟩,⟨q5,q6⟩,q7,q8,q9,q10,_⟩:=hok;simp only at q1 q2 q3 q4 q5 q6 q7 q8 q9 q10;omega) HB.out
       by_cases g6:(1099511627776:Int)<er;·go_wp2_with fail;go_ret;exact x22 (by intro hok;obtain⟨_,⟨q1,q2⟩,⟨q3,q4⟩,⟨q5,q6⟩,q7,q8,q9,q10,_⟩:=hok;simp only at q1 q2 q3 q4 q5 q6 q7 q8 q9 q10;omega) HB.out
       go_wp2_with fail;refine(HKY _ HK.out).out.mono ?_;rintro e w1⟨b,rfl,hq,hb1⟩;have HM1:=a_ (j3 hb1 HM.out);have u9:=bc 9 HM1.out rfl;cases b with
        |false=>
         have HNK:Hid (¬MetaOk ⟨tg,wk,mo,ln,hv,fr,wh,er,ks,tn,kp⟩):=fun hok=>by have:=hq.2 ⟨hok.kn,hok.ka,hok.kd⟩;cases this
         clear hq;go_wp2_with fail;go_ret;exact x22 HNK.out (q12 hb1 HB.out)
        |true=>
         have HQ:=a_ (hq.1 rfl);have HB1:=a_ (q12 hb1 HB.out);clear hq hb1;have HMK:Hid (j42 tn=true↔MetaOk ⟨tg,wk,mo,ln,hv,fr,wh,er,ks,tn,kp⟩):=by refine⟨fun ht=>?_,fun hok=>hok.tn⟩;exact⟨HTG.out,by simp only;omega,by simp only;omega,by simp only;omega,HEQ.out,by simp only;omega,by simp only;omega,by simp only;omega,HQ.out.1,HQ.out.2.1,HQ.out.2.2,ht⟩
         go_wp2_with fail;refine(HTN _).out.mono ?_;rintro e w2⟨rfl,hw2⟩;obtain rfl:w1=w2:=hw2.symm;go_wp2_with fail;go_ret;exact⟨_,rfl,HMK.out,HB1.out⟩
