/- Contracts of the builder's writing methods at this program. Contracts of the .. -/
import Derived.Test.YtkkomffmnafjkaaGreatDoorZB8
import Derived.Lib.Builder
import Derived.Lib.AppendStr
import Derived.Lib.OthersKept
import Derived.Laws.Externs
import Derived.Lib.ItoaMem
import Derived.Laws.Concat
import Derived.Test.YtkkomffmnafjkaaGreatDoorZM1
import Derived.Deep.RegionHeld3
import Derived.Shelf.Strconv.Itoa3
set_option maxHeartbeats 16000000
set_option maxRecDepth 100000
set_option linter.all false
namespace Go.Proofs.YtkkomffmnafjkaaGreatDoor
open Go.RowKit
theorem Tryz.sizeBuilder:(Tryz.prog.info? 248).map (·.size)=some 2:=by kernel_rfl
theorem Tryz.liesBuilder:liesAt Tryz.prog Tryz.prog.depth 248 (2/Tryz.prog.cellsOf 248) 0 248 1=true:=by kernel_rfl
theorem Tryz.infoByte:(Tryz.prog.info? 5).map (fun i=>(i.zero,i.size,i.bytes))=some (some (.int .u8 0),1,1):=by kernel_rfl
theorem str_app(a b:List UInt8):(⟨a.toArray⟩:ByteArray)++⟨b.toArray⟩=⟨(a++b).toArray⟩:=by apply ByteArray.ext;simp
theorem y64{k:Nat}(h:k<10):(UInt8.ofNat (48+k)).toNat=48+k:=by rw[UInt8.toNat_ofNat_of_lt'];simp[UInt8.size];omega
theorem y16:∀(l m:List UInt8)(acc:Int),v129 acc (l++m)=match v129 acc l with|some x=>v129 x m|none=>none
 |[],m,acc=>rfl
 |c::r,m,acc=>by
  rw[List.cons_append,v129,v129];by_cases h:digB c=true;·rw[if_pos h,if_pos h];exact y16 r m _
  ·rw[if_neg h,if_neg h]
theorem y40{acc:Int}{k:Nat}(h:k<10):v129 acc [UInt8.ofNat (48+k)]=some (acc*10+k):=by
 have h1:=y64 h;have hd:digB (UInt8.ofNat (48+k))=true:=by unfold digB;rw[h1];simp;omega
 rw[v129,if_pos hd,v129,h1];congr 1;omega
theorem w204(u:Nat):v129 0 (Lib.decDigits u)=some (u:Int):=by
 induction u using Nat.strongRecOn with
  |ind u ih=>
   rw[Lib.decDigits];by_cases h:u<10;·rw[dif_pos h,y40 h];congr 1;omega
   ·rw[dif_neg h,y16,ih (u/10) (by omega)];simp only;rw[y40 (by omega)];congr 1;omega
theorem j68:∀(k u:Nat),u<10^(k+1)→(Lib.decDigits u).length≤k+1
 |0,u,h=>by rw[Lib.decDigits,dif_pos (by omega)];simp
 |k+1,u,h=>by
  rw[Lib.decDigits];by_cases h0:u<10;·rw[dif_pos h0];simp
  ·rw[dif_neg h0,List.length_append];have:=j68 k (u/10) (by rw[Nat.pow_succ]at h;omega);simp;omega
theorem k198(u:Nat):0<(Lib.decDigits u).length:=by
 rw[Lib.decDigits];by_cases h0:u<10;·rw[dif_pos h0];simp
 ·rw[dif_neg h0];simp
theorem y190(u:Nat):∀c∈Lib.decDigits u,48≤c.toNat∧c.toNat≤57:=by
 induction u using Nat.strongRecOn with
  |ind u ih=>
   rw[Lib.decDigits];by_cases h:u<10;·rw[dif_pos h];intro c hc;rw[List.mem_singleton]at hc;rw[hc,y64 h];omega
   ·rw[dif_neg h];intro c hc;rcases List.mem_append.1 hc with hc|hc;·exact ih (u/10) (by omega) c hc
    ·rw[List.mem_singleton]at hc;rw[hc,y64 (show u%10<10 by omega)];omega
def digN(n:Int):List UInt8:=Lib.decDigits n.toNat
theorem w21{n:Int}(h1:n≤9223372036854775807):(digN n).length≤19:=j68 18 _ (by
 have:(10:Nat)^(18+1)=10000000000000000000:=by decide
 omega)
theorem u8_ne{c:UInt8}{k:Nat}(h:c.toNat=k→False)(hk:k<256):c≠UInt8.ofNat k:=by intro e;apply h;rw[e,UInt8.toNat_ofNat_of_lt' (show k<UInt8.size from hk)]
theorem w191{α:Type}{p:α→Bool}:∀{l:List α},(∀c∈l,p c=false)→l.dropWhile p=l|[],_=>rfl|c::r,h=>by simp[List.dropWhile,h c (List.mem_cons_self ..)]
theorem k199{l:List UInt8}(h:∀c∈l,j21 c=false):q36 l=l:=by unfold q36;rw[w191 (l:=l.reverse) (fun c hc=>h c (List.mem_reverse.1 hc)),List.reverse_reverse,w191 h]
def befY(y:Int):Int:=365*(y-1970)+((y-1)/4-(y-1)/100+(y-1)/400)-477
def w28(y:Int):Bool:=(decide (y%4=0)&&!decide (y%100=0))||decide (y%400=0)
def w37(l:Bool)(m:Int):Int:=if m=4∨m=6∨m=9∨m=11 then 30 else if m=2 then(if l=true then 29 else 28)else 31
theorem j108(l:Bool)(m:Int):28≤w37 l m∧w37 l m≤31:=by
 unfold w37;split;·omega
 ·split;·split<;>omega
  ·omega
theorem k142(y:Int):befY (y+1)=befY y+365+(if w28 y=true then 1 else 0):=by
 unfold befY w28;by_cases h:((decide (y%4=0)&&!decide (y%100=0))||decide (y%400=0))=true;·rw[if_pos h];simp only[Bool.or_eq_true,Bool.and_eq_true,decide_eq_true_eq,Bool.not_eq_true',decide_eq_false_iff_not]at h;omega
 ·rw[if_neg h];simp only[Bool.or_eq_true,Bool.and_eq_true,decide_eq_true_eq,Bool.not_eq_true',decide_eq_false_iff_not,not_or,not_and,Decidable.not_not]at h;omega
def q90(n y:Int):Prop:=befY y≤n∧n<befY (y+1)
theorem w59{a b:Int}(h:a≤b):befY a≤befY b:=by unfold befY;omega
theorem k131{n a b:Int}(ha:q90 n a)(hb:q90 n b):a=b:=by
 rcases Int.lt_trichotomy a b with h|h|h;·have:=w59 (show a+1≤b by omega);have:=ha.2;have:=hb.1;omega
 ·exact h
 ·have:=w59 (show b+1≤a by omega);have:=hb.2;have:=ha.1;omega
def q25(n:Int):Nat→Int→Int|0,y=>y|f+1,y=>if befY (y+1)≤n then q25 n f (y+1)else y
theorem v108{n:Int}:∀(f:Nat)(y:Int),befY y≤n→n<befY (y+f+1)→q90 n (q25 n f y)
 |0,y,h1,h2=>⟨h1,by
  have e:y+((0:Nat):Int)+1=y+1:=by omega
  rw[e]at h2;exact h2⟩
 |f+1,y,h1,h2=>by
  unfold q25;by_cases h:befY (y+1)≤n;·
   rw[if_pos h];refine v108 f (y+1) h ?_;have e:y+1+(f:Int)+1=y+((f+1:Nat):Int)+1:=by omega
   rw[e];exact h2
  ·rw[if_neg h];exact⟨h1,by omega⟩
def x42(n:Int):Int:=q25 n 10000 (1970+n/366)
theorem w64{n:Int}(h:0≤n):befY (1970+n/366)≤n:=by unfold befY;omega
theorem q71{n:Int}(h0:0≤n)(h1:n≤2932896):q90 n (x42 n):=by refine v108 _ _ (w64 h0) ?_;unfold befY;omega
theorem x125{n y:Int}(h0:0≤n)(h1:n≤2932896)(h2:befY y≤n)(h3:¬befY (y+1)≤n):y=x42 n:=k131 ⟨h2,by omega⟩ (q71 h0 h1)
theorem year_bd{n y:Int}(h0:0≤n)(h1:n≤2932896)(h2:befY y≤n):y≤9999:=by
 rcases Int.lt_or_le y 10000 with h|h;·omega
 ·exfalso;have:=w59 h;have e:befY 10000=2932897:=by decide
  omega
theorem year_lo{n y:Int}(h0:0≤n)(h3:¬befY (y+1)≤n):1970≤y:=by
 rcases Int.lt_or_le y 1970 with h|h;·
  exfalso;have:=w59 (show y+1≤1970 by omega);have e:befY 1970=0:=by decide
  omega
 ·exact h
def y181(l:Bool):Nat→Int→Int→Int×Int|0,r,m=>(r,m)|f+1,r,m=>if w37 l m≤r then y181 l f (r-w37 l m) (m+1)else(r,m)
def j27(l:Bool)(r:Int):Int×Int:=y181 l 13 r 1
theorem x142:∀l:Bool,∀r:Fin 366,(r.val<365∨l=true)→0≤(j27 l (r.val:Int)).1∧(j27 l (r.val:Int)).1≤30∧1≤(j27 l (r.val:Int)).2∧(j27 l (r.val:Int)).2≤12:=by decide+kernel
theorem y86{l:Bool}{r:Int}(h0:0≤r)(h1:r<365+(if l=true then 1 else 0)):0≤(j27 l r).1∧(j27 l r).1≤30∧1≤(j27 l r).2∧(j27 l r).2≤12:=by
 have h366:r.toNat<366:=by split at h1<;>omega
 have:=x142 l ⟨r.toNat,h366⟩ (by
  cases l;·left;simp at h1;show r.toNat<365;omega
  ·exact .inr rfl);have e:((⟨r.toNat,h366⟩:Fin 366).val:Int)=r:=by show(r.toNat:Int)=r;omega
 rwa[e]at this
structure DayN where
 year:Int
 month:Int
 date:Int
 week:Int
def dayN(n:Int):DayN:=⟨x42 n,(j27 (w28 (x42 n)) (n-befY (x42 n))).2,(j27 (w28 (x42 n)) (n-befY (x42 n))).1+1,(n+4)%7⟩
theorem j96{n:Int}(h0:0≤n)(h1:n≤2932896):0≤n-befY (x42 n)∧n-befY (x42 n)<365+(if w28 (x42 n)=true then 1 else 0):=by have h:=q71 h0 h1;have:=k142 (x42 n);have:=h.1;have:=h.2;omega
theorem y125{n:Int}(h0:0≤n)(h1:n≤2932896):1970≤(dayN n).year∧(dayN n).year≤9999∧1≤(dayN n).month∧(dayN n).month≤12∧1≤(dayN n).date∧(dayN n).date≤31∧0≤(dayN n).week∧(dayN n).week≤6:=by obtain⟨r1,r2⟩:=j96 h0 h1;obtain⟨m1,m2,m3,m4⟩:=y86 r1 r2;have h:=q71 h0 h1;refine⟨year_lo h0 (Int.not_le.2 h.2),year_bd h0 h1 h.1,m3,m4,?_,?_,?_,?_⟩<;>simp only[dayN]<;>omega
def dgt(k:Int):UInt8:=UInt8.ofNat (48+(k%10).toNat)
theorem v96(k:Int):((dgt k).toNat:Int)=48+k%10:=by
 have h0:0≤k%10∧k%10<10:=by omega
 unfold dgt;rw[y64 (by omega)];omega
def twoD(n:Int):List UInt8:=[dgt (n/10),dgt n]
def j90(n:Int):List UInt8:=[dgt (n/1000),dgt (n/100),dgt (n/10),dgt n]
theorem x154{n:Int}:twoD (n/100)++twoD (n%100)=j90 n:=by
 have e1:dgt (n/100/10)=dgt (n/1000):=by unfold dgt;congr 3;omega
 have e2:dgt (n%100/10)=dgt (n/10):=by unfold dgt;congr 3;omega
 have e3:dgt (n%100)=dgt n:=by unfold dgt;congr 3;omega
 unfold twoD j90;rw[e1,e2,e3];rfl
def k191:List UInt8:=[83,117,110,77,111,110,84,117,101,87,101,100,84,104,117,70,114,105,83,97,116]
def yearT:List UInt8:=[74,97,110,70,101,98,77,97,114,65,112,114,77,97,121,74,117,110,74,117,108,65,117,103,83,101,112,79,99,116,78,111,118,68,101,99]
def x18(t:List UInt8)(k:Int):List UInt8:=(t.drop (3*k.toNat)).take 3
def q42(tick:Int):List UInt8:=x18 k191 (dayN (tick/86400)).week++[44,32]++twoD (dayN (tick/86400)).date++[32]++x18 yearT ((dayN (tick/86400)).month-1)++[32]++j90 (dayN (tick/86400)).year++[32]++twoD (tick%86400/3600)++[58]++twoD (tick%86400/60%60)++[58]++twoD (tick%86400%60)++[32,71,77,84]
theorem q60{t:List UInt8}{k:Int}(h0:0≤k)(h:3*k+3≤t.length):(x18 t k).length=3:=by unfold x18;rw[List.length_take,List.length_drop];omega
structure MetaL where
 tag:List UInt8
 weak:Bool
 mo:Int
 len:Int
 hv:Int
 fresh:Int
 wh:Int
 er:Int
 keys:List (List UInt8)
 ten:List UInt8
 keep:Bool
def j20(l:List UInt8):Bool:=decide (1≤l.length)&&decide (l.length≤100)&&l.all fun c=>decide (33≤c.toNat)&&decide (c.toNat≤126)&&decide (c.toNat≠34)
def w26(l:List UInt8):Bool:=decide (1≤l.length)&&decide (l.length≤200)&&l.all fun c=>decide (33≤c.toNat)&&decide (c.toNat≤126)
def w45(c:UInt8):Bool:=(decide (97≤c.toNat)&&decide (c.toNat≤122))||(decide (65≤c.toNat)&&decide (c.toNat≤90))||(decide (48≤c.toNat)&&decide (c.toNat≤57))
def j42(l:List UInt8):Bool:=decide (l.length≤40)&&!decide (l.headD 0=45)&&l.all fun c=>w45 c||decide (c.toNat=45)||decide (c.toNat=95)
def k37(n:Int):Bool:=decide (0≤n)&&decide (n≤1099511627776)
def tag0(m:MetaL):Bool:=decide (m.tag=[])&&!m.weak
def nETag:List UInt8:=[69,84,97,103]
def nMod:List UInt8:=[76,97,115,116,45,77,111,100,105,102,105,101,100]
def nCtl:List UInt8:=[67,97,99,104,101,45,67,111,110,116,114,111,108]
def nAge:List UInt8:=[65,103,101]
def nKey:List UInt8:=[83,117,114,114,111,103,97,116,101,45,75,101,121]
def nTen:List UInt8:=[88,45,84,101,110,97,110,116]
def nLen:List UInt8:=[88,45,76,101,110,103,116,104]
def nHave:List UInt8:=[88,45,72,97,118,101]
def nCR:List UInt8:=[67,111,110,116,101,110,116,45,82,97,110,103,101]
def nCT:List UInt8:=[67,111,110,116,101,110,116,45,84,121,112,101]
def vNoStore:List UInt8:=[110,111,45,115,116,111,114,101]
def vShared:List UInt8:=[115,45,109,97,120,97,103,101,61]
def vWhile:List UInt8:=[115,116,97,108,101,45,119,104,105,108,101,45,114,101,118,97,108,105,100,97,116,101,61]
def vError:List UInt8:=[115,116,97,108,101,45,105,102,45,101,114,114,111,114,61]
def vMulti:List UInt8:=[109,117,108,116,105,112,97,114,116,47,98,121,116,101,114,97,110,103,101,115,59,32,98,111,117,110,100,97,114,121,61]
def v90:List UInt8:=[97,112,112,108,105,99,97,116,105,111,110,47,111,99,116,101,116,45,115,116,114,101,97,109]
def vBytes:List UInt8:=[98,121,116,101,115,32]
def k90:List UInt8:=[98,121,116,101,115,32,42,47]
def x108:List UInt8:=[115,108,105,99,101]
def tagT(t:List UInt8)(wk:Bool):List UInt8:=if wk=true then[87,47]++([34]++t++[34])else[34]++t++[34]
def x176(sep:List UInt8):List (List UInt8)→List UInt8|[]=>[]|x::r=>x++r.flatMap fun y=>sep++y
def ctlL(m:MetaL):List (List UInt8):=(if m.keep=true then[]else[vNoStore])++[vShared++digN m.fresh]++(if m.wh=0 then[]else[vWhile++digN m.wh])++(if m.er=0 then[]else[vError++digN m.er])
def ctlT(m:MetaL):List UInt8:=x176 [44,32] (ctlL m)
def x21(m:MetaL):List (List UInt8×List UInt8):=(if tag0 m=true then[]else[(nETag,tagT m.tag m.weak)])++(if m.mo=-1 then[]else[(nMod,q42 m.mo)])++[(nCtl,ctlT m)]++[(nAge,[48])]++(if m.keys=[]then[]else[(nKey,x176 [32] m.keys)])++(if m.ten=[]then[]else[(nTen,m.ten)])++(if m.len=-1 then[(nLen,[42]),(nHave,digN m.hv)]else[(nLen,digN m.len)])
theorem w90(f t:Int)(w:World):Calls Tryz.prog 79 #[.agg #[.int .i64 f,.int .i64 t]] w fun e w'=>e=.returned (.bool (w30 (f,t)))∧w.alloc (.cells #[.int .i64 f,.int .i64 t] 81)=w':=by go_enter Tryz.func79,Tryz.ntmps79;go_wp2;all_goals go_ret;refine⟨q17 ?_,rfl⟩;unfold w30;rw[Bool.eq_iff_iff];simp;try omega
def j71(n:Int)(x:Int×Int)(w:World)(e:Ending)(w':World):Prop:=e=.returned (.tuple #[.agg #[.int .i64 (w24 n x).1,.int .i64 (w24 n x).2],.bool (hasS (w24 n x))])∧Below w.heap.size w w'
theorem q87{n:Int}{x:Int×Int}{a b:Int}{t:Bool}{w w':World}(h:w24 n x=(a,b))(ht:t=decide (a<b))(hb:Below w.heap.size w w'):j71 n x w (.returned (.tuple #[.agg #[.int .i64 a,.int .i64 b],.bool t])) w':=⟨by rw[h,ht];rfl,hb⟩
theorem x131(f t n:Int)(w:World)(hr:w30 (f,t)=true)(h0:0≤n)(h1:n≤4611686018427387904):Calls Tryz.prog 189 #[.agg #[.int .i64 f,.int .i64 t],.int .i64 n] w (j71 n (f,t) w):=by
 have hR:=fun W=>Lib.hid (w90 f t W);rw[hr]at hR;have hq:=(q57 (f,t)).1 hr;simp only at hq;clear hr;by_cases hf:f<0;·
  obtain rfl:f=-1:=by omega
  have ht0:0≤t:=by omega
  have ht1:t≤999999999999999999:=by omega
  clear hq;have HS:Hid (w24 n (-1,t)=(max (n-t) 0,n)):=by simp only[Hid,w24];rw[if_pos (by decide)]
  go_enter Tryz.func189,Tryz.ntmps189;go_wp2_with fail;refine(hR _).out.mono ?_;rintro e1 w1⟨rfl,rfl⟩;clear hR;go_wp2_with fail;go_region;all_goals go_wp2_with fail
  all_goals refine bodyPost_ret (by simp[results,Tryz.results189,go_sem];try rfl) rfl ?_;exact q87 HS.out rfl (by(repeat(first|exact Below.refl _ _|refine q15 ?_ _|refine x15 ?_|refine q11 ?_ _|refine w14 ?_ (by simp) _)))
 ·have hf0:0≤f:=by omega
  have hf1:f≤999999999999999999:=by omega
  by_cases ht:0≤t;·
   have ht1:t≤999999999999999999:=by omega
   clear hq;have HS:Hid (w24 n (f,t)=(f,min (t+1) n)):=by simp only[Hid,w24];rw[if_neg (by omega),if_pos ht]
   go_enter Tryz.func189,Tryz.ntmps189;go_wp2_with fail;refine(hR _).out.mono ?_;rintro e1 w1⟨rfl,rfl⟩;clear hR;go_wp2_with fail;go_region;all_goals go_wp2_with fail
   all_goals refine bodyPost_ret (by simp[results,Tryz.results189,go_sem];try rfl) rfl ?_;exact q87 HS.out rfl (by(repeat(first|exact Below.refl _ _|refine q15 ?_ _|refine x15 ?_|refine q11 ?_ _|refine w14 ?_ (by simp) _)))
  ·have HS:Hid (w24 n (f,t)=(f,n)):=by simp only[Hid,w24];rw[if_neg (by omega),if_neg ht]
   have ht':t<0:=by omega
   clear hq;go_enter Tryz.func189,Tryz.ntmps189;go_wp2_with fail;refine(hR _).out.mono ?_;rintro e1 w1⟨rfl,rfl⟩;clear hR;go_wp2_with fail;go_region;all_goals go_wp2_with fail
   all_goals refine bodyPost_ret (by simp[results,Tryz.results189,go_sem];try rfl) rfl ?_;exact q87 HS.out rfl (by(repeat(first|exact Below.refl _ _|refine q15 ?_ _|refine x15 ?_|refine q11 ?_ _|refine w14 ?_ (by simp) _)))
def q23(x:Int×Int)(total:Int):Bool:=okS x&&!decide (x.1=x.2)&&!decide (x.2=4611686018427387904)&&decide (-1≤total)&&decide (total≤4611686018427387903)&&(decide (total=-1)||decide (x.2≤total))
def q21(x:Int×Int)(total:Int):List UInt8:=if q23 x total=true then vBytes++digN x.1++[45]++digN (x.2-1)++[47]++(if total=-1 then[42]else digN total)else[]
theorem w86{x:Int×Int}{total:Int}:q21 x total=[]↔q23 x total=false:=by
 unfold q21;cases h:q23 x total;·simp
 ·simp[vBytes]
def hexD(k:Nat):UInt8:=if k<10 then UInt8.ofNat (48+k)else UInt8.ofNat (87+k)
def hexT:Nat→Nat→List UInt8|0,_=>[]|n+1,u=>hexT n (u/16)++[hexD (u%16)]
theorem y50:∀n u,(hexT n u).length=n|0,_=>rfl|n+1,u=>by rw[hexT,List.length_append,y50 n];rfl
def q29(seed:Int):List UInt8:=x108++hexT 16 (seed%18446744073709551616).toNat
theorem q65(seed:Int):(q29 seed).length=21:=by unfold q29;rw[List.length_append,y50];rfl
def alnB(c:UInt8):Bool:=(decide (48≤c.toNat)&&decide (c.toNat≤57))||(decide (97≤c.toNat)&&decide (c.toNat≤122))||(decide (65≤c.toNat)&&decide (c.toNat≤90))
def w23(l:List UInt8):Bool:=decide (1≤l.length)&&decide (l.length≤70)&&l.all alnB
theorem y154{k:Nat}(h:k<16):alnB (hexD k)=true:=by
 have:∀k:Fin 16,alnB (hexD k.val)=true:=by decide
 exact this ⟨k,h⟩
theorem y108:∀n u,(hexT n u).all alnB=true
 |0,_=>rfl
 |n+1,u=>by rw[hexT,List.all_append,y108 n,Bool.true_and];simp only[List.all_cons,List.all_nil,Bool.and_true];exact y154 (Nat.mod_lt _ (by omega))
theorem z100(seed:Int):w23 (q29 seed)=true:=by
 have h1:=q65 seed;unfold w23;rw[h1];have h2:(q29 seed).all alnB=true:=by unfold q29;rw[List.all_append,y108,Bool.and_true];decide
 rw[h2];rfl
abbrev w17:=List UInt8×(Int×Int)
def v181(x:Int×Int)(total:Int)(kind bound:List UInt8):List UInt8:=[45,45]++bound++[13,10]++(nCT++[58,32])++kind++[13,10]++(nCR++[58,32])++q21 x total++[13,10]++[13,10]
def j26(total:Int)(kind bound:List UInt8):Bool→List (Int×Int)→List w17|_,[]=>[]|first,x::r=>((if first=true then[]else[13,10])++v181 x total kind bound,(0,0))::([],x)::j26 total kind bound false r
def endT(bound:List UInt8):List UInt8:=[13,10]++[45,45]++bound++[45,45]++[13,10]
def x37(L:List (Int×Int))(total:Int)(kind bound:List UInt8):List w17:=j26 total kind bound true L++[(endT bound,(0,0))]
theorem k68(total:Int)(kind bound:List UInt8):∀(f:Bool)(a b:List (Int×Int)),j26 total kind bound f (a++b)=j26 total kind bound f a++j26 total kind bound (if a=[]then f else false) b
 |f,[],b=>by simp[j26]
 |f,x::r,b=>by rw[List.cons_append,j26,j26,k68 total kind bound false r b];by_cases hr:r=[]<;>simp[hr]
theorem q56(total:Int)(kind bound:List UInt8):∀(f:Bool)(L:List (Int×Int)),(j26 total kind bound f L).length=2*L.length|_,[]=>rfl|f,x::r=>by rw[j26];simp[q56 total kind bound false r];omega
def w29:Int→List w17→Int|n,[]=>n|n,(t,x)::r=>if t≠[]then w29 (n+t.length) r else if okS x=false∨x.2=4611686018427387904 then-1 else w29 (n+(x.2-x.1)) r
def z181(P:List w17):Int:=w29 0 P
theorem q119(L:List (Int×Int))(i:Nat)(x:Int×Int)(h:L[i]?=some x):(j22 L)[i*2]?=some (.int .i64 x.1)∧(j22 L)[i*2+1]?=some (.int .i64 x.2):=by have:=w44 L i x h;rw[Nat.mul_comm]at this;exact this
theorem Sp.built(w:World)(L:List (Int×Int))(T:TypeId):Sp (w.alloc (.cells (j22 L).toArray T)) (some ⟨w.heap.size,0,none⟩) L.length L:=⟨Nat.le_refl _,(fun e=>by cases e),fun _=>⟨w.heap.size,0,rfl,by simp,fun i x hx=>by
 have:=q119 L i x hx;have hc:∀j,(w.alloc (.cells (j22 L).toArray T)).cell? ⟨w.heap.size,j,none⟩=(j22 L)[j]?:=fun j=>by rw[Lib.cell_of_heap (heap_alloc_new w _)];simp
 rw[hc,hc,Nat.zero_add];exact this⟩⟩
section
variable{α:Type}
structure ElemK(P:Program)(enc:α→List Value)(n:Nat)(T ST:TypeId)(bytes:Nat):Prop where
 und:P.underlying ST=some (.slice T)
 info:∃i z,P.info? T=some i∧i.zero=some z∧i.size=n∧i.bytes=bytes∧z.cells.size=n
 pos:0<n
 small:bytes≤128
 len:∀x,(enc x).length=n
 one:∀x,∀v∈enc x,v.oneCell'=true
def w180(enc:α→List Value)(L:List α):List Value:=L.flatMap enc
theorem x61{enc:α→List Value}(x:α)(r:List α):w180 enc (x::r)=enc x++w180 enc r:=rfl
theorem x68{enc:α→List Value}(a b:List α):w180 enc (a++b)=w180 enc a++w180 enc b:=by unfold w180;simp
theorem w46{enc:α→List Value}{n:Nat}(h:∀x,(enc x).length=n):∀(L:List α),(w180 enc L).length=L.length*n|[]=>by simp[w180]|x::r=>by rw[x61,List.length_append,h,w46 h r,List.length_cons,Nat.succ_mul,Nat.add_comm]
theorem j60{enc:α→List Value}{n:Nat}(h:∀x,(enc x).length=n):∀(L:List α)(k:Nat)(x:α)(j:Nat)(v:Value),L[k]?=some x→(enc x)[j]?=some v→(w180 enc L)[k*n+j]?=some v
 |[],k,x,j,v,hk,_=>by simp at hk
 |y::r,0,x,j,v,hk,hj=>by simp at hk;subst hk;have hl:=(List.getElem?_eq_some_iff.1 hj).1;rw[x61,Nat.zero_mul,Nat.zero_add,List.getElem?_append_left hl];exact hj
 |y::r,k+1,x,j,v,hk,hj=>by have ih:=j60 h r k x j v (by simpa using hk) hj;rw[x61,Nat.succ_mul,List.getElem?_append_right (by rw[h];omega),h,show k*n+n+j-n=k*n+j from by omega];exact ih
def OwnG(T:TypeId)(enc:α→List Value)(n:Nat)(w:World)(base:Nat)(A:Option Addr)(c:Nat)(L:List α):Prop:=w.ownsRow base T n (.slice A L.length c) L.length (w180 enc L)
structure SpG(enc:α→List Value)(n:Nat)(w:World)(A:Option Addr)(c:Nat)(L:List α):Prop where
 le:L.length≤c
 nil_:A=none→c=0
 at':∀k(h:k<L.length),∃b off,A=some ⟨b,off,none⟩∧b<w.heap.size∧∀j v,(enc L[k])[j]?=some v→w.cell? ⟨b,off+k*n+j,none⟩=some v
variable{enc:α→List Value}{n:Nat}{T ST:TypeId}{w w' w0:World}{base:Nat}{A:Option Addr}{c:Nat}{L:List α}
theorem SpG.nil(w:World):SpG enc n w none 0 []:=⟨Nat.le_refl _,fun _=>rfl,fun k h=>by simp at h⟩
theorem SpG.below(h:SpG enc n w A c L)(hb:Below w.heap.size w w'):SpG enc n w' A c L:=⟨h.le,h.nil_,fun k hk=>by obtain⟨b,off,e,hl,h1⟩:=h.at' k hk;exact⟨b,off,e,Nat.lt_of_lt_of_le hl hb.size,fun j v hj=>x16 hb (h1 j v hj)⟩⟩
theorem SpG.alloc(h:SpG enc n w A c L)(o:Obj):SpG enc n (w.alloc o) A c L:=h.below (q11 (Below.refl _ _) o)
theorem SpG.drew(h:SpG enc n w A c L):SpG enc n w.drew A c L:=⟨h.le,h.nil_,h.at'⟩
theorem SpG.drewN(h:SpG enc n w A c L)(q:Nat):SpG enc n (w.drewN q) A c L:=⟨h.le,h.nil_,h.at'⟩
theorem OwnG.nil(w:World)(base:Nat):OwnG T enc n w base none 0 []:=World.ownsRow_nil w base _ _
theorem OwnG.at_(h:OwnG T enc n w base A c L)(hn:0<L.length):∃g,A=some ⟨g,0,none⟩∧base≤g∧g<w.heap.size:=by obtain⟨g,cap,hv,hb,hlt⟩:=World.ownsRow.form h hn;injection hv with hA;exact⟨g,hA,hb,hlt⟩
theorem OwnG.alloc(h:OwnG T enc n w base A c L)(o:Obj):OwnG T enc n (w.alloc o) base A c L:=World.ownsRow.alloc h o
theorem OwnG.drew(h:OwnG T enc n w base A c L):OwnG T enc n w.drew base A c L:=World.ownsRow.drew h
theorem OwnG.drewN(h:OwnG T enc n w base A c L)(q:Nat):OwnG T enc n (w.drewN q) base A c L:=h
theorem OwnG.below(h:OwnG T enc n w base A c L)(hb:Below w.heap.size w w'):OwnG T enc n w' base A c L:=World.ownsRow.kept (row:=none) h ⟨hb.os,hb.tape,hb.output,hb.size,fun k hk _=>hb.block k hk⟩ (by cases A<;>simp[Value.ownBlock])
theorem OwnG.base_le{base':Nat}(h:OwnG T enc n w base A c L)(hb:base'≤base):OwnG T enc n w base' A c L:=by
 refine⟨h.1,?_⟩;rcases h.2 with h2|⟨g,cap,cur,h1,h2,h3,h4⟩;·exact .inl h2
 ·exact .inr ⟨g,cap,cur,h1,Nat.le_trans hb h2,h3,h4⟩
theorem OwnG.off{k:Nat}(h:OwnG T enc n w base A c L)(hg:w.grownBy w' (some k))(hk:k<base):OwnG T enc n w' base A c L:=World.ownsRow.kept h hg (.inr fun hh=>by have:=(World.ownsRow.lt h _ hh).1;omega)
theorem OwnG.spg(hl:∀x,(enc x).length=n)(h:OwnG T enc n w base A c L):SpG enc n w A c L:=by
 refine⟨?_,?_,?_⟩;·
  rcases h.2 with⟨hv,hn⟩|⟨g,cap,cur,hv,_,_,hc,_⟩;·rw[hn];exact Nat.zero_le _
  ·injection hv with _ _ h3;rw[h3];exact hc
 ·intro hA;rcases h.2 with⟨hv,hn⟩|⟨g,cap,cur,hv,_⟩;·injection hv
  ·subst hA;injection hv with h1;cases h1
 ·intro k hk;obtain⟨g,rfl,_,hg⟩:=h.at_ (by omega);refine⟨g,0,rfl,hg,fun j v hj=>?_⟩;have h1:=j60 hl L k L[k] j v (List.getElem?_eq_getElem hk) hj;have hlt:=(List.getElem?_eq_some_iff.1 h1).1;rw[Nat.zero_add];exact(World.ownsRow.cellAt h _ (by have:=w46 hl L;omega)).trans h1
theorem SpG.built(hl:∀x,(enc x).length=n)(w:World)(L:List α)(cs:Array Value)(hcs:cs.toList=w180 enc L)(T:TypeId):SpG enc n (w.alloc (.cells cs T)) (some ⟨w.heap.size,0,none⟩) L.length L:=by refine⟨Nat.le_refl _,(fun h=>by cases h),fun k hk=>⟨w.heap.size,0,rfl,by simp,fun j v hj=>?_⟩⟩;have h1:=j60 hl L k L[k] j v (List.getElem?_eq_getElem hk) hj;rw[Nat.zero_add];have hb:(w.alloc (.cells cs T)).heap[w.heap.size]?=some (.cells cs T (0,0)):=heap_alloc_new w _;rw[←hcs,Array.getElem?_toList]at h1;rw[Lib.cell_of_heap hb];exact h1
variable{P:Program}{bytes:Nat}
theorem j65(K:ElemK P enc n T ST bytes){o:Oper}{a:Act}{K':Act→World→Prop}{Q:Exit→Act→World→Prop}(s x:Operand)(ho:o.op=.call {callee:=.builtin .append,args:=#[s,x],argTypes:=#[ST,ST]})(A:Option Addr)(c:Nat)(L:List α)(hs:a.eval s=.slice A L.length c)(hown:OwnG T enc n w w0.heap.size A c L)(A2:Option Addr)(c2:Nat)(L2:List α)(hx:a.eval x=.slice A2 L2.length c2)(hsp:SpG enc n w A2 c2 L2)(h2:0<L2.length)(hl:L.length+L2.length≤1000000)(hbel:Below w0.heap.size w0 w)(h:∀A' c' w',OwnG T enc n w' w0.heap.size A' c' (L++L2)→Below w0.heap.size w0 w'→w.grownBy w' (Value.slice A L.length c).ownBlock→K' (a.put o.dst (.slice A' (L.length+L2.length) c')) w'):o.wp P a w K' Q:=by
 obtain⟨i0,z,hi,hz,hsz,hby,hzs⟩:=K.info;obtain⟨b,off,e,_,_⟩:=hsp.at' 0 h2;subst e;refine wp_append_own w s x _ ho w0.heap.size T i0 z n bytes K.und hi hz hsz hby hzs K.pos _ _ _ hs hown ⟨b,off,none⟩ L2.length c2 (w180 enc L2) hx (w46 K.len L2) ?_ ?_ (by simp only[maxLen];omega) ?_ hbel.size ?_;·
  intro j u hj;have hadd:∀j,(⟨b,off,none⟩:Addr).add j=⟨b,off+j,none⟩:=fun j=>by unfold Addr.add;split<;>simp_all
  rw[hadd];have hjl:=(List.getElem?_eq_some_iff.1 hj).1;rw[w46 K.len]at hjl;have hnp:=K.pos;have hk:j/n<L2.length:=Nat.div_lt_of_lt_mul (by rw[Nat.mul_comm];exact hjl);obtain⟨b',off',e',_,h1⟩:=hsp.at' (j/n) hk;injection e' with e';injection e' with e1 e2;subst e1 e2;have hm:j%n<n:=Nat.mod_lt _ hnp;have hlx:=K.len L2[j/n];have hv:=h1 (j%n) _ (List.getElem?_eq_getElem (by omega));have hv2:=j60 K.len L2 (j/n) L2[j/n] (j%n) _ (List.getElem?_eq_getElem hk) (List.getElem?_eq_getElem (by omega));have hdm:j/n*n+j%n=j:=by rw[Nat.mul_comm];exact Nat.div_add_mod j n
  rw[hdm]at hv2;rw[Nat.add_assoc,hdm]at hv;rw[hj]at hv2;injection hv2 with hv2;rw[hv2];exact hv
 ·intro u hu;simp only[w180,List.mem_flatMap]at hu;obtain⟨y,_,hu⟩:=hu;exact K.one y u hu
 ·have:=K.small;have:(L.length+L2.length)*bytes≤1000000*128:=Nat.mul_le_mul hl this;omega
 ·intro v' w' h1 h2' _;have hlt:=World.ownsRow.lt hown;have hbel':Below w0.heap.size w0 w':=hbel.grown h2' hbel.size (fun k hk=>(hlt k hk).1);have hlen:(L++L2).length=L.length+L2.length:=by simp
  rw[←x68]at h1;have hform:∃A' c',v'=.slice A' (L.length+L2.length) c':=by
   rcases h1.2 with⟨hv,hn⟩|⟨g',cap,cur,hv,_⟩;·omega
   ·exact⟨_,_,hv⟩
  obtain⟨A',c',rfl⟩:=hform;exact h A' c' w' (by unfold OwnG;rw[hlen];exact h1) hbel' h2'
theorem k53(K:ElemK P enc n T ST bytes){ops:Array Oper}{rest:List Oper}{o:Oper}{a:Act}{Q:Exit→Act→World→Prop}(hgd:o.guard=none)(s x:Operand)(ho:o.op=.call {callee:=.builtin .append,args:=#[s,x],argTypes:=#[ST,ST]})(A:Option Addr)(c:Nat)(L:List α)(hs:a.eval s=.slice A L.length c)(hown:OwnG T enc n w w0.heap.size A c L)(A2:Option Addr)(c2:Nat)(L2:List α)(hx:a.eval x=.slice A2 L2.length c2)(hsp:SpG enc n w A2 c2 L2)(h2:0<L2.length)(hl:L.length+L2.length≤1000000)(hbel:Below w0.heap.size w0 w)(h:∀A' c' w',OwnG T enc n w' w0.heap.size A' c' (L++L2)→Below w0.heap.size w0 w'→w.grownBy w' (Value.slice A L.length c).ownBlock→wpList P ops Q rest (a.put o.dst (.slice A' (L.length+L2.length) c')) w'):wpList P ops Q (o::rest) a w:=wpList_plain hgd fun _ hK=>j65 K s x ho A c L hs hown A2 c2 L2 hx hsp h2 hl hbel fun A' c' w' h1 h2 h3=>hK _ _ (h A' c' w' h1 h2 h3)
theorem y182(K:ElemK P enc n T ST bytes){ops:Array Oper}{o:Oper}{a:Act}{K':Act→World→Prop}{Q:Exit→Act→World→Prop}{E:Prop}(hgd:o.guard=none)(s x:Operand)(ho:o.op=.call {callee:=.builtin .append,args:=#[s,x],argTypes:=#[ST,ST]})(A:Option Addr)(c:Nat)(L:List α)(hs:a.eval s=.slice A L.length c)(hown:OwnG T enc n w w0.heap.size A c L)(A2:Option Addr)(c2:Nat)(L2:List α)(hx:a.eval x=.slice A2 L2.length c2)(hsp:SpG enc n w A2 c2 L2)(h2:0<L2.length)(hl:L.length+L2.length≤1000000)(hbel:Below w0.heap.size w0 w)(h:∀A' c' w',OwnG T enc n w' w0.heap.size A' c' (L++L2)→Below w0.heap.size w0 w'→w.grownBy w' (Value.slice A L.length c).ownBlock→K' (a.put o.dst (.slice A' (L.length+L2.length) c')) w'):if Region.wanted o (yielded ops a.tmps)=true then Oper.wp P o a w K' Q else E:=by
 have hw:Region.wanted o (yielded ops a.tmps)=true:=by simp[Region.wanted,hgd]
 rw[if_pos hw];exact j65 K s x ho A c L hs hown A2 c2 L2 hx hsp h2 hl hbel h
end
def encT(l:List UInt8):List Value:=[.string ⟨l.toArray⟩]
theorem Tryz.strInfo:(Tryz.prog.info? 9).map (fun i=>(i.zero,i.size,i.bytes))=some (some (.string ⟨#[]⟩),1,16):=by kernel_rfl
theorem elemT:ElemK Tryz.prog encT 1 9 43 16 where
 und:=Tryz.underlying43
 info:=by obtain⟨i0,hi,hz0,hz1,hz2⟩:=info_parts Tryz.strInfo;exact⟨i0,_,hi,hz0,hz1,hz2,rfl⟩
 pos:=by decide
 small:=by decide
 len _:=rfl
 one _ v hv:=by simp[encT]at hv;rw[hv];rfl
abbrev j36:=List UInt8×List UInt8
structure AnsL where
 st:Int
 fs:List j36
 ps:List w17
 sz:Int
def w18(f:j36):List Value:=[.string ⟨f.1.toArray⟩,.string ⟨f.2.toArray⟩]
def j18(p:w17):List Value:=[.string ⟨p.1.toArray⟩,.int .i64 p.2.1,.int .i64 p.2.2]
def j24(m:MetaL)(O:List (Int×Int))(seed:Int):AnsL:=match O with|[]=>⟨416,x21 m++[(nCR,k90++digN m.hv)],[],0⟩|[s]=>⟨206,x21 m++[(nCR,q21 s m.len)],[([],s)],s.2-s.1⟩|s::t::r=>⟨206,x21 m++[(nCT,vMulti++q29 seed)],x37 (s::t::r) m.len v90 (q29 seed),z181 (x37 (s::t::r) m.len v90 (q29 seed))⟩
def w42(m:MetaL)(head:Bool):AnsL:=⟨200,x21 m,if head=true∨m.len=0 then[]else[([],(0,if m.len=-1 then 4611686018427387904 else m.len))],m.len⟩
def RetRes(R:List (Int×Int))(w:World)(e:Ending)(w':World):Prop:=∃A c,e=.returned (.tuple #[.slice A R.length c,.bool (decide (0<R.length))])∧Own w' w.heap.size A c R∧Below w.heap.size w w'
theorem w143(f t n s1 s2:Int)(b:Bool)(w:World)(hr:w30 (f,t)=true)(h0:0≤n)(h1:n≤4611686018427387904)(hs:w24 n (f,t)=(s1,s2))(hb:hasS (s1,s2)=b):Calls Tryz.prog 189 #[.agg #[.int .i64 f,.int .i64 t],.int .i64 n] w fun e w'=>e=.returned (.tuple #[.agg #[.int .i64 s1,.int .i64 s2],.bool b])∧Below w.heap.size w w':=by have h:=x131 f t n w hr h0 h1;unfold j71 at h;rw[hs,hb]at h;exact h
theorem q126{L:List (Int×Int)}(h:allR L=true){k:Nat}(hk:k<L.length):w30 L[k]=true:=List.all_eq_true.1 h _ (List.getElem_mem hk)
theorem k71(A:Option Addr)(c:Nat)(L:List (Int×Int))(n:Int)(w:World)(h:Sp w A c L)(hl:L.length≤100000)(hR:allR L=true)(h0:0≤n)(h1:n≤4611686018427387904):Calls Tryz.prog 127 #[.slice A L.length c,.int .i64 n] w (RetRes (resL n L) w):=by
 have hH:=Lib.hid h;have HR:=Lib.hid hR;clear h hR;go_enter Tryz.func127,Tryz.ntmps127;go_wp2;go_loopw[6,8,9,10,13](fun v _ _ _ i wr=>∃(k:Nat)(A':Option Addr)(c':Nat),k≤L.length∧i=.int .i64 k∧v=.slice A' (resL n (L.take k)).length c'∧Own wr w.heap.size A' c' (resL n (L.take k))∧Below w.heap.size w wr)(fun _ _ _ _ i _=>L.length-(intOf i).toNat);case atStart=>exact⟨0,none,0,Nat.zero_le _,rfl,rfl,Own.nil _ _,Below.refl _ _⟩
 case round=>
  obtain⟨k,A',c',hk,rfl,rfl,hown,hbw⟩:=hrel;have HO:=Lib.hid hown;have HB:=Lib.hid hbw;clear hown hbw;by_cases hlt:k<L.length;·
   obtain⟨b,off,e,hb,c1,c2⟩:=(hH.out.below HB.out).at_ hlt;have hgl:=w35 n (L.take k);have hgl2:(resL n (L.take k)).length≤100000:=by simp at hgl;omega
   have HG:=Lib.hid (q102 (n:=n) hlt);have hra:=q126 HR.out hlt;obtain⟨⟨x1,x2⟩,hx⟩:∃x,L[k]=x:=⟨_,rfl⟩;rw[hx]at c1 c2 HG hra;clear hx hgl;have HC:=fun s1 s2 b W hs hb=>Lib.hid (w143 x1 x2 n s1 s2 b W hra h0 h1 hs hb);obtain⟨G,hG⟩:∃G,resL n (L.take k)=G:=⟨_,rfl⟩;have hO:=HO.out;rw[hG]at hO hgl2 HG⊢;have HO':=Lib.hid hO;clear hG hO HO hra;obtain⟨⟨s1,s2⟩,hs⟩:∃s,w24 n (x1,x2)=s:=⟨_,rfl⟩;have HC2:=fun b W hb=>HC s1 s2 b W hs hb;rw[hs]at HG;clear hs HC;rw[e];cases hok:hasS (s1,s2);·
    have HC:=fun W=>HC2 false W hok;clear HC2;have HN:Hid (resL n (L.take (k+1))=G):=by simp only[Hid];rw[HG.out,hok];simp
    clear hok;go_wp2_with fail;refine(HC _).out.mono ?_;rintro e1 w3⟨rfl,hb3⟩;have HB3:Hid (Below w.heap.size w w3):=q12 hb3 (q11 HB.out _);have HO3:Hid (Own w3 w.heap.size A' c' G):=(HO'.out.alloc _).below hb3;clear HC hb3;go_wp2_with fail;go_roundw;case rel=>exact⟨k+1,A',c',by omega,by go_num,by rw[HN.out],by rw[HN.out];exact HO3.out.alloc _,q11 HB3.out _⟩
    case measure=>simp[intOf];omega
   ·have HC:=fun W=>HC2 true W hok;clear HC2;have HN:Hid (resL n (L.take (k+1))=G++[(s1,s2)]):=by simp only[Hid];rw[HG.out,hok];simp
    clear hok;go_wp2_with fail;refine(HC _).out.mono ?_;rintro e1 w3⟨rfl,hb3⟩;have HB3:Hid (Below w.heap.size w w3):=q12 hb3 (q11 HB.out _);have HO3:Hid (Own w3 w.heap.size A' c' G):=(HO'.out.alloc _).below hb3;clear HC hb3;go_wp2_with(at_builtin;refine q31 (w0:=w) rfl (.tmp 24) (.tmp 26) rfl A' c' G rfl (by exact(HO3.out.alloc _).alloc _) _ s1 s2 rfl (by first|exact k31 _ _ _ _|simp[go_sem]) (by first|exact w31 _ _ _ _|simp[go_sem]) (by omega) (by exact q11 (q11 HB3.out _) _) ?_;intro A2 c2' w2 hown2 hbw2 _);go_roundw;case rel=>exact⟨k+1,A2,c2',by omega,by go_num,by rw[HN.out];simp,by rw[HN.out];exact hown2,hbw2⟩
    case measure=>simp[intOf];omega
  ·have hO:=HO.out;have hgl:=w35 n L;rw[x45 hlt]at hO⊢;have HO':=Lib.hid hO;clear hO HO;generalize resL n L=G at*;go_wp2;go_ret2;exact⟨A',c',by first|rfl|simp,HO'.out,HB.out⟩
end Go.Proofs.YtkkomffmnafjkaaGreatDoor
namespace Go.Proofs
open Go.Shelf
theorem Tryz.laysM246:Go.Proofs.LaysM.n246 Tryz.prog Tryz.lays246_ren:={Tryz.lays246 with
 i0:=by kernel_rfl
 i2:=by kernel_rfl
 i3:=by kernel_rfl
 i4:=by kernel_rfl
 i5:=by kernel_rfl
 i9:=by kernel_rfl
 i20:=by kernel_rfl
 i37:=by kernel_rfl
 i46:=by kernel_rfl
 i51:=by kernel_rfl
 i53:=by kernel_rfl
 i171:=by kernel_rfl
 i173:=by kernel_rfl
 i212:=by kernel_rfl
 i232:=by kernel_rfl
 i233:=by kernel_rfl
 m17:=by kernel_rfl
 m18:=by kernel_rfl
 m19:=by kernel_rfl}
namespace YtkkomffmnafjkaaGreatDoor
open Go.Shelf Go.Sort
open Go.RowKit
theorem q30{P:Program}{w w':World}{name:String}{k:IntKind}{zs:List Int}(h:Lib.TabIs P w name k zs)(hb:Below w.heap.size w w'):Lib.TabIs P w' name k zs:=by
 unfold Lib.TabIs World.var? at*;cases hg:P.globalNamed name with
  |none=>rw[hg]at h;simp at h
  |some g=>
   rw[hg]at h;simp only[Option.bind_some]at h⊢;have hlt:g<w.heap.size:=by
    rcases Nat.lt_or_ge g w.heap.size with h'|h';·exact h'
    ·rw[Array.getElem?_eq_none h']at h;simp at h
   rw[hb.block g hlt];exact h
theorem z121(W:World)(q:Nat)(os:Array Obj):Below W.heap.size W (grow (W.drewN q) os):=by
 refine⟨rfl,rfl,rfl,?_,fun k hk=>?_⟩;·simp[grow]
 ·rw[heap_grow_old _ _ (by simpa using hk)];rfl
theorem w78(n:Int)(h0:-9223372036854775808≤n)(h1:n≤9223372036854775807)(w:World)(htab:Lib.TabIs Tryz.prog w "internal/strconv.uint64pow10" .u64 Lib.pow10Tab):Calls Tryz.prog 125 #[.int .i64 n,.int .i64 10] w fun e w'=>e=.returned (.string ⟨(Lib.itoa n).toArray⟩)∧Below w.heap.size w w':=by have hF:=Any.internal_strconv_FormatInt_10 Tryz.laysM246 n h0 h1 w htab;generalize(⟨(Lib.itoa n).toArray⟩:ByteArray)=r at hF⊢;have HF:=Lib.hid hF;clear hF htab;go_enter Tryz.func125,Tryz.ntmps125;go_wp2_with fail;refine HF.out.mono ?_;rintro e w1⟨rfl,q,os,rfl⟩;go_wp2_with fail;go_ret;exact⟨rfl,z121 w q os⟩
end YtkkomffmnafjkaaGreatDoor
end Go.Proofs
namespace Go.Proofs.YtkkomffmnafjkaaGreatDoor
open Go.RowKit
theorem v100{n acc:Int}{R:List (Int×Int)}{k:Nat}(h:k<R.length):w36 n acc (R.drop k)=(decide (2*n<acc+((R[k]).2-(R[k]).1))||w36 n (acc+((R[k]).2-(R[k]).1)) (R.drop (k+1))):=by rw[List.drop_eq_getElem_cons h];rfl
theorem v119(A:Option Addr)(c:Nat)(L:List (Int×Int))(n most:Int)(w:World)(h:Sp w A c L)(hl:L.length≤100000)(hR:allR L=true)(h0:0≤n)(h1:n≤1099511627776)(_hm:(Lit.int .i64 most).wf=true):Calls Tryz.prog 72 #[.slice A L.length c,.int .i64 n,.int .i64 most] w fun e w'=>e=.returned (.bool (q46 n most L))∧Below w.heap.size w w':=by
 by_cases hmo:most<(L.length:Int);·
  have HC:Hid (q46 n most L=true):=by simp only[Hid,q46];simp[hmo]
  go_enter Tryz.func72,Tryz.ntmps72;go_wp2_with fail;go_ret;exact⟨q17 HC.out.symm,Below.refl _ _⟩
 ·have hmo':decide (most<(L.length:Int))=false:=by simpa using hmo
  have HMO:=Lib.hid hmo';have HRS:=Lib.hid (fun W hW=>k71 A c L n W hW hl hR h0 (by omega));have HIN:=Lib.hid (fun y hy=>y52 h0 hR (y:=y) hy);have hH:=Lib.hid h;clear h hR hmo';go_enter Tryz.func72,Tryz.ntmps72;go_wp2_with fail;refine(HRS.out _ hH.out).mono ?_;rintro e1 w1⟨Ar,cr,rfl,hs1,hb1⟩;have HS:=Lib.hid hs1.sp;have HB1:=Lib.hid hb1;have lr:=w35 n L;have HE:Hid (∃R,resL n L=R):=⟨_,rfl⟩;obtain⟨R,hRe⟩:=HE.out;rw[hRe]at HS HIN lr⊢;have HRE:=Lib.hid hRe;clear hs1 hb1 HRS hH HE hRe;go_wp2_with fail;go_loopw[7,11,24](fun s _ i wr=>∃(k:Nat)(acc:Int),k≤R.length∧i=.int .i64 k∧s=.int .i64 acc∧0≤acc∧acc≤2*n∧w36 n acc (R.drop k)=w36 n 0 R∧Below w1.heap.size w1 wr)(fun _ _ i _=>R.length-(intOf i).toNat);case atStart=>exact⟨0,0,Nat.zero_le _,rfl,rfl,by omega,by omega,rfl,Below.refl _ _⟩
  case round=>
   obtain⟨k,acc,hk,rfl,rfl,ha0,ha1,hov,hbw⟩:=hrel;have HV:=Lib.hid hov;have HBW:=Lib.hid hbw;clear hov hbw;by_cases hlt:k<R.length;·
    obtain⟨b,off,e,hb,c1,c2⟩:=(HS.out.below HBW.out).at_ hlt;have hin:=HIN.out _ (List.getElem_mem hlt);have HST:=Lib.hid (v100 (n:=n) (acc:=acc) hlt);obtain⟨⟨x1,x2⟩,hx⟩:∃x,R[k]=x:=⟨_,rfl⟩;rw[hx]at c1 c2 hin HST;clear hx;simp only at hin c1 c2;obtain⟨hi0,hi1,hi2⟩:=hin;rw[e];by_cases hc:2*n<acc+(x2-x1);·
     have HT:Hid (w36 n 0 R=true):=by simp only[Hid];rw[←HV.out,HST.out,Bool.or_eq_true];left;simp;omega
     go_wp2_with fail;go_ret;exact⟨q17 (by simp[q46,HRE.out,HT.out]),q12 (q11 HBW.out _) HB1.out⟩
    ·have HT:Hid (w36 n (acc+(x2-x1)) (R.drop (k+1))=w36 n 0 R):=by
      simp only[Hid];rw[←HV.out,HST.out];have e2:decide (2*n<acc+(x2-x1))=false:=by simp;omega
      show w36 n (acc+(x2-x1)) (R.drop (k+1))=(decide (2*n<acc+(x2-x1))||w36 n (acc+(x2-x1)) (R.drop (k+1)));first|(rw[e2,Bool.false_or];done)|(rw[e2,Bool.false_or,show acc+(x2-x1)=acc+(x2-x1)by omega])
     go_wp2_with fail;go_roundw;case rel=>exact⟨k+1,acc+(x2-x1),by omega,by go_num,rfl,by omega,by omega,HT.out,q11 HBW.out _⟩
     case measure=>simp[intOf];omega
   ·have HT:Hid (w36 n 0 R=false):=by simp only[Hid];rw[←HV.out,List.drop_eq_nil_of_le (by omega)];rfl
    go_wp2_with fail;go_ret;exact⟨q17 (by simp[q46,HRE.out,HMO.out,HT.out]),q12 HBW.out HB1.out⟩
end Go.Proofs.YtkkomffmnafjkaaGreatDoor
