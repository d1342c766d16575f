/- Contract of control.heed: a directive that is told is put into the rule. .. -/
import Derived.Test.YtkkomffmnafjkaaGreatDoorZP8
import Derived.Test.YtkkomffmnafjkaaGreatDoorZE3
import Derived.Test.YtkkomffmnafjkaaGreatDoorZI5
import Derived.Test.YtkkomffmnafjkaaGreatDoorZS9
set_option maxHeartbeats 16000000
set_option maxRecDepth 100000
set_option linter.all false
namespace Go.Proofs.YtkkomffmnafjkaaGreatDoor
open Go.RowKit
def x188(r:RuleL):Array Value:=#[.int .i64 r.mx,.int .i64 r.sh,.int .i64 r.wh,.int .i64 r.er,.bool r.ns,.bool r.nc,.bool r.pr]
def k189(w:World)(X:Nat)(r:RuleL):Prop:=w.heap[X]?=some (.cells (x188 r) 164 (0,0))
def y49(n:Int):Prop:=-1≤n∧n≤1099511627776
structure RuleOk(r:RuleL):Prop where
 sh:y49 r.sh
 wh:y49 r.wh
 er:y49 r.er
theorem RuleOk.on{r:RuleL}(h:RuleOk r){d:DirL}(hd:d.Ok):RuleOk (d.on r):=by
 obtain⟨h1,h2,h3⟩:=h;unfold y49 at*;have hl:∀t n:Int,(-1≤t∧t≤1099511627776)→(0≤n∧n≤1099511627776)→-1≤z189 t n∧z189 t n≤1099511627776:=fun t n a b=>by unfold z189;split<;>omega
 cases d with|ns=>exact⟨h1,h2,h3⟩|sh n=>exact⟨hl _ _ h1 hd,h2,h3⟩|wh n=>exact⟨h1,hl _ _ h2 hd,h3⟩|er n=>exact⟨h1,h2,hl _ _ h3 hd⟩
theorem z19{n:Int}(h0:0≤n)(h:n≤1099511627776):(digN n).length≤19:=by unfold digN;exact j68 18 n.toNat (by omega)
def DirL.nm:DirL→List UInt8|.ns=>vNoStore|.sh _=>vShared.dropLast|.wh _=>vWhile.dropLast|.er _=>vError.dropLast
def DirL.ar:DirL→List UInt8|.ns=>[]|.sh n=>digN n|.wh n=>digN n|.er n=>digN n
def DirL.eq:DirL→Bool|.ns=>false|_=>true
theorem DirL.cut(d:DirL):Lib.cut d.T [61]=(d.nm,d.ar,d.eq):=by cases d with|ns=>decide|sh n=>exact w190 61 (a:=vShared.dropLast) (b:=digN n) (by decide)|wh n=>exact w190 61 (a:=vWhile.dropLast) (b:=digN n) (by decide)|er n=>exact w190 61 (a:=vError.dropLast) (b:=digN n) (by decide)
theorem DirL.low(d:DirL):d.nm.map lowC=d.nm:=by cases d with|ns=>decide|sh n=>exact(by decide:vShared.dropLast.map lowC=vShared.dropLast)|wh n=>exact(by decide:vWhile.dropLast.map lowC=vWhile.dropLast)|er n=>exact(by decide:vError.dropLast.map lowC=vError.dropLast)
theorem DirL.nm_len(d:DirL):d.nm.length≤1000000:=by cases d with|ns=>decide|sh n=>exact(by decide:vShared.dropLast.length≤1000000)|wh n=>exact(by decide:vWhile.dropLast.length≤1000000)|er n=>exact(by decide:vError.dropLast.length≤1000000)
theorem DirL.short{d:DirL}(h:d.Ok):d.T.length≤100:=by cases d with|ns=>decide|sh n=>have:=z19 h.1 h.2;simp only[DirL.T,List.length_append];have:vShared.length=9:=rfl;omega|wh n=>have:=z19 h.1 h.2;simp only[DirL.T,List.length_append];have:vWhile.length=23:=rfl;omega|er n=>have:=z19 h.1 h.2;simp only[DirL.T,List.length_append];have:vError.length=15:=rfl;omega
theorem k192{n:Int}{s:ByteArray}(h:(⟨(digN n).toArray⟩:ByteArray)=s)(hs:0<s.size):((s[0].toNat:Int)==34)=false:=by
 subst h;have hl:0<(digN n).length:=by rw[←q19];exact hs
 have:=y190 n.toNat (digN n)[0] (by unfold digN;exact List.getElem_mem _);rw[beq_eq_false_iff_ne];show((digN n)[0].toNat:Int)≠34;omega
theorem v216(d:DirL)(X:Nat)(r:RuleL)(w:World)(hd:d.Ok)(hr:RuleOk r)(hx:k189 w X r)(hE:EnvR w):Calls Tryz.prog 170 #[.pointer (some ⟨X,0,none⟩),.string ⟨d.T.toArray⟩] w fun e w'=>e=.returned (.tuple #[])∧k189 w' X (d.on r)∧Mut [X] w w':=by
 have HC:=Lib.hid (x194 d.T [61] w (by have:=DirL.short hd;omega) hE);rw[d.cut]at HC;have HSM:=fun W=>Lib.hid (y209 d.nm W d.nm_len);rw[d.low]at HSM;have HX:=Lib.hid hx;have HRO:=Lib.hid hr;have HD:=Lib.hid hd;clear hx hr hd hE;cases d with
  |ns=>simp only[DirL.T,DirL.nm,DirL.ar,DirL.eq,vNoStore]at HC HSM⊢;go_enter Tryz.func170,Tryz.ntmps170;go_wp2_with(first|(go_at_call 116;refine HC.out.mono ?_;rintro e w1⟨rfl,hb1⟩;have hx1:=j3 hb1 HX.out)|(go_at_call 233;refine(HSM _).out.mono ?_;rintro e w2⟨rfl,hb2⟩;have hx2:=j3 hb2 hx1;have c4:=bc 4 hx2 rfl;have f4:w2.frozen? ⟨X,4,none⟩=false:=q13 hx2));go_end0;exact⟨rfl,j15 hx2,((Mut.of_below hb1).trans (.of_below hb2)).set (by simp) _⟩
  |sh n=>
   have HL:=fun W(h:k189 W X r)=>Lib.hid (y191 X 1 (x188 r) 164 r.sh (digN n) n W h rfl HRO.out.sh (k193 HD.out.1) (q193 n) HD.out (by have:=z19 HD.out.1 HD.out.2;omega));simp only[DirL.T,DirL.nm,DirL.ar,DirL.eq,vShared,vWhile,vError,List.dropLast]at HC HSM⊢;obtain⟨s,hs⟩:∃s:ByteArray,(⟨(digN n).toArray⟩:ByteArray)=s:=⟨_,rfl⟩;have hq:=k192 hs;have hb:s.size≤100:=by rw[←hs,q19];have:=z19 HD.out.1 HD.out.2;omega
   rw[hs]at HC HL;have HB:=Lib.hid hb;clear hs;by_cases h2:2≤s.size;all_goals
    try have hq2:=hq (by omega)
    clear hq;go_enter Tryz.func170,Tryz.ntmps170;go_wp2_with(first|(go_at_call 116;refine HC.out.mono ?_;rintro e w1⟨rfl,hb1⟩;have hx1:=j3 hb1 HX.out)|(go_at_call 233;refine(HSM _).out.mono ?_;rintro e w2⟨rfl,hb2⟩;have hx2:=j3 hb2 hx1)|(go_at_call 234;refine(HL _ hx2).out.mono ?_;rintro e w3⟨rfl,hx3,hm3⟩));go_end0;exact⟨rfl,hx3,((Mut.of_below hb1).trans (.of_below hb2)).trans hm3⟩
  |wh n=>
   have HL:=fun W(h:k189 W X r)=>Lib.hid (y191 X 2 (x188 r) 164 r.wh (digN n) n W h rfl HRO.out.wh (k193 HD.out.1) (q193 n) HD.out (by have:=z19 HD.out.1 HD.out.2;omega));simp only[DirL.T,DirL.nm,DirL.ar,DirL.eq,vShared,vWhile,vError,List.dropLast]at HC HSM⊢;obtain⟨s,hs⟩:∃s:ByteArray,(⟨(digN n).toArray⟩:ByteArray)=s:=⟨_,rfl⟩;have hq:=k192 hs;have hb:s.size≤100:=by rw[←hs,q19];have:=z19 HD.out.1 HD.out.2;omega
   rw[hs]at HC HL;have HB:=Lib.hid hb;clear hs;by_cases h2:2≤s.size;all_goals
    try have hq2:=hq (by omega)
    clear hq;go_enter Tryz.func170,Tryz.ntmps170;go_wp2_with(first|(go_at_call 116;refine HC.out.mono ?_;rintro e w1⟨rfl,hb1⟩;have hx1:=j3 hb1 HX.out)|(go_at_call 233;refine(HSM _).out.mono ?_;rintro e w2⟨rfl,hb2⟩;have hx2:=j3 hb2 hx1)|(go_at_call 234;refine(HL _ hx2).out.mono ?_;rintro e w3⟨rfl,hx3,hm3⟩));go_end0;exact⟨rfl,hx3,((Mut.of_below hb1).trans (.of_below hb2)).trans hm3⟩
  |er n=>
   have HL:=fun W(h:k189 W X r)=>Lib.hid (y191 X 3 (x188 r) 164 r.er (digN n) n W h rfl HRO.out.er (k193 HD.out.1) (q193 n) HD.out (by have:=z19 HD.out.1 HD.out.2;omega));simp only[DirL.T,DirL.nm,DirL.ar,DirL.eq,vShared,vWhile,vError,List.dropLast]at HC HSM⊢;obtain⟨s,hs⟩:∃s:ByteArray,(⟨(digN n).toArray⟩:ByteArray)=s:=⟨_,rfl⟩;have hq:=k192 hs;have hb:s.size≤100:=by rw[←hs,q19];have:=z19 HD.out.1 HD.out.2;omega
   rw[hs]at HC HL;have HB:=Lib.hid hb;clear hs;by_cases h2:2≤s.size;all_goals
    try have hq2:=hq (by omega)
    clear hq;go_enter Tryz.func170,Tryz.ntmps170;go_wp2_with(first|(go_at_call 116;refine HC.out.mono ?_;rintro e w1⟨rfl,hb1⟩;have hx1:=j3 hb1 HX.out)|(go_at_call 233;refine(HSM _).out.mono ?_;rintro e w2⟨rfl,hb2⟩;have hx2:=j3 hb2 hx1)|(go_at_call 234;refine(HL _ hx2).out.mono ?_;rintro e w3⟨rfl,hx3,hm3⟩));go_end0;exact⟨rfl,hx3,((Mut.of_below hb1).trans (.of_below hb2)).trans hm3⟩
theorem head_at(s:ByteArray)(h:0<s.size):s[0]=s.data.toList.headD 0:=by obtain⟨⟨l⟩⟩:=s;cases l with|nil=>simp[ByteArray.size]at h|cons a l=>rfl
theorem q194(n:Int)(w:World)(h0:0≤n)(h1:n≤1099511627776):Calls Tryz.prog 176 #[.string ⟨(digN n).toArray⟩] w fun e w'=>e=.returned (.tuple #[.int .i64 n,.bool true])∧w'=w:=by
 have H:=Lib.hid (k193 h0);have hsh:(digN n).length≤18:=by unfold digN;exact j68 17 n.toNat (by omega)
 have hpo:0<(digN n).length:=List.length_pos_iff.2 (q193 n);have hld:1<(digN n).length→(((digN n).headD 0).toNat:Int)≠48:=fun h e=>j218 h (UInt8.toNat_inj.1 (by show((digN n).headD 0).toNat=48;omega));obtain⟨l,hl⟩:∃l,digN n=l:=⟨_,rfl⟩;simp only[hl]at H hsh hpo hld⊢;clear hl;have hsz:(⟨l.toArray⟩:ByteArray).size=l.length:=q19 l;obtain⟨s,hs0⟩:∃s:ByteArray,(⟨l.toArray⟩:ByteArray)=s:=⟨_,rfl⟩;rw[hs0]at hsz⊢;have HL:Hid (l=s.data.toList):=by simp only[Hid];rw[←hs0]
 have HZ:=Lib.hid hsz;have hsb:s.size≤18:=by omega
 have hsp:0<s.size:=by omega
 have hc0:s[0]=l.headD 0:=by rw[HL.out];exact head_at s hsp
 rw[←hc0]at hld;have HLD:=Lib.hid hld;clear hld;have hld':1<s.size→(((s[0].toNat:Int)==48)=false):=fun h=>by rw[beq_eq_false_iff_ne];exact HLD.out (by have:=HZ.out;omega)
 clear hs0 hsz hsh hpo hc0;have hcase:(1<s.size∧((s[0].toNat:Int)==48)=false)∨(¬1<s.size∧((s[0].toNat:Int)==48)=false)∨(¬1<s.size∧((s[0].toNat:Int)==48)=true):=by
  by_cases hone:1<s.size;·exact .inl ⟨hone,hld' hone⟩
  ·cases hb:((s[0].toNat:Int)==48);·exact .inr (.inl ⟨hone,rfl⟩)
   ·exact .inr (.inr ⟨hone,rfl⟩)
 clear hld';rcases hcase with⟨hone,hl0⟩|⟨hone,hl0⟩|⟨hone,hl0⟩;all_goals
  go_enter Tryz.func176,Tryz.ntmps176;go_wp2_with fail;go_loop[4,5,26](fun n _ i=>∃(k:Nat)(acc:Int),k≤s.size∧i=.int .i64 k∧n=.int .i64 acc∧0≤acc∧acc≤1099511627776∧v129 0 (l.take k)=some acc)(fun _ _ i=>s.size-(intOf i).toNat);case atStart=>exact⟨0,0,Nat.zero_le _,rfl,rfl,by omega,by decide,rfl⟩
  case round=>
   obtain⟨k,acc,hk,rfl,rfl,ha0,ha1,he⟩:=hrel;have HE:=Lib.hid he;clear he;by_cases hlt:k<s.size;·
    have hkl:k<l.length:=by have:=HZ.out;omega
    obtain⟨hd,hnx,hle,_⟩:=q195 hkl H.out HE.out;have hc:s[k]=l[k]:=by simp only[HL.out];rfl
    rw[←hc]at hd hnx hle;have hd2:=x192 hd;obtain⟨hd3,hd4⟩:=hd2;have HN:=Lib.hid hnx;clear hd hnx hc;go_wp2_with fail;go_round;case rel=>exact⟨k+1,acc*10+((s[k].toNat:Int)-48),by omega,by go_num,by go_num,by omega,by omega,HN.out⟩
    case measure=>simp[intOf];omega
   ·have hT:acc=n:=by have h2:=HE.out;have:=HZ.out;rw[List.take_of_length_le (by omega),H.out]at h2;injection h2 with h2;exact h2.symm
    subst hT;go_wp2_with fail;go_ret2;exact⟨rfl,rfl⟩
def quoT(t:List UInt8):List UInt8:=[34]++t++[34]
theorem j193(t:List UInt8):(quoT t).length=t.length+2:=by simp[quoT]
theorem quo_pre(t:List UInt8):(((⟨(quoT t).toArray⟩:ByteArray).extract 0 2).toList==[87,47])=false:=by rw[z129,ByteArray.toList_eq];cases t<;>rfl
theorem k216(t:List UInt8)(w:World)(hl:t.length≤1000000):Calls Tryz.prog 242 #[.string ⟨(quoT t).toArray⟩,.string ⟨#[87,47]⟩] w fun e w'=>e=.returned (.bool false)∧w'=w:=by
 have hsz:(⟨(quoT t).toArray⟩:ByteArray).size=t.length+2:=by rw[q19,j193]
 have hq:=quo_pre t;obtain⟨s,hs⟩:∃s:ByteArray,(⟨(quoT t).toArray⟩:ByteArray)=s:=⟨_,rfl⟩;rw[hs]at hsz hq⊢;have h2:2≤s.size:=by omega
 obtain⟨x,hx⟩:∃x,s.extract 0 2=x:=⟨_,rfl⟩;rw[hx]at hq;clear hs;go_enter Tryz.func242,Tryz.ntmps242;go_wp2_with fail;go_ret;exact⟨rfl,rfl⟩
theorem q205(t:List UInt8)(w:World)(hl:t.length≤1000000):Calls Tryz.prog 172 #[.string ⟨(quoT t).toArray⟩,.string ⟨#[87,47]⟩] w fun e w'=>e=.returned (.bool false)∧w'=w:=by have HP:=fun W=>Lib.hid (k216 t W hl);go_enter Tryz.func172,Tryz.ntmps172;go_wp2_with(go_at_call 242;refine(HP _).out.mono ?_;rintro e w1⟨rfl,rfl⟩);go_ret;exact⟨rfl,rfl⟩
theorem k202(t:List UInt8)(w:World)(h:j20 t=true):Calls Tryz.prog 108 #[.string ⟨(quoT t).toArray⟩] w fun e w'=>e=.returned (.tuple #[.agg #[.string ⟨t.toArray⟩,.bool false],.int .i64 0])∧Below w.heap.size w w':=by
 have hb:=(k190 h).1;have HT:=fun W=>Lib.hid (w162 (quoT t) W (by rw[j193];omega));rw[show q36 (quoT t)=quoT t from w213 h]at HT;have HP:=fun W=>Lib.hid (q205 t W (by omega));have HR:=fun W=>Lib.hid (k39 t false W (by omega));rw[h]at HR;have hsz:(⟨(quoT t).toArray⟩:ByteArray).size=t.length+2:=by rw[q19,j193]
 have hx:(⟨(quoT t).toArray⟩:ByteArray).extract 1 (t.length+1)=⟨t.toArray⟩:=by rw[y62];simp[quoT]
 obtain⟨s,hs⟩:∃s:ByteArray,(⟨(quoT t).toArray⟩:ByteArray)=s:=⟨_,rfl⟩;have g0:∀h:0<s.size,((s[0].toNat:Int)!=34)=false:=fun h=>by subst hs;rfl
 have g1:∀h:t.length+1<s.size,((s[t.length+1].toNat:Int)!=34)=false:=fun h=>by
  subst hs;have e:(quoT t)[t.length+1]'(by rw[j193];omega)=34:=by simp[quoT]
  have e2:((⟨(quoT t).toArray⟩:ByteArray)[t.length+1]'h)=34:=e;rw[e2];rfl
 rw[hs]at hsz hx HT HP⊢;have h0:=g0 (by omega);have h1:=g1 (by omega);clear hs g0 g1 h;go_enter Tryz.func108,Tryz.ntmps108;go_wp2_with(first|(go_at_call 171;refine(HT _).out.mono ?_;rintro e w1⟨rfl,hb1⟩;have X0:Hid (w1.heap[w.heap.size]?=some (.cells #[.string ⟨#[]⟩,.bool false] 25 (0,0))):=j3 hb1 (j17 rfl);have HB1:=Lib.hid (q12 hb1 (q11 (Below.refl _ _) _));have hlt:=q14 X0.out)|(go_at_call 172;refine(HP _).out.mono ?_;rintro e w2⟨rfl,rfl⟩)|(go_at_call 65;refine(HR _).out.mono ?_;rintro e w3⟨rfl,hb3⟩;have X4:=j3 hb3 (j17 rfl);have X2:=j3 hb3 (j3 (q11 (Below.refl _ _) _) X0.out);have HB3:=Lib.hid (q12 hb3 (q11 HB1.out _));have c0:=bc 0 X4 rfl;have c1:=bc 1 X4 rfl;have d0:=bc 0 X2 rfl;have d1:=bc 1 X2 rfl;have f0:w3.frozen? ⟨w.heap.size,0,none⟩=false:=q13 X2;have f1:w3.frozen? ⟨w.heap.size,1,none⟩=false:=q13 X2;have z3:=q14 X2));refine bodyPost_ret (by simp[results,Tryz.results108,go_sem, *];try rfl) rfl ?_;exact⟨rfl,by repeat(first|exact HB3.out|refine w14 ?_ (Nat.le_refl _) _)⟩
end Go.Proofs.YtkkomffmnafjkaaGreatDoor
