/- Contracts of the reference on texts of ranges: number, item, small, bare. .. -/
import Derived.Test.YtkkomffmnafjkaaGreatDoorZS9
import Derived.Laws.IdiomStrings
import Derived.Test.YtkkomffmnafjkaaGreatDoorZB10
set_option maxHeartbeats 16000000
set_option maxRecDepth 100000
set_option linter.all false
namespace Go.Proofs.YtkkomffmnafjkaaGreatDoor
open Go.RowKit
def rtL(l:List UInt8):List UInt8:=(l.reverse.dropWhile j21).reverse
theorem y118(c:UInt8):∀(l:List UInt8),rtL (c::l)=if(j21 c&&(rtL l).isEmpty)=true then[]else c::rtL l:=by
 intro l;unfold rtL;rw[List.reverse_cons,List.dropWhile_append];cases h:(List.dropWhile j21 l.reverse).isEmpty;·
  have:(List.dropWhile j21 l.reverse).reverse.isEmpty=false:=by simpa using h
  simp[this]
 ·have h2:List.dropWhile j21 l.reverse=[]:=List.isEmpty_iff.1 h;rw[h2];cases h3:j21 c<;>simp[h3]
theorem y105:∀(l:List UInt8),rtL (l.dropWhile j21)=(rtL l).dropWhile j21
 |[]=>rfl
 |c::r=>by
  have ih:=y105 r;rw[y118];cases h:j21 c;·simp[h,y118]
  ·cases h2:(rtL r).isEmpty;·simp[h,ih]
   ·have h3:rtL r=[]:=List.isEmpty_iff.1 h2;simp[h,ih,h3]
theorem y163(l:List UInt8):q36 l=rtL (l.dropWhile j21):=by rw[y105];rfl
inductive DirL where|ns|sh(n:Int)|wh(n:Int)|er(n:Int)
def DirL.T:DirL→List UInt8|.ns=>vNoStore|.sh n=>vShared++digN n|.wh n=>vWhile++digN n|.er n=>vError++digN n
def DirL.Ok:DirL→Prop|.ns=>True|.sh n=>0≤n∧n≤1099511627776|.wh n=>0≤n∧n≤1099511627776|.er n=>0≤n∧n≤1099511627776
def y33(m:MetaL):List DirL:=(if m.keep=true then[]else[.ns])++[.sh m.fresh]++(if m.wh=0 then[]else[.wh m.wh])++(if m.er=0 then[]else[.er m.er])
theorem q215(m:MetaL):ctlL m=(y33 m).map DirL.T:=by
 unfold ctlL y33;simp only[List.map_append];congr 1;·
  congr 1;·congr 1;split<;>rfl
  ·split<;>rfl
 ·split<;>rfl
structure RuleL where
 mx:Int
 sh:Int
 wh:Int
 er:Int
 ns:Bool
 nc:Bool
 pr:Bool
def q191:RuleL:=⟨-1,-1,-1,-1,false,false,false⟩
def z189(t n:Int):Int:=if t<0∨n<t then n else t
def DirL.on(r:RuleL):DirL→RuleL|.ns=>{r with ns:=true}|.sh n=>{r with sh:=z189 r.sh n}|.wh n=>{r with wh:=z189 r.wh n}|.er n=>{r with er:=z189 r.er n}
def ruleM(m:MetaL):RuleL:=⟨-1,m.fresh,if m.wh=0 then-1 else m.wh,if m.er=0 then-1 else m.er,!m.keep,false,false⟩
theorem j215(m:MetaL):(y33 m).foldl DirL.on q191=ruleM m:=by unfold y33 ruleM q191;cases m.keep<;>(by_cases h1:m.wh=0)<;>(by_cases h2:m.er=0)<;>simp[h1,h2,DirL.on,z189]
theorem dirs_ok{m:MetaL}(h1:0≤m.fresh∧m.fresh≤1099511627776)(h2:0≤m.wh∧m.wh≤1099511627776)(h3:0≤m.er∧m.er≤1099511627776):∀d∈y33 m,d.Ok:=by
 intro d hd;unfold y33 at hd;simp only[List.mem_append]at hd;rcases hd with((hd|hd)|hd)|hd;·
  split at hd;·cases hd
  ·rw[List.mem_singleton]at hd;subst hd;trivial
 ·rw[List.mem_singleton]at hd;subst hd;exact h1
 ·split at hd;·cases hd
  ·rw[List.mem_singleton]at hd;subst hd;exact h2
 ·split at hd;·cases hd
  ·rw[List.mem_singleton]at hd;subst hd;exact h3
theorem dirs_ne(m:MetaL):y33 m≠[]:=by unfold y33;simp
def dirB(c:UInt8):Bool:=decide (c≠44)&&decide (c≠34)&&decide (c≠32)&&decide (c≠9)
theorem v220{n:Int}:∀c∈digN n,dirB c=true:=fun c hc=>by have h:=y190 _ c hc;have h1:c≠44:=u8_ne (k:=44) (by omega) (by omega);have h2:c≠34:=u8_ne (k:=34) (by omega) (by omega);have h3:c≠32:=u8_ne (k:=32) (by omega) (by omega);have h4:c≠9:=u8_ne (k:=9) (by omega) (by omega);unfold dirB;simp[h1,h2,h3,h4]
theorem k195{l:List UInt8}{n:Int}(h:l.all dirB=true):∀c∈l++digN n,dirB c=true:=fun c hc=>by
 rcases List.mem_append.1 hc with hc|hc;·exact List.all_eq_true.1 h c hc
 ·exact v220 c hc
theorem DirL.bytes(d:DirL):∀c∈d.T,dirB c=true:=by cases d with|ns=>exact fun c hc=>List.all_eq_true.1 (show vNoStore.all dirB=true by decide) c hc|sh n=>exact k195 (by decide)|wh n=>exact k195 (by decide)|er n=>exact k195 (by decide)
theorem j210{c:UInt8}(h:dirB c=true):j21 c=false:=by unfold dirB at h;simp only[Bool.and_eq_true,decide_eq_true_eq]at h;unfold j21;simp[h.1.2,h.2]
theorem x197{c:UInt8}(h:dirB c=true):c≠44:=by unfold dirB at h;simp only[Bool.and_eq_true,decide_eq_true_eq]at h;exact h.1.1.1
theorem y197{c:UInt8}(h:dirB c=true):c≠34:=by unfold dirB at h;simp only[Bool.and_eq_true,decide_eq_true_eq]at h;exact h.1.1.2
theorem DirL.trim(d:DirL):q36 d.T=d.T:=k199 fun c hc=>j210 (d.bytes c hc)
theorem DirL.trim32(d:DirL):q36 (32::d.T)=d.T:=by
 rw[y163];have e:(32::d.T).dropWhile j21=d.T.dropWhile j21:=by rw[List.dropWhile_cons];rfl
 rw[e,←y163,d.trim]
def segF:List UInt8→List UInt8→List (List UInt8)|acc,[]=>[acc]|acc,c::r=>if c=44 then acc::segF [] r else segF (acc++[c]) r
theorem x195:∀(l acc r:List UInt8),(∀c∈l,c≠44)→segF acc (l++r)=segF (acc++l) r
 |[],acc,r,_=>by simp
 |c::l,acc,r,h=>by rw[List.cons_append,segF,if_neg (h c (by simp)),x195 l _ r fun x hx=>h x (by simp[hx])];simp
theorem v204:∀(D:List DirL)(acc:List UInt8),(segF acc ((D.map DirL.T).flatMap fun y=>[44,32]++y)).map q36=q36 acc::D.map DirL.T
 |[],acc=>by simp[segF]
 |d::D,acc=>by
  have e:((d::D).map DirL.T).flatMap (fun y=>[44,32]++y)=44::((32::d.T)++(D.map DirL.T).flatMap fun y=>[44,32]++y):=by simp
  rw[e,segF,if_pos rfl,x195 (32::d.T) [] _ (fun c hc=>by
   rcases List.mem_cons.1 hc with h|h;·rw[h];decide
   ·exact x197 (d.bytes c h)),List.map_cons,List.nil_append,v204 D,d.trim32];simp
theorem k220{D:List DirL}(h:D≠[]):(segF [] (x176 [44,32] (D.map DirL.T))).map q36=D.map DirL.T:=by cases D with|nil=>exact absurd rfl h|cons d D=>rw[List.map_cons,x176,x195 d.T [] _ (fun c hc=>x197 (d.bytes c hc)),List.nil_append,v204,d.trim]
theorem k210{D:List DirL}:∀c∈x176 [44,32] (D.map DirL.T),c≠34:=by
 cases D with
  |nil=>intro c hc;cases hc
  |cons d D=>
   intro c hc;rw[List.map_cons,x176]at hc;rcases List.mem_append.1 hc with hc|hc;·exact y197 (d.bytes c hc)
   ·obtain⟨y,hy,hc⟩:=List.mem_flatMap.1 hc;obtain⟨x,hx,rfl⟩:=List.mem_map.1 hy;rcases List.mem_append.1 hc with hc|hc;·simp only[List.mem_cons,List.not_mem_nil,or_false]at hc;rcases hc with rfl|rfl<;>decide
    ·exact y197 (x.bytes c hc)
def y36(n:Int):Int:=min (max n 0) 1099511627776
theorem y206{n:Int}(h:0≤n∧n≤1099511627776):y36 n=n:=by unfold y36;omega
theorem w197{n:Int}(h:0≤n∧n≤1099511627776):y36 (if n=0 then-1 else n)=n:=by unfold y36;split<;>omega
theorem w105(y:Int)(w:World)(h0:0≤y)(h1:y≤100000):Calls Tryz.prog 286 #[.int .i64 y] w fun e w'=>e=.returned (.int .i64 (y/4-y/100+y/400))∧w'=w:=by go_enter Tryz.func286,Tryz.ntmps286;go_wp2_with fail;go_ret;exact⟨rfl,rfl⟩
theorem j142(w:World):Calls Tryz.prog 286 #[.int .i64 1969] w fun e w'=>e=.returned (.int .i64 477)∧w'=w:=w105 1969 w (by omega) (by omega)
theorem k153(y:Int)(w:World)(h0:1970≤y)(h1:y≤10000):Calls Tryz.prog 244 #[.int .i64 y] w fun e w'=>e=.returned (.int .i64 (befY y))∧w'=w:=by
 have HB:Hid (365*(y-1970)+((y-1)/4-(y-1)/100+(y-1)/400)-477=befY y):=rfl;have HL:=fun W=>Lib.hid (w105 (y-1) W (by omega) (by omega));obtain⟨v,hv⟩:∃v,(y-1)/4-(y-1)/100+(y-1)/400=v:=⟨_,rfl⟩;have hv1:0≤v∧v≤10000:=by omega
 rw[hv]at HL HB;clear hv;go_enter Tryz.func244,Tryz.ntmps244;go_wp2_with fail;refine(HL _).out.mono ?_;rintro e w1⟨rfl,rfl⟩;go_wp2_with fail;refine(j142 _).mono ?_;rintro e w1⟨rfl,rfl⟩;go_wp2_with fail;go_ret;exact⟨z96 HB.out,rfl⟩
theorem j86(y:Int):(w28 y=true∧¬y%400=0∧y%4=0∧¬y%100=0)∨(w28 y=true∧y%400=0∧y%4=0∧y%100=0)∨(w28 y=false∧¬y%400=0∧¬y%4=0)∨(w28 y=false∧¬y%400=0∧y%4=0∧y%100=0):=by
 by_cases a:y%400=0;·refine .inr (.inl ⟨by simp[w28,a],a,by omega,by omega⟩)
 ·by_cases b:y%4=0;·
   by_cases c:y%100=0;·exact .inr (.inr (.inr ⟨by simp[w28,a,c],a,b,c⟩))
   ·exact .inl ⟨by simp[w28,b,c],a,b,c⟩
  ·exact .inr (.inr (.inl ⟨by simp[w28,a,b],a,b⟩))
theorem q164(y:Int)(w:World)(h0:0≤y)(h1:y≤100000):Calls Tryz.prog 285 #[.int .i64 y] w fun e w'=>e=.returned (.bool (w28 y))∧w'=w:=by
 rcases j86 y with⟨hv,a,b,c⟩|⟨hv,a,b,c⟩|⟨hv,a,b⟩|⟨hv,a,b,c⟩;all_goals
  have a':(y%400==0)=decide (y%400=0):=by rw[Bool.eq_iff_iff];simp
  rw[hv];clear hv;go_enter Tryz.func285,Tryz.ntmps285;go_wp2_with fail;go_ret;exact⟨by simp[a];try rfl,rfl⟩
theorem k86(l:Bool)(m:Int):(m=4∧w37 l m=30)∨(m=6∧w37 l m=30)∨(m=9∧w37 l m=30)∨(m=11∧w37 l m=30)∨(m=2∧w37 l m=if l=true then 29 else 28)∨(m≠4∧m≠6∧m≠9∧m≠11∧m≠2∧w37 l m=31):=by
 by_cases a:m=4;·exact .inl ⟨a,by subst a;rfl⟩
 by_cases b:m=6;·exact .inr (.inl ⟨b,by subst b;rfl⟩)
 by_cases c:m=9;·exact .inr (.inr (.inl ⟨c,by subst c;rfl⟩))
 by_cases d:m=11;·exact .inr (.inr (.inr (.inl ⟨d,by subst d;rfl⟩)))
 by_cases e:m=2;·exact .inr (.inr (.inr (.inr (.inl ⟨e,by subst e;rfl⟩))))
 ·exact .inr (.inr (.inr (.inr (.inr ⟨a,b,c,d,e,by unfold w37;rw[if_neg (by omega),if_neg e]⟩))))
theorem j164(y m:Int)(w:World)(h0:0≤y)(h1:y≤100000):Calls Tryz.prog 243 #[.int .i64 y,.int .i64 m] w fun e w'=>e=.returned (.int .i64 (w37 (w28 y) m))∧w'=w:=by
 have HL:=fun W=>Lib.hid (q164 y W h0 h1);rcases k86 (w28 y) m with⟨a,hv⟩|⟨a,hv⟩|⟨a,hv⟩|⟨a,hv⟩|⟨a,hv⟩|⟨a,b,c,d,e,hv⟩;case inr.inr.inr.inr.inr=>rw[hv];clear hv HL;go_enter Tryz.func243,Tryz.ntmps243;go_wp2_with fail;go_ret;exact⟨rfl,rfl⟩
 case inr.inr.inr.inr.inl=>
  rw[hv];clear hv;subst a;cases hl:w28 y;all_goals rw[hl]at HL;clear hl;go_enter Tryz.func243,Tryz.ntmps243;go_wp2_with(go_at_call 285;refine(HL _).out.mono ?_;rintro e w1⟨rfl,rfl⟩);go_ret;exact⟨rfl,rfl⟩
 all_goals rw[hv];clear hv HL;subst a;go_enter Tryz.func243,Tryz.ntmps243;go_wp2_with fail;go_ret;exact⟨rfl,rfl⟩
theorem j154(k:Nat)(hk:k≤9)(w:World):Calls Tryz.prog 251 #[.int .i64 (k:Int)] w fun e w'=>e=.returned (.int .i64 ((10^k:Nat):Int))∧w'=w:=by
 go_enter Tryz.func251,Tryz.ntmps251;go_wp2_with fail;go_loopw[3,5](fun p i wr=>wr=w∧∃j:Nat,j≤k∧i=.int .i64 (j:Int)∧p=.int .i64 ((10^j:Nat):Int))(fun _ i _=>k-(intOf i).toNat);case atStart=>exact⟨rfl,0,Nat.zero_le _,rfl,rfl⟩
 case round=>
  obtain⟨rfl,j,hj,rfl,rfl⟩:=hrel;by_cases hlt:j<k;·
   have HP:Hid (10^(j+1)=10^j*10):=Nat.pow_succ ..;have hb:10^j≤10^9:=Nat.pow_le_pow_right (by omega) (by omega);obtain⟨p,hp⟩:∃p,10^j=p:=⟨_,rfl⟩;rw[hp]at hb HP⊢;clear hp;go_wp2_with fail;go_roundw;case rel=>exact⟨by first|trivial|rfl,j+1,by omega,by go_num,by rw[HP.out];go_num⟩
   case measure=>simp[intOf];omega
  ·obtain rfl:j=k:=by omega
   go_wp2_with fail;go_ret;exact⟨rfl,rfl⟩
end Go.Proofs.YtkkomffmnafjkaaGreatDoor
