/- Plain: what may be told, for the laws of heads and seeds. Plain: what is told makes a body; an answer is one, wherever the request lies. Contracts of the .. -/
import Derived.Test.YtbphndihjdiiiaaGreatDoorZI20
import Derived.Test.YtbphndihjdiiiaaGreatDoorZB11
import Derived.Test.YtbphndihjdiiiaaGreatDoorZD1
import Derived.IntWalk
import Derived.Test.YtbphndihjdiiiaaGreatDoorZM1
import Derived.Test.YtbphndihjdiiiaaGreatDoorZF0
import Derived.Test.YtbphndihjdiiiaaGreatDoorZI14
import Derived.Test.YtbphndihjdiiiaaGreatDoorZO2
import Derived.Deep.RegionHeld3
import Derived.Test.YtbphndihjdiiiaaGreatDoorZL2
set_option maxHeartbeats 16000000
set_option maxRecDepth 100000
set_option linter.unusedVariables false
set_option linter.unusedSimpArgs false
namespace Go.Proofs.YtbphndihjdiiiaaGreatDoor
open Go.RowKit
def AnsP(r:ReqL)(m:MetaL)(o cs seed:Int)(a:AnsL):Prop:=if o=3 then a=⟨304,fieldsL m,[],0⟩else if o=4 then a=⟨412,fieldsL m,[],0⟩else if countB r m o cs=true then∃O,Folded 0 (resL m.hv r.L) O∧a=rangedA m (O.map Prod.fst) seed else a=wholeA m r.hd
theorem shape_told{r:ReqL}{m:MetaL}{o cs seed:Int}{w w':World}{e:Ending}(h:ShapePost r m o cs seed w e w'):∃a,AnsP r m o cs seed a∧RetAns a w e w':=by
 unfold ShapePost at h;unfold AnsP;by_cases h3:o=3;·rw[if_pos h3]at h;exact⟨_,by rw[if_pos h3],h⟩
 ·rw[if_neg h3]at h;by_cases h4:o=4;·rw[if_pos h4]at h;exact⟨_,by rw[if_neg h3,if_pos h4],h⟩
  ·rw[if_neg h4]at h;by_cases hc:countB r m o cs=true;·rw[if_pos hc]at h;obtain⟨O,hO,h⟩:=h;exact⟨_,by rw[if_neg h3,if_neg h4,if_pos hc];exact⟨O,hO,rfl⟩,h⟩
   ·rw[if_neg hc]at h;exact⟨_,by rw[if_neg h3,if_neg h4,if_neg hc],h⟩
theorem rangedA_len(m:MetaL)(O:List (Int×Int))(seed:Int)(h:O.length≤70):(rangedA m O seed).fs.length≤11∧(rangedA m O seed).ps.length≤141:=by have hf:=fieldsL_len m;match O,h with|[],_=>exact⟨by simp only[rangedA,List.length_append,List.length_cons,List.length_nil];omega,by simp[rangedA]⟩|[s],_=>exact⟨by simp only[rangedA,List.length_append,List.length_cons,List.length_nil];omega,by simp[rangedA]⟩|s::t::r,h=>exact⟨by simp only[rangedA,List.length_append,List.length_cons,List.length_nil];omega,by simp only[rangedA,partsL_len];omega⟩
theorem AnsP.len{r:ReqL}{m:MetaL}{o cs seed:Int}{a:AnsL}(h:AnsP r m o cs seed a)(hl:r.L.length≤70):a.fs.length≤1000∧a.ps.length≤1000:=by
 have hf:=fieldsL_len m;unfold AnsP at h;split at h;·subst h;exact⟨by simp only;omega,by simp⟩
 ·split at h;·subst h;exact⟨by simp only;omega,by simp⟩
  ·split at h;·
    obtain⟨O,hO,rfl⟩:=h;have h1:(O.map Prod.fst).length≤70:=by have h2:=hO.few;have h3:=resL_length m.hv r.L;rw[List.length_map];omega
    have h4:=rangedA_len m _ seed h1;omega
   ·subst h;refine⟨by simp only[wholeA];omega,?_⟩;simp only[wholeA];split<;>simp
theorem rangedA_st(m:MetaL)(O:List (Int×Int))(seed:Int):(rangedA m O seed).st=416∧(rangedA m O seed).ps=[]∧(rangedA m O seed).sz=0∨(rangedA m O seed).st=206:=by match O with|[]=>exact .inl ⟨rfl,rfl,rfl⟩|[s]=>exact .inr rfl|s::t::r=>exact .inr rfl
theorem AnsP.bare{r:ReqL}{m:MetaL}{o cs seed:Int}{a:AnsL}(h:AnsP r m o cs seed a):((a.st==304)=(o==3))∧((a.st==412)=(o==4))∧(a.st≠200→a.st≠206→a.ps=[]∧a.sz=0):=by
 unfold AnsP at h;split at h;·rename_i h3;subst h;subst h3;exact⟨rfl,rfl,fun _ _=>⟨rfl,rfl⟩⟩
 ·rename_i h3;have e3:(o==3)=false:=by rw[beq_eq_false_iff_ne];exact h3
  split at h;·rename_i h4;subst h;subst h4;exact⟨rfl,rfl,fun _ _=>⟨rfl,rfl⟩⟩
  ·rename_i h4;have e4:(o==4)=false:=by rw[beq_eq_false_iff_ne];exact h4
   rw[e3,e4];split at h;·
    obtain⟨O,hO,rfl⟩:=h;rcases rangedA_st m (O.map Prod.fst) seed with⟨h1,h2,h3⟩|h1;·rw[h1];exact⟨rfl,rfl,fun _ _=>⟨h2,h3⟩⟩
    ·rw[h1];exact⟨rfl,rfl,fun _ h=>absurd rfl h⟩
   ·subst h;exact⟨rfl,rfl,fun h=>absurd rfl h⟩
theorem AnsP.head{r:ReqL}{m:MetaL}{o cs seed:Int}{a:AnsL}(hh:r.hd=true)(h:AnsP r m o cs seed a):a.ps=[]∧(o≤2→a.st=200∧a.sz=m.len):=by
 have hc:countB r m o cs=false:=by unfold countB;rw[hh];simp
 unfold AnsP at h;rw[hc,if_neg (by simp:¬false=true)]at h;split at h;·subst h;exact⟨rfl,fun _=>by omega⟩
 ·split at h;·subst h;exact⟨rfl,fun _=>by omega⟩
  ·subst h;exact⟨by simp[wholeA,hh],fun _=>⟨rfl,rfl⟩⟩
theorem okS_low{x:Int×Int}(h:0≤x.1∧x.1<x.2∧x.2≤1099511627776):okS x=true:=(okS_iff _).2 ⟨by omega,by omega,by omega⟩
theorem bodyF(total:Int)(kd bd:List UInt8){R:List PartL}(hR:BodyOk R):∀(f:Bool)(S:List (Int×Int)),(∀s∈S,0≤s.1∧s.1<s.2∧s.2≤1099511627776)→BodyOk (partsF total kd bd f S++R)
 |_,[],_=>hR
 |f,x::r,h=>by
  have hx:=h x (by simp);have hr:=bodyF total kd bd hR false r fun s hs=>h s (by simp[hs]);have hne:(if f=true then[]else[13,10])++headT x total kd bd≠[]:=by intro e;have:=List.append_eq_nil_iff.1 e;have h2:=this.2;unfold headT at h2;simp at h2
  rw[partsF,List.cons_append,List.cons_append];refine⟨.inl ⟨hne,rfl⟩,fun _=>?_,.inr ⟨rfl,okS_low hx,hx.2.1⟩,fun _=>?_,hr⟩;·unfold openP;rw[List.isEmpty_eq_false_iff.2 hne];rfl
  ·unfold openP;rw[decide_eq_false (by simp only;omega)];rfl
theorem bodyL(total:Int)(kd bd:List UInt8){S:List (Int×Int)}(h:∀s∈S,0≤s.1∧s.1<s.2∧s.2≤1099511627776):BodyOk (partsL S total kd bd):=by
 unfold partsL;refine bodyF total kd bd ?_ true S h;have hne:endT bd≠[]:=by unfold endT;simp
 exact⟨.inl ⟨hne,rfl⟩,fun h=>absurd rfl h,trivial⟩
theorem AnsP.body{r:ReqL}{m:MetaL}{o cs seed:Int}{a:AnsL}(h:AnsP r m o cs seed a)(hok:MetaOk m)(hR:allR r.L=true):BodyOk a.ps:=by
 have hhv:=hok.hv;have hln:=hok.ln;unfold AnsP at h;by_cases h3:o=3;·rw[if_pos h3]at h;rw[h];trivial
 rw[if_neg h3]at h;by_cases h4:o=4;·rw[if_pos h4]at h;rw[h];trivial
 rw[if_neg h4]at h;by_cases hc:countB r m o cs=true;·
  rw[if_pos hc]at h;obtain⟨O,hO,rfl⟩:=h;have hres:∀x∈resL m.hv r.L,0≤x.1∧x.1<x.2∧x.2≤m.hv:=fun x hx=>resL_in hhv.1 hR hx;have hin:=folded_in hres hO;generalize O.map Prod.fst=S at*;have hlow:∀s∈S,0≤s.1∧s.1<s.2∧s.2≤1099511627776:=fun s hs=>by have:=hin s hs;omega
  match S,hlow with
   |[],_=>trivial
   |[s],hlow=>have hs:=hlow s (by simp);exact⟨.inr ⟨rfl,okS_low hs,hs.2.1⟩,fun h=>absurd rfl h,trivial⟩
   |s::t::r',hlow=>exact bodyL m.len vKind (boundT seed) hlow
 ·rw[if_neg hc]at h;rw[h];unfold wholeA;simp only;split;·trivial
  ·next hn=>
    have hl0:m.len≠0:=fun e=>hn (.inr e);refine⟨.inr ⟨rfl,?_,?_⟩,fun h=>absurd rfl h,trivial⟩;·rw[okS_iff];simp only;split<;>exact⟨by omega,by omega,by omega⟩
    ·simp only;split<;>omega
theorem AnsP.move{r r':ReqL}{m:MetaL}{o cs seed:Int}{a:AnsL}(h:AnsP r m o cs seed a)(hd:r.hd=r'.hd)(hL:r.L=r'.L):AnsP r' m o cs seed a:=by unfold AnsP countB at*;rw[←hd,←hL];exact h
theorem AnsP.one{r:ReqL}{m:MetaL}{o cs seed:Int}{a b:AnsL}(hr:∀x∈resL m.hv r.L,x.1<x.2)(ha:AnsP r m o cs seed a)(hb:AnsP r m o cs seed b):a=b:=by
 unfold AnsP at ha hb;split at ha;·rename_i h3;rw[if_pos h3]at hb;exact ha.trans hb.symm
 ·rename_i h3;rw[if_neg h3]at hb;split at ha;·rename_i h4;rw[if_pos h4]at hb;exact ha.trans hb.symm
  ·rename_i h4;rw[if_neg h4]at hb;split at ha;·rename_i hc;rw[if_pos hc]at hb;obtain⟨O,hO,rfl⟩:=ha;obtain⟨O',hO',rfl⟩:=hb;have e:=hO.eq hr (by decide) hO';subst e;rfl
   ·rename_i hc;rw[if_neg hc]at hb;exact ha.trans hb.symm
theorem ex_dec{n:Int}(h0:0≤n)(h1:n<10):(⟨#[48,49,50,51,52,53,54,55,56,57]⟩:ByteArray).extract n.toNat (n+1).toNat=⟨(digN n).toArray⟩:=by
 have e:n=0∨n=1∨n=2∨n=3∨n=4∨n=5∨n=6∨n=7∨n=8∨n=9:=by omega
 rw[digN_one h0 h1];rcases e with rfl|rfl|rfl|rfl|rfl|rfl|rfl|rfl|rfl|rfl<;>decide
theorem rdigits14_any:∀(m:Nat)(n:Int)(w:World),n.toNat≤m→0≤n→n≤9223372036854775807→Calls Tryz.prog 198 #[.int .i64 n] w fun e w'=>e=.returned (.string ⟨(digN n).toArray⟩)∧Below w.heap.size w w':=by
 intro m;induction m with
  |zero=>
   intro n w hm h0 h1;obtain rfl:n=0:=by omega
   have HD:Hid (digN 0=[48]):=by simp only[Hid];rw[digN_one (by omega) (by omega)];rfl
   have kc:=fun W=>conv_one W 48 48 rfl;go_enter Tryz.func198,Tryz.ntmps198;go_wp2_with fail;go_ret;rw[HD.out];exact⟨rfl,bel_alloc (Below.refl _ _) _⟩
  |succ m ih=>
   intro n w hm h0 h1;have hmod:0≤n%10∧n%10<10:=by omega
   have hc:(48:Int)+n%10=((UInt8.ofNat (48+(n%10).toNat)).toNat:Int):=by rw[digt_toNat (by omega)];omega
   obtain⟨c,hcc⟩:∃c,UInt8.ofNat (48+(n%10).toNat)=c:=⟨_,rfl⟩;have hc':(48:Int)+n%10=(c.toNat:Int):=by rw[←hcc];exact hc
   have kc:=fun W=>conv_one W c (c.toNat:Int) rfl;have hcb:(c.toNat:Int)<256:=by have:=UInt8.toNat_lt c;omega
   by_cases h10:n<10;·
    have HD:Hid (digN n=[c]):=by simp only[Hid];rw[digN_one h0 h10,←hcc,show n%10=n from by omega]
    clear hc hcc ih;go_enter Tryz.func198,Tryz.ntmps198;go_wp2_with fail;go_ret;rw[HD.out];exact⟨rfl,bel_alloc (Below.refl _ _) _⟩
   ·have HD:Hid (digN n=digN (n/10)++[c]):=by simp only[Hid];rw[digN_more h10,hcc]
    have hdl:=digN_len' (n:=n/10) (by omega);have HI:=fun W=>Lib.hid (ih (n/10) W (by omega) (by omega) (by omega));clear hc hcc ih;go_enter Tryz.func198,Tryz.ntmps198;go_wp2_with fail;refine(HI _).out.mono ?_;rintro e w1⟨rfl,hb1⟩;have HB:=Lib.hid hb1;clear hb1 HI;go_wp2_with fail;go_ret;rw[HD.out,←cat_one];exact⟨rfl,bel_chain HB.out (bel_alloc (Below.refl _ _) _)⟩
theorem rdigits15_any:∀(m:Nat)(n:Int)(w:World),n.toNat≤m→0≤n→n≤9223372036854775807→Calls Tryz.prog 136 #[.int .i64 n] w fun e w'=>e=.returned (.string ⟨(digN n).toArray⟩)∧∃m,w'=w.drewN m:=by
 intro m;induction m with
  |zero=>
   intro n w hm h0 h1;obtain rfl:n=0:=by omega
   have HD:Hid ((⟨#[48]⟩:ByteArray)=⟨(digN 0).toArray⟩):=by simp only[Hid];rw[digN_one (by omega) (by omega)];rfl
   have hx:(⟨#[48,49,50,51,52,53,54,55,56,57]⟩:ByteArray).extract 0 1=⟨#[48]⟩:=by decide
   go_enter Tryz.func136,Tryz.ntmps136;go_wp2_with fail;go_ret;rw[←HD.out];exact⟨rfl,0,rfl⟩
  |succ m ih=>
   intro n w hm h0 h1;by_cases h10:n<10;·
    have hx:=ex_dec h0 h10;have hn1:0≤n+1:=by omega
    have hn2:n+1≤10:=by omega
    have hn3:n≤n+1:=by omega
    have hwr:IntKind.i64.wrap (n+1)=n+1:=IntWalk.i64_in _ (by omega);have hb1:(n+1).toNat≤10:=by omega
    have hb2:n.toNat≤(n+1).toNat:=by omega
    clear ih hm;generalize digN n=d at hx;go_enter Tryz.func136,Tryz.ntmps136;go_wp2_with fail;go_ret;exact⟨by first|rfl|rw[hx],0,rfl⟩
   ·have hmod:0≤n%10∧n%10<10:=by omega
    have hx:=ex_dec hmod.1 hmod.2;have HD:Hid (digN n=digN (n/10)++digN (n%10)):=by simp only[Hid];rw[digN_more h10,digN_one (n:=n%10) (by omega) (by omega)]
    have hdl:=digN_len' (n:=n/10) (by omega);have hdl2:=digN_len' (n:=n%10) (by omega);have hc1:=catE (a:=digN (n/10)) (b:=digN (n%10)) (by omega);have HI:=fun W=>Lib.hid (ih (n/10) W (by omega) (by omega) (by omega));have hq1:0≤n%10+1:=by omega
    have hq2:n%10+1≤10:=by omega
    have hq3:n%10≤n%10+1:=by omega
    have hq0:=hmod.1;have hwr:IntKind.i64.wrap (n%10+1)=n%10+1:=IntWalk.i64_in _ (by omega);have hb1:(n%10+1).toNat≤10:=by omega
    have hb2:(n%10).toNat≤(n%10+1).toNat:=by omega
    clear ih hdl hdl2 hm hmod;generalize digN (n%10)=d2 at HD hc1 hx;generalize digN (n/10)=d1 at HI HD hc1;go_enter Tryz.func136,Tryz.ntmps136;go_wp2_with fail;go_quiet((go_at_call 136;exact Calls.quiet_of (HI _).out));go_wp2_with fail;go_ret;rw[HD.out];exact⟨rfl,_,rfl⟩
theorem rdigits11_any:∀(m:Nat)(n:Int)(w:World),n.toNat≤m→0≤n→n≤9223372036854775807→Calls Tryz.prog 202 #[.int .i64 n] w fun e w'=>e=.returned (.string ⟨(digN n).toArray⟩)∧∃m,w'=w.drewN m:=by
 intro m;induction m with
  |zero=>
   intro n w hm h0 h1;obtain rfl:n=0:=by omega
   have HD:Hid ((⟨#[48]⟩:ByteArray)=⟨(digN 0).toArray⟩):=by simp only[Hid];rw[digN_one (by omega) (by omega)];rfl
   have hx:(⟨#[48,49,50,51,52,53,54,55,56,57]⟩:ByteArray).extract 0 1=⟨#[48]⟩:=by decide
   go_enter Tryz.func202,Tryz.ntmps202;go_wp2_with fail;go_ret;rw[←HD.out];exact⟨rfl,0,rfl⟩
  |succ m ih=>
   intro n w hm h0 h1;by_cases h10:n<10;·
    have hx:=ex_dec h0 h10;have hn1:0≤n+1:=by omega
    have hn2:n+1≤10:=by omega
    have hn3:n≤n+1:=by omega
    have hwr:IntKind.i64.wrap (n+1)=n+1:=IntWalk.i64_in _ (by omega);have hb1:(n+1).toNat≤10:=by omega
    have hb2:n.toNat≤(n+1).toNat:=by omega
    clear ih hm;generalize digN n=d at hx;go_enter Tryz.func202,Tryz.ntmps202;go_wp2_with fail;go_ret;exact⟨by first|rfl|rw[hx],0,rfl⟩
   ·have hmod:0≤n%10∧n%10<10:=by omega
    have hx:=ex_dec hmod.1 hmod.2;have HD:Hid (digN n=digN (n/10)++digN (n%10)):=by simp only[Hid];rw[digN_more h10,digN_one (n:=n%10) (by omega) (by omega)]
    have hdl:=digN_len' (n:=n/10) (by omega);have hdl2:=digN_len' (n:=n%10) (by omega);have hc1:=catE (a:=digN (n/10)) (b:=digN (n%10)) (by omega);have HI:=fun W=>Lib.hid (ih (n/10) W (by omega) (by omega) (by omega));have hq1:0≤n%10+1:=by omega
    have hq2:n%10+1≤10:=by omega
    have hq3:n%10≤n%10+1:=by omega
    have hq0:=hmod.1;have hwr:IntKind.i64.wrap (n%10+1)=n%10+1:=IntWalk.i64_in _ (by omega);have hb1:(n%10+1).toNat≤10:=by omega
    have hb2:(n%10).toNat≤(n%10+1).toNat:=by omega
    clear ih hdl hdl2 hm hmod;generalize digN (n%10)=d2 at HD hc1 hx;generalize digN (n/10)=d1 at HI HD hc1;go_enter Tryz.func202,Tryz.ntmps202;go_wp2_with fail;go_quiet((go_at_call 202;exact Calls.quiet_of (HI _).out));go_wp2_with fail;go_ret;rw[HD.out];exact⟨rfl,_,rfl⟩
theorem rcontent_any(f t total:Int)(w:World)(hfw:f≤9223372036854775807)(htw:t≤9223372036854775807):Calls Tryz.prog 137 #[.agg #[.int .i64 f,.int .i64 t],.int .i64 total] w fun e w'=>e=.returned (.string ⟨(contT (f,t) total).toArray⟩)∧Below w.heap.size w w':=by
 have HR:=fun W=>Lib.hid (rright_any f t W);by_cases h0:okS (f,t)=false;·have HV:Hid (contT (f,t) total=[]):=contT_no (by unfold contOk;rw[h0];rfl);rw[h0]at HR;clear h0;go_enter Tryz.func137,Tryz.ntmps137;go_wp2_with(go_at_call 102;refine(HR _).out.mono ?_;rintro e w1⟨rfl,n1,rfl⟩);go_ret;rw[HV.out];exact⟨rfl,by(repeat(first|exact Below.refl _ _|refine bel_drewN ?_ _|refine bel_drew ?_|refine bel_alloc ?_ _|refine bel_set ?_ (by simp) _))⟩
 have h0t:okS (f,t)=true:=by revert h0;cases okS (f,t)<;>simp
 clear h0;rw[h0t]at HR;obtain⟨r1,r2,r3⟩:=(okS_iff (f,t)).1 h0t;simp only at r1 r2 r3;by_cases h1:f=t;·have HV:Hid (contT (f,t) total=[]):=contT_no (by unfold contOk;rw[decide_eq_true h1];simp);clear h0t;subst h1;go_enter Tryz.func137,Tryz.ntmps137;go_wp2_with(go_at_call 102;refine(HR _).out.mono ?_;rintro e w1⟨rfl,n1,rfl⟩);go_ret;rw[HV.out];exact⟨rfl,by(repeat(first|exact Below.refl _ _|refine bel_drewN ?_ _|refine bel_drew ?_|refine bel_alloc ?_ _|refine bel_set ?_ (by simp) _))⟩
 have h1l:¬t≤f:=by omega
 by_cases h2:t=4611686018427387904;·have HV:Hid (contT (f,t) total=[]):=contT_no (by unfold contOk;rw[decide_eq_true h2];simp);clear h0t;subst h2;go_enter Tryz.func137,Tryz.ntmps137;go_wp2_with(go_at_call 102;refine(HR _).out.mono ?_;rintro e w1⟨rfl,n1,rfl⟩);go_ret;rw[HV.out];exact⟨rfl,by(repeat(first|exact Below.refl _ _|refine bel_drewN ?_ _|refine bel_drew ?_|refine bel_alloc ?_ _|refine bel_set ?_ (by simp) _))⟩
 have h2l:¬(4611686018427387904:Int)≤t:=by omega
 by_cases h3:total< -1;·have HV:Hid (contT (f,t) total=[]):=contT_no (by unfold contOk;rw[decide_eq_false (show¬-1≤total by omega)];simp);clear h0t;go_enter Tryz.func137,Tryz.ntmps137;go_wp2_with(go_at_call 102;refine(HR _).out.mono ?_;rintro e w1⟨rfl,n1,rfl⟩);go_ret;rw[HV.out];exact⟨rfl,by(repeat(first|exact Below.refl _ _|refine bel_drewN ?_ _|refine bel_drew ?_|refine bel_alloc ?_ _|refine bel_set ?_ (by simp) _))⟩
 by_cases h4:(4611686018427387904:Int)≤total;·have HV:Hid (contT (f,t) total=[]):=contT_no (by unfold contOk;rw[decide_eq_false (show¬total≤4611686018427387903 by omega)];simp);clear h0t;go_enter Tryz.func137,Tryz.ntmps137;go_wp2_with(go_at_call 102;refine(HR _).out.mono ?_;rintro e w1⟨rfl,n1,rfl⟩);go_ret;rw[HV.out];exact⟨rfl,by(repeat(first|exact Below.refl _ _|refine bel_drewN ?_ _|refine bel_drew ?_|refine bel_alloc ?_ _|refine bel_set ?_ (by simp) _))⟩
 by_cases h6:0≤total∧total<t;·obtain⟨h6,h7⟩:=h6;have HV:Hid (contT (f,t) total=[]):=contT_no (by unfold contOk;rw[decide_eq_false (show¬total=-1 by omega),decide_eq_false (show¬t≤total by omega)];simp);clear h0t;go_enter Tryz.func137,Tryz.ntmps137;go_wp2_with(go_at_call 102;refine(HR _).out.mono ?_;rintro e w1⟨rfl,n1,rfl⟩);go_ret;rw[HV.out];exact⟨rfl,by(repeat(first|exact Below.refl _ _|refine bel_drewN ?_ _|refine bel_drew ?_|refine bel_alloc ?_ _|refine bel_set ?_ (by simp) _))⟩
 have F:∀(n:Int)(W:World),0≤n→n≤9223372036854775807→Calls Tryz.prog 202 #[.int .i64 n] W fun e w'=>e=.returned (.string ⟨(digN n).toArray⟩)∧∃m,w'=W.drewN m:=fun n W h0 h1=>rdigits11_any n.toNat n W (Nat.le_refl _) h0 h1;have F1:∀W,Hid (Calls Tryz.prog 202 #[.int .i64 f] W fun e w'=>e=.returned (.string ⟨(digN f).toArray⟩)∧∃m,w'=W.drewN m):=fun W=>Lib.hid (F f W r1 (by omega));have F2:∀W,Hid (Calls Tryz.prog 202 #[.int .i64 (t-1)] W fun e w'=>e=.returned (.string ⟨(digN (t-1)).toArray⟩)∧∃m,w'=W.drewN m):=fun W=>Lib.hid (F (t-1) W (by omega) (by omega));have hl1:=digN_len' (n:=f) (by omega);have hl2:=digN_len' (n:=t-1) (by omega);have hc1:=catE (a:=[98,121,116,101,115,32]) (b:=digN f) (by simp only[List.length_cons,List.length_nil];omega);have hc2:=catE (a:=[98,121,116,101,115,32]++digN f) (b:=[45]) (by simp only[List.length_append,List.length_cons,List.length_nil];omega);have hc3:=catE (a:=[98,121,116,101,115,32]++digN f++[45]) (b:=digN (t-1)) (by simp only[List.length_append,List.length_cons,List.length_nil];omega);have hc4:=catE (a:=[98,121,116,101,115,32]++digN f++[45]++digN (t-1)) (b:=[47]) (by simp only[List.length_append,List.length_cons,List.length_nil];omega);have hwr:IntKind.i64.wrap (t-1)=t-1:=IntWalk.i64_in _ (by omega);by_cases h5:total=-1;·
  subst h5;have HV:Hid (contT (f,t) (-1)=[98,121,116,101,115,32]++digN f++[45]++digN (t-1)++[47]++[42]):=by simp only[Hid];unfold contT;rw[if_pos (contOk_yes h0t h1 h2 (by omega) (by omega) (.inl rfl)),if_pos rfl];rfl
  have hc5:=catE (a:=[98,121,116,101,115,32]++digN f++[45]++digN (t-1)++[47]) (b:=[42]) (by simp only[List.length_append,List.length_cons,List.length_nil];omega);generalize[98,121,116,101,115,32]++digN f++[45]++digN (t-1)++[47]++[42]=x5 at hc5 HV;generalize[98,121,116,101,115,32]++digN f++[45]++digN (t-1)++[47]=x4 at hc4 hc5;generalize[98,121,116,101,115,32]++digN f++[45]++digN (t-1)=x3 at hc3 hc4;generalize[98,121,116,101,115,32]++digN f++[45]=x2 at hc2 hc3;generalize[98,121,116,101,115,32]++digN f=x1 at hc1 hc2;generalize digN f=d1 at F1 hc1;generalize digN (t-1)=d2 at F2 hc3;clear F hl1 hl2 h0t h6 r2 r3;go_enter Tryz.func137,Tryz.ntmps137;go_wp2_with(
   go_at_call 102;refine(HR _).out.mono ?_;rintro e w1⟨rfl,n1,hw1⟩;have HVB:Hid (w1.heap[w.heap.size]?=some (.cells #[.int .i64 f,.int .i64 t] 80 (0,0))):=by simp only[Hid];rw[←hw1];exact blk_skip (blk_new rfl)
   have HVb:Hid (Below w.heap.size w w1):=by simp only[Hid];rw[←hw1];(repeat(first|exact Below.refl _ _|refine bel_drewN ?_ _|refine bel_drew ?_|refine bel_alloc ?_ _|refine bel_set ?_ (by simp) _))
   clear hw1;have v0:=bc 0 HVB.out rfl;have v1:=bc 1 HVB.out rfl);clear HR;go_quiet((first|(go_at_call_of 202(Value.int .i64 f);exact Calls.quiet_of (F1 _).out)|(go_at_call_has 202(Value.int .i64 (t-1));exact Calls.quiet_of (F2 _).out)));go_wp2_with fail;go_ret;rw[HV.out];exact⟨rfl,by first|exact bel_drewN (bel_drewN HVb.out _) _|exact bel_drewN HVb.out _|exact HVb.out⟩
 ·have HV:Hid (contT (f,t) total=[98,121,116,101,115,32]++digN f++[45]++digN (t-1)++[47]++digN total):=by simp only[Hid];unfold contT;rw[if_pos (contOk_yes h0t h1 h2 (by omega) (by omega) (.inr (by omega))),if_neg h5];rfl
  have h50:0≤total:=by omega
  have h7:¬total<t:=by omega
  have F3:∀W,Hid (Calls Tryz.prog 202 #[.int .i64 total] W fun e w'=>e=.returned (.string ⟨(digN total).toArray⟩)∧∃m,w'=W.drewN m):=fun W=>Lib.hid (F total W (by omega) (by omega));have hl3:=digN_len' (n:=total) (by omega);have hc5:=catE (a:=[98,121,116,101,115,32]++digN f++[45]++digN (t-1)++[47]) (b:=digN total) (by simp only[List.length_append,List.length_cons,List.length_nil];omega);generalize[98,121,116,101,115,32]++digN f++[45]++digN (t-1)++[47]++digN total=x5 at hc5 HV;generalize[98,121,116,101,115,32]++digN f++[45]++digN (t-1)++[47]=x4 at hc4 hc5;generalize[98,121,116,101,115,32]++digN f++[45]++digN (t-1)=x3 at hc3 hc4;generalize[98,121,116,101,115,32]++digN f++[45]=x2 at hc2 hc3;generalize[98,121,116,101,115,32]++digN f=x1 at hc1 hc2;generalize digN f=d1 at F1 hc1;generalize digN (t-1)=d2 at F2 hc3;generalize digN total=d3 at F3 hc5;clear F hl1 hl2 hl3 h0t h6 r2 r3;go_enter Tryz.func137,Tryz.ntmps137;go_wp2_with(
   go_at_call 102;refine(HR _).out.mono ?_;rintro e w1⟨rfl,n1,hw1⟩;have HVB:Hid (w1.heap[w.heap.size]?=some (.cells #[.int .i64 f,.int .i64 t] 80 (0,0))):=by simp only[Hid];rw[←hw1];exact blk_skip (blk_new rfl)
   have HVb:Hid (Below w.heap.size w w1):=by simp only[Hid];rw[←hw1];(repeat(first|exact Below.refl _ _|refine bel_drewN ?_ _|refine bel_drew ?_|refine bel_alloc ?_ _|refine bel_set ?_ (by simp) _))
   clear hw1;have v0:=bc 0 HVB.out rfl;have v1:=bc 1 HVB.out rfl);clear HR;go_quiet((first|(go_at_call_of 202(Value.int .i64 f);exact Calls.quiet_of (F1 _).out)|(go_at_call_has 202(Value.int .i64 (t-1));exact Calls.quiet_of (F2 _).out)));go_wp2_with(go_at_call 202;refine(F3 _).out.mono ?_;rintro e w4⟨rfl,m4,rfl⟩);go_ret;rw[HV.out];exact⟨rfl,by first|exact bel_drewN (bel_drewN HVb.out _) _|exact bel_drewN HVb.out _|exact HVb.out⟩
theorem rfields14_any(m:MetaL)(A:Option Addr)(c:Nat)(w:World)(hks:SpG encT 1 w A c m.keys)(hok:MetaOk m):Calls Tryz.prog 131 #[metaV m A c,.int .i64 0] w (FieldsPost m w):=by
 have HRT:=fun W(hW:SpG encT 1 W A c m.keys)=>Lib.hid (rright14_yes m A c W hW hok);have HCO:=fun W=>Lib.hid (rctlOf_any m A c W hok.fr hok.wh hok.er);have HCT:=fun W=>Lib.hid (rctlText_any m.fresh (offN m.wh) (offN m.er) (!m.keep) W hok.fr (by have:=hok.wh;unfold offN;split<;>omega) (by have:=hok.er;unfold offN;split<;>omega));rw[rule_ctl m ⟨hok.fr.1,hok.wh.1,hok.er.1⟩]at HCT;obtain⟨ct,hct⟩:∃ct,ctlT m=ct:=⟨_,rfl⟩;rw[hct]at HCT;have HF:Hid (fieldsL m=(if tag0 m=true then[]else[(nETag,tagT m.tag m.weak)])++(if m.mo=-1 then[]else[(nMod,dateT m.mo)])++[(nCtl,ct)]++[(nAge,[48])]++(if m.keys=[]then[]else[(nKey,joinB [32] m.keys)])++(if m.ten=[]then[]else[(nTen,m.ten)])++(if m.len=-1 then[(nLen,[42]),(nHave,digN m.hv)]else[(nLen,digN m.len)])):=by simp only[Hid];rw[←hct];rfl
 obtain⟨L1,K1⟩:∃L,Hid (L=if tag0 m=true then[]else[(nETag,tagT m.tag m.weak)]):=⟨_,Lib.hid rfl⟩;obtain⟨L2,K2⟩:∃L,Hid (L=L1++if m.mo=-1 then[]else[(nMod,dateT m.mo)]):=⟨_,Lib.hid rfl⟩;obtain⟨L3,K3⟩:∃L,Hid (L=L2++[(nCtl,ct)]):=⟨_,Lib.hid rfl⟩;obtain⟨L4,K4⟩:∃L,Hid (L=L3++[(nAge,[48])]):=⟨_,Lib.hid rfl⟩;obtain⟨L5,K5⟩:∃L,Hid (L=L4++if m.keys=[]then[]else[(nKey,joinB [32] m.keys)]):=⟨_,Lib.hid rfl⟩;obtain⟨L6,K6⟩:∃L,Hid (L=L5++if m.ten=[]then[]else[(nTen,m.ten)]):=⟨_,Lib.hid rfl⟩;obtain⟨L7,K7⟩:∃L,Hid (L=L6++if m.len=-1 then[(nLen,[42]),(nHave,digN m.hv)]else[(nLen,digN m.len)]):=⟨_,Lib.hid rfl⟩;have N1:Hid (L1.length≤1):=by simp only[Hid];rw[K1.out];split<;>simp
 have N2:Hid (L2.length≤2):=by simp only[Hid];rw[K2.out,List.length_append];have:=N1.out;split<;>simp<;>omega
 have N3:Hid (L3.length≤3):=by simp only[Hid];rw[K3.out,List.length_append];have:=N2.out;simp;omega
 have N4:Hid (L4.length≤4):=by simp only[Hid];rw[K4.out,List.length_append];have:=N3.out;simp;omega
 have N5:Hid (L5.length≤5):=by simp only[Hid];rw[K5.out,List.length_append];have:=N4.out;split<;>simp<;>omega
 have N6:Hid (L6.length≤6):=by simp only[Hid];rw[K6.out,List.length_append];have:=N5.out;split<;>simp<;>omega
 have HL:Hid (fieldsL m=L7):=by simp only[Hid];rw[HF.out,K7.out,K6.out,K5.out,K4.out,K3.out,K2.out,K1.out]
 clear HF;have HP:Hid (∀A c k w',k=L7.length→OwnG 196 encFd 2 w' w.heap.size A c L7→Below w.heap.size w w'→FieldsPost m w (.returned (.tuple #[.slice A k c,.int .i64 0])) w'):=by simp only[Hid];intro A c k w' h1 h2 h3;rw[←HL.out]at h1 h2;exact⟨A,c,k,h1,rfl,h2,h3⟩
 obtain⟨P,hP⟩:∃P,FieldsPost m w=P:=⟨_,rfl⟩;rw[hP]at HP⊢;clear hct HL hP;have HOK:=Lib.hid hok;have HK0:=Lib.hid hks;have HN:=fun n W(h0:0≤n)(h1:n≤9223372036854775807)=>Lib.hid (rdigits14_any n.toNat n W (Nat.le_refl _) h0 h1);have HN0:∀W,Hid (Calls Tryz.prog 198 #[.int .i64 0] W fun e w'=>e=.returned (.string ⟨#[48]⟩)∧Below W.heap.size W w'):=fun W=>by have h:=(HN 0 W (Int.le_refl _) (by decide)).out;rw[digN0]at h;exact Lib.hid h
 clear hok hks;obtain⟨tg,wk,mo,ln,hv,fr,wh,er,ks,tn,kp⟩:=m;simp only at K1 K2 K5 K6 K7 HK0 HRT HCO;unfold metaV at HRT HCO⊢;simp only at HRT HCO⊢;go_enter Tryz.func131,Tryz.ntmps131;go_upto_region 4 with(go_at_call 70;refine(HRT _ (HK0.out.alloc _)).out.mono ?_;rintro e w1⟨rfl,hb1⟩);have HR:Hid (w1.heap[w.heap.size]?=some (.cells #[.string ⟨tg.toArray⟩,.bool wk,.int .i64 mo,.int .i64 ln,.int .i64 hv,.int .i64 fr,.int .i64 wh,.int .i64 er,.slice A ks.length c,.string ⟨tn.toArray⟩,.bool kp] 57 (0,0))):=blk_keep hb1 (blk_new rfl);have HB:Hid (Below w.heap.size w w1):=bel_chain hb1 (bel_alloc (Below.refl _ _) _);have HO:Hid (OwnG 196 encFd 2 w1 w.heap.size none 0 []):=OwnG.nil _ _;clear hb1 HRT;have HTN:Hid (∀W,Calls Tryz.prog 127 #[.agg #[.string ⟨tg.toArray⟩,.bool wk]] W fun e w'=>e=.returned (.bool (tag0 ⟨tg,wk,mo,ln,hv,fr,wh,er,ks,tn,kp⟩))∧Below W.heap.size W w'):=fun W=>by
  have h:=rnone_any tg wk W;have e:(tg.isEmpty&&!wk)=tag0 ⟨tg,wk,mo,ln,hv,fr,wh,er,ks,tn,kp⟩:=by unfold tag0;cases tg<;>simp
  rw[e]at h;exact h
 have r0:=bc 0 HR.out rfl;have r1:=bc 1 HR.out rfl;have r2:=bc 2 HR.out rfl;have r3:=bc 3 HR.out rfl;have r4:=bc 4 HR.out rfl;have r5:=bc 5 HR.out rfl;have r6:=bc 6 HR.out rfl;have r7:=bc 7 HR.out rfl;have r8:=bc 8 HR.out rfl;have r9:=bc 9 HR.out rfl;have r10:=bc 10 HR.out rfl;go_upto_if 25 with(go_at_call 127;refine(HTN.out _).mono ?_;rintro e wt⟨rfl,hbt⟩);have HRt:=Lib.hid (blk_keep hbt HR.out);have HOt:=Lib.hid (HO.out.below hbt);have HBt:=Lib.hid (bel_chain hbt HB.out);clear hbt HR HB HO r0 r1 r2 r3 r4 r5 r6 r7 r8 r9 r10;have HR:=Lib.hid HRt.out;have HB:=Lib.hid HBt.out;have HO:=Lib.hid HOt.out;clear HRt HBt HOt;have r0:=bc 0 HR.out rfl;have r1:=bc 1 HR.out rfl;have r2:=bc 2 HR.out rfl;have r3:=bc 3 HR.out rfl;have r4:=bc 4 HR.out rfl;have r5:=bc 5 HR.out rfl;have r6:=bc 6 HR.out rfl;have r7:=bc 7 HR.out rfl;have r8:=bc 8 HR.out rfl;have r9:=bc 9 HR.out rfl;have r10:=bc 10 HR.out rfl;have HTO:Hid (tag0 ⟨tg,wk,mo,ln,hv,fr,wh,er,ks,tn,kp⟩=false→tagOk tg=true):=by
  intro h;rcases HOK.out.tg with h1|h1;·simp only at h1;rw[h1.1,h1.2]at h;simp[tag0]at h
  ·exact h1
 obtain⟨tz,htz⟩:∃z,tag0 ⟨tg,wk,mo,ln,hv,fr,wh,er,ks,tn,kp⟩=z:=⟨_,rfl⟩;rw[htz]at HTO K1;try rw[htz]
 clear HTN htz;go_cut[6](fun s6 wx=>RowSt 196 encFd 2 w w.heap.size #[.string ⟨tg.toArray⟩,.bool wk,.int .i64 mo,.int .i64 ln,.int .i64 hv,.int .i64 fr,.int .i64 wh,.int .i64 er,.slice A ks.length c,.string ⟨tn.toArray⟩,.bool kp] 57 L1 s6 wx);case first=>
  cases tz with
   |true=>have E:L1=[]:=K1.out;go_wp2_with fail;go_meet;exact⟨⟨_,_,_,rfl,by rw[E];rfl,by rw[E];exact HO.out⟩,HR.out,HB.out⟩
   |false=>have E:L1=[([69,84,97,103],tagT tg wk)]:=K1.out;have hto:=HTO.out rfl;have HTT:=fun W=>Lib.hid (rtagText_any tg wk W (by have:=(tagOk_len hto).2;omega));rw[show tagTx tg wk=tagT tg wk from if_pos hto]at HTT;obtain⟨tt,htt⟩:∃t,tagT tg wk=t:=⟨_,rfl⟩;rw[htt]at HTT E;clear hto htt;go_wp2_with(first|(go_at_call 194;refine(HTT _).out.mono ?_;rintro e x1⟨rfl,hb1⟩;have HR1:=Lib.hid (blk_keep hb1 HR.out);have HO1:=Lib.hid (HO.out.below hb1);have HB1:=Lib.hid (bel_chain hb1 HB.out);clear hb1)|(at_builtin;go_must(refine wplG_row (w0:=w) elemFd rfl (.tmp 26) (.tmp 31) rfl none 0 0 [] rfl #[.string ⟨#[69,84,97,103]⟩,.string ⟨tt.toArray⟩] _ rfl HO1.out [([69,84,97,103],tt)] 1 rfl rfl rfl Nat.zero_lt_one 1 rfl (by decide) HB1.out ?_;intro A2 c2 w2 hown2 hbw2 hg2)));go_meet;exact⟨⟨A2,c2,1,rfl,by rw[E];rfl,by rw[E];exact hown2⟩,blk_keepG (blk_skip HR1.out) hg2 (by simp[Value.ownBlock]),hbw2⟩
 case rest=>
  obtain⟨⟨A1,c1,m1,rfl,hm1,ho1⟩,hr1,hb1⟩:=hcut;clear HR HB HO r0 r1 r2 r3 r4 r5 r6 r7 r8 r9 r10;have HR:=Lib.hid hr1;have HB:=Lib.hid hb1;have HO:=Lib.hid ho1;have M1:Hid (m1=L1.length):=hm1;clear hr1 hb1 ho1 hm1;have r0:=bc 0 HR.out rfl;have r1:=bc 1 HR.out rfl;have r2:=bc 2 HR.out rfl;have r3:=bc 3 HR.out rfl;have r4:=bc 4 HR.out rfl;have r5:=bc 5 HR.out rfl;have r6:=bc 6 HR.out rfl;have r7:=bc 7 HR.out rfl;have r8:=bc 8 HR.out rfl;have r9:=bc 9 HR.out rfl;have r10:=bc 10 HR.out rfl;clear HTO;go_upto_if 35 with fail;go_cut[6](fun s6 wx=>RowSt 196 encFd 2 w w.heap.size #[.string ⟨tg.toArray⟩,.bool wk,.int .i64 mo,.int .i64 ln,.int .i64 hv,.int .i64 fr,.int .i64 wh,.int .i64 er,.slice A ks.length c,.string ⟨tn.toArray⟩,.bool kp] 57 L2 s6 wx);case first=>
   by_cases hmo:0≤mo;·
    have E:L2=L1++[([76,97,115,116,45,77,111,100,105,102,105,101,100],dateT mo)]:=by rw[K2.out,if_neg (by omega)];rfl
    have HDT:=fun W=>Lib.hid (rdateText_any mo W hmo HOK.out.mo.2);obtain⟨tt,htt⟩:∃t,dateT mo=t:=⟨_,rfl⟩;have HDT2:∀W,Hid (Calls Tryz.prog 195 #[.int .i64 mo] W fun e w'=>e=.returned (.tuple #[.string ⟨tt.toArray⟩,.int .i64 0])∧Below W.heap.size W w'):=fun W=>by rw[←htt];exact HDT W
    rw[htt]at E;clear htt HDT;go_wp2_with(first|(go_at_call 195;refine(HDT2 _).out.mono ?_;rintro e x1⟨rfl,hb1⟩;have HR1:=Lib.hid (blk_keep hb1 HR.out);have HO1:=Lib.hid (HO.out.below hb1);have HB1:=Lib.hid (bel_chain hb1 HB.out);clear hb1)|(at_builtin;go_must(refine wplG_row (w0:=w) elemFd rfl (.tmp 42) (.tmp 45) rfl A1 c1 m1 L1 M1.out #[.string ⟨#[76,97,115,116,45,77,111,100,105,102,105,101,100]⟩,.string ⟨tt.toArray⟩] _ rfl HO1.out [([76,97,115,116,45,77,111,100,105,102,105,101,100],tt)] 1 rfl rfl rfl Nat.zero_lt_one (m1+1) rfl (by have:=M1.out;have:=N1.out;omega) HB1.out ?_;intro A2 c2 w2 hown2 hbw2 hg2)));go_meet;exact⟨⟨A2,c2,m1+1,rfl,by rw[E,List.length_append,←M1.out];rfl,by rw[E];exact hown2⟩,blk_keepG (blk_skip HR1.out) hg2 (HO1.out.ne_ty HR1.out (by decide)),hbw2⟩
   ·have E:L2=L1:=by rw[K2.out,if_pos (by have:=HOK.out.mo;simp only at this;omega),List.append_nil]
    go_wp2_with fail;go_meet;exact⟨⟨_,_,_,rfl,by rw[E];exact M1.out,by rw[E];exact HO.out⟩,HR.out,HB.out⟩
  case rest=>
   obtain⟨⟨A2,c2,m2,rfl,hm2,ho2⟩,hr2,hb2⟩:=hcut;clear HR HB HO r0 r1 r2 r3 r4 r5 r6 r7 r8 r9 r10;have HR:=Lib.hid hr2;have HB:=Lib.hid hb2;have HO:=Lib.hid ho2;have M2:Hid (m2=L2.length):=hm2;clear hr2 hb2 ho2 hm2;have r0:=bc 0 HR.out rfl;have r1:=bc 1 HR.out rfl;have r2:=bc 2 HR.out rfl;have r3:=bc 3 HR.out rfl;have r4:=bc 4 HR.out rfl;have r5:=bc 5 HR.out rfl;have r6:=bc 6 HR.out rfl;have r7:=bc 7 HR.out rfl;have r8:=bc 8 HR.out rfl;have r9:=bc 9 HR.out rfl;have r10:=bc 10 HR.out rfl;go_upto_region 10 with(first|(go_at_call 197;refine(HCO _).out.mono ?_;rintro e x1⟨rfl,hb1⟩;have HR1:=Lib.hid (blk_keep hb1 HR.out);have HO1:=Lib.hid (HO.out.below hb1);have HB1:=Lib.hid (bel_chain hb1 HB.out);clear hb1)|(go_at_call 196;refine(HCT _).out.mono ?_;rintro e x2⟨rfl,hb2⟩;have HR2:=Lib.hid (blk_keep hb2 HR1.out);have HO2:=Lib.hid (HO1.out.below hb2);have HB2:=Lib.hid (bel_chain hb2 HB1.out);clear hb2)|(at_builtin;go_must(refine wplG_row (w0:=w) elemFd rfl (.tmp 47) (.tmp 52) rfl A2 c2 m2 L2 M2.out #[.string ⟨#[67,97,99,104,101,45,67,111,110,116,114,111,108]⟩,.string ⟨ct.toArray⟩] _ rfl HO2.out [([67,97,99,104,101,45,67,111,110,116,114,111,108],ct)] 1 rfl rfl rfl Nat.zero_lt_one (m2+1) rfl (by have:=M2.out;have:=N2.out;omega) HB2.out ?_;intro A3 c3 w3 hown2 hbw2 hg2)));have M3:Hid (m2+1=L3.length):=by simp only[Hid];rw[K3.out,List.length_append,←M2.out];rfl
   have HR3:Hid (w3.heap[w.heap.size]?=some (.cells #[.string ⟨tg.toArray⟩,.bool wk,.int .i64 mo,.int .i64 ln,.int .i64 hv,.int .i64 fr,.int .i64 wh,.int .i64 er,.slice A ks.length c,.string ⟨tn.toArray⟩,.bool kp] 57 (0,0))):=blk_keepG (blk_skip HR2.out) hg2 (HO2.out.ne_ty HR2.out (by decide));have HO3:Hid (OwnG 196 encFd 2 w3 w.heap.size A3 c3 L3):=by simp only[Hid];rw[K3.out];exact hown2
   have HB3:=Lib.hid hbw2;clear hown2 hbw2 hg2 HR HB HO HR1 HO1 HB1 HR2 HO2 HB2 HCO HCT r0 r1 r2 r3 r4 r5 r6 r7 r8 r9 r10;obtain⟨m3,hm3⟩:∃k,m2+1=k:=⟨_,rfl⟩;rw[hm3]at M3;try rw[hm3]
   clear hm3;have HR:=Lib.hid HR3.out;have HB:=Lib.hid HB3.out;have HO:=Lib.hid HO3.out;clear HR3 HB3 HO3;have r0:=bc 0 HR.out rfl;have r1:=bc 1 HR.out rfl;have r2:=bc 2 HR.out rfl;have r3:=bc 3 HR.out rfl;have r4:=bc 4 HR.out rfl;have r5:=bc 5 HR.out rfl;have r6:=bc 6 HR.out rfl;have r7:=bc 7 HR.out rfl;have r8:=bc 8 HR.out rfl;have r9:=bc 9 HR.out rfl;have r10:=bc 10 HR.out rfl;go_upto_region 11 with(first|(go_at_call 198;refine(HN0 _).out.mono ?_;rintro e x1⟨rfl,hb1⟩;have HR1:=Lib.hid (blk_keep hb1 HR.out);have HO1:=Lib.hid (HO.out.below hb1);have HB1:=Lib.hid (bel_chain hb1 HB.out);clear hb1)|(at_builtin;go_must(refine wplG_row (w0:=w) elemFd rfl (.tmp 54) (.tmp 58) rfl A3 c3 m3 L3 M3.out #[.string ⟨#[65,103,101]⟩,.string ⟨#[48]⟩] _ rfl HO1.out [([65,103,101],[48])] 1 rfl rfl rfl Nat.zero_lt_one (m3+1) rfl (by have:=M3.out;have:=N3.out;omega) HB1.out ?_;intro A4 c4 w4 hown2 hbw2 hg2)));have M4:Hid (m3+1=L4.length):=by simp only[Hid];rw[K4.out,List.length_append,←M3.out];rfl
   have HR3:Hid (w4.heap[w.heap.size]?=some (.cells #[.string ⟨tg.toArray⟩,.bool wk,.int .i64 mo,.int .i64 ln,.int .i64 hv,.int .i64 fr,.int .i64 wh,.int .i64 er,.slice A ks.length c,.string ⟨tn.toArray⟩,.bool kp] 57 (0,0))):=blk_keepG (blk_skip HR1.out) hg2 (HO1.out.ne_ty HR1.out (by decide));have HO3:Hid (OwnG 196 encFd 2 w4 w.heap.size A4 c4 L4):=by simp only[Hid];rw[K4.out];exact hown2
   have HB3:=Lib.hid hbw2;clear hown2 hbw2 hg2 HR HB HO HR1 HO1 HB1 HN0 r0 r1 r2 r3 r4 r5 r6 r7 r8 r9 r10;obtain⟨m4,hm4⟩:∃k,m3+1=k:=⟨_,rfl⟩;rw[hm4]at M4;try rw[hm4]
   clear hm4;have HR:=Lib.hid HR3.out;have HB:=Lib.hid HB3.out;have HO:=Lib.hid HO3.out;clear HR3 HB3 HO3;have r0:=bc 0 HR.out rfl;have r1:=bc 1 HR.out rfl;have r2:=bc 2 HR.out rfl;have r3:=bc 3 HR.out rfl;have r4:=bc 4 HR.out rfl;have r5:=bc 5 HR.out rfl;have r6:=bc 6 HR.out rfl;have r7:=bc 7 HR.out rfl;have r8:=bc 8 HR.out rfl;have r9:=bc 9 HR.out rfl;have r10:=bc 10 HR.out rfl;have HKN:Hid (ks.length≤32):=HOK.out.kn;have HKL:=Lib.hid (join_keys HOK.out.kn HOK.out.ka);simp only at HKL;go_upto_if 63 with fail;go_cut[6](fun s6 wx=>RowSt 196 encFd 2 w w.heap.size #[.string ⟨tg.toArray⟩,.bool wk,.int .i64 mo,.int .i64 ln,.int .i64 hv,.int .i64 fr,.int .i64 wh,.int .i64 er,.slice A ks.length c,.string ⟨tn.toArray⟩,.bool kp] 57 L5 s6 wx);case first=>
    by_cases hk0:ks.length=0;·
     have E:L5=L4:=by rw[K5.out,if_pos (List.eq_nil_of_length_eq_zero hk0),List.append_nil]
     have hk0':¬(0:Int)<(ks.length:Int):=by omega
     clear hk0;go_wp2_with fail;go_meet;exact⟨⟨_,_,_,rfl,by rw[E];exact M4.out,by rw[E];exact HO.out⟩,HR.out,HB.out⟩
    ·have E:L5=L4++[([83,117,114,114,111,103,97,116,101,45,75,101,121],joinB [32] ks)]:=by rw[K5.out,if_neg (fun e=>hk0 (by rw[e];rfl))];rfl
     have hk0':(0:Int)<(ks.length:Int):=by omega
     have HS:=Lib.hid (HK0.out.below HB.out);clear hk0;go_wp2_with fail;go_loopw[9,10](fun t i wr=>wr=w4∧∃k:Nat,k≤ks.length∧i=.int .i64 (k:Int)∧t=.string ⟨(joinB [32] (ks.take k)).toArray⟩)(fun _ i _=>ks.length-(intOf i).toNat);case atStart=>exact⟨rfl,0,Nat.zero_le _,rfl,rfl⟩
     case round=>
      obtain⟨rfl,k,hk,rfl,rfl⟩:=hrel;have hkn:=HKN.out;by_cases hlt:k<ks.length;·
       obtain⟨b,off,e,hb,hc⟩:=HS.out.at' k hlt;have q0:=hc 0 _ rfl;have hJ1:=joinB_take_le [32] ks k;have hJ2:=joinB_take_le [32] ks (k+1);have hJL:=HKL.out;have HT:=Lib.hid (joinB_take (sep:=[32]) hlt);rw[HT.out]at hJ2;obtain⟨x,hx⟩:∃x,ks[k]=x:=⟨_,rfl⟩;rw[hx]at q0 HT hJ2;simp only[Nat.mul_one,Nat.add_zero]at q0;clear hc hx;subst e;by_cases hk0:k=0;·
        rw[if_pos hk0]at hJ2;have HT2:Hid (joinB [32] (ks.take (k+1))=joinB [32] (ks.take k)++x):=by simp only[Hid];rw[HT.out,if_pos hk0,hk0];rfl
        have hJ0:(joinB [32] (ks.take k)).length=0:=by rw[hk0];rfl
        have hc1:=catE (a:=joinB [32] (ks.take k)) (b:=x) (by omega);have hkp:¬(0:Int)<(k:Int):=by omega
        clear HT hJ1 hJ2 hJL hk0 hJ0;generalize joinB [32] (ks.take k)++x=x2 at hc1 HT2;generalize joinB [32] (ks.take k)=x1 at hc1;go_wp2_with fail;go_roundw;case rel=>exact⟨by first|trivial|rfl,k+1,by omega,by go_num,by rw[HT2.out]⟩
        case measure=>simp[intOf];omega
       ·rw[if_neg hk0]at hJ2;have HT2:Hid (joinB [32] (ks.take (k+1))=joinB [32] (ks.take k)++[32]++x):=by simp only[Hid];rw[HT.out,if_neg hk0,List.append_assoc]
        simp only[List.length_append,List.length_cons,List.length_nil]at hJ2;have hc1:=catE (a:=joinB [32] (ks.take k)) (b:=[32]) (by simp only[List.length_cons,List.length_nil];omega);have hc2:=catE (a:=joinB [32] (ks.take k)++[32]) (b:=x) (by simp only[List.length_append,List.length_cons,List.length_nil];omega);have hkp:(0:Int)<(k:Int):=by omega
        clear HT hJ1 hJ2 hJL hk0;generalize joinB [32] (ks.take k)++[32]++x=x3 at hc2 HT2;generalize joinB [32] (ks.take k)++[32]=x2 at hc1 hc2;generalize joinB [32] (ks.take k)=x1 at hc1;go_wp2_with fail;go_roundw;case rel=>exact⟨by first|trivial|rfl,k+1,by omega,by go_num,by rw[HT2.out]⟩
        case measure=>simp[intOf];omega
      ·have hke:k=ks.length:=by omega
       have HE:Hid (joinB [32] (ks.take k)=joinB [32] ks):=by simp only[Hid];rw[hke,List.take_length]
       obtain⟨tt,htt⟩:∃t,joinB [32] (ks.take k)=t:=⟨_,rfl⟩;rw[←HE.out,htt]at E;rw[htt];have hlt':¬(k:Int)<(ks.length:Int):=by omega
       clear hke HE htt;go_wp2_with(at_builtin;go_must(refine wplG_row (w0:=w) elemFd rfl (.tmp 82) (.tmp 85) rfl A4 c4 m4 L4 M4.out #[.string ⟨#[83,117,114,114,111,103,97,116,101,45,75,101,121]⟩,.string ⟨tt.toArray⟩] _ rfl HO.out [([83,117,114,114,111,103,97,116,101,45,75,101,121],tt)] 1 rfl rfl rfl Nat.zero_lt_one (m4+1) rfl (by have:=M4.out;have:=N4.out;omega) HB.out ?_;intro A2 c2 w2 hown2 hbw2 hg2));go_meet;exact⟨⟨A2,c2,m4+1,rfl,by rw[E,List.length_append,←M4.out];rfl,by rw[E];exact hown2⟩,blk_keepG (blk_skip HR.out) hg2 (HO.out.ne_ty HR.out (by decide)),hbw2⟩
   case rest=>
    obtain⟨⟨A5,c5,m5,rfl,hm5,ho5⟩,hr5,hb5⟩:=hcut;clear HR HB HO r0 r1 r2 r3 r4 r5 r6 r7 r8 r9 r10;have HR:=Lib.hid hr5;have HB:=Lib.hid hb5;have HO:=Lib.hid ho5;have M5:Hid (m5=L5.length):=hm5;clear hr5 hb5 ho5 hm5;have r0:=bc 0 HR.out rfl;have r1:=bc 1 HR.out rfl;have r2:=bc 2 HR.out rfl;have r3:=bc 3 HR.out rfl;have r4:=bc 4 HR.out rfl;have r5:=bc 5 HR.out rfl;have r6:=bc 6 HR.out rfl;have r7:=bc 7 HR.out rfl;have r8:=bc 8 HR.out rfl;have r9:=bc 9 HR.out rfl;have r10:=bc 10 HR.out rfl;obtain⟨nb,hnb⟩:∃b,tn.isEmpty=b:=⟨_,rfl⟩;go_upto_if 89 with fail;go_cut[6](fun s6 wx=>RowSt 196 encFd 2 w w.heap.size #[.string ⟨tg.toArray⟩,.bool wk,.int .i64 mo,.int .i64 ln,.int .i64 hv,.int .i64 fr,.int .i64 wh,.int .i64 er,.slice A ks.length c,.string ⟨tn.toArray⟩,.bool kp] 57 L6 s6 wx);case first=>
     cases nb with
      |true=>
       have ht0:tn=[]:=List.isEmpty_iff.1 hnb;have E:L6=L5:=by rw[K6.out,if_pos ht0,List.append_nil]
       clear ht0;go_wp2_with fail;go_meet;exact⟨⟨_,_,_,rfl,by rw[E];exact M5.out,by rw[E];exact HO.out⟩,HR.out,HB.out⟩
      |false=>
       have ht0:tn≠[]:=by intro hh;rw[hh]at hnb;simp at hnb
       have E:L6=L5++[([88,45,84,101,110,97,110,116],tn)]:=by rw[K6.out,if_neg ht0];rfl
       clear ht0;go_wp2_with(at_builtin;go_must(refine wplG_row (w0:=w) elemFd rfl (.tmp 90) (.tmp 94) rfl A5 c5 m5 L5 M5.out #[.string ⟨#[88,45,84,101,110,97,110,116]⟩,.string ⟨tn.toArray⟩] _ rfl HO.out [([88,45,84,101,110,97,110,116],tn)] 1 rfl rfl rfl Nat.zero_lt_one (m5+1) rfl (by have:=M5.out;have:=N5.out;omega) HB.out ?_;intro A2 c2 w2 hown2 hbw2 hg2));go_meet;exact⟨⟨A2,c2,m5+1,rfl,by rw[E,List.length_append,←M5.out];rfl,by rw[E];exact hown2⟩,blk_keepG (blk_skip HR.out) hg2 (HO.out.ne_ty HR.out (by decide)),hbw2⟩
    case rest=>
     obtain⟨⟨A6,c6,m6,rfl,hm6,ho6⟩,hr6,hb6⟩:=hcut;clear HR HB HO r0 r1 r2 r3 r4 r5 r6 r7 r8 r9 r10;have HR:=Lib.hid hr6;have HB:=Lib.hid hb6;have HO:=Lib.hid ho6;have M6:Hid (m6=L6.length):=hm6;clear hr6 hb6 ho6 hm6;have r0:=bc 0 HR.out rfl;have r1:=bc 1 HR.out rfl;have r2:=bc 2 HR.out rfl;have r3:=bc 3 HR.out rfl;have r4:=bc 4 HR.out rfl;have r5:=bc 5 HR.out rfl;have r6:=bc 6 HR.out rfl;have r7:=bc 7 HR.out rfl;have r8:=bc 8 HR.out rfl;have r9:=bc 9 HR.out rfl;have r10:=bc 10 HR.out rfl;by_cases hl0:0≤ln;·
      have E:L7=L6++[([88,45,76,101,110,103,116,104],digN ln)]:=by rw[K7.out,if_neg (by omega)];rfl
      have HD:=fun W=>HN ln W hl0 (by have:=HOK.out.ln;simp only at this;omega);obtain⟨tt,htt⟩:∃t,digN ln=t:=⟨_,rfl⟩;rw[htt]at HD E;clear htt;go_wp2_with(first|(go_at_call 198;refine(HD _).out.mono ?_;rintro e x1⟨rfl,hb1⟩;have HR1:=Lib.hid (blk_keep hb1 HR.out);have HO1:=Lib.hid (HO.out.below hb1);have HB1:=Lib.hid (bel_chain hb1 HB.out);clear hb1)|(at_builtin;go_must(refine wplG_row (w0:=w) elemFd rfl (.tmp 99) (.tmp 104) rfl A6 c6 m6 L6 M6.out #[.string ⟨#[88,45,76,101,110,103,116,104]⟩,.string ⟨tt.toArray⟩] _ rfl HO1.out [([88,45,76,101,110,103,116,104],tt)] 1 rfl rfl rfl Nat.zero_lt_one (m6+1) rfl (by have:=M6.out;have:=N6.out;omega) HB1.out ?_;intro A2 c2 w2 hown2 hbw2 hg2)));exact HP.out A2 c2 (m6+1) _ (by rw[E,List.length_append,←M6.out];rfl) (by rw[E];exact hown2) hbw2
     ·have E:L7=L6++[([88,45,76,101,110,103,116,104],[42])]++[([88,45,72,97,118,101],digN hv)]:=by rw[K7.out,if_pos (by have:=HOK.out.ln;simp only at this;omega),List.append_assoc];rfl
      have HD:=fun W=>HN hv W HOK.out.hv.1 (by have:=HOK.out.hv;simp only at this;omega);obtain⟨tt,htt⟩:∃t,digN hv=t:=⟨_,rfl⟩;try simp only at HD
      rw[htt]at HD E;clear htt;go_upto_region 25 with(at_builtin;go_must(refine wplG_row (w0:=w) elemFd rfl (.tmp 106) (.tmp 108) rfl A6 c6 m6 L6 M6.out #[.string ⟨#[88,45,76,101,110,103,116,104]⟩,.string ⟨#[42]⟩] _ rfl HO.out [([88,45,76,101,110,103,116,104],[42])] 1 rfl rfl rfl Nat.zero_lt_one (m6+1) rfl (by have:=M6.out;have:=N6.out;omega) HB.out ?_;intro A7 c7 w7 hown7 hbw7 hg7));have HR7:Hid (w7.heap[w.heap.size]?=some (.cells #[.string ⟨tg.toArray⟩,.bool wk,.int .i64 mo,.int .i64 ln,.int .i64 hv,.int .i64 fr,.int .i64 wh,.int .i64 er,.slice A ks.length c,.string ⟨tn.toArray⟩,.bool kp] 57 (0,0))):=blk_keepG (blk_skip HR.out) hg7 (HO.out.ne_ty HR.out (by decide));have HO7:=Lib.hid hown7;have HB7:=Lib.hid hbw7;have M7:Hid (m6+1=(L6++[([88,45,76,101,110,103,116,104],[42])]).length):=by simp only[Hid];rw[List.length_append,←M6.out];rfl
      have N7:Hid ((L6++[([88,45,76,101,110,103,116,104],([42]:List UInt8))]).length≤7):=by simp only[Hid];rw[List.length_append];have:=N6.out;simp;omega
      generalize L6++[([88,45,76,101,110,103,116,104],[42])]=LX at E HO7 M7 N7;clear hown7 hbw7 hg7 HR HB HO r0 r1 r2 r3 r4 r5 r6 r7 r8 r9 r10;obtain⟨m7,hm7⟩:∃k,m6+1=k:=⟨_,rfl⟩;rw[hm7]at M7;try rw[hm7]
      clear hm7;have HR:=Lib.hid HR7.out;have HB:=Lib.hid HB7.out;have HO:=Lib.hid HO7.out;clear HR7 HB7 HO7;have r3:=bc 3 HR.out rfl;have r4:=bc 4 HR.out rfl;go_wp2_with(first|(go_at_call 198;refine(HD _).out.mono ?_;rintro e x1⟨rfl,hb1⟩;have HR1:=Lib.hid (blk_keep hb1 HR.out);have HO1:=Lib.hid (HO.out.below hb1);have HB1:=Lib.hid (bel_chain hb1 HB.out);clear hb1)|(at_builtin;go_must(refine wplG_row (w0:=w) elemFd rfl (.tmp 110) (.tmp 115) rfl A7 c7 m7 LX M7.out #[.string ⟨#[88,45,72,97,118,101]⟩,.string ⟨tt.toArray⟩] _ rfl HO1.out [([88,45,72,97,118,101],tt)] 1 rfl rfl rfl Nat.zero_lt_one (m7+1) rfl (by have:=M7.out;have:=N7.out;omega) HB1.out ?_;intro A2 c2 w2 hown2 hbw2 hg2)));exact HP.out A2 c2 (m7+1) _ (by rw[E,List.length_append,←M7.out];rfl) (by rw[E];exact hown2) hbw2
end Go.Proofs.YtbphndihjdiiiaaGreatDoor
