/- Plain: what a parent's shape tells to a fetch's request. Plain: the parts of .. -/
import Derived.Test.YtkkomffmnafjkaaGreatDoorZP6
import Derived.Test.YtkkomffmnafjkaaGreatDoorZO8
import Derived.Test.YtkkomffmnafjkaaGreatDoorZI20
import Derived.Test.YtkkomffmnafjkaaGreatDoorZI4
import Derived.Test.YtkkomffmnafjkaaGreatDoorZV1
import Derived.BigQuiet
set_option maxHeartbeats 16000000
set_option maxRecDepth 100000
set_option linter.all false
namespace Go.Proofs.YtkkomffmnafjkaaGreatDoor
open Go.RowKit
structure FetL where
 fr:Int
 te:Int
 fm:List UInt8
 mw:Bool
 fn:List UInt8
 nw:Bool
def y30(t:List UInt8)(w:Bool):Bool:=decide (t=[])&&!w
structure FetL.Ok(f:FetL):Prop where
 fr:0≤f.fr∧f.fr<f.te∧f.fr<1000000000000000000
 te:f.te=4611686018427387904∨f.te≤1000000000000000000
 m:y30 f.fm f.mw=true∨j20 f.fm=true
 n:y30 f.fn f.nw=true∨j20 f.fn=true
 one:f.fm=[]∨f.fn=[]
def FetL.L(f:FetL):List (Int×Int):=if f.te=4611686018427387904 then(if 0<f.fr then[(f.fr,-1)]else[])else[(f.fr,f.te-1)]
def z14(t:List UInt8)(w:Bool):List TagL:=if y30 t w=true then[]else[(t,w)]
def FetL.out(f:FetL)(m:MetaL):Int:=chkV (chk1 (z14 f.fm f.mw) false (-1) m.mo (m.tag,m.weak)) (chk2 (z14 f.fn f.nw) false (-1) m.mo m.len (m.tag,m.weak)) (chk3 f.L.length ([],false) (m.tag,m.weak))
def FetL.want(f:FetL)(m:MetaL):Int:=if f.fm≠[]∧(f.mw=true∨f.fm≠m.tag)then 4 else if m.tag≠[]∧f.fn=m.tag then 3 else 1
theorem j195{t:List UInt8}(h:j20 t=true):t≠[]:=fun e=>by have:=(k190 h).1.1;rw[e]at this;simp at this
theorem z214{f:FetL}(h:y30 f.fm f.mw=true∨j20 f.fm=true){m:MetaL}(hm:m.weak=false):chk1 (z14 f.fm f.mw) false (-1) m.mo (m.tag,m.weak)=decide (f.fm≠[]∧(f.mw=true∨f.fm≠m.tag)):=by
 unfold chk1;by_cases h0:y30 f.fm f.mw=true;·
  have e:f.fm=[]:=by unfold y30 at h0;simp at h0;exact h0.1
  have e2:z14 f.fm f.mw=[]:=by unfold z14;rw[if_pos h0]
  rw[e2,e];simp
 ·have h2:=h.resolve_left h0;have hne:=j195 h2;unfold z14;rw[if_neg h0];simp only[List.length_cons,List.length_nil,Nat.zero_add,Nat.zero_lt_one,decide_true,Bool.true_or,if_true,Bool.not_false,Bool.true_and];unfold inT;simp only[List.any_cons,List.any_nil,Bool.or_false,oneT,if_true,k34,k38,hm,h2,Bool.not_false,Bool.and_true,Bool.true_and];by_cases e:f.fm=m.tag;·rw[←e,h2];cases f.mw<;>simp[hne]
  ·cases f.mw<;>simp[hne,e]
theorem q214{f:FetL}(h:y30 f.fn f.nw=true∨j20 f.fn=true){m:MetaL}:chk2 (z14 f.fn f.nw) false (-1) m.mo m.len (m.tag,m.weak)=decide (m.tag≠[]∧f.fn=m.tag):=by
 unfold chk2 z14;by_cases h0:y30 f.fn f.nw=true;·
  have e:f.fn=[]:=by unfold y30 at h0;simp at h0;exact h0.1
  rw[if_pos h0,e];have:¬(m.tag≠[]∧[]=m.tag):=fun h=>h.1 h.2.symm;simp[this]
 ·have h2:=h.resolve_left h0;have hne:=j195 h2;rw[if_neg h0];simp only[List.length_cons,List.length_nil,Nat.zero_add,Nat.zero_lt_one,decide_true,Bool.true_or,if_true,Bool.false_or];unfold inT;simp only[List.any_cons,List.any_nil,Bool.or_false,oneT,Bool.false_eq_true,if_false,k38,h2,Bool.true_and];by_cases e:f.fn=m.tag;·rw[←e,h2];simp[hne]
  ·simp[e]
theorem z220{f:FetL}(hf:f.Ok){m:MetaL}(hm:m.weak=false):f.out m=f.want m:=by
 unfold FetL.out FetL.want;rw[z214 hf.m hm,q214 hf.n];have h3:chk3 f.L.length ([],false) (m.tag,m.weak)=false:=by unfold chk3;simp
 rw[h3];unfold chkV;simp only[decide_eq_true_eq,Bool.false_eq_true,if_false]
theorem j214{f:FetL}(hf:f.Ok){n:Int}(hn:0≤n∧n≤1099511627776)(hL:f.L≠[]):resL n f.L=if f.fr<n then[(f.fr,min f.te n)]else[]:=by
 have h1:=hf.fr;have h2:=hf.te;unfold FetL.L at hL⊢;by_cases h:f.te=4611686018427387904;·
  rw[if_pos h]at hL⊢;by_cases h0:0<f.fr;·
   rw[if_pos h0]at hL⊢;have e:min f.te n=n:=by omega
   rw[e];unfold resL;simp only[List.map_cons,List.map_nil,w24];rw[if_neg (by omega),if_neg (by omega)];unfold hasS;by_cases hh:f.fr<n<;>simp[hh]
  ·rw[if_neg h0]at hL;exact absurd rfl hL
 ·rw[if_neg h];unfold resL;simp only[List.map_cons,List.map_nil,w24];rw[if_neg (by omega),if_pos (by omega),show f.te-1+1=f.te by omega];unfold hasS;by_cases hh:f.fr<n;·
   have:f.fr<min f.te n:=by omega
   simp[hh,this]
  ·have:¬f.fr<min f.te n:=by omega
   simp[hh,this]
theorem w205{O:List ((Int×Int)×Nat)}(h:Folded 0 [] O):O.map Prod.fst=[]:=by have:=h.few;simp at this;simp[this]
theorem w200(x:Int×Int)(hx:x.1<x.2):Folded 0 [x] [(x,0)]:=by
 refine⟨⟨fun o ho=>?_,fun i hi=>?_,fun o ho=>?_,fun o ho=>?_,fun o ho p h1 h2=>?_⟩,?_,?_⟩;·simp at ho;subst ho;simpa[inP]using hx
 ·simp at hi;have:i=0:=by omega
  subst this;simp[inP]
 ·simp at ho;subst ho;simp[inP]
 ·simp at ho;subst ho;simp[inP]
 ·simp at ho;subst ho;simp at h1 h2⊢;omega
 ·simp
 ·simp
theorem q206{x:Int×Int}(hx:x.1<x.2){O:List ((Int×Int)×Nat)}(h:Folded 0 [x] O):O.map Prod.fst=[x]:=by rw[h.eq (by simpa using hx) (by decide) (w200 x hx)];rfl
def FetL.ans(f:FetL)(m:MetaL):AnsL:=if f.want m=3 then⟨304,x21 m,[],0⟩else if f.want m=4 then⟨412,x21 m,[],0⟩else if f.L=[]then w42 m false else j24 m (if f.fr<m.hv then[(f.fr,min f.te m.hv)]else[]) 0
theorem j194(m:MetaL)(O:List (Int×Int))(h:O.length≤1)(s t:Int):j24 m O s=j24 m O t:=by match O,h with|[],_=>rfl|[x],_=>rfl
theorem fet_ans{f:FetL}(hf:f.Ok){m:MetaL}(hv:0≤m.hv∧m.hv≤1099511627776){r:ReqL}(hr:r.L=f.L∧r.hd=false){seed:Int}{a:AnsL}(h:AnsP r m (f.want m) 1 seed a):a=f.ans m:=by
 unfold AnsP at h;unfold FetL.ans;by_cases h3:f.want m=3;·rw[if_pos h3]at h⊢;exact h
 ·rw[if_neg h3]at h⊢;by_cases h4:f.want m=4;·rw[if_pos h4]at h⊢;exact h
  ·rw[if_neg h4]at h⊢;have h1:f.want m=1:=by
    unfold FetL.want at h3 h4⊢;split at h4;·exact absurd rfl h4
    ·next hc=>
      rw[if_neg hc]at h3;split at h3;·exact absurd rfl h3
      ·next hc2=>rw[if_neg hc,if_neg hc2]
   by_cases hL:f.L=[];·
    rw[if_pos hL];have hc:countB r m (f.want m) 1=false:=by unfold countB;rw[hr.1,hL];simp
    rw[hc,hr.2]at h;simpa using h
   ·rw[if_neg hL];have hlen:f.L.length≤1:=by
     unfold FetL.L;split;·split<;>simp
     ·simp
    have hsp:=j214 hf hv hL;have hcost:q46 m.hv 1 f.L=false:=by
     unfold q46;rw[decide_eq_false (by omega),Bool.false_or];rw[hsp];have:=hf.fr;split;·
      refine w193 _ _ (fun x hx=>?_) ?_;·simp at hx;subst hx;simp only;omega
      ·simp only[sumL,List.map_cons,List.map_nil,List.sum_cons,List.sum_nil];omega
     ·rfl
    have hc:countB r m (f.want m) 1=true:=by unfold countB;rw[hr.1,hr.2,hcost,h1];cases hL2:f.L with|nil=>exact absurd hL2 hL|cons x y=>rfl
    rw[if_pos hc]at h;obtain⟨O,hO,rfl⟩:=h;rw[hr.1,hsp]at hO;have:=hf.fr;split at hO;·
     next hlt=>rw[if_pos hlt,q206 (by simp only;omega) hO];exact j194 m _ (by simp) _ _
    ·next hlt=>rw[if_neg hlt,w205 hO];exact j194 m _ (by simp) _ _
theorem z204{l:List UInt8}(h:l.length=3):∃a b c,l=[a,b,c]:=by match l,h with|[a,b,c],_=>exact⟨a,b,c,rfl⟩
structure DateP(l:List UInt8)(y mo d h mi s:Int):Prop where
 len:l.length=29
 y:(l.drop 12).take 4=j90 y
 d:(l.drop 5).take 2=twoD d
 mo:(l.drop 8).take 3=x18 yearT (mo-1)
 h:(l.drop 17).take 2=twoD h
 mi:(l.drop 20).take 2=twoD mi
 s:(l.drop 23).take 2=twoD s
theorem j206{n:Int}(h0:0≤n)(h1:n≤253402300799):DateP (q42 n) (dayN (n/86400)).year (dayN (n/86400)).month (dayN (n/86400)).date (n%86400/3600) (n%86400/60%60) (n%86400%60):=by obtain⟨b1,b2,b3,b4,b5,b6,b7,b8⟩:=y125 (n:=n/86400) (by omega) (by omega);unfold q42;generalize dayN (n/86400)=D at*;obtain⟨a1,a2,a3,ha⟩:=z204 (q60 (t:=k191) b7 (by show 3*D.week+3≤((21:Nat):Int);omega));obtain⟨c1,c2,c3,hc⟩:=z204 (q60 (t:=yearT) (k:=D.month-1) (by omega) (by show 3*(D.month-1)+3≤((36:Nat):Int);omega));rw[ha,hc];refine⟨rfl,rfl,rfl,?_,rfl,rfl,rfl⟩;rw[hc];rfl
theorem name_mo{a b:Int}(ha:1≤a∧a≤12)(hb:1≤b∧b≤12)(h:x18 yearT (a-1)=x18 yearT (b-1)):a=b:=by have e:=y218 ⟨(a-1).toNat,by omega⟩ ⟨(b-1).toNat,by omega⟩ (by show x18 yearT (((a-1).toNat:Nat):Int)=x18 yearT (((b-1).toNat:Nat):Int);rw[Int.toNat_of_nonneg (by omega),Int.toNat_of_nonneg (by omega)];exact h);have:=congrArg Fin.val e;simp only at this;omega
theorem v214(l:Bool){m:Int}(h:1≤m):befM l m.toNat=befM l (m-1).toNat+w37 l m:=by obtain⟨k,hk⟩:∃k:Nat,m.toNat=k+1:=⟨m.toNat-1,by omega⟩;rw[hk,befM,show(m-1).toNat=k by omega,show((k:Int)+1)=m by omega]
theorem befM_bd(l:Bool):∀k:Nat,k≤12→0≤befM l k∧befM l k≤366:=by cases l<;>decide
theorem y209(l:List UInt8)(w:World)(hl:l.length≤1000000):Calls Tryz.prog 233 #[.string ⟨l.toArray⟩] w fun e w'=>e=.returned (.string ⟨(l.map lowC).toArray⟩)∧Below w.heap.size w w':=by
 have hsz:(⟨l.toArray⟩:ByteArray).size=l.length:=q19 l;obtain⟨s,hs⟩:∃s:ByteArray,(⟨l.toArray⟩:ByteArray)=s:=⟨_,rfl⟩;rw[hs]at hsz⊢;have hge:=grownCap_ge w s.size 0 5;obtain⟨cap,hcap⟩:∃c,grownCap w s.size 0 5=c:=⟨_,rfl⟩;rw[hcap]at hge;obtain⟨z,hz⟩:=y207 s l hs.symm cap (by omega);have hcv:(convert 9 243 (.string s)).run Tryz.prog w=.ok (.slice (some ⟨w.heap.size,0,none⟩) l.length cap) (w.drew.alloc (.cells (z16 l 0 z) 5 ((z16 l 0 z).size,(z16 l 0 z).size+1))):=by have h:=run_bytes_of_string (P:=Tryz.prog) w 9 243 5 s Tryz.underlying9 Tryz.underlying243 Tryz.underlying5;rw[hcap,hz,hsz]at h;exact h
 have hN:l.length≤(z16 l 0 z).size:=by unfold z16;simp
 obtain⟨N,hNe⟩:∃N,(z16 l 0 z).size=N:=⟨_,rfl⟩;rw[hNe]at hcv hN;have HCB:∀W:World,W.heap[w.heap.size]?=some (.cells (z16 l l.length z) 5 (N,N+1))→(convert 243 9 (.slice (some ⟨w.heap.size,0,none⟩) l.length cap)).run Tryz.prog W=.ok (.string ⟨(l.map lowC).toArray⟩) W:=fun W h=>by
  have h1:=run_convert_bytes_back (P:=Tryz.prog) W 243 9 5 ⟨w.heap.size,0,none⟩ cap (l.map lowC) Tryz.underlying243 Tryz.underlying5 Tryz.underlying9 (fun j hj=>by
   have h2:=bc j h (x211 hj);have ea:(⟨w.heap.size,0,none⟩:Addr).add j=⟨w.heap.size,j,none⟩:=by unfold Addr.add;split<;>simp_all
   rw[ea];simpa using h2);rw[List.length_map]at h1;exact h1
 clear hs hsz hge hcap hz hNe;go_enter Tryz.func233,Tryz.ntmps233;go_upto_region 2 with fail;obtain⟨W1,hW1⟩:∃W,(w.alloc (.cells (z16 l 0 z) 5 (N,N+1))).drew=W:=⟨_,rfl⟩;have HX1:Hid (W1.heap[w.heap.size]?=some (.cells (z16 l 0 z) 5 (N,N+1))):=by simp only[Hid];rw[←hW1];exact j17 rfl
 have HB1:Hid (Below w.heap.size w W1):=by simp only[Hid];rw[←hW1];exact x15 (q11 (Below.refl _ _) _)
 try rw[hW1]
 clear hW1 hcv;go_wp2_with fail;go_loopw[4,5,10](fun _ _ i wr=>∃(k:Nat),k≤l.length∧i=.int .i64 (k:Int)∧wr.heap[w.heap.size]?=some (.cells (z16 l k z) 5 (N,N+1))∧Below w.heap.size w wr)(fun _ _ i _=>l.length-(intOf i).toNat);case atStart=>exact⟨0,Nat.zero_le _,rfl,HX1.out,HB1.out⟩
 case round=>
  obtain⟨k,hk,rfl,hx,hbw⟩:=hrel;have HX:=Lib.hid hx;have HB:=Lib.hid hbw;clear hx hbw HX1 HB1;by_cases hlt:k<l.length;·
   have HST:=Lib.hid (k211 (z:=z) hlt);have HSM:Hid (lowC l[k]=l[k]→z16 l k z=z16 l (k+1) z):=x207 hlt;have c0:=j14 HX.out (w215 hlt);have cf:=k200 HX.out (i:=k) (by omega);have cz:=q14 HX.out;obtain⟨c,hc⟩:∃c,l[k]=c:=⟨_,rfl⟩;rw[hc]at HST HSM c0;have hcl:=UInt8.toNat_lt c;clear hc;by_cases h1:65≤c.toNat;·
    by_cases h2:c.toNat≤90;·
     have hv:((lowC c).toNat:Int)=(c.toNat:Int)+97-65:=by rw[w206 h1 h2];omega
     rw[hv]at HST;clear HSM hv;go_wp2_with fail;go_roundw;case rel=>exact⟨k+1,by omega,by go_num,by rw[←HST.out];exact j15 HX.out,w14 HB.out (Nat.le_refl _) _⟩
     case measure=>simp[intOf];omega
    ·have HE:=Lib.hid (HSM.out (UInt8.toNat_inj.1 (w195 (by omega))));clear HSM HST;go_wp2_with fail;go_roundw;case rel=>exact⟨k+1,by omega,by go_num,by rw[←HE.out];exact HX.out,HB.out⟩
     case measure=>simp[intOf];omega
   ·have HE:=Lib.hid (HSM.out (UInt8.toNat_inj.1 (w195 (by omega))));clear HSM HST;go_wp2_with fail;go_roundw;case rel=>exact⟨k+1,by omega,by go_num,by rw[←HE.out];exact HX.out,HB.out⟩
    case measure=>simp[intOf];omega
  ·obtain rfl:k=l.length:=by omega
   have hcb:=HCB _ HX.out;go_wp2_with fail;go_ret;exact⟨rfl,HB.out⟩
theorem k194(l:List UInt8)(n:Int)(w:World)(h:v129 0 l=some n)(hne:l≠[])(hn:n≤1099511627776)(hl:l.length≤1000000):Calls Tryz.prog 175 #[.string ⟨l.toArray⟩] w fun e w'=>e=.returned (.tuple #[.int .i64 n,.bool true])∧w'=w:=by
 have H:=Lib.hid h;have hsz:(⟨l.toArray⟩:ByteArray).size=l.length:=q19 l;have hem:(⟨l.toArray⟩:ByteArray).toList.isEmpty=false:=by rw[ByteArray.toList_eq];cases l with|nil=>exact absurd rfl hne|cons a r=>rfl
 obtain⟨s,hs0⟩:∃s:ByteArray,(⟨l.toArray⟩:ByteArray)=s:=⟨_,rfl⟩;rw[hs0]at hsz hem⊢;have HL:Hid (l=s.data.toList):=by simp only[Hid];rw[←hs0]
 have HZ:=Lib.hid hsz;have hsb:s.size≤1000000:=by omega
 clear hs0 hsz hl h hne;go_enter Tryz.func175,Tryz.ntmps175;go_wp2_with fail;go_loop[4,5,8](fun n _ i=>∃(k:Nat)(acc:Int),k≤s.size∧i=.int .i64 k∧n=.int .i64 acc∧0≤acc∧acc≤1099511627776∧v129 0 (l.take k)=some acc)(fun _ _ i=>s.size-(intOf i).toNat);case atStart=>exact⟨0,0,Nat.zero_le _,rfl,rfl,by omega,by decide,rfl⟩
 case round=>
  obtain⟨k,acc,hk,rfl,rfl,ha0,ha1,he⟩:=hrel;have HE:=Lib.hid he;clear he;by_cases hlt:k<s.size;·
   have hkl:k<l.length:=by have:=HZ.out;omega
   obtain⟨hd,hnx,hle,_⟩:=q195 hkl H.out HE.out;have hc:s[k]=l[k]:=by simp only[HL.out];rfl
   rw[←hc]at hd hnx hle;have hd2:=x192 hd;obtain⟨hd3,hd4⟩:=hd2;have hmin:min (acc*10+((s[k].toNat:Int)-48)) 1099511627776=acc*10+((s[k].toNat:Int)-48):=by omega
   have HN:=Lib.hid hnx;clear hd hnx hc;go_wp2_with fail;go_round;case rel=>exact⟨k+1,acc*10+((s[k].toNat:Int)-48),by omega,by go_num,by go_num,by omega,by omega,HN.out⟩
   case measure=>simp[intOf];omega
  ·have hT:acc=n:=by have h1:=HE.out;have:=HZ.out;rw[List.take_of_length_le (by omega),H.out]at h1;injection h1 with h1;exact h1.symm
   subst hT;go_wp2_with fail;go_ret2;exact⟨rfl,rfl⟩
theorem y191(X i:Nat)(cs:Array Value)(T:TypeId)(t:Int)(l:List UInt8)(n:Int)(w:World)(hx:w.heap[X]?=some (.cells cs T (0,0)))(hi:cs[i]?=some (.int .i64 t))(ht:-1≤t∧t≤1099511627776)(h:v129 0 l=some n)(hne:l≠[])(hn:0≤n∧n≤1099511627776)(hl:l.length≤1000000):Calls Tryz.prog 234 #[.pointer (some ⟨X,i,none⟩),.string ⟨l.toArray⟩] w fun e w'=>e=.returned (.tuple #[])∧w'.heap[X]?=some (.cells (cs.setIfInBounds i (.int .i64 (z189 t n))) T (0,0))∧Mut [X] w w':=by
 have HN:=fun W=>Lib.hid (k194 l n W h hne hn.2 hl);have HX:=Lib.hid hx;have c0:=j14 hx hi;have cf:w.frozen? ⟨X,i,none⟩=false:=q13 hx;have cz:=q14 hx;have hs:cs.setIfInBounds i (.int .i64 t)=cs:=by
  apply Array.ext_getElem?;intro j;rw[Array.getElem?_setIfInBounds];split;·next e=>subst e;split<;>simp_all
  ·rfl
 have HS:=Lib.hid hs;clear hx hi h hne hs;unfold z189;by_cases h1:t<0;·rw[if_pos (.inl h1)];go_enter Tryz.func234,Tryz.ntmps234;go_wp2_with(go_at_call 175;refine(HN _).out.mono ?_;rintro e w1⟨rfl,rfl⟩);go_end0;exact⟨rfl,j15 HX.out,(Mut.refl _ _).set (by simp) _⟩
 ·by_cases h2:n<t;·rw[if_pos (.inr h2)];go_enter Tryz.func234,Tryz.ntmps234;go_wp2_with(go_at_call 175;refine(HN _).out.mono ?_;rintro e w1⟨rfl,rfl⟩);go_end0;exact⟨rfl,j15 HX.out,(Mut.refl _ _).set (by simp) _⟩
  ·rw[if_neg (by omega),HS.out];go_enter Tryz.func234,Tryz.ntmps234;go_wp2_with(go_at_call 175;refine(HN _).out.mono ?_;rintro e w1⟨rfl,rfl⟩);go_end0;exact⟨rfl,HX.out,Mut.refl _ _⟩
theorem y47(l:List UInt8)(n:Int)(w:World)(h:v129 0 l=some n)(hn:n≤1000000)(hl:l.length≤1000000):Calls Tryz.prog 173 #[.string ⟨l.toArray⟩] w fun e w'=>e=.returned (.int .i64 n)∧w'=w:=by
 have H:=Lib.hid h;have hsz:(⟨l.toArray⟩:ByteArray).size=l.length:=q19 l;obtain⟨s,hs0⟩:∃s:ByteArray,(⟨l.toArray⟩:ByteArray)=s:=⟨_,rfl⟩;rw[hs0]at hsz⊢;have HL:Hid (l=s.data.toList):=by simp only[Hid];rw[←hs0]
 have HZ:=Lib.hid hsz;have hsb:s.size≤1000000:=by omega
 clear hs0 hsz hl h;go_enter Tryz.func173,Tryz.ntmps173;go_wp2_with fail;go_loop[3,4,7](fun n _ i=>∃(k:Nat)(acc:Int),k≤s.size∧i=.int .i64 k∧n=.int .i64 acc∧0≤acc∧acc≤1000000∧v129 0 (l.take k)=some acc)(fun _ _ i=>s.size-(intOf i).toNat);case atStart=>exact⟨0,0,Nat.zero_le _,rfl,rfl,by omega,by decide,rfl⟩
 case round=>
  obtain⟨k,acc,hk,rfl,rfl,ha0,ha1,he⟩:=hrel;have HE:=Lib.hid he;clear he;by_cases hlt:k<s.size;·
   have hkl:k<l.length:=by have:=HZ.out;omega
   obtain⟨hd,hnx,hle,_⟩:=q195 hkl H.out HE.out;have hc:s[k]=l[k]:=by simp only[HL.out];rfl
   rw[←hc]at hd hnx hle;have hd2:=x192 hd;obtain⟨hd3,hd4⟩:=hd2;have HN:=Lib.hid hnx;clear hd hnx hc;go_wp2_with fail;go_round;case rel=>exact⟨k+1,acc*10+((s[k].toNat:Int)-48),by omega,by go_num,by go_num,by omega,by omega,HN.out⟩
   case measure=>simp[intOf];omega
  ·have hT:acc=n:=by have h1:=HE.out;have:=HZ.out;rw[List.take_of_length_le (by omega),H.out]at h1;injection h1 with h1;exact h1.symm
   subst hT;go_wp2_with fail;go_ret;exact⟨rfl,rfl⟩
theorem befY_bd{y:Int}(h0:1970≤y)(h1:y≤9999):0≤befY y∧befY y≤4000000:=by unfold befY;omega
theorem q220(y mo d wk s:Int)(w:World)(hy:1970≤y∧y≤9999)(hm:1≤mo∧mo≤12)(hd:1≤d∧d≤w37 (w28 y) mo)(hs:0≤s∧s<86400):Calls Tryz.prog 174 #[.agg #[.int .i64 y,.int .i64 mo,.int .i64 d,.int .i64 wk],.int .i64 s] w fun e w'=>e=.returned (.tuple #[.int .i64 ((befY y+befM (w28 y) (mo-1).toNat+d-1)*86400+s),.int .i64 0])∧Below w.heap.size w w':=by
 have HL:=fun m W=>Lib.hid (j164 y m W (by omega) (by omega));have HA:=fun W=>Lib.hid (k153 y W hy.1 (by omega));have hby:=befY_bd hy.1 hy.2;have HBM:∀k:Int,Hid (1≤k→k≤12→0≤befM (w28 y) (k-1).toNat∧befM (w28 y) (k-1).toNat≤366):=fun k=>Lib.hid fun h1 h2=>befM_bd _ _ (by omega);have HNX:∀k:Int,Hid (1≤k→befM (w28 y) ((k+1)-1).toNat=befM (w28 y) (k-1).toNat+w37 (w28 y) k):=fun k=>Lib.hid fun h=>by rw[show k+1-1=k by omega];exact v214 _ h
 have HLB:∀k:Int,Hid (28≤w37 (w28 y) k∧w37 (w28 y) k≤31):=fun k=>Lib.hid (j108 _ k);generalize w28 y=lp at*;generalize befY y=bY at*;obtain⟨R,hR⟩:∃R,befM lp (mo-1).toNat=R:=⟨_,rfl⟩;rw[hR];have HRR:=Lib.hid hR;clear hR;obtain⟨hy0,hy1⟩:=hy;obtain⟨hm0,hm1⟩:=hm;obtain⟨hd0,hd1⟩:=hd;obtain⟨hs0,hs1⟩:=hs;have hlb:=(HLB mo).out;have q1:decide (d<1)=false:=decide_eq_false (by omega);have q2:decide (s<0)=false:=decide_eq_false (by omega);go_enter Tryz.func174,Tryz.ntmps174;go_upto_region 3 with fail;go_quiet((go_at_call 243;exact Calls.quiet_of_same (HL _ _).out));go_wp2_with(go_at_call 244;refine(HA _).out.mono ?_;rintro e w2⟨rfl,rfl⟩);go_loopw[6,7](fun ds m wr=>∃k:Int,1≤k∧k≤mo∧m=.int .i64 k∧ds=.int .i64 (bY+befM lp (k-1).toNat)∧wr.heap[w.heap.size]?=some (.cells #[.int .i64 y,.int .i64 mo,.int .i64 d,.int .i64 wk] 232 (0,0))∧Below w.heap.size w wr)(fun _ m _=>(13-intOf m).toNat);case atStart=>exact⟨1,by omega,hm0,rfl,by simp[befM],j17 rfl,q15 (q11 (Below.refl _ _) _) _⟩
 case round=>
  obtain⟨k,hk0,hk1,rfl,hds,hx,hb⟩:=hrel;have hbm:=(HBM k).out hk0 (by omega);have HNX:=Lib.hid ((HNX k).out hk0);obtain⟨B,hB⟩:∃B,befM lp (k-1).toNat=B:=⟨_,rfl⟩;rw[hB]at hds hbm HNX;have HBB:=Lib.hid hB;subst hds;clear hB HBM;have HX:=Lib.hid hx;have HB:=Lib.hid hb;have x0:=bc 0 hx rfl;have x1:=bc 1 hx rfl;have x2:=bc 2 hx rfl;have xz:=q14 hx;obtain⟨b1,b2⟩:=hbm;have hlk:=(HLB k).out;clear hx hb;by_cases hlt:k<mo;·
   go_wp2_with(go_at_call 243;refine(HL _ _).out.mono ?_;rintro e w1⟨rfl,rfl⟩);go_roundw;case rel=>exact⟨k+1,by omega,by omega,by go_num,by rw[HNX.out,←Int.add_assoc],HX.out,HB.out⟩
   case measure=>simp[intOf];omega
  ·obtain rfl:k=mo:=by omega
   go_wp2_with fail;go_ret2;have e:B=R:=HBB.out.symm.trans HRR.out;exact⟨by rw[←e];rfl,HB.out⟩
theorem x193(n:Int):(twoD n).length=2:=rfl
theorem j220(n:Int):(j90 n).length=4:=rfl
theorem q201(n:Int)(w:World)(h0:0≤n)(h1:n≤253402300799):Calls Tryz.prog 109 #[.string ⟨(q42 n).toArray⟩] w fun e w'=>e=.returned (.tuple #[.int .i64 n,.int .i64 0])∧Below w.heap.size w w':=by
 have P:=j206 h0 h1;have HTX:=fun W=>Lib.hid (x72 n W h0 h1);obtain⟨b1,b2,b3,b4,b5,b6,b7,b8⟩:=y125 (n:=n/86400) (by omega) (by omega);have hdb:=x218 (n:=n/86400) (by omega) (by omega);obtain⟨y,m,d,k,hday⟩:∃y m d k,dayN (n/86400)=⟨y,m,d,k⟩:=⟨_,_,_,_,rfl⟩;rw[hday]at P b1 b2 b3 b4 b5 b6 b7 b8 hdb;simp only at P b1 b2 b3 b4 b5 b6 b7 b8 hdb;have hs1:0≤n%86400/3600∧n%86400/3600≤23:=by omega
 have hs2:0≤n%86400/60%60∧n%86400/60%60≤59:=by omega
 have hs3:0≤n%86400%60∧n%86400%60≤59:=by omega
 have hsum:n%86400/3600*3600+n%86400/60%60*60+n%86400%60=n%86400:=by omega
 have hsec:0≤n%86400∧n%86400<86400:=by omega
 have HTK:=fun W=>Lib.hid (q220 y m d 0 (n%86400) W ⟨b1,b2⟩ ⟨b3,b4⟩ ⟨b5,hdb.2⟩ hsec);have hn:(befY y+befM (w28 y) (m-1).toNat+d-1)*86400+n%86400=n:=by rw[hdb.1];omega
 rw[hn]at HTK;generalize n%86400/3600=hh at*;generalize n%86400/60%60=mi at*;generalize n%86400%60=ss at*;generalize n%86400=sec at*;obtain⟨l,hl⟩:∃l,q42 n=l:=⟨_,rfl⟩;unfold z207 at HTX;rw[hl]at P HTX⊢;clear hl hday hdb hn b7 b8;have HY:=fun W=>Lib.hid (y47 (j90 y) y W (k218 (by omega) (by omega)) (by omega) (by rw[j220];omega));have HD:=fun W=>Lib.hid (y47 (twoD d) d W (z191 (by omega) (by omega)) (by omega) (by rw[x193];omega));have HH:=fun W=>Lib.hid (y47 (twoD hh) hh W (z191 (by omega) (by omega)) (by omega) (by rw[x193];omega));have HM:=fun W=>Lib.hid (y47 (twoD mi) mi W (z191 (by omega) (by omega)) (by omega) (by rw[x193];omega));have HS:=fun W=>Lib.hid (y47 (twoD ss) ss W (z191 (by omega) (by omega)) (by omega) (by rw[x193];omega));have hsz:(⟨l.toArray⟩:ByteArray).size=29:=by rw[q19,P.len]
 have x1:(⟨l.toArray⟩:ByteArray).extract 12 16=⟨(j90 y).toArray⟩:=by rw[y62,←P.y]
 have x2:(⟨l.toArray⟩:ByteArray).extract 5 7=⟨(twoD d).toArray⟩:=by rw[y62,←P.d]
 have x3:(⟨l.toArray⟩:ByteArray).extract 8 11=⟨(x18 yearT (m-1)).toArray⟩:=by rw[y62,←P.mo]
 have x4:(⟨l.toArray⟩:ByteArray).extract 17 19=⟨(twoD hh).toArray⟩:=by rw[y62,←P.h]
 have x5:(⟨l.toArray⟩:ByteArray).extract 20 22=⟨(twoD mi).toArray⟩:=by rw[y62,←P.mi]
 have x6:(⟨l.toArray⟩:ByteArray).extract 23 25=⟨(twoD ss).toArray⟩:=by rw[y62,←P.s]
 have XN:∀j:Int,Hid (1≤j→(⟨#[74,97,110,70,101,98,77,97,114,65,112,114,77,97,121,74,117,110,74,117,108,65,117,103,83,101,112,79,99,116,78,111,118,68,101,99]⟩:ByteArray).extract (3*j-3).toNat (3*j).toNat=⟨(x18 yearT (j-1)).toArray⟩):=fun j=>Lib.hid fun hj=>by
  have h:=x127 yearT (j-1) (by omega);have e1:3*(j-1)=3*j-3:=by omega
  have e2:3*(j-1)+3=3*j:=by omega
  rw[e2,e1]at h;exact h
 have XQ:∀j:Int,Hid (1≤j→j≤12→(x18 yearT (m-1)==x18 yearT (j-1))=decide (m=j)):=fun j=>Lib.hid fun h1 h2=>by
  by_cases e:m=j;·subst e;simp
  ·rw[decide_eq_false e,beq_eq_false_iff_ne];exact fun h=>e (name_mo ⟨b3,b4⟩ ⟨h1,h2⟩ h)
 obtain⟨v1,hv1⟩:∃v:ByteArray,(⟨(j90 y).toArray⟩:ByteArray)=v:=⟨_,rfl⟩;obtain⟨v2,hv2⟩:∃v:ByteArray,(⟨(twoD d).toArray⟩:ByteArray)=v:=⟨_,rfl⟩;obtain⟨v4,hv4⟩:∃v:ByteArray,(⟨(twoD hh).toArray⟩:ByteArray)=v:=⟨_,rfl⟩;obtain⟨v5,hv5⟩:∃v:ByteArray,(⟨(twoD mi).toArray⟩:ByteArray)=v:=⟨_,rfl⟩;obtain⟨v6,hv6⟩:∃v:ByteArray,(⟨(twoD ss).toArray⟩:ByteArray)=v:=⟨_,rfl⟩;rw[hv1]at x1 HY;rw[hv2]at x2 HD;rw[hv4]at x4 HH;rw[hv5]at x5 HM;rw[hv6]at x6 HS;obtain⟨s,hs⟩:∃s:ByteArray,(⟨l.toArray⟩:ByteArray)=s:=⟨_,rfl⟩;simp only[hs]at hsz x1 x2 x3 x4 x5 x6 HTX⊢;clear hv1 hv2 hv4 hv5 hv6 hs P;obtain⟨s1a,s1b⟩:=hs1;obtain⟨s2a,s2b⟩:=hs2;obtain⟨s3a,s3b⟩:=hs3;go_enter Tryz.func109,Tryz.ntmps109;go_upto_region 3 with fail;go_cut[4](fun p wx=>p=.pointer (some ⟨w.heap.size,0,none⟩)∧wx.heap[w.heap.size]?=some (.cells #[.int .i64 y,.int .i64 0,.int .i64 d,.int .i64 0] 232 (0,0))∧Below w.heap.size w wx);case first=>
  go_region_with(first|(go_at_call_of 173(Value.string v1);refine(HY _).out.mono ?_;rintro e wa⟨rfl,rfl⟩)|(go_at_call_of 173(Value.string v2);refine(HD _).out.mono ?_;rintro e wb⟨rfl,rfl⟩));all_goals go_wp2_with fail
  all_goals go_meet
  all_goals exact⟨rfl,j17 rfl,by(repeat(first|exact Below.refl _ _|refine q15 ?_ _|refine x15 ?_|refine q11 ?_ _|refine w14 ?_ (by simp) _))⟩
 case rest=>
  obtain⟨rfl,hx,hb⟩:=hcut;go_wp2_with fail;go_loopw[5](fun q wr=>∃j:Int,1≤j∧j≤13∧q=.int .i64 j∧wr.heap[w.heap.size]?=some (.cells #[.int .i64 y,.int .i64 (if m<j then m else 0),.int .i64 d,.int .i64 0] 232 (0,0))∧Below w.heap.size w wr)(fun q _=>(14-intOf q).toNat);case atStart=>exact⟨1,by omega,by omega,rfl,by rw[if_neg (by omega)];exact hx,hb⟩
  case round=>
   obtain⟨j,hj0,hj1,rfl,hxr,hbr⟩:=hrel;have HX:=Lib.hid hxr;have HB:=Lib.hid hbr;clear hxr hbr hx hb;by_cases hlt:j≤12;·
    have hxn:=(XN j).out hj0;have hxq:=(XQ j).out hj0 hlt;by_cases hmj:m=j;·
     subst hmj;rw[decide_eq_true rfl]at hxq;rw[if_neg (by omega)]at HX;have c0:=bc 1 HX.out rfl;have f0:wr.frozen? ⟨w.heap.size,1,none⟩=false:=q13 HX.out;have cz:=q14 HX.out;go_upto_region 7 with fail;go_quiet(fail);go_wp2_with fail;go_roundw;case rel=>exact⟨m+1,by omega,by omega,by go_num,by rw[if_pos (by omega)];exact j15 (j32 HX.out),w14 (q15 HB.out _) (Nat.le_refl _) _⟩
     case measure=>simp[intOf];omega
    ·rw[decide_eq_false hmj]at hxq;have hif:Hid ((if m<j then m else 0)=(if m<j+1 then m else 0)):=by
      simp only[Hid];by_cases h:m<j;·rw[if_pos h,if_pos (by omega)]
      ·rw[if_neg h,if_neg (by omega)]
     rw[hif.out]at HX;go_upto_region 7 with fail;go_quiet(fail);go_wp2_with fail;go_roundw;case rel=>exact⟨j+1,by omega,by omega,by go_num,HX.out,q15 HB.out _⟩
     case measure=>simp[intOf];omega
   ·obtain rfl:j=13:=by omega
    rw[if_pos (by omega)]at HX;have c0:=bc 0 HX.out rfl;have c1:=bc 1 HX.out rfl;have c2:=bc 2 HX.out rfl;have c3:=bc 3 HX.out rfl;have cz:=q14 HX.out;go_upto_region 9 with fail;go_quiet(first|(go_at_call_of 173(Value.string v4);exact Calls.quiet_of_same (HH _).out)|(go_at_call_of 173(Value.string v5);exact Calls.quiet_of_same (HM _).out)|(go_at_call_of 173(Value.string v6);exact Calls.quiet_of_same (HS _).out));go_wp2_with(first|(go_at_call 174;refine(HTK _).out.mono ?_;rintro e w3⟨rfl,hb3⟩)|(go_at_call 122;refine(HTX _).out.mono ?_;rintro e w4⟨rfl,hb4⟩));go_ret2;exact⟨rfl,q12 hb4 (q12 hb3 (q15 HB.out _))⟩
end Go.Proofs.YtkkomffmnafjkaaGreatDoor
