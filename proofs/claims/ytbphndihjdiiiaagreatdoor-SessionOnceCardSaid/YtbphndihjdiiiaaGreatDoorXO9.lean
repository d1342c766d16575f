/- What a method leaves that changes its own blocks in place. Contract of .. -/
import Derived.Test.YtbphndihjdiiiaaGreatDoorXF0
import Derived.Test.YtbphndihjdiiiaaGreatDoorXI20
import Derived.Laws.AppendOwnNone
import Derived.Test.YtbphndihjdiiiaaGreatDoorXB11
import Derived.Test.YtbphndihjdiiiaaGreatDoorXD1
import Derived.IntWalk
import Derived.Test.YtbphndihjdiiiaaGreatDoorXM1
import Derived.BigQuiet
import Derived.Test.YtbphndihjdiiiaaGreatDoorXI14
import Derived.Test.YtbphndihjdiiiaaGreatDoorXO2
import Derived.Deep.RegionHeld3
import Derived.Test.YtbphndihjdiiiaaGreatDoorXO5
set_option maxHeartbeats 16000000
set_option maxRecDepth 100000
set_option linter.all false
namespace Go.Proofs.YtbphndihjdiiiaaGreatDoor
open Go.RowKit
structure Mut(S:List Nat)(w w':World):Prop where
 os:w'.os=w.os
 tape:w'.tape=w.tape
 output:w'.output=w.output
 size:w.heap.size≤w'.heap.size
 blk:∀(k:Nat)(o:Obj),w.heap[k]?=some o→k∉S→w'.heap[k]?=some o
section
variable{S S':List Nat}{w w' w2:World}
theorem Mut.refl(S:List Nat)(w:World):Mut S w w:=⟨rfl,rfl,rfl,v_ _,fun _ _ h _=>h⟩
theorem Mut.of_below(h:Below w.heap.size w w'):Mut S w w':=⟨h.os,h.tape,h.output,h.size,fun _ _ hk _=>j3 h hk⟩
theorem Mut.trans(h:Mut S w w')(h2:Mut S w' w2):Mut S w w2:=⟨h2.os.trans h.os,h2.tape.trans h.tape,h2.output.trans h.output,ag_ h.size h2.size,fun k o hk hn=>h2.blk k o (h.blk k o hk hn) hn⟩
theorem Mut.trans_new(h:Mut S w w')(h2:Mut S' w' w2)(hS:∀k∈S',k∈S∨w.heap.size≤k):Mut S w w2:=⟨h2.os.trans h.os,h2.tape.trans h.tape,h2.output.trans h.output,ag_ h.size h2.size,fun k o hk hn=>h2.blk k o (h.blk k o hk hn) fun hin=>by
 rcases hS k hin with h3|h3;·exact hn h3
 ·exact absurd (q14 hk) (Nat.not_lt.2 h3)⟩
theorem Mut.mono(h:Mut S w w')(hS:∀k∈S,k∈S'):Mut S' w w':=⟨h.os,h.tape,h.output,h.size,fun k o hk hn=>h.blk k o hk fun hin=>hn (hS k hin)⟩
theorem Mut.set{p:Addr}(h:p.block∈S)(v:Value)(hm:Mut S w w'):Mut S w (w'.setCell p v):=⟨hm.os,hm.tape,hm.output,by have:=hm.size;simp[World.setCell];omega,fun k o hk hn=>w15 (fun e=>hn (by rw[e];exact h)) (hm.blk k o hk hn)⟩
theorem Mut.set_new{p:Addr}(hp:w.heap.size≤p.block)(v:Value)(hm:Mut S w w'):Mut S w (w'.setCell p v):=⟨hm.os,hm.tape,hm.output,by have:=hm.size;simp[World.setCell];omega,fun k o hk hn=>w15 (fun e=>by have:=q14 hk;omega) (hm.blk k o hk hn)⟩
theorem Mut.alloc(hm:Mut S w w')(o:Obj):Mut S w (w'.alloc o):=hm.trans (.of_below (q11 (c_ _ _) o))
theorem Mut.drew(hm:Mut S w w'):Mut S w w'.drew:=hm.trans (.of_below (x15 (c_ _ _)))
theorem Mut.drewN(hm:Mut S w w')(n:Nat):Mut S w (w'.drewN n):=hm.trans (.of_below (q15 (c_ _ _) n))
theorem Mut.below{n:Nat}(hm:Mut S w w')(hn:∀k∈S,n≤k)(hsz:n≤w.heap.size):Below n w w':=⟨hm.os,hm.tape,hm.output,hm.size,fun k hk=>by
 have hlt:k<w.heap.size:=by omega
 have h1:w.heap[k]?=some w.heap[k]:=aj_ hlt;rw[h1];exact hm.blk k _ h1 fun hin=>by have:=hn k hin;omega⟩
end
theorem k30{α:Type}{P:Program}{enc:α→List Value}{n:Nat}{T ST:TypeId}{bytes:Nat}(K:ElemK P enc n T ST bytes){ops:Array Oper}{rest:List Oper}{o:Oper}{a:Act}{Q:Exit→Act→World→Prop}{w w0:World}(hgd:o.guard=none)(s x:Operand)(ho:o.op=.call {callee:=.builtin .append,args:=#[s,x],argTypes:=#[ST,ST]})(A:Option Addr)(c:Nat)(L:List α)(hs:a.eval s=.slice A L.length c)(hown:OwnG T enc n w w0.heap.size A c L)(A2:Option Addr)(c2:Nat)(L2:List α)(hx:a.eval x=.slice A2 L2.length c2)(hsp:SpG enc n w A2 c2 L2)(hl:L.length+L2.length≤1000000)(hbel:Below w0.heap.size w0 w)(h:∀A' c' w',OwnG T enc n w' w0.heap.size A' c' (L++L2)→Below w0.heap.size w0 w'→w.grownBy w' (Value.slice A L.length c).ownBlock→wpList P ops Q rest (a.put o.dst (.slice A' (L.length+L2.length) c')) w'):wpList P ops Q (o::rest) a w:=by
 rcases bf_ L2.length with h0|h0;·
  obtain rfl:L2=[]:=n_ h0;obtain⟨i0,z,hi,hz,hsz,hby,hzs⟩:=K.info;cases hA2:A2 with
   |none=>subst hA2;have hc2:=hsp.nil_ rfl;subst hc2;refine wpList_append_own_none hgd s x _ ho w0.heap.size T i0 n K.und hi _ _ _ hs hown hx ?_;have:=h A c w (by simpa using hown) hbel (bS_ w _);simpa using this
   |some ad=>
    subst hA2;refine wpList_append_own w hgd s x _ ho w0.heap.size T i0 z n bytes K.und hi hz hsz hby hzs K.pos _ _ _ hs hown ad 0 c2 [] hx (by simp) ?_ ?_ (by simp only[maxLen];omega) ?_ hbel.size ?_;·intro j u hj;simp at hj
    ·intro u hu;simp at hu
    ·have:=K.small;have h5:L.length*bytes≤1000000*128:=bx_ (by simpa using hl) this;simp only[M_];omega
    ·intro v' w' h1 h2' h3;have hlt:=ae_ hown;have hbel':Below w0.heap.size w0 w':=hbel.grown h2' hbel.size (fun k hk=>(hlt k hk).1);rw[Y_,M_]at h1;have hform:∃A' c',v'=.slice A' L.length c':=by
      rcases h1.2 with⟨hv,hn⟩|⟨g',cap,cur,hv,_⟩;·rw[hn];exact⟨_,_,hv⟩
      ·exact⟨_,_,hv⟩
     obtain⟨A',c',rfl⟩:=hform;have:=h A' c' w' (by rw[Y_];exact h1) hbel' h2';simpa using this
 ·exact k53 K hgd s x ho A c L hs hown A2 c2 L2 hx hsp h0 hl hbel h
def q25:List w17→List (Int×Int)|[]=>[]|p::r=>(if p.1.isEmpty then[p.2]else[])++q25 r
theorem k69:∀(a b:List w17),q25 (a++b)=q25 a++q25 b|[],b=>rfl|p::r,b=>by rw[ap_,q25,q25,k69 r b,x_]
theorem x67:∀(P:List w17),(q25 P).length≤P.length
 |[]=>v_ _
 |p::r=>by have:=x67 r;rw[q25,f_,g_];split<;>simp<;>omega
theorem q123{P:List w17}{k:Nat}(hk:k<P.length):q25 (P.take (k+1))=q25 (P.take k)++(if P[k].1.isEmpty then[P[k].2]else[]):=by rw[m_ hk,k69];simp[q25]
theorem y103{α:Type}{L L':List α}{k:Nat}(h1:k<L.length)(h2:k<L'.length)(h:L.take k=L'.take k)(he:L[k]=L'[k]):L.take (k+1)=L'.take (k+1):=by rw[m_ h1,m_ h2,h,he]
theorem k130{α:Type}{L L':List α}{k:Nat}(h1:k<L.length)(h2:k<L'.length)(he:L[k]≠L'[k]):L≠L':=by rintro rfl;exact he rfl
theorem j139(A:Option Addr)(c n:Nat)(L:List j36)(A':Option Addr)(c' n':Nat)(L':List j36)(w:World)(hn:n=L.length)(hn':n'=L'.length)(h:SpG w18 2 w A c L)(h':SpG w18 2 w A' c' L')(hl:L.length≤100000)(_hl':L'.length≤100000):Calls Tryz.prog 74 #[.slice A n c,.slice A' n' c'] w fun e w'=>(∃b:Bool,e=.returned (.bool b)∧(b=true↔L=L'))∧Below w.heap.size w w':=by
 subst hn hn';have HH:=a_ h;have HH':=a_ h';clear h h';by_cases hll:L.length=L'.length;rotate_left;·
  have hbb:((L.length:Int)!=(L'.length:Int))=true:=by rw[y_];omega
  have HN:Hid (L≠L'):=fun h=>hll (by rw[h]);clear hll;go_enter Tryz.func74,Tryz.ntmps74;go_wp2_with fail;go_ret;exact⟨⟨false,rfl,(fun h=>by cases h),fun h=>absurd h HN.out⟩,c_ _ _⟩
 have hbb:((L.length:Int)!=(L'.length:Int))=false:=by rw[C_];omega
 have HLL:=a_ hll;clear hll;go_enter Tryz.func74,Tryz.ntmps74;go_wp2_with fail;clear hbb;go_loopw[5,13](fun _ i wr=>∃(k:Nat),k≤L.length∧i=.int .i64 (k:Int)∧L.take k=L'.take k∧Below w.heap.size w wr)(fun _ i _=>L.length-(intOf i).toNat);case atStart=>exact⟨0,s_ _,rfl,by simp,c_ _ _⟩
 case round=>
  obtain⟨k,hk,rfl,hin,hbw⟩:=hrel;have HI:=a_ hin;have HB:=a_ hbw;clear hin hbw;by_cases hlt:k<L.length;·
   have hlt':k<L'.length:=by have:=HLL.out;omega
   obtain⟨b,off,e,hb,hc⟩:=(HH.out.below HB.out).at' k hlt;obtain⟨b',off',e',hb',hc'⟩:=(HH'.out.below HB.out).at' k hlt';have c0:=hc 0 _ rfl;have c1:=hc 1 _ rfl;have d0:=hc' 0 _ rfl;have d1:=hc' 1 _ rfl;simp only[M_]at c0 d0;have HS:Hid (L[k]=L'[k]→L.take (k+1)=L'.take (k+1)):=y103 hlt hlt' HI.out;have HN:Hid (L[k]≠L'[k]→L≠L'):=k130 hlt hlt';obtain⟨⟨x1,x2⟩,hx⟩:∃x,L[k]=x:=⟨_,rfl⟩;obtain⟨⟨y1,y2⟩,hy⟩:∃x,L'[k]=x:=⟨_,rfl⟩;rw[hx]at c0 c1 HS HN;rw[hy]at d0 d1 HS HN;simp only at c0 c1 d0 d1;clear hx hy hc hc' HI;subst e e';by_cases e1:x1=y1;·
    subst e1;by_cases e2:x2=y2;·
     subst e2;have HF:=a_ (HS.out rfl);clear HS HN;go_wp2_with fail;go_quiet(fail);go_wp2_with fail;go_roundw;case rel=>exact⟨k+1,by omega,by go_num,HF.out,q15 HB.out _⟩
     case measure=>simp[intOf];omega
    ·have HF:=a_ (HN.out (fun h=>by injection h with _ h;exact e2 h));have b2:(x2==y2)=false:=l_.2 e2;clear HS HN e2;go_wp2_with fail;go_quiet(fail);go_wp2_with fail;go_ret;exact⟨⟨false,rfl,(fun h=>by cases h),fun h=>absurd h HF.out⟩,q15 HB.out _⟩
   ·have HF:=a_ (HN.out (fun h=>by injection h with h _;exact e1 h));have b1:(x1==y1)=false:=l_.2 e1;clear HS HN e1;go_wp2_with fail;go_quiet(fail);go_wp2_with fail;go_ret;exact⟨⟨false,rfl,(fun h=>by cases h),fun h=>absurd h HF.out⟩,q15 HB.out _⟩
  ·have hI:=HI.out;rw[t_ (by omega),t_ (by have:=HLL.out;omega)]at hI;have HV:=a_ hI;clear hI HI;go_wp2_with fail;go_ret;exact⟨⟨true,rfl,fun _=>HV.out,fun _=>rfl⟩,HB.out⟩
def x33(p:w17):w17:=if p.1.isEmpty then p else(p.1,(0,0))
def SameA(s1 z1 s2 z2:Int)(F1 F2:List j36)(P1 P2:List w17):Prop:=s1=s2∧z1=z2∧F1=F2∧P1.map x33=P2.map x33
def SameB(Q:Prop)(w:World)(e:Ending)(w':World):Prop:=(∃b:Bool,e=.returned (.bool b)∧(b=true↔Q))∧Below w.heap.size w w'
theorem w52{Q:Prop}{w w':World}(hq:¬Q)(h:Below w.heap.size w w'):SameB Q w (.returned (.bool false)) w':=⟨⟨false,rfl,(fun h=>by cases h),fun h=>absurd h hq⟩,h⟩
theorem w161{Q:Prop}{w w':World}(hq:Q)(h:Below w.heap.size w w'):SameB Q w (.returned (.bool true)) w':=⟨⟨true,rfl,fun _=>hq,fun _=>rfl⟩,h⟩
theorem y57(s1 z1 s2 z2:Int)(FA1:Option Addr)(fk1 fc1:Nat)(PA1:Option Addr)(pk1 pc1:Nat)(FA2:Option Addr)(fk2 fc2:Nat)(PA2:Option Addr)(pk2 pc2:Nat)(F1 F2:List j36)(P1 P2:List w17)(w:World)(hf1:fk1=F1.length)(hf2:fk2=F2.length)(hp1:pk1=P1.length)(hp2:pk2=P2.length)(f1:SpG w18 2 w FA1 fc1 F1)(f2:SpG w18 2 w FA2 fc2 F2)(p1:SpG j18 3 w PA1 pc1 P1)(p2:SpG j18 3 w PA2 pc2 P2)(hl1:F1.length≤1000)(hl2:F2.length≤1000)(hl3:P1.length≤1000):Calls Tryz.prog 27 #[.agg #[.int .i64 s1,.slice FA1 fk1 fc1,.slice PA1 pk1 pc1,.int .i64 z1],.agg #[.int .i64 s2,.slice FA2 fk2 fc2,.slice PA2 pk2 pc2,.int .i64 z2]] w (SameB (SameA s1 z1 s2 z2 F1 F2 P1 P2) w):=by
 subst hp1 hp2;have HF1:=a_ f1;have HF2:=a_ f2;have HP1:=a_ p1;have HP2:=a_ p2;have HS:=fun W a b=>a_ (j139 FA1 fc1 fk1 F1 FA2 fc2 fk2 F2 W hf1 hf2 a b (by omega) (by omega));clear f1 f2 p1 p2;have hsym:SameA s1 z1 s2 z2 F1 F2 P1 P2↔(s1=s2∧z1=z2∧F1=F2∧P1.map x33=P2.map x33):=Iff.rfl;have HQ:=a_ hsym;generalize SameA s1 z1 s2 z2 F1 F2 P1 P2=Q at HQ⊢;clear hsym hf1 hf2 hl1 hl2;by_cases e1:s1=s2;rotate_left;·
  have hn:=a_ (fun h:Q=>e1 (HQ.out.1 h).1);have b1:(s1 !=s2)=true:=by rw[y_];exact e1
  clear e1;go_enter Tryz.func27,Tryz.ntmps27;go_wp2_with fail;go_ret;exact w52 hn.out (by(repeat(first|exact c_ _ _|refine q15 ?_ _|refine x15 ?_|refine q11 ?_ _|refine w14 ?_ (by simp) _)))
 have b1:(s1 !=s2)=false:=by rw[C_];exact e1
 by_cases e2:z1=z2;rotate_left;·
  have hn:=a_ (fun h:Q=>e2 (HQ.out.1 h).2.1);have b2:(z1 !=z2)=true:=by rw[y_];exact e2
  clear e1 e2;go_enter Tryz.func27,Tryz.ntmps27;go_wp2_with fail;go_ret;exact w52 hn.out (by(repeat(first|exact c_ _ _|refine q15 ?_ _|refine x15 ?_|refine q11 ?_ _|refine w14 ?_ (by simp) _)))
 have b2:(z1 !=z2)=false:=by rw[C_];exact e2
 have HE:=a_ (And.intro e1 e2);clear e1 e2;go_enter Tryz.func27,Tryz.ntmps27;go_wp2_with fail;obtain⟨W0,hW0⟩:∃W0,(w.alloc (.cells #[.int .i64 s1,.slice FA1 fk1 fc1,.slice PA1 P1.length pc1,.int .i64 z1] 69)).alloc (.cells #[.int .i64 s2,.slice FA2 fk2 fc2,.slice PA2 P2.length pc2,.int .i64 z2] 69)=W0:=⟨_,rfl⟩;have HX0:Hid (W0.heap[w.heap.size]?=some (.cells #[.int .i64 s1,.slice FA1 fk1 fc1,.slice PA1 P1.length pc1,.int .i64 z1] 69 (0,0))):=by rw[←hW0];exact j16 (j17 rfl)
 have HY0:Hid (W0.heap[w.heap.size+1]?=some (.cells #[.int .i64 s2,.slice FA2 fk2 fc2,.slice PA2 P2.length pc2,.int .i64 z2] 69 (0,0))):=by rw[←hW0];exact j17 (by simp)
 have HB0:Hid (Below w.heap.size w W0):=by simp only[Hid];rw[←hW0];(repeat(first|exact c_ _ _|refine q15 ?_ _|refine x15 ?_|refine q11 ?_ _|refine w14 ?_ (by simp) _))
 rw[hW0];clear hW0;refine(HS _ (HF1.out.below HB0.out) (HF2.out.below HB0.out)).out.mono ?_;rintro e w1⟨⟨fb,rfl,hfb⟩,hb1⟩;have HFB:=a_ hfb;have HX:=a_ (j3 hb1 HX0.out);have HY:=a_ (j3 hb1 HY0.out);have HB:=a_ (q12 hb1 HB0.out);clear hfb hb1 HX0 HY0 HB0 HS b1 b2;have x2:=bc 2 HX.out rfl;have y2:=bc 2 HY.out rfl;cases fb with
  |false=>
   have hn:Hid (¬Q):=fun h=>by have:=HFB.out.2 (HQ.out.1 h).2.2.1;cases this
   go_wp2_with fail;go_ret;exact w52 hn.out HB.out
  |true=>
   have HFE:=a_ (HFB.out.1 rfl);by_cases hpl:P1.length=P2.length;rotate_left;·
    have hn:Hid (¬Q):=fun h=>hpl (by have:=R_ List.length (HQ.out.1 h).2.2.2;simpa using this);have bl:((P1.length:Int)!=(P2.length:Int))=true:=by rw[y_];omega
    clear hpl;go_wp2_with fail;go_ret;exact w52 hn.out HB.out
   have bl:((P1.length:Int)!=(P2.length:Int))=false:=by rw[C_];omega
   have HPL:=a_ hpl;clear hpl;go_wp2_with fail;clear bl x2 y2;go_loopw[5,38](fun _ i wr=>∃k:Nat,k≤P1.length∧i=.int .i64 (k:Int)∧(P1.map x33).take k=(P2.map x33).take k∧Below w1.heap.size w1 wr)(fun _ i _=>P1.length-(intOf i).toNat);case atStart=>exact⟨0,s_ _,rfl,by simp,c_ _ _⟩
   case round=>
    obtain⟨k,hk,rfl,hin,hbw⟩:=hrel;have HI:=a_ hin;have HBW:=a_ hbw;have HBA:=a_ (q12 hbw HB.out);have HXr:=a_ (j3 hbw HX.out);have HYr:=a_ (j3 hbw HY.out);clear hin hbw;have x2:=bc 2 HXr.out rfl;have y2:=bc 2 HYr.out rfl;by_cases hlt:k<P1.length;·
     have hlt':k<P2.length:=by have:=HPL.out;omega
     obtain⟨b,off,e,hb,hc⟩:=(HP1.out.below HBA.out).at' k hlt;obtain⟨b',off',e',hb',hc'⟩:=(HP2.out.below HBA.out).at' k hlt';have c0:=hc 0 _ rfl;have c1:=hc 1 _ rfl;have c2:=hc 2 _ rfl;have d0:=hc' 0 _ rfl;have d1:=hc' 1 _ rfl;have d2:=hc' 2 _ rfl;simp only[M_]at c0 d0;have HST:Hid (x33 P1[k]=x33 P2[k]→(P1.map x33).take (k+1)=(P2.map x33).take (k+1)):=fun h=>y103 (by simpa using hlt) (by simpa using hlt') HI.out (by simpa using h);have HNO:Hid (x33 P1[k]≠x33 P2[k]→¬Q):=fun h hq=>k130 (L:=P1.map x33) (L':=P2.map x33) (by simpa using hlt) (by simpa using hlt') (by simpa using h) (HQ.out.1 hq).2.2.2;obtain⟨⟨t,u1,u2⟩,hx⟩:∃x,P1[k]=x:=⟨_,rfl⟩;obtain⟨⟨t',u1',u2'⟩,hy⟩:∃x,P2[k]=x:=⟨_,rfl⟩;rw[hx]at c0 c1 c2 HST HNO;rw[hy]at d0 d1 d2 HST HNO;simp only at c0 c1 c2 d0 d1 d2;clear hx hy hc hc' HI;subst e e';by_cases et:t=t';rotate_left;·
      have bt:(t==t')=false:=l_.2 et;have hne:x33 (t,u1,u2)≠x33 (t',u1',u2'):=by intro h;have:=R_ Prod.fst h;unfold x33 at this;split at this<;>split at this<;>exact et this
      clear et;have hn:=a_ (HNO.out hne);clear HST HNO;go_wp2_with fail;go_quiet(fail);go_wp2_with fail;go_ret;exact w52 hn.out (q15 HBA.out _)
     subst et;cases hte:t.isEmpty with
      |false=>
       have HF:=a_ (HST.out (by unfold x33;simp[hte]));clear HST HNO;go_wp2_with fail;go_quiet(fail);go_wp2_with fail;go_roundw;case rel=>exact⟨k+1,by omega,by go_num,HF.out,q15 HBW.out _⟩
       case measure=>simp[intOf];omega
      |true=>
       by_cases e1:u1=u1';·
        subst e1;by_cases e2:u2=u2';·
         subst e2;have HF:=a_ (HST.out rfl);clear HST HNO;go_wp2_with fail;go_quiet(fail);go_wp2_with fail;go_roundw;case rel=>exact⟨k+1,by omega,by go_num,HF.out,q15 HBW.out _⟩
         case measure=>simp[intOf];omega
        ·have b2:(u2==u2')=false:=by rw[l_];exact e2
         have hne:x33 (t,u1,u2)≠x33 (t,u1,u2'):=by intro h;unfold x33 at h;simp only[hte,if_true]at h;injection h with _ h;injection h with _ h;exact e2 h
         clear e2;have hn:=a_ (HNO.out hne);clear HST HNO;go_wp2_with fail;go_quiet(fail);go_wp2_with fail;go_ret;exact w52 hn.out (q15 HBA.out _)
       ·have b1:(u1==u1')=false:=by rw[l_];exact e1
        have hne:x33 (t,u1,u2)≠x33 (t,u1',u2'):=by intro h;unfold x33 at h;simp only[hte,if_true]at h;injection h with _ h;injection h with h _;exact e1 h
        clear e1;have hn:=a_ (HNO.out hne);clear HST HNO;go_wp2_with fail;go_quiet(fail);go_wp2_with fail;go_ret;exact w52 hn.out (q15 HBA.out _)
    ·have hI:=HI.out;rw[t_ (by simp;omega),t_ (by have:=HPL.out;simp;omega)]at hI;have HV:=a_ (HQ.out.2 ⟨HE.out.1,HE.out.2,HFE.out,hI⟩);clear hI HI;go_wp2_with fail;go_ret;exact w161 HV.out HBA.out
def AnsP(r:ReqL)(m:MetaL)(o cs seed:Int)(a:AnsL):Prop:=if o=3 then a=⟨304,x21 m,[],0⟩else if o=4 then a=⟨412,x21 m,[],0⟩else if countB r m o cs=true then∃O,Folded 0 (resL m.hv r.L) O∧a=j24 m (O.map Prod.fst) seed else a=w42 m r.hd
theorem z95{r:ReqL}{m:MetaL}{o cs seed:Int}{w w':World}{e:Ending}(h:k43 r m o cs seed w e w'):∃a,AnsP r m o cs seed a∧j39 a w e w':=by
 unfold k43 at h;unfold AnsP;by_cases h3:o=3;·rw[B_ h3]at h;exact⟨_,by rw[B_ h3],h⟩
 ·rw[w_ h3]at h;by_cases h4:o=4;·rw[B_ h4]at h;exact⟨_,by rw[w_ h3,B_ h4],h⟩
  ·rw[w_ h4]at h;by_cases hc:countB r m o cs=true;·rw[B_ hc]at h;obtain⟨O,hO,h⟩:=h;exact⟨_,by rw[w_ h3,w_ h4,B_ hc];exact⟨O,hO,rfl⟩,h⟩
   ·rw[w_ hc]at h;exact⟨_,by rw[w_ h3,w_ h4,w_ hc],h⟩
theorem j123(m:MetaL)(O:List (Int×Int))(seed:Int)(h:O.length≤70):(j24 m O seed).fs.length≤11∧(j24 m O seed).ps.length≤141:=by have hf:=y53 m;match O,h with|[],_=>exact⟨by simp only[j24,f_,g_,i_];omega,by simp[j24]⟩|[s],_=>exact⟨by simp only[j24,f_,g_,i_];omega,by simp[j24]⟩|s::t::r,h=>exact⟨by simp only[j24,f_,g_,i_];omega,by simp only[j24,x65];omega⟩
theorem AnsP.len{r:ReqL}{m:MetaL}{o cs seed:Int}{a:AnsL}(h:AnsP r m o cs seed a)(hl:r.L.length≤70):a.fs.length≤1000∧a.ps.length≤1000:=by
 have hf:=y53 m;unfold AnsP at h;split at h;·subst h;exact⟨by simp only;omega,by simp⟩
 ·split at h;·subst h;exact⟨by simp only;omega,by simp⟩
  ·split at h;·
    obtain⟨O,hO,rfl⟩:=h;have h1:(O.map Prod.fst).length≤70:=by have h2:=hO.few;have h3:=w35 m.hv r.L;rw[aQ_];omega
    have h4:=j123 m _ seed h1;omega
   ·subst h;refine⟨by simp only[w42];omega,?_⟩;simp only[w42];split<;>simp
theorem y139(m:MetaL)(O:List (Int×Int))(seed:Int):(j24 m O seed).st=416∧(j24 m O seed).ps=[]∧(j24 m O seed).sz=0∨(j24 m O seed).st=206:=by match O with|[]=>exact .inl ⟨rfl,rfl,rfl⟩|[s]=>exact .inr rfl|s::t::r=>exact .inr rfl
theorem AnsP.bare{r:ReqL}{m:MetaL}{o cs seed:Int}{a:AnsL}(h:AnsP r m o cs seed a):((a.st==304)=(o==3))∧((a.st==412)=(o==4))∧(a.st≠200→a.st≠206→a.ps=[]∧a.sz=0):=by
 unfold AnsP at h;split at h;·rename_i h3;subst h;subst h3;exact⟨rfl,rfl,fun _ _=>⟨rfl,rfl⟩⟩
 ·rename_i h3;have e3:(o==3)=false:=by rw[l_];exact h3
  split at h;·rename_i h4;subst h;subst h4;exact⟨rfl,rfl,fun _ _=>⟨rfl,rfl⟩⟩
  ·rename_i h4;have e4:(o==4)=false:=by rw[l_];exact h4
   rw[e3,e4];split at h;·
    obtain⟨O,hO,rfl⟩:=h;rcases y139 m (O.map Prod.fst) seed with⟨h1,h2,h3⟩|h1;·rw[h1];exact⟨rfl,rfl,fun _ _=>⟨h2,h3⟩⟩
    ·rw[h1];exact⟨rfl,rfl,fun _ h=>absurd rfl h⟩
   ·subst h;exact⟨rfl,rfl,fun h=>absurd rfl h⟩
theorem x130{x:Int×Int}(h:0≤x.1∧x.1<x.2∧x.2≤1099511627776):okS x=true:=(j19 _).2 ⟨by omega,by omega,by omega⟩
theorem bodyF(total:Int)(kd bd:List UInt8){R:List w17}(hR:j29 R):∀(f:Bool)(S:List (Int×Int)),(∀s∈S,0≤s.1∧s.1<s.2∧s.2≤1099511627776)→j29 (j26 total kd bd f S++R)
 |_,[],_=>hR
 |f,x::r,h=>by
  have hx:=h x (by simp);have hr:=bodyF total kd bd hR false r fun s hs=>h s (by simp[hs]);have hne:(if f=true then[]else[13,10])++v181 x total kd bd≠[]:=by intro e;have:=List.append_eq_nil_iff.1 e;have h2:=this.2;unfold v181 at h2;simp at h2
  rw[j26,ap_,ap_];refine⟨.inl ⟨hne,rfl⟩,fun _=>?_,.inr ⟨rfl,x130 hx,hx.2.1⟩,fun _=>?_,hr⟩;·unfold j40;rw[au_.2 hne];rfl
  ·unfold j40;rw[j_ (by simp only;omega)];rfl
theorem bodyL(total:Int)(kd bd:List UInt8){S:List (Int×Int)}(h:∀s∈S,0≤s.1∧s.1<s.2∧s.2≤1099511627776):j29 (x37 S total kd bd):=by
 unfold x37;refine bodyF total kd bd ?_ true S h;have hne:endT bd≠[]:=by unfold endT;simp
 exact⟨.inl ⟨hne,rfl⟩,fun h=>absurd rfl h,trivial⟩
theorem AnsP.body{r:ReqL}{m:MetaL}{o cs seed:Int}{a:AnsL}(h:AnsP r m o cs seed a)(hok:MetaOk m)(hR:allR r.L=true):j29 a.ps:=by
 have hhv:=hok.hv;have hln:=hok.ln;unfold AnsP at h;by_cases h3:o=3;·rw[B_ h3]at h;rw[h];trivial
 rw[w_ h3]at h;by_cases h4:o=4;·rw[B_ h4]at h;rw[h];trivial
 rw[w_ h4]at h;by_cases hc:countB r m o cs=true;·
  rw[B_ hc]at h;obtain⟨O,hO,rfl⟩:=h;have hres:∀x∈resL m.hv r.L,0≤x.1∧x.1<x.2∧x.2≤m.hv:=fun x hx=>y52 hhv.1 hR hx;have hin:=j72 hres hO;generalize O.map Prod.fst=S at*;have hlow:∀s∈S,0≤s.1∧s.1<s.2∧s.2≤1099511627776:=fun s hs=>by have:=hin s hs;omega
  match S,hlow with
   |[],_=>trivial
   |[s],hlow=>have hs:=hlow s (by simp);exact⟨.inr ⟨rfl,x130 hs,hs.2.1⟩,fun h=>absurd rfl h,trivial⟩
   |s::t::r',hlow=>exact bodyL m.len v90 (q29 seed) hlow
 ·rw[w_ hc]at h;rw[h];unfold w42;simp only;split;·trivial
  ·next hn=>
    have hl0:m.len≠0:=fun e=>hn (.inr e);refine⟨.inr ⟨rfl,?_,?_⟩,fun h=>absurd rfl h,trivial⟩;·rw[j19];simp only;split<;>exact⟨by omega,by omega,by omega⟩
    ·simp only;split<;>omega
theorem AnsP.move{r r':ReqL}{m:MetaL}{o cs seed:Int}{a:AnsL}(h:AnsP r m o cs seed a)(hd:r.hd=r'.hd)(hL:r.L=r'.L):AnsP r' m o cs seed a:=by unfold AnsP countB at*;rw[←hd,←hL];exact h
theorem AnsP.one{r:ReqL}{m:MetaL}{o cs seed:Int}{a b:AnsL}(hr:∀x∈resL m.hv r.L,x.1<x.2)(ha:AnsP r m o cs seed a)(hb:AnsP r m o cs seed b):a=b:=by
 unfold AnsP at ha hb;split at ha;·rename_i h3;rw[B_ h3]at hb;exact ha.trans hb.symm
 ·rename_i h3;rw[w_ h3]at hb;split at ha;·rename_i h4;rw[B_ h4]at hb;exact ha.trans hb.symm
  ·rename_i h4;rw[w_ h4]at hb;split at ha;·rename_i hc;rw[B_ hc]at hb;obtain⟨O,hO,rfl⟩:=ha;obtain⟨O',hO',rfl⟩:=hb;have e:=hO.eq hr (by decide) hO';subst e;rfl
   ·rename_i hc;rw[w_ hc]at hb;exact ha.trans hb.symm
theorem q95{n:Int}(h0:0≤n)(h1:n<10):(⟨#[48,49,50,51,52,53,54,55,56,57]⟩:ByteArray).extract n.toNat (n+1).toNat=⟨(digN n).toArray⟩:=by
 have e:n=0∨n=1∨n=2∨n=3∨n=4∨n=5∨n=6∨n=7∨n=8∨n=9:=by omega
 rw[x181 h0 h1];rcases e with rfl|rfl|rfl|rfl|rfl|rfl|rfl|rfl|rfl|rfl<;>decide
theorem q107:∀(m:Nat)(n:Int)(w:World),n.toNat≤m→0≤n→n≤9223372036854775807→Calls Tryz.prog 198 #[.int .i64 n] w fun e w'=>e=.returned (.string ⟨(digN n).toArray⟩)∧Below w.heap.size w w':=by
 intro m;induction m with
  |zero=>
   intro n w hm h0 h1;obtain rfl:n=0:=by omega
   have HD:Hid (digN 0=[48]):=by simp only[Hid];rw[x181 (by omega) (by omega)];rfl
   have kc:=fun W=>q68 W 48 48 rfl;go_enter Tryz.func198,Tryz.ntmps198;go_wp2_with fail;go_ret;rw[HD.out];exact⟨rfl,q11 (c_ _ _) _⟩
  |succ m ih=>
   intro n w hm h0 h1;have hmod:0≤n%10∧n%10<10:=by omega
   have hc:(48:Int)+n%10=((UInt8.ofNat (48+(n%10).toNat)).toNat:Int):=by rw[y64 (by omega)];omega
   obtain⟨c,hcc⟩:∃c,UInt8.ofNat (48+(n%10).toNat)=c:=⟨_,rfl⟩;have hc':(48:Int)+n%10=(c.toNat:Int):=by rw[←hcc];exact hc
   have kc:=fun W=>q68 W c (c.toNat:Int) rfl;have hcb:(c.toNat:Int)<256:=by have:=ay_ c;omega
   by_cases h10:n<10;·
    have HD:Hid (digN n=[c]):=by simp only[Hid];rw[x181 h0 h10,←hcc,show n%10=n from by omega]
    clear hc hcc ih;go_enter Tryz.func198,Tryz.ntmps198;go_wp2_with fail;go_ret;rw[HD.out];exact⟨rfl,q11 (c_ _ _) _⟩
   ·have HD:Hid (digN n=digN (n/10)++[c]):=by simp only[Hid];rw[q61 h10,hcc]
    have hdl:=w21 (n:=n/10) (by omega);have HI:=fun W=>a_ (ih (n/10) W (by omega) (by omega) (by omega));clear hc hcc ih;go_enter Tryz.func198,Tryz.ntmps198;go_wp2_with fail;refine(HI _).out.mono ?_;rintro e w1⟨rfl,hb1⟩;have HB:=a_ hb1;clear hb1 HI;go_wp2_with fail;go_ret;rw[HD.out,←cat_one];exact⟨rfl,q12 HB.out (q11 (c_ _ _) _)⟩
theorem j107:∀(m:Nat)(n:Int)(w:World),n.toNat≤m→0≤n→n≤9223372036854775807→Calls Tryz.prog 136 #[.int .i64 n] w fun e w'=>e=.returned (.string ⟨(digN n).toArray⟩)∧∃m,w'=w.drewN m:=by
 intro m;induction m with
  |zero=>
   intro n w hm h0 h1;obtain rfl:n=0:=by omega
   have HD:Hid ((⟨#[48]⟩:ByteArray)=⟨(digN 0).toArray⟩):=by simp only[Hid];rw[x181 (by omega) (by omega)];rfl
   have hx:(⟨#[48,49,50,51,52,53,54,55,56,57]⟩:ByteArray).extract 0 1=⟨#[48]⟩:=by decide
   go_enter Tryz.func136,Tryz.ntmps136;go_wp2_with fail;go_ret;rw[←HD.out];exact⟨rfl,0,rfl⟩
  |succ m ih=>
   intro n w hm h0 h1;by_cases h10:n<10;·
    have hx:=q95 h0 h10;have hn1:0≤n+1:=by omega
    have hn2:n+1≤10:=by omega
    have hn3:n≤n+1:=by omega
    have hwr:IntKind.i64.wrap (n+1)=n+1:=N_ _ (by omega);have hb1:(n+1).toNat≤10:=by omega
    have hb2:n.toNat≤(n+1).toNat:=by omega
    clear ih hm;generalize digN n=d at hx;go_enter Tryz.func136,Tryz.ntmps136;go_wp2_with fail;go_ret;exact⟨by first|rfl|rw[hx],0,rfl⟩
   ·have hmod:0≤n%10∧n%10<10:=by omega
    have hx:=q95 hmod.1 hmod.2;have HD:Hid (digN n=digN (n/10)++digN (n%10)):=by simp only[Hid];rw[q61 h10,x181 (n:=n%10) (by omega) (by omega)]
    have hdl:=w21 (n:=n/10) (by omega);have hdl2:=w21 (n:=n%10) (by omega);have hc1:=catE (a:=digN (n/10)) (b:=digN (n%10)) (by omega);have HI:=fun W=>a_ (ih (n/10) W (by omega) (by omega) (by omega));have hq1:0≤n%10+1:=by omega
    have hq2:n%10+1≤10:=by omega
    have hq3:n%10≤n%10+1:=by omega
    have hq0:=hmod.1;have hwr:IntKind.i64.wrap (n%10+1)=n%10+1:=N_ _ (by omega);have hb1:(n%10+1).toNat≤10:=by omega
    have hb2:(n%10).toNat≤(n%10+1).toNat:=by omega
    clear ih hdl hdl2 hm hmod;generalize digN (n%10)=d2 at HD hc1 hx;generalize digN (n/10)=d1 at HI HD hc1;go_enter Tryz.func136,Tryz.ntmps136;go_wp2_with fail;go_quiet((go_at_call 136;exact Calls.quiet_of (HI _).out));go_wp2_with fail;go_ret;rw[HD.out];exact⟨rfl,_,rfl⟩
theorem k107:∀(m:Nat)(n:Int)(w:World),n.toNat≤m→0≤n→n≤9223372036854775807→Calls Tryz.prog 202 #[.int .i64 n] w fun e w'=>e=.returned (.string ⟨(digN n).toArray⟩)∧∃m,w'=w.drewN m:=by
 intro m;induction m with
  |zero=>
   intro n w hm h0 h1;obtain rfl:n=0:=by omega
   have HD:Hid ((⟨#[48]⟩:ByteArray)=⟨(digN 0).toArray⟩):=by simp only[Hid];rw[x181 (by omega) (by omega)];rfl
   have hx:(⟨#[48,49,50,51,52,53,54,55,56,57]⟩:ByteArray).extract 0 1=⟨#[48]⟩:=by decide
   go_enter Tryz.func202,Tryz.ntmps202;go_wp2_with fail;go_ret;rw[←HD.out];exact⟨rfl,0,rfl⟩
  |succ m ih=>
   intro n w hm h0 h1;by_cases h10:n<10;·
    have hx:=q95 h0 h10;have hn1:0≤n+1:=by omega
    have hn2:n+1≤10:=by omega
    have hn3:n≤n+1:=by omega
    have hwr:IntKind.i64.wrap (n+1)=n+1:=N_ _ (by omega);have hb1:(n+1).toNat≤10:=by omega
    have hb2:n.toNat≤(n+1).toNat:=by omega
    clear ih hm;generalize digN n=d at hx;go_enter Tryz.func202,Tryz.ntmps202;go_wp2_with fail;go_ret;exact⟨by first|rfl|rw[hx],0,rfl⟩
   ·have hmod:0≤n%10∧n%10<10:=by omega
    have hx:=q95 hmod.1 hmod.2;have HD:Hid (digN n=digN (n/10)++digN (n%10)):=by simp only[Hid];rw[q61 h10,x181 (n:=n%10) (by omega) (by omega)]
    have hdl:=w21 (n:=n/10) (by omega);have hdl2:=w21 (n:=n%10) (by omega);have hc1:=catE (a:=digN (n/10)) (b:=digN (n%10)) (by omega);have HI:=fun W=>a_ (ih (n/10) W (by omega) (by omega) (by omega));have hq1:0≤n%10+1:=by omega
    have hq2:n%10+1≤10:=by omega
    have hq3:n%10≤n%10+1:=by omega
    have hq0:=hmod.1;have hwr:IntKind.i64.wrap (n%10+1)=n%10+1:=N_ _ (by omega);have hb1:(n%10+1).toNat≤10:=by omega
    have hb2:(n%10).toNat≤(n%10+1).toNat:=by omega
    clear ih hdl hdl2 hm hmod;generalize digN (n%10)=d2 at HD hc1 hx;generalize digN (n/10)=d1 at HI HD hc1;go_enter Tryz.func202,Tryz.ntmps202;go_wp2_with fail;go_quiet((go_at_call 202;exact Calls.quiet_of (HI _).out));go_wp2_with fail;go_ret;rw[HD.out];exact⟨rfl,_,rfl⟩
theorem q59(f t total:Int)(w:World)(hfw:f≤9223372036854775807)(htw:t≤9223372036854775807):Calls Tryz.prog 137 #[.agg #[.int .i64 f,.int .i64 t],.int .i64 total] w fun e w'=>e=.returned (.string ⟨(q21 (f,t) total).toArray⟩)∧Below w.heap.size w w':=by
 have HR:=fun W=>a_ (x64 f t W);by_cases h0:okS (f,t)=false;·have HV:Hid (q21 (f,t) total=[]):=q37 (by unfold q23;rw[h0];rfl);rw[h0]at HR;clear h0;go_enter bU_,bK_;go_wp2_with(go_at_call 102;refine(HR _).out.mono ?_;rintro e w1⟨rfl,n1,rfl⟩);go_ret;rw[HV.out];exact⟨rfl,by(repeat(first|exact c_ _ _|refine q15 ?_ _|refine x15 ?_|refine q11 ?_ _|refine w14 ?_ (by simp) _))⟩
 have h0t:okS (f,t)=true:=by revert h0;cases okS (f,t)<;>simp
 clear h0;rw[h0t]at HR;obtain⟨r1,r2,r3⟩:=(j19 (f,t)).1 h0t;simp only at r1 r2 r3;by_cases h1:f=t;·have HV:Hid (q21 (f,t) total=[]):=q37 (by unfold q23;rw[r_ h1];simp);clear h0t;subst h1;go_enter bU_,bK_;go_wp2_with(go_at_call 102;refine(HR _).out.mono ?_;rintro e w1⟨rfl,n1,rfl⟩);go_ret;rw[HV.out];exact⟨rfl,by(repeat(first|exact c_ _ _|refine q15 ?_ _|refine x15 ?_|refine q11 ?_ _|refine w14 ?_ (by simp) _))⟩
 have h1l:¬t≤f:=by omega
 by_cases h2:t=4611686018427387904;·have HV:Hid (q21 (f,t) total=[]):=q37 (by unfold q23;rw[r_ h2];simp);clear h0t;subst h2;go_enter bU_,bK_;go_wp2_with(go_at_call 102;refine(HR _).out.mono ?_;rintro e w1⟨rfl,n1,rfl⟩);go_ret;rw[HV.out];exact⟨rfl,by(repeat(first|exact c_ _ _|refine q15 ?_ _|refine x15 ?_|refine q11 ?_ _|refine w14 ?_ (by simp) _))⟩
 have h2l:¬(4611686018427387904:Int)≤t:=by omega
 by_cases h3:total< -1;·have HV:Hid (q21 (f,t) total=[]):=q37 (by unfold q23;rw[j_ (show¬-1≤total by omega)];simp);clear h0t;go_enter bU_,bK_;go_wp2_with(go_at_call 102;refine(HR _).out.mono ?_;rintro e w1⟨rfl,n1,rfl⟩);go_ret;rw[HV.out];exact⟨rfl,by(repeat(first|exact c_ _ _|refine q15 ?_ _|refine x15 ?_|refine q11 ?_ _|refine w14 ?_ (by simp) _))⟩
 by_cases h4:(4611686018427387904:Int)≤total;·have HV:Hid (q21 (f,t) total=[]):=q37 (by unfold q23;rw[j_ (show¬total≤4611686018427387903 by omega)];simp);clear h0t;go_enter bU_,bK_;go_wp2_with(go_at_call 102;refine(HR _).out.mono ?_;rintro e w1⟨rfl,n1,rfl⟩);go_ret;rw[HV.out];exact⟨rfl,by(repeat(first|exact c_ _ _|refine q15 ?_ _|refine x15 ?_|refine q11 ?_ _|refine w14 ?_ (by simp) _))⟩
 by_cases h6:0≤total∧total<t;·obtain⟨h6,h7⟩:=h6;have HV:Hid (q21 (f,t) total=[]):=q37 (by unfold q23;rw[j_ (show¬total=-1 by omega),j_ (show¬t≤total by omega)];simp);clear h0t;go_enter bU_,bK_;go_wp2_with(go_at_call 102;refine(HR _).out.mono ?_;rintro e w1⟨rfl,n1,rfl⟩);go_ret;rw[HV.out];exact⟨rfl,by(repeat(first|exact c_ _ _|refine q15 ?_ _|refine x15 ?_|refine q11 ?_ _|refine w14 ?_ (by simp) _))⟩
 have F:∀(n:Int)(W:World),0≤n→n≤9223372036854775807→Calls Tryz.prog 202 #[.int .i64 n] W fun e w'=>e=.returned (.string ⟨(digN n).toArray⟩)∧∃m,w'=W.drewN m:=fun n W h0 h1=>k107 n.toNat n W (v_ _) h0 h1;have F1:∀W,Hid (Calls Tryz.prog 202 #[.int .i64 f] W fun e w'=>e=.returned (.string ⟨(digN f).toArray⟩)∧∃m,w'=W.drewN m):=fun W=>a_ (F f W r1 (by omega));have F2:∀W,Hid (Calls Tryz.prog 202 #[.int .i64 (t-1)] W fun e w'=>e=.returned (.string ⟨(digN (t-1)).toArray⟩)∧∃m,w'=W.drewN m):=fun W=>a_ (F (t-1) W (by omega) (by omega));have hl1:=w21 (n:=f) (by omega);have hl2:=w21 (n:=t-1) (by omega);have hc1:=catE (a:=[98,121,116,101,115,32]) (b:=digN f) (by simp only[g_,i_];omega);have hc2:=catE (a:=[98,121,116,101,115,32]++digN f) (b:=[45]) (by simp only[f_,g_,i_];omega);have hc3:=catE (a:=[98,121,116,101,115,32]++digN f++[45]) (b:=digN (t-1)) (by simp only[f_,g_,i_];omega);have hc4:=catE (a:=[98,121,116,101,115,32]++digN f++[45]++digN (t-1)) (b:=[47]) (by simp only[f_,g_,i_];omega);have hwr:IntKind.i64.wrap (t-1)=t-1:=N_ _ (by omega);by_cases h5:total=-1;·
  subst h5;have HV:Hid (q21 (f,t) (-1)=[98,121,116,101,115,32]++digN f++[45]++digN (t-1)++[47]++[42]):=by simp only[Hid];unfold q21;rw[B_ (q49 h0t h1 h2 (by omega) (by omega) (.inl rfl)),B_ rfl];rfl
  have hc5:=catE (a:=[98,121,116,101,115,32]++digN f++[45]++digN (t-1)++[47]) (b:=[42]) (by simp only[f_,g_,i_];omega);generalize[98,121,116,101,115,32]++digN f++[45]++digN (t-1)++[47]++[42]=x5 at hc5 HV;generalize[98,121,116,101,115,32]++digN f++[45]++digN (t-1)++[47]=x4 at hc4 hc5;generalize[98,121,116,101,115,32]++digN f++[45]++digN (t-1)=x3 at hc3 hc4;generalize[98,121,116,101,115,32]++digN f++[45]=x2 at hc2 hc3;generalize[98,121,116,101,115,32]++digN f=x1 at hc1 hc2;generalize digN f=d1 at F1 hc1;generalize digN (t-1)=d2 at F2 hc3;clear F hl1 hl2 h0t h6 r2 r3;go_enter bU_,bK_;go_wp2_with(
   go_at_call 102;refine(HR _).out.mono ?_;rintro e w1⟨rfl,n1,hw1⟩;have HVB:Hid (w1.heap[w.heap.size]?=some (.cells #[.int .i64 f,.int .i64 t] 80 (0,0))):=by rw[←hw1];exact j16 (j17 rfl)
   have HVb:Hid (Below w.heap.size w w1):=by simp only[Hid];rw[←hw1];(repeat(first|exact c_ _ _|refine q15 ?_ _|refine x15 ?_|refine q11 ?_ _|refine w14 ?_ (by simp) _))
   clear hw1;have v0:=bc 0 HVB.out rfl;have v1:=bc 1 HVB.out rfl);clear HR;go_quiet((first|(go_at_call_of 202(Value.int .i64 f);exact Calls.quiet_of (F1 _).out)|(go_at_call_has 202(Value.int .i64 (t-1));exact Calls.quiet_of (F2 _).out)));go_wp2_with fail;go_ret;rw[HV.out];exact⟨rfl,by first|exact q15 (q15 HVb.out _) _|exact q15 HVb.out _|exact HVb.out⟩
 ·have HV:Hid (q21 (f,t) total=[98,121,116,101,115,32]++digN f++[45]++digN (t-1)++[47]++digN total):=by simp only[Hid];unfold q21;rw[B_ (q49 h0t h1 h2 (by omega) (by omega) (.inr (by omega))),w_ h5];rfl
  have h50:0≤total:=by omega
  have h7:¬total<t:=by omega
  have F3:∀W,Hid (Calls Tryz.prog 202 #[.int .i64 total] W fun e w'=>e=.returned (.string ⟨(digN total).toArray⟩)∧∃m,w'=W.drewN m):=fun W=>a_ (F total W (by omega) (by omega));have hl3:=w21 (n:=total) (by omega);have hc5:=catE (a:=[98,121,116,101,115,32]++digN f++[45]++digN (t-1)++[47]) (b:=digN total) (by simp only[f_,g_,i_];omega);generalize[98,121,116,101,115,32]++digN f++[45]++digN (t-1)++[47]++digN total=x5 at hc5 HV;generalize[98,121,116,101,115,32]++digN f++[45]++digN (t-1)++[47]=x4 at hc4 hc5;generalize[98,121,116,101,115,32]++digN f++[45]++digN (t-1)=x3 at hc3 hc4;generalize[98,121,116,101,115,32]++digN f++[45]=x2 at hc2 hc3;generalize[98,121,116,101,115,32]++digN f=x1 at hc1 hc2;generalize digN f=d1 at F1 hc1;generalize digN (t-1)=d2 at F2 hc3;generalize digN total=d3 at F3 hc5;clear F hl1 hl2 hl3 h0t h6 r2 r3;go_enter bU_,bK_;go_wp2_with(
   go_at_call 102;refine(HR _).out.mono ?_;rintro e w1⟨rfl,n1,hw1⟩;have HVB:Hid (w1.heap[w.heap.size]?=some (.cells #[.int .i64 f,.int .i64 t] 80 (0,0))):=by rw[←hw1];exact j16 (j17 rfl)
   have HVb:Hid (Below w.heap.size w w1):=by simp only[Hid];rw[←hw1];(repeat(first|exact c_ _ _|refine q15 ?_ _|refine x15 ?_|refine q11 ?_ _|refine w14 ?_ (by simp) _))
   clear hw1;have v0:=bc 0 HVB.out rfl;have v1:=bc 1 HVB.out rfl);clear HR;go_quiet((first|(go_at_call_of 202(Value.int .i64 f);exact Calls.quiet_of (F1 _).out)|(go_at_call_has 202(Value.int .i64 (t-1));exact Calls.quiet_of (F2 _).out)));go_wp2_with(go_at_call 202;refine(F3 _).out.mono ?_;rintro e w4⟨rfl,m4,rfl⟩);go_ret;rw[HV.out];exact⟨rfl,by first|exact q15 (q15 HVb.out _) _|exact q15 HVb.out _|exact HVb.out⟩
theorem y107(m:MetaL)(A:Option Addr)(c:Nat)(w:World)(hks:SpG encT 1 w A c m.keys)(hok:MetaOk m):Calls Tryz.prog 131 #[j25 m A c,.int .i64 0] w (q41 m w):=by
 have HRT:=fun W(hW:SpG encT 1 W A c m.keys)=>a_ (w113 m A c W hW hok);have HCO:=fun W=>a_ (q132 m A c W hok.fr hok.wh hok.er);have HCT:=fun W=>a_ (x109 m.fresh (offN m.wh) (offN m.er) (!m.keep) W hok.fr (by have:=hok.wh;unfold offN;split<;>omega) (by have:=hok.er;unfold offN;split<;>omega));rw[k109 m ⟨hok.fr.1,hok.wh.1,hok.er.1⟩]at HCT;obtain⟨ct,hct⟩:∃ct,ctlT m=ct:=⟨_,rfl⟩;rw[hct]at HCT;have HF:Hid (x21 m=(if tag0 m=true then[]else[(k77,tagT m.tag m.weak)])++(if m.mo=-1 then[]else[(nMod,q42 m.mo)])++[(nCtl,ct)]++[(nAge,[48])]++(if m.keys=[]then[]else[(nKey,x176 [32] m.keys)])++(if m.ten=[]then[]else[(nTen,m.ten)])++(if m.len=-1 then[(nLen,[42]),(x77,digN m.hv)]else[(nLen,digN m.len)])):=by simp only[Hid];rw[←hct];rfl
 obtain⟨L1,K1⟩:∃L,Hid (L=if tag0 m=true then[]else[(k77,tagT m.tag m.weak)]):=⟨_,a_ rfl⟩;obtain⟨L2,K2⟩:∃L,Hid (L=L1++if m.mo=-1 then[]else[(nMod,q42 m.mo)]):=⟨_,a_ rfl⟩;obtain⟨L3,K3⟩:∃L,Hid (L=L2++[(nCtl,ct)]):=⟨_,a_ rfl⟩;obtain⟨L4,K4⟩:∃L,Hid (L=L3++[(nAge,[48])]):=⟨_,a_ rfl⟩;obtain⟨L5,K5⟩:∃L,Hid (L=L4++if m.keys=[]then[]else[(nKey,x176 [32] m.keys)]):=⟨_,a_ rfl⟩;obtain⟨L6,K6⟩:∃L,Hid (L=L5++if m.ten=[]then[]else[(nTen,m.ten)]):=⟨_,a_ rfl⟩;obtain⟨L7,K7⟩:∃L,Hid (L=L6++if m.len=-1 then[(nLen,[42]),(x77,digN m.hv)]else[(nLen,digN m.len)]):=⟨_,a_ rfl⟩;have N1:Hid (L1.length≤1):=by simp only[Hid];rw[K1.out];split<;>simp
 have N2:Hid (L2.length≤2):=by simp only[Hid];rw[K2.out,f_];have:=N1.out;split<;>simp<;>omega
 have N3:Hid (L3.length≤3):=by simp only[Hid];rw[K3.out,f_];have:=N2.out;simp;omega
 have N4:Hid (L4.length≤4):=by simp only[Hid];rw[K4.out,f_];have:=N3.out;simp;omega
 have N5:Hid (L5.length≤5):=by simp only[Hid];rw[K5.out,f_];have:=N4.out;split<;>simp<;>omega
 have N6:Hid (L6.length≤6):=by simp only[Hid];rw[K6.out,f_];have:=N5.out;split<;>simp<;>omega
 have HL:Hid (x21 m=L7):=by simp only[Hid];rw[HF.out,K7.out,K6.out,K5.out,K4.out,K3.out,K2.out,K1.out]
 clear HF;have HP:Hid (∀A c k w',k=L7.length→OwnG 196 w18 2 w' w.heap.size A c L7→Below w.heap.size w w'→q41 m w (.returned (.tuple #[.slice A k c,.int .i64 0])) w'):=by simp only[Hid];intro A c k w' h1 h2 h3;rw[←HL.out]at h1 h2;exact⟨A,c,k,h1,rfl,h2,h3⟩
 obtain⟨P,hP⟩:∃P,q41 m w=P:=⟨_,rfl⟩;rw[hP]at HP⊢;clear hct HL hP;have HOK:=a_ hok;have HK0:=a_ hks;have HN:=fun n W(h0:0≤n)(h1:n≤9223372036854775807)=>a_ (q107 n.toNat n W (v_ _) h0 h1);have HN0:∀W,Hid (Calls Tryz.prog 198 #[.int .i64 0] W fun e w'=>e=.returned (.string ⟨#[48]⟩)∧Below W.heap.size W w'):=fun W=>by have h:=(HN 0 W (an_ _) (by decide)).out;rw[digN0]at h;exact a_ h
 clear hok hks;obtain⟨tg,wk,mo,ln,hv,fr,wh,er,ks,tn,kp⟩:=m;simp only at K1 K2 K5 K6 K7 HK0 HRT HCO;unfold j25 at HRT HCO⊢;simp only at HRT HCO⊢;go_enter Tryz.func131,Tryz.ntmps131;go_upto_region 4 with(go_at_call 70;refine(HRT _ (HK0.out.alloc _)).out.mono ?_;rintro e w1⟨rfl,hb1⟩);have HR:Hid (w1.heap[w.heap.size]?=some (.cells #[.string ⟨tg.toArray⟩,.bool wk,.int .i64 mo,.int .i64 ln,.int .i64 hv,.int .i64 fr,.int .i64 wh,.int .i64 er,.slice A ks.length c,.string ⟨tn.toArray⟩,.bool kp] 57 (0,0))):=j3 hb1 (j17 rfl);have HB:Hid (Below w.heap.size w w1):=q12 hb1 (q11 (c_ _ _) _);have HO:Hid (OwnG 196 w18 2 w1 w.heap.size none 0 []):=OwnG.nil _ _;clear hb1 HRT;have HTN:Hid (∀W,Calls Tryz.prog 127 #[.agg #[.string ⟨tg.toArray⟩,.bool wk]] W fun e w'=>e=.returned (.bool (tag0 ⟨tg,wk,mo,ln,hv,fr,wh,er,ks,tn,kp⟩))∧Below W.heap.size W w'):=fun W=>by
  have h:=y72 tg wk W;have e:(tg.isEmpty&&!wk)=tag0 ⟨tg,wk,mo,ln,hv,fr,wh,er,ks,tn,kp⟩:=by unfold tag0;cases tg<;>simp
  rw[e]at h;exact h
 obtain⟨r0,r1,r2,r3,r4,r5,r6,r7,r8,r9,r10⟩:=bc11 HR.out;go_upto_if 25 with(go_at_call 127;refine(HTN.out _).mono ?_;rintro e wt⟨rfl,hbt⟩);have HRt:=a_ (j3 hbt HR.out);have HOt:=a_ (HO.out.below hbt);have HBt:=a_ (q12 hbt HB.out);clear hbt HR HB HO r0 r1 r2 r3 r4 r5 r6 r7 r8 r9 r10;have HR:=a_ HRt.out;have HB:=a_ HBt.out;have HO:=a_ HOt.out;clear HRt HBt HOt;obtain⟨r0,r1,r2,r3,r4,r5,r6,r7,r8,r9,r10⟩:=bc11 HR.out;have HTO:Hid (tag0 ⟨tg,wk,mo,ln,hv,fr,wh,er,ks,tn,kp⟩=false→j20 tg=true):=by
  intro h;rcases HOK.out.tg with h1|h1;·simp only at h1;rw[h1.1,h1.2]at h;simp[tag0]at h
  ·exact h1
 obtain⟨tz,htz⟩:∃z,tag0 ⟨tg,wk,mo,ln,hv,fr,wh,er,ks,tn,kp⟩=z:=⟨_,rfl⟩;rw[htz]at HTO K1;try rw[htz]
 clear HTN htz;go_cut[6](fun s6 wx=>RowSt 196 w18 2 w w.heap.size #[.string ⟨tg.toArray⟩,.bool wk,.int .i64 mo,.int .i64 ln,.int .i64 hv,.int .i64 fr,.int .i64 wh,.int .i64 er,.slice A ks.length c,.string ⟨tn.toArray⟩,.bool kp] 57 L1 s6 wx);case first=>
  cases tz with
   |true=>have E:L1=[]:=K1.out;go_wp2_with fail;go_meet;exact⟨⟨_,_,_,rfl,by rw[E];rfl,by rw[E];exact HO.out⟩,HR.out,HB.out⟩
   |false=>have E:L1=[([69,84,97,103],tagT tg wk)]:=K1.out;have hto:=HTO.out rfl;have HTT:=fun W=>a_ (j111 tg wk W (by have:=(y54 hto).2;omega));rw[show j47 tg wk=tagT tg wk from B_ hto]at HTT;obtain⟨tt,htt⟩:∃t,tagT tg wk=t:=⟨_,rfl⟩;rw[htt]at HTT E;clear hto htt;go_wp2_with(first|(go_at_call 194;refine(HTT _).out.mono ?_;rintro e x1⟨rfl,hb1⟩;have HR1:=a_ (j3 hb1 HR.out);have HO1:=a_ (HO.out.below hb1);have HB1:=a_ (q12 hb1 HB.out);clear hb1)|(at_builtin;go_must(refine x23 (w0:=w) elemFd rfl (.tmp 26) (.tmp 31) rfl none 0 0 [] rfl #[.string ⟨#[69,84,97,103]⟩,.string ⟨tt.toArray⟩] _ rfl HO1.out [([69,84,97,103],tt)] 1 rfl rfl rfl S_ 1 rfl (by decide) HB1.out ?_;intro A2 c2 w2 hown2 hbw2 hg2)));go_meet;exact⟨⟨A2,c2,1,rfl,by rw[E];rfl,by rw[E];exact hown2⟩,w20 (j16 HR1.out) hg2 (by simp[Value.ownBlock]),hbw2⟩
 case rest=>
  obtain⟨⟨A1,c1,m1,rfl,hm1,ho1⟩,hr1,hb1⟩:=hcut;clear HR HB HO r0 r1 r2 r3 r4 r5 r6 r7 r8 r9 r10;have HR:=a_ hr1;have HB:=a_ hb1;have HO:=a_ ho1;have M1:Hid (m1=L1.length):=hm1;clear hr1 hb1 ho1 hm1;obtain⟨r0,r1,r2,r3,r4,r5,r6,r7,r8,r9,r10⟩:=bc11 HR.out;clear HTO;go_upto_if 35 with fail;go_cut[6](fun s6 wx=>RowSt 196 w18 2 w w.heap.size #[.string ⟨tg.toArray⟩,.bool wk,.int .i64 mo,.int .i64 ln,.int .i64 hv,.int .i64 fr,.int .i64 wh,.int .i64 er,.slice A ks.length c,.string ⟨tn.toArray⟩,.bool kp] 57 L2 s6 wx);case first=>
   by_cases hmo:0≤mo;·
    have E:L2=L1++[([76,97,115,116,45,77,111,100,105,102,105,101,100],q42 mo)]:=by rw[K2.out,w_ (by omega)];rfl
    have HDT:=fun W=>a_ (j69 mo W hmo HOK.out.mo.2);obtain⟨tt,htt⟩:∃t,q42 mo=t:=⟨_,rfl⟩;have HDT2:∀W,Hid (Calls Tryz.prog 195 #[.int .i64 mo] W fun e w'=>e=.returned (.tuple #[.string ⟨tt.toArray⟩,.int .i64 0])∧Below W.heap.size W w'):=fun W=>by rw[←htt];exact HDT W
    rw[htt]at E;clear htt HDT;go_wp2_with(first|(go_at_call 195;refine(HDT2 _).out.mono ?_;rintro e x1⟨rfl,hb1⟩;have HR1:=a_ (j3 hb1 HR.out);have HO1:=a_ (HO.out.below hb1);have HB1:=a_ (q12 hb1 HB.out);clear hb1)|(at_builtin;go_must(refine x23 (w0:=w) elemFd rfl (.tmp 42) (.tmp 45) rfl A1 c1 m1 L1 M1.out #[.string ⟨#[76,97,115,116,45,77,111,100,105,102,105,101,100]⟩,.string ⟨tt.toArray⟩] _ rfl HO1.out [([76,97,115,116,45,77,111,100,105,102,105,101,100],tt)] 1 rfl rfl rfl S_ (m1+1) rfl (by have:=M1.out;have:=N1.out;omega) HB1.out ?_;intro A2 c2 w2 hown2 hbw2 hg2)));go_meet;exact⟨⟨A2,c2,m1+1,rfl,by rw[E,f_,←M1.out];rfl,by rw[E];exact hown2⟩,w20 (j16 HR1.out) hg2 (HO1.out.ne_ty HR1.out (by decide)),hbw2⟩
   ·have E:L2=L1:=by rw[K2.out,B_ (by have:=HOK.out.mo;simp only at this;omega),Y_]
    go_wp2_with fail;go_meet;exact⟨⟨_,_,_,rfl,by rw[E];exact M1.out,by rw[E];exact HO.out⟩,HR.out,HB.out⟩
  case rest=>
   obtain⟨⟨A2,c2,m2,rfl,hm2,ho2⟩,hr2,hb2⟩:=hcut;clear HR HB HO r0 r1 r2 r3 r4 r5 r6 r7 r8 r9 r10;have HR:=a_ hr2;have HB:=a_ hb2;have HO:=a_ ho2;have M2:Hid (m2=L2.length):=hm2;clear hr2 hb2 ho2 hm2;obtain⟨r0,r1,r2,r3,r4,r5,r6,r7,r8,r9,r10⟩:=bc11 HR.out;go_upto_region 10 with(first|(go_at_call 197;refine(HCO _).out.mono ?_;rintro e x1⟨rfl,hb1⟩;have HR1:=a_ (j3 hb1 HR.out);have HO1:=a_ (HO.out.below hb1);have HB1:=a_ (q12 hb1 HB.out);clear hb1)|(go_at_call 196;refine(HCT _).out.mono ?_;rintro e x2⟨rfl,hb2⟩;have HR2:=a_ (j3 hb2 HR1.out);have HO2:=a_ (HO1.out.below hb2);have HB2:=a_ (q12 hb2 HB1.out);clear hb2)|(at_builtin;go_must(refine x23 (w0:=w) elemFd rfl (.tmp 47) (.tmp 52) rfl A2 c2 m2 L2 M2.out #[.string ⟨#[67,97,99,104,101,45,67,111,110,116,114,111,108]⟩,.string ⟨ct.toArray⟩] _ rfl HO2.out [([67,97,99,104,101,45,67,111,110,116,114,111,108],ct)] 1 rfl rfl rfl S_ (m2+1) rfl (by have:=M2.out;have:=N2.out;omega) HB2.out ?_;intro A3 c3 w3 hown2 hbw2 hg2)));have M3:Hid (m2+1=L3.length):=by simp only[Hid];rw[K3.out,f_,←M2.out];rfl
   have HR3:Hid (w3.heap[w.heap.size]?=some (.cells #[.string ⟨tg.toArray⟩,.bool wk,.int .i64 mo,.int .i64 ln,.int .i64 hv,.int .i64 fr,.int .i64 wh,.int .i64 er,.slice A ks.length c,.string ⟨tn.toArray⟩,.bool kp] 57 (0,0))):=w20 (j16 HR2.out) hg2 (HO2.out.ne_ty HR2.out (by decide));have HO3:Hid (OwnG 196 w18 2 w3 w.heap.size A3 c3 L3):=by simp only[Hid];rw[K3.out];exact hown2
   have HB3:=a_ hbw2;clear hown2 hbw2 hg2 HR HB HO HR1 HO1 HB1 HR2 HO2 HB2 HCO HCT r0 r1 r2 r3 r4 r5 r6 r7 r8 r9 r10;obtain⟨m3,hm3⟩:∃k,m2+1=k:=⟨_,rfl⟩;rw[hm3]at M3;try rw[hm3]
   clear hm3;have HR:=a_ HR3.out;have HB:=a_ HB3.out;have HO:=a_ HO3.out;clear HR3 HB3 HO3;obtain⟨r0,r1,r2,r3,r4,r5,r6,r7,r8,r9,r10⟩:=bc11 HR.out;go_upto_region 11 with(first|(go_at_call 198;refine(HN0 _).out.mono ?_;rintro e x1⟨rfl,hb1⟩;have HR1:=a_ (j3 hb1 HR.out);have HO1:=a_ (HO.out.below hb1);have HB1:=a_ (q12 hb1 HB.out);clear hb1)|(at_builtin;go_must(refine x23 (w0:=w) elemFd rfl (.tmp 54) (.tmp 58) rfl A3 c3 m3 L3 M3.out #[.string ⟨#[65,103,101]⟩,.string ⟨#[48]⟩] _ rfl HO1.out [([65,103,101],[48])] 1 rfl rfl rfl S_ (m3+1) rfl (by have:=M3.out;have:=N3.out;omega) HB1.out ?_;intro A4 c4 w4 hown2 hbw2 hg2)));have M4:Hid (m3+1=L4.length):=by simp only[Hid];rw[K4.out,f_,←M3.out];rfl
   have HR3:Hid (w4.heap[w.heap.size]?=some (.cells #[.string ⟨tg.toArray⟩,.bool wk,.int .i64 mo,.int .i64 ln,.int .i64 hv,.int .i64 fr,.int .i64 wh,.int .i64 er,.slice A ks.length c,.string ⟨tn.toArray⟩,.bool kp] 57 (0,0))):=w20 (j16 HR1.out) hg2 (HO1.out.ne_ty HR1.out (by decide));have HO3:Hid (OwnG 196 w18 2 w4 w.heap.size A4 c4 L4):=by simp only[Hid];rw[K4.out];exact hown2
   have HB3:=a_ hbw2;clear hown2 hbw2 hg2 HR HB HO HR1 HO1 HB1 HN0 r0 r1 r2 r3 r4 r5 r6 r7 r8 r9 r10;obtain⟨m4,hm4⟩:∃k,m3+1=k:=⟨_,rfl⟩;rw[hm4]at M4;try rw[hm4]
   clear hm4;have HR:=a_ HR3.out;have HB:=a_ HB3.out;have HO:=a_ HO3.out;clear HR3 HB3 HO3;obtain⟨r0,r1,r2,r3,r4,r5,r6,r7,r8,r9,r10⟩:=bc11 HR.out;have HKN:Hid (ks.length≤32):=HOK.out.kn;have HKL:=a_ (k100 HOK.out.kn HOK.out.ka);simp only at HKL;go_upto_if 63 with fail;go_cut[6](fun s6 wx=>RowSt 196 w18 2 w w.heap.size #[.string ⟨tg.toArray⟩,.bool wk,.int .i64 mo,.int .i64 ln,.int .i64 hv,.int .i64 fr,.int .i64 wh,.int .i64 er,.slice A ks.length c,.string ⟨tn.toArray⟩,.bool kp] 57 L5 s6 wx);case first=>
    by_cases hk0:ks.length=0;·
     have E:L5=L4:=by rw[K5.out,B_ (n_ hk0),Y_]
     have hk0':¬(0:Int)<(ks.length:Int):=by omega
     clear hk0;go_wp2_with fail;go_meet;exact⟨⟨_,_,_,rfl,by rw[E];exact M4.out,by rw[E];exact HO.out⟩,HR.out,HB.out⟩
    ·have E:L5=L4++[([83,117,114,114,111,103,97,116,101,45,75,101,121],x176 [32] ks)]:=by rw[K5.out,w_ (fun e=>hk0 (by rw[e];rfl))];rfl
     have hk0':(0:Int)<(ks.length:Int):=by omega
     have HS:=a_ (HK0.out.below HB.out);clear hk0;go_wp2_with fail;go_loopw[9,10](fun t i wr=>wr=w4∧∃k:Nat,k≤ks.length∧i=.int .i64 (k:Int)∧t=.string ⟨(x176 [32] (ks.take k)).toArray⟩)(fun _ i _=>ks.length-(intOf i).toNat);case atStart=>exact⟨rfl,0,s_ _,rfl,rfl⟩
     case round=>
      obtain⟨rfl,k,hk,rfl,rfl⟩:=hrel;have hkn:=HKN.out;by_cases hlt:k<ks.length;·
       obtain⟨b,off,e,hb,hc⟩:=HS.out.at' k hlt;have q0:=hc 0 _ rfl;have hJ1:=q47 [32] ks k;have hJ2:=q47 [32] ks (k+1);have hJL:=HKL.out;have HT:=a_ (k91 (sep:=[32]) hlt);rw[HT.out]at hJ2;obtain⟨x,hx⟩:∃x,ks[k]=x:=⟨_,rfl⟩;rw[hx]at q0 HT hJ2;simp only[aY_,M_]at q0;clear hc hx;subst e;by_cases hk0:k=0;·
        rw[B_ hk0]at hJ2;have HT2:Hid (x176 [32] (ks.take (k+1))=x176 [32] (ks.take k)++x):=by simp only[Hid];rw[HT.out,B_ hk0,hk0];rfl
        have hJ0:(x176 [32] (ks.take k)).length=0:=by rw[hk0];rfl
        have hc1:=catE (a:=x176 [32] (ks.take k)) (b:=x) (by omega);have hkp:¬(0:Int)<(k:Int):=by omega
        clear HT hJ1 hJ2 hJL hk0 hJ0;generalize x176 [32] (ks.take k)++x=x2 at hc1 HT2;generalize x176 [32] (ks.take k)=x1 at hc1;go_wp2_with fail;go_roundw;case rel=>exact⟨by first|trivial|rfl,k+1,by omega,by go_num,by rw[HT2.out]⟩
        case measure=>simp[intOf];omega
       ·rw[w_ hk0]at hJ2;have HT2:Hid (x176 [32] (ks.take (k+1))=x176 [32] (ks.take k)++[32]++x):=by simp only[Hid];rw[HT.out,w_ hk0,x_]
        simp only[f_,g_,i_]at hJ2;have hc1:=catE (a:=x176 [32] (ks.take k)) (b:=[32]) (by simp only[g_,i_];omega);have hc2:=catE (a:=x176 [32] (ks.take k)++[32]) (b:=x) (by simp only[f_,g_,i_];omega);have hkp:(0:Int)<(k:Int):=by omega
        clear HT hJ1 hJ2 hJL hk0;generalize x176 [32] (ks.take k)++[32]++x=x3 at hc2 HT2;generalize x176 [32] (ks.take k)++[32]=x2 at hc1 hc2;generalize x176 [32] (ks.take k)=x1 at hc1;go_wp2_with fail;go_roundw;case rel=>exact⟨by first|trivial|rfl,k+1,by omega,by go_num,by rw[HT2.out]⟩
        case measure=>simp[intOf];omega
      ·have hke:k=ks.length:=by omega
       have HE:Hid (x176 [32] (ks.take k)=x176 [32] ks):=by simp only[Hid];rw[hke,U_]
       obtain⟨tt,htt⟩:∃t,x176 [32] (ks.take k)=t:=⟨_,rfl⟩;rw[←HE.out,htt]at E;rw[htt];have hlt':¬(k:Int)<(ks.length:Int):=by omega
       clear hke HE htt;go_wp2_with(at_builtin;go_must(refine x23 (w0:=w) elemFd rfl (.tmp 82) (.tmp 85) rfl A4 c4 m4 L4 M4.out #[.string ⟨#[83,117,114,114,111,103,97,116,101,45,75,101,121]⟩,.string ⟨tt.toArray⟩] _ rfl HO.out [([83,117,114,114,111,103,97,116,101,45,75,101,121],tt)] 1 rfl rfl rfl S_ (m4+1) rfl (by have:=M4.out;have:=N4.out;omega) HB.out ?_;intro A2 c2 w2 hown2 hbw2 hg2));go_meet;exact⟨⟨A2,c2,m4+1,rfl,by rw[E,f_,←M4.out];rfl,by rw[E];exact hown2⟩,w20 (j16 HR.out) hg2 (HO.out.ne_ty HR.out (by decide)),hbw2⟩
   case rest=>
    obtain⟨⟨A5,c5,m5,rfl,hm5,ho5⟩,hr5,hb5⟩:=hcut;clear HR HB HO r0 r1 r2 r3 r4 r5 r6 r7 r8 r9 r10;have HR:=a_ hr5;have HB:=a_ hb5;have HO:=a_ ho5;have M5:Hid (m5=L5.length):=hm5;clear hr5 hb5 ho5 hm5;obtain⟨r0,r1,r2,r3,r4,r5,r6,r7,r8,r9,r10⟩:=bc11 HR.out;obtain⟨nb,hnb⟩:∃b,tn.isEmpty=b:=⟨_,rfl⟩;go_upto_if 89 with fail;go_cut[6](fun s6 wx=>RowSt 196 w18 2 w w.heap.size #[.string ⟨tg.toArray⟩,.bool wk,.int .i64 mo,.int .i64 ln,.int .i64 hv,.int .i64 fr,.int .i64 wh,.int .i64 er,.slice A ks.length c,.string ⟨tn.toArray⟩,.bool kp] 57 L6 s6 wx);case first=>
     cases nb with
      |true=>
       have ht0:tn=[]:=aJ_.1 hnb;have E:L6=L5:=by rw[K6.out,B_ ht0,Y_]
       clear ht0;go_wp2_with fail;go_meet;exact⟨⟨_,_,_,rfl,by rw[E];exact M5.out,by rw[E];exact HO.out⟩,HR.out,HB.out⟩
      |false=>
       have ht0:tn≠[]:=by intro hh;rw[hh]at hnb;simp at hnb
       have E:L6=L5++[([88,45,84,101,110,97,110,116],tn)]:=by rw[K6.out,w_ ht0];rfl
       clear ht0;go_wp2_with(at_builtin;go_must(refine x23 (w0:=w) elemFd rfl (.tmp 90) (.tmp 94) rfl A5 c5 m5 L5 M5.out #[.string ⟨#[88,45,84,101,110,97,110,116]⟩,.string ⟨tn.toArray⟩] _ rfl HO.out [([88,45,84,101,110,97,110,116],tn)] 1 rfl rfl rfl S_ (m5+1) rfl (by have:=M5.out;have:=N5.out;omega) HB.out ?_;intro A2 c2 w2 hown2 hbw2 hg2));go_meet;exact⟨⟨A2,c2,m5+1,rfl,by rw[E,f_,←M5.out];rfl,by rw[E];exact hown2⟩,w20 (j16 HR.out) hg2 (HO.out.ne_ty HR.out (by decide)),hbw2⟩
    case rest=>
     obtain⟨⟨A6,c6,m6,rfl,hm6,ho6⟩,hr6,hb6⟩:=hcut;clear HR HB HO r0 r1 r2 r3 r4 r5 r6 r7 r8 r9 r10;have HR:=a_ hr6;have HB:=a_ hb6;have HO:=a_ ho6;have M6:Hid (m6=L6.length):=hm6;clear hr6 hb6 ho6 hm6;obtain⟨r0,r1,r2,r3,r4,r5,r6,r7,r8,r9,r10⟩:=bc11 HR.out;by_cases hl0:0≤ln;·
      have E:L7=L6++[([88,45,76,101,110,103,116,104],digN ln)]:=by rw[K7.out,w_ (by omega)];rfl
      have HD:=fun W=>HN ln W hl0 (by have:=HOK.out.ln;simp only at this;omega);obtain⟨tt,htt⟩:∃t,digN ln=t:=⟨_,rfl⟩;rw[htt]at HD E;clear htt;go_wp2_with(first|(go_at_call 198;refine(HD _).out.mono ?_;rintro e x1⟨rfl,hb1⟩;have HR1:=a_ (j3 hb1 HR.out);have HO1:=a_ (HO.out.below hb1);have HB1:=a_ (q12 hb1 HB.out);clear hb1)|(at_builtin;go_must(refine x23 (w0:=w) elemFd rfl (.tmp 99) (.tmp 104) rfl A6 c6 m6 L6 M6.out #[.string ⟨#[88,45,76,101,110,103,116,104]⟩,.string ⟨tt.toArray⟩] _ rfl HO1.out [([88,45,76,101,110,103,116,104],tt)] 1 rfl rfl rfl S_ (m6+1) rfl (by have:=M6.out;have:=N6.out;omega) HB1.out ?_;intro A2 c2 w2 hown2 hbw2 hg2)));exact HP.out A2 c2 (m6+1) _ (by rw[E,f_,←M6.out];rfl) (by rw[E];exact hown2) hbw2
     ·have E:L7=L6++[([88,45,76,101,110,103,116,104],[42])]++[([88,45,72,97,118,101],digN hv)]:=by rw[K7.out,B_ (by have:=HOK.out.ln;simp only at this;omega),x_];rfl
      have HD:=fun W=>HN hv W HOK.out.hv.1 (by have:=HOK.out.hv;simp only at this;omega);obtain⟨tt,htt⟩:∃t,digN hv=t:=⟨_,rfl⟩;try simp only at HD
      rw[htt]at HD E;clear htt;go_upto_region 25 with(at_builtin;go_must(refine x23 (w0:=w) elemFd rfl (.tmp 106) (.tmp 108) rfl A6 c6 m6 L6 M6.out #[.string ⟨#[88,45,76,101,110,103,116,104]⟩,.string ⟨#[42]⟩] _ rfl HO.out [([88,45,76,101,110,103,116,104],[42])] 1 rfl rfl rfl S_ (m6+1) rfl (by have:=M6.out;have:=N6.out;omega) HB.out ?_;intro A7 c7 w7 hown7 hbw7 hg7));have HR7:Hid (w7.heap[w.heap.size]?=some (.cells #[.string ⟨tg.toArray⟩,.bool wk,.int .i64 mo,.int .i64 ln,.int .i64 hv,.int .i64 fr,.int .i64 wh,.int .i64 er,.slice A ks.length c,.string ⟨tn.toArray⟩,.bool kp] 57 (0,0))):=w20 (j16 HR.out) hg7 (HO.out.ne_ty HR.out (by decide));have HO7:=a_ hown7;have HB7:=a_ hbw7;have M7:Hid (m6+1=(L6++[([88,45,76,101,110,103,116,104],[42])]).length):=by simp only[Hid];rw[f_,←M6.out];rfl
      have N7:Hid ((L6++[([88,45,76,101,110,103,116,104],([42]:List UInt8))]).length≤7):=by simp only[Hid];rw[f_];have:=N6.out;simp;omega
      generalize L6++[([88,45,76,101,110,103,116,104],[42])]=LX at E HO7 M7 N7;clear hown7 hbw7 hg7 HR HB HO r0 r1 r2 r3 r4 r5 r6 r7 r8 r9 r10;obtain⟨m7,hm7⟩:∃k,m6+1=k:=⟨_,rfl⟩;rw[hm7]at M7;try rw[hm7]
      clear hm7;have HR:=a_ HR7.out;have HB:=a_ HB7.out;have HO:=a_ HO7.out;clear HR7 HB7 HO7;have r3:=bc 3 HR.out rfl;have r4:=bc 4 HR.out rfl;go_wp2_with(first|(go_at_call 198;refine(HD _).out.mono ?_;rintro e x1⟨rfl,hb1⟩;have HR1:=a_ (j3 hb1 HR.out);have HO1:=a_ (HO.out.below hb1);have HB1:=a_ (q12 hb1 HB.out);clear hb1)|(at_builtin;go_must(refine x23 (w0:=w) elemFd rfl (.tmp 110) (.tmp 115) rfl A7 c7 m7 LX M7.out #[.string ⟨#[88,45,72,97,118,101]⟩,.string ⟨tt.toArray⟩] _ rfl HO1.out [([88,45,72,97,118,101],tt)] 1 rfl rfl rfl S_ (m7+1) rfl (by have:=M7.out;have:=N7.out;omega) HB1.out ?_;intro A2 c2 w2 hown2 hbw2 hg2)));exact HP.out A2 c2 (m7+1) _ (by rw[E,f_,←M7.out];rfl) (by rw[E];exact hown2) hbw2
end Go.Proofs.YtbphndihjdiiiaaGreatDoor
