/- Contracts of the document's Near and Fold. -/
import Derived.Test.YtkkomffmnafjkaaGreatDoorZT1
import Derived.Test.YtkkomffmnafjkaaGreatDoorZD1
import Derived.StillTailTactics
set_option maxHeartbeats 16000000
set_option maxRecDepth 100000
set_option linter.all false
namespace Go.Proofs.YtkkomffmnafjkaaGreatDoor
open Go.RowKit
def w67(g:Int)(a b:Int×Int):Bool:=decide (a.1≤b.2+g)&&decide (b.1≤a.2+g)
theorem j105{g:Int}{a b:Int×Int}:w67 g a b=true↔w25 g a b:=by simp[w67,w25]
theorem q153{g:Int}{a b:Int×Int}:w67 g a b=false↔¬w25 g a b:=by rw[←j105];simp
def w95(x:Int×Int):Prop:=0≤x.1∧x.1<x.2∧x.2≤4611686018427387904
def j89(t:Bool)(w:World)(e:Ending)(w':World):Prop:=e=.returned (.bool t)∧Below w.heap.size w w'
theorem x163{t u:Bool}{w w':World}(h:t=u)(hb:Below w.heap.size w w'):j89 t w (.returned (.bool u)) w':=⟨by rw[h],hb⟩
theorem x141(a1 a2 b1 b2 gap:Int)(w:World)(ha:w95 (a1,a2))(hb:w95 (b1,b2)):Calls Tryz.prog 222 #[.agg #[.int .i64 a1,.int .i64 a2],.agg #[.int .i64 b1,.int .i64 b2],.int .i64 gap] w (j89 (w67 (max gap 0) (a1,a2) (b1,b2)) w):=by
 obtain⟨p1,p2,p3⟩:=ha;obtain⟨q1,q2,q3⟩:=hb;simp only at p1 p2 p3 q1 q2 q3;have FN:Hid (∀(u:Bool)(w':World),(u=true↔a1≤b2+max gap 0∧b1≤a2+max gap 0)→Below w.heap.size w w'→j89 (w67 (max gap 0) (a1,a2) (b1,b2)) w (.returned (.bool u)) w'):=by intro u w' h hb;refine x163 ?_ hb;rw[ak_,h];simp[w67]
 have BB:Hid (Below w.heap.size w w):=b_ _ _;go_enter Tryz.func222,Tryz.ntmps222;go_wp2;all_goals go_ret;refine FN.out _ _ ?_ (by repeat(first|exact BB.out|refine q11 ?_ _|refine x15 ?_|refine w14 ?_ (by simp) _));simp;try omega
def Scan(g:Int)(R0 R:List (Int×Int))(b:Bool)(i:Nat):Prop:=(b=false∧R=R0∧∀p q x y,p<i→p<q→R0[p]?=some x→R0[q]?=some y→¬w25 g x y)∨(b=true∧R.length+1=R0.length)
def ScanK(g:Int)(R0 R:List (Int×Int))(b:Bool)(i k:Nat):Prop:=(b=false∧R=R0∧∀q x y,i<q→q<k→R0[i]?=some x→R0[q]?=some y→¬w25 g x y)∨(b=true∧R.length+1=R0.length)
section
variable{g:Int}{R0 R:List (Int×Int)}{i k:Nat}
theorem Scan.start:Scan g R0 R0 false 0:=.inl ⟨rfl,rfl,fun p q x y h=>by omega⟩
theorem ScanK.start(i:Nat):ScanK g R0 R0 false i (i+1):=.inl ⟨rfl,rfl,fun q x y h h'=>by omega⟩
theorem ScanK.no{x y:Int×Int}(h:ScanK g R0 R0 false i k)(hx:R0[i]?=some x)(hy:R0[k]?=some y)(hn:¬w25 g x y):ScanK g R0 R0 false i (k+1):=by
 rcases h with⟨_,_,h⟩|⟨h,_⟩;·
  refine .inl ⟨rfl,rfl,fun q x' y' h1 h2 h3 h4=>?_⟩;by_cases e:q=k;·subst e;rw[hx]at h3;injection h3 with h3;subst h3;rw[hy]at h4;injection h4 with h4;subst h4;exact hn
  ·exact h q x' y' h1 (by omega) h3 h4
 ·cases h
theorem ScanK.done{b:Bool}(hs:Scan g R0 R0 false i)(h:ScanK g R0 R b i k)(hk:b=false→¬k<R0.length):Scan g R0 R b (i+1):=by
 rcases hs with⟨_,_,hs⟩|⟨hs,_⟩;·
  rcases h with⟨rfl,rfl,h⟩|h;·
   refine .inl ⟨rfl,rfl,fun p q x y h1 h2 h3 h4=>?_⟩;by_cases e:p=i;·subst e;have hq:q<R.length:=(O_.1 h4).1;exact h q x y h2 (by have:=hk rfl;omega) h3 h4
   ·exact hs p q x y (by omega) h2 h3 h4
  ·exact .inr h
 ·cases hs
theorem Scan.far{b:Bool}(h:Scan g R0 R b i)(hb:b=false)(hi:¬i<R0.length):R.Pairwise (fun a b=>¬w25 g a b):=by
 rcases h with⟨_,rfl,h⟩|⟨h,_⟩;·rw[E_];intro p q hp hq hpq;exact h p q _ _ (by omega) hpq (o_ hp) (o_ hq)
 ·rw[hb]at h;cases h
theorem Scan.len{b:Bool}(h:Scan g R0 R b i):R.length+(if b=true then 1 else 0)=R0.length:=by rcases h with⟨rfl,rfl,_⟩|⟨rfl,h⟩<;>simp_all
theorem ScanK.len{b:Bool}(h:ScanK g R0 R b i k):R.length+(if b=true then 1 else 0)=R0.length:=by rcases h with⟨rfl,rfl,_⟩|⟨rfl,h⟩<;>simp_all
theorem Scan.same(h:Scan g R0 R false i):R=R0:=by
 rcases h with⟨_,rfl,_⟩|⟨h,_⟩;·rfl
 ·cases h
theorem ScanK.same(h:ScanK g R0 R false i k):R=R0:=by
 rcases h with⟨_,rfl,_⟩|⟨h,_⟩;·rfl
 ·cases h
end
def lenV:Value→Nat|.slice _ n _=>n|_=>0
def q58:Value→Nat|.bool true=>1|_=>0
theorem Own.setTwo{W:World}{base g c:Nat}{A:Option Addr}{L:List (Int×Int)}(h:Own W base A c L)(hne:OffB A g)(u v:Value):Own ((W.drew.setCell ⟨g,0,none⟩ u).setCell ⟨g,1,none⟩ v) base A c L:=az_ (row:=some g) h ⟨rfl,rfl,rfl,by simp,fun k hk hn=>(aG_ _ _ _ k (fun e=>hn (by rw[e]))).trans (aG_ _ _ _ k (fun e=>hn (by rw[e])))⟩ (by cases A with|none=>simp[Value.ownBlock]|some a=>have:=hne a rfl;simp[Value.ownBlock];omega)
theorem w130(a b:Int)(w:World):Calls Tryz.prog 221 #[.int .i64 a,.int .i64 b] w fun e w'=>e=.returned (.int .i64 (min a b))∧w'=w:=(j54 a b w).mono fun _ _ h=>⟨h.1,h.2.symm⟩
theorem y141(A:Option Addr)(c:Nat)(L:List (Int×Int))(gap:Int)(w:World)(h:Sp w A c L)(hL:∀x∈L,w95 x)(hl:L.length≤1000):Calls Tryz.prog 153 #[.slice A L.length c,.int .i64 gap] w (z118 (max gap 0) L w):=by
 have H:=a_ h;have HL:=a_ hL;have HLT:Hid (∀x∈L,x.1<x.2):=fun x hx=>(hL x hx).2.1;obtain⟨g,hg⟩:∃g,max gap 0=g:=⟨_,rfl⟩;have hg0:0≤g:=by omega
 have HN:=fun a1 a2 b1 b2 W ha hb=>a_ (x141 a1 a2 b1 b2 gap W ha hb);rw[hg]at HN⊢;have HST:Hid (OnWay g L L):=OnWay.start hg0;clear h hL hg;go_enter Tryz.func153,Tryz.ntmps153;go_wp2_with fail;go_loopw[5,7,16](fun v _ i wr=>∃(k:Nat)(A2:Option Addr)(c2:Nat),k≤L.length∧i=.int .i64 k∧v=.slice A2 k c2∧Own wr w.heap.size A2 c2 (L.take k)∧Below w.heap.size w wr)(fun _ _ i _=>L.length-(intOf i).toNat);case atStart=>exact⟨0,none,0,v_ _,rfl,rfl,Own.nil _ _,b_ _ _⟩
 case round=>
  obtain⟨k,A2,c2,hk,rfl,rfl,ho,hbw⟩:=hrel;have HO:=a_ ho;have HB:=a_ hbw;clear ho hbw;by_cases hlt:k<L.length;·
   obtain⟨b,off,e,hb,d1,d2⟩:=(H.out.below HB.out).at_ hlt;have HNX:Hid (L.take (k+1)=L.take k++[L[k]]):=n_ hlt;have hgl:(L.take k).length=k:=by simp;omega
   obtain⟨G,hG⟩:∃G,L.take k=G:=⟨_,rfl⟩;rw[hG]at HO HNX hgl;obtain⟨⟨x1,x2⟩,hx⟩:∃x,L[k]=x:=⟨_,rfl⟩;rw[hx]at d1 d2 HNX;clear hx hG;have HO':=HO;have HGL:=a_ hgl;clear HO hgl;rw[e];go_wp2_with(at_builtin;refine q31 (w0:=w) rfl (.tmp 20) (.tmp 22) rfl A2 c2 G (by rw[HGL.out];rfl) (by exact(HO'.out.alloc _).alloc _) _ x1 x2 rfl (by first|exact k31 _ _ _ _|simp[go_sem]) (by first|exact w31 _ _ _ _|simp[go_sem]) (by rw[HGL.out];omega) (by exact q11 (q11 HB.out _) _) ?_;intro A5 c5 w5 hown5 hbw5 _);go_roundw;case rel=>exact⟨k+1,A5,c5,by omega,by go_num,by rw[HGL.out],by rw[HNX.out];exact hown5,hbw5⟩
   case measure=>simp[intOf];omega
  ·obtain rfl:k=L.length:=by omega
   have hO:=HO.out;rw[V_]at hO;have HSP:=a_ hO;clear hO HO hlt hk H;go_wp2_with fail;go_loopw[5,8,9,10,11,12,13,61](fun v t _ _ _ _ _ _ wr=>∃(R:List (Int×Int))(A':Option Addr)(c':Nat)(b:Bool),v=.slice A' R.length c'∧t=.bool b∧Own wr w.heap.size A' c' R∧OnWay g L R∧(b=false→R.Pairwise (fun x y=>¬w25 g x y))∧R.length≤L.length∧Below w.heap.size w wr)(fun v t _ _ _ _ _ _ _=>lenV v+q58 t);case atStart=>exact⟨L,A2,c2,true,rfl,rfl,HSP.out,HST.out,(fun h=>by cases h),t_ _,HB.out⟩
   case round=>
    clear HSP HB HST;obtain⟨R0,A0,c0,b0,rfl,rfl,hsp,how,hfar,hlen0,hbw⟩:=hrel;have HSP:=a_ hsp;have HOW:=a_ how;have HF:=a_ hfar;have HB:=a_ hbw;clear hsp how hfar hbw;cases b0 with
     |false=>obtain⟨O,hO,hOe⟩:=HOW.out.done (HF.out rfl);have HO:=a_ hO;have HOE:=a_ hOe;clear hO hOe;go_wp2_with fail;go_ret;refine⟨O,HO.out,?_⟩;rw[←HOE.out];exact⟨_,_,rfl,HSP.out,HB.out⟩
     |true=>
      have HW:Hid (∀x∈R0,w95 x):=HOW.out.wide HL.out;clear HF;go_wp2_with fail;go_loopw[5,8,9,10,11,12,13,61](fun v t si _ _ _ _ _ wr=>∃(R:List (Int×Int))(A':Option Addr)(c':Nat)(b:Bool)(i:Nat),v=.slice A' R.length c'∧t=.bool b∧si=.int .i64 i∧i≤1000∧Own wr w.heap.size A' c' R∧OnWay g L R∧Scan g R0 R b i∧Below w.heap.size w wr)(fun _ t si _ _ _ _ _ _=>if q58 t=1 then 0 else R0.length-(intOf si).toNat);case atStart=>exact⟨R0,A0,c0,false,0,rfl,rfl,rfl,by omega,HSP.out,HOW.out,Scan.start,HB.out⟩
      case round=>
       clear HSP HB HOW;obtain⟨R,A',c',b1,i,rfl,rfl,rfl,hi,hsp,how,hsc,hbw⟩:=hrel;have HSP:=a_ hsp;have HOW:=a_ how;have HSC:=a_ hsc;have HB:=a_ hbw;have hln:=hsc.len;clear hsp how hsc hbw;by_cases hlt:i<R.length;·
        cases b1 with
         |true=>
          go_wp2_with fail;go_roundw;case rel=>exact⟨R,A',c',true,rfl,rfl,HSP.out,HOW.out,(fun h=>by cases h),by simp at hln;omega,HB.out⟩
          case measure=>simp[lenV,q58]at hln⊢;omega
         |false=>
          obtain rfl:R=R0:=HSC.out.same;go_wp2_with fail;go_loopw[5,8,10,11,12,13,61](fun v t sk _ _ _ _ wr=>∃(R':List (Int×Int))(A':Option Addr)(c':Nat)(b:Bool)(k:Nat),v=.slice A' R'.length c'∧t=.bool b∧sk=.int .i64 k∧i<k∧k≤1001∧Own wr w.heap.size A' c' R'∧OnWay g L R'∧ScanK g R R' b i k∧Below w.heap.size w wr)(fun _ t sk _ _ _ _ _=>if q58 t=1 then 0 else R.length-(intOf sk).toNat);case atStart=>exact⟨R,A',c',false,i+1,rfl,rfl,by go_num,by omega,by omega,HSP.out,HOW.out,ScanK.start i,HB.out⟩
          case round=>
           clear HSP HB HOW hln;obtain⟨R',A3,c3,b2,k,rfl,rfl,rfl,hik,hk,hsp,how,hsk,hbw⟩:=hrel;have HSP:=a_ hsp;have HOW:=a_ how;have HSK:=a_ hsk;have HB:=a_ hbw;have hln:=hsk.len;clear hsp how hsk hbw;by_cases hkt:k<R'.length;·
            cases b2 with
             |true=>
              go_wp2_with fail;go_roundw;case rel=>exact⟨R',A3,c3,true,i+1,rfl,rfl,by go_num,by omega,HSP.out,HOW.out,HSK.out.done HSC.out (fun h=>by cases h),HB.out⟩
              case measure=>simp[q58,intOf];omega
             |false=>
              obtain rfl:R'=R:=HSK.out.same;have hil:i<R'.length:=by omega
              obtain⟨bb,off,e,hb,k1,k2⟩:=HSP.out.sp.at_ hil;obtain⟨bb2,off2,e2,hb2,j1,j2⟩:=HSP.out.sp.at_ hkt;have hW:=HOW.out.wide HL.out;have hwx:=hW _ (y_ hil);have hwy:=hW _ (y_ hkt);have HJN:=a_ (fun hn=>HOW.out.join HLT.out hik hkt hn);have HNO:=a_ (fun hn=>HSK.out.no (o_ hil) (o_ hkt) hn);obtain⟨⟨x1,x2⟩,hx⟩:∃x,R'[i]=x:=⟨_,rfl⟩;obtain⟨⟨y1,y2⟩,hy⟩:∃x,R'[k]=x:=⟨_,rfl⟩;rw[hx]at k1 k2 hwx HJN HNO;rw[hy]at j1 j2 hwy HJN HNO;have HNC:=fun W=>a_ (HN x1 x2 y1 y2 W hwx hwy).out;have HXI:=a_ hx;have HYK:=a_ hy;obtain⟨x0,x02,x03⟩:=hwx;obtain⟨y0,y02,y03⟩:=hwy;simp only at k1 k2 j1 j2 x0 x02 x03 y0 y02 y03;rw[e]at e2;injection e2 with e2;injection e2 with e2a e2b _;subst e2a;subst e2b;subst e;clear hx hy hW hln;cases hn:w67 g (x1,x2) (y1,y2)with
               |false=>
                rw[hn]at HNC;have HSN:=a_ (HNO.out (q153.1 hn));clear HNO HJN hn;go_wp2_with fail;go_region_held3(fun w'=>w'.cell? ⟨bb,off+i*2,none⟩=some (.int .i64 x1)∧w'.cell? ⟨bb,off+i*2+1,none⟩=some (.int .i64 x2)∧w'.cell? ⟨bb,off+k*2,none⟩=some (.int .i64 y1)∧w'.cell? ⟨bb,off+k*2+1,none⟩=some (.int .i64 y2))(first|exact⟨k1,k2,j1,j2⟩|exact⟨x16 hb5 k1,x16 hb5 k2,x16 hb5 j1,x16 hb5 j2⟩|fail)((first|(go_at_call 222;refine(HNC _).out.mono ?_;rintro e5 w5⟨rfl,hb5⟩)));all_goals
                 have HSP5:=a_ ((show Own _ w.heap.size _ c3 R' from by first|exact HSP.out.drew|exact HSP.out).below hb5);have HB5:=a_ (q12 hb5 (show Below w.heap.size w _ from by first|exact x15 HB.out|exact HB.out));clear hb5;go_wp2_with fail;go_roundw;case rel=>exact⟨R',_,c3,false,k+1,rfl,rfl,by go_num,by omega,by omega,HSP5.out,HOW.out,HSN.out,HB5.out⟩
                 case measure=>simp[q58,intOf];omega
               |true=>
                rw[hn]at HNC;have HOWN:=a_ (HJN.out (j105.1 hn));clear HNO HJN hn;go_wp2_with fail;go_region_held3(fun w'=>w'.cell? ⟨bb,off+i*2,none⟩=some (.int .i64 x1)∧w'.cell? ⟨bb,off+i*2+1,none⟩=some (.int .i64 x2)∧w'.cell? ⟨bb,off+k*2,none⟩=some (.int .i64 y1)∧w'.cell? ⟨bb,off+k*2+1,none⟩=some (.int .i64 y2))(first|exact⟨k1,k2,j1,j2⟩|exact⟨x16 hb5 k1,x16 hb5 k2,x16 hb5 j1,x16 hb5 j2⟩|fail)((first|(go_at_call 222;refine(HNC _).out.mono ?_;rintro e5 w5⟨rfl,hb5⟩)));all_goals
                 have HSP5:=a_ ((show Own _ w.heap.size _ c3 R' from by first|exact HSP.out.drew|exact HSP.out).below hb5);have HB5:=a_ (q12 hb5 (show Below w.heap.size w _ from by first|exact x15 HB.out|exact HB.out));clear hb5 k1 k2 j1 j2 hb hb2 HB HSP HOW HSK;go_wp2_with fail;go_loopw[11,12,13,61](fun v _ _ sn wr=>∃(n:Nat)(A4:Option Addr)(c4:Nat),n≤R'.length∧sn=.int .i64 n∧v=.slice A4 (((R'.set i (q26 (x1,x2) (y1,y2))).take n).eraseIdx k).length c4∧Own wr w5.heap.size A4 c4 (((R'.set i (q26 (x1,x2) (y1,y2))).take n).eraseIdx k)∧Below w5.heap.size w5 wr)(fun _ _ _ sn _=>R'.length-(intOf sn).toNat);case atStart=>exact⟨0,none,0,v_ _,rfl,by simp,by simpa using Own.nil _ _,b_ _ _⟩
                 case round=>
                  obtain⟨n,A4,c4,hnl,rfl,rfl,ho,hbw⟩:=hrel;have HO:=a_ ho;have HB6:=a_ hbw;clear ho hbw;by_cases hnt:n<R'.length;·
                   have hjl:(((R'.set i (q26 (x1,x2) (y1,y2))).take n).eraseIdx k).length≤1000:=by rw[w134 hnl];split<;>omega
                   by_cases hnk:n=k;·
                    subst hnk;have HKS:Hid (((R'.set i (q26 (x1,x2) (y1,y2))).take (n+1)).eraseIdx n=((R'.set i (q26 (x1,x2) (y1,y2))).take n).eraseIdx n):=x121 hnt;obtain⟨b7,off7,e7,hb7,z1,z2⟩:=(HSP5.out.sp.below HB6.out).at_ hnt;injection e7 with e7;injection e7 with e7a e7b _;subst e7a;subst e7b;have ne1:((n:Int)==(i:Int))=false:=by rw[j_];omega
                    go_wp2_with fail;go_roundw;case rel=>exact⟨n+1,A4,c4,by omega,by go_num,by rw[HKS.out],by rw[HKS.out];exact HO.out.alloc _,q11 HB6.out _⟩
                    case measure=>simp[intOf];omega
                   ·have HKP:=a_ (k121 (i:=i) (k:=k) (x:=q26 (x1,x2) (y1,y2)) hnt hnk);have ne2:((n:Int)!=(k:Int))=true:=by rw[F_];omega
                    obtain⟨G,hG⟩:∃G,((R'.set i (q26 (x1,x2) (y1,y2))).take n).eraseIdx k=G:=⟨_,rfl⟩;rw[hG]at HKP HO hjl;rw[hG];clear hG;obtain⟨b7,off7,e7,hb7,z1,z2⟩:=(HSP5.out.sp.below HB6.out).at_ hnt;injection e7 with e7;injection e7 with e7a e7b _;subst e7a;subst e7b;by_cases hni:n=i;·
                     subst hni;have hz:R'[n]=(x1,x2):=HXI.out;rw[hz]at z1 z2;obtain⟨b8,off8,e8,hb8,u1,u2⟩:=(HSP5.out.sp.below HB6.out).at_ hkt;injection e8 with e8;injection e8 with e8a e8b _;subst e8a;subst e8b;have hzk:R'[k]=(y1,y2):=HYK.out;rw[hzk]at u1 u2;simp only at z1 z2 u1 u2;have HKP':Hid (((R'.set n (q26 (x1,x2) (y1,y2))).take (n+1)).eraseIdx k=G++[(min x1 y1,max x2 y2)]):=by simp only[Hid];rw[HKP.out];simp only[List.getElem_set_self,q26]
                     clear HKP hz hzk;have w1:IntKind.i64.wrap (-x2)=-x2:=M_ _ (by omega);have w2:IntKind.i64.wrap (-y2)=-y2:=M_ _ (by omega);have w3:IntKind.i64.wrap (-(min (-x2) (-y2)))=-(min (-x2) (-y2)):=M_ _ (by omega);have ne1:((n:Int)==(n:Int))=true:=by simp
                     go_upto_region 22 with fail;obtain⟨W7,hW7⟩:∃W,wr.alloc (.cells #[.int .i64 x1,.int .i64 x2] 59)=W:=⟨_,rfl⟩;obtain⟨G7,hG7⟩:∃g,wr.heap.size=g:=⟨_,rfl⟩;have q0:W7.cell? ⟨G7,0,none⟩=some (.int .i64 x1):=by rw[←hW7,←hG7];exact k31 _ _ _ _
                     have q1:W7.cell? ⟨G7,1,none⟩=some (.int .i64 x2):=by rw[←hW7,←hG7];exact w31 _ _ _ _
                     have hbw7:Below wr.heap.size wr W7:=by rw[←hW7];exact q11 (b_ _ _) _
                     have u1':=x16 hbw7 u1;have u2':=x16 hbw7 u2;have HB7:=a_ (q12 hbw7 HB6.out);have HO7:=a_ (HO.out.below hbw7);have hsz7:G7<W7.heap.size:=aI_ W7 ⟨G7,0,none⟩ q0;have hge7:w5.heap.size≤G7:=by rw[←hG7];exact HB6.out.size
                     have hfz0:W7.frozen? ⟨G7,0,none⟩=false:=by rw[←hW7,←hG7];simp[go_sem]
                     have hfz1:W7.frozen? ⟨G7,1,none⟩=false:=by rw[←hW7,←hG7];simp[go_sem]
                     have hOff7:Hid (OffB A4 G7):=by rw[←hG7];exact HO.out.offNew
                     have hbG:bb≠G7:=by rw[←hG7];have:=HB6.out.size;omega
                     rw[hW7,hG7];clear hW7 hG7 hbw7 u1 u2 z1 z2 HO HB6;have q0':({W7 with drawn:=W7.drawn+1}:World).cell? ⟨G7,0,none⟩=some (.int .i64 x1):=q0;have q1':({W7 with drawn:=W7.drawn+1}:World).cell? ⟨G7,1,none⟩=some (.int .i64 x2):=q1;have u1'':({W7 with drawn:=W7.drawn+1}:World).cell? ⟨bb,off+k*2,none⟩=some (.int .i64 y1):=u1';have u2'':({W7 with drawn:=W7.drawn+1}:World).cell? ⟨bb,off+k*2+1,none⟩=some (.int .i64 y2):=u2';refine wp_region_still_tail 20 (by kernel_rfl) (by kernel_rfl) ?_;simp only[List.take_succ_cons,List.take_zero,aC_,aQ_];repeat still_step
                     still_call(w130 x1 y1 _);repeat still_step
                     still_call(w130 (-x2) (-y2) _);repeat still_step
                     refine wpStill_nil ?_;clear q0' q1' u1'' u2'';change wpList _ _ _ _ _ W7.drew;clear w1 w2 w3;have e3:IntKind.i64.wrap (max x2 y2)=max x2 y2:=M_ _ (by omega);have e4:-(min (-x2) (-y2))=max x2 y2:=by omega
                     go_wp2_with(at_builtin;refine q31 (w0:=w5) rfl (.tmp 92) (.tmp 94) rfl A4 c4 G rfl (by exact(HO7.out.setTwo hOff7.out _ _).alloc _) _ (min x1 y1) (max x2 y2) rfl (by first|exact k31 _ _ _ _|simp[go_sem]) (by first|exact w31 _ _ _ _|simp[go_sem]) (by omega) (by exact q11 (w14 (w14 (x15 HB7.out) hge7 _) hge7 _) _) ?_;intro A6 c6 w6 hown6 hbw6 _);clear e3 e4;go_roundw;case rel=>exact⟨n+1,A6,c6,by omega,by go_num,by rw[HKP'.out];simp,by rw[HKP'.out];exact hown6,hbw6⟩
                     case measure=>simp[intOf];omega
                    ·have ne1:((n:Int)==(i:Int))=false:=by rw[j_];omega
                     obtain⟨⟨v1,v2⟩,hz⟩:∃x,R'[n]=x:=⟨_,rfl⟩;rw[hz]at z1 z2;simp only at z1 z2;have HKP':Hid (((R'.set i (q26 (x1,x2) (y1,y2))).take (n+1)).eraseIdx k=G++[(v1,v2)]):=by simp only[Hid];rw[HKP.out,List.getElem_set_ne (fun e=>hni e.symm),hz]
                     clear HKP hz;go_wp2_with(at_builtin;refine q31 (w0:=w5) rfl (.tmp 92) (.tmp 94) rfl A4 c4 G rfl (by repeat(first|exact HO.out|refine Own.alloc ?_ _)) _ v1 v2 rfl (by first|exact k31 _ _ _ _|simp[go_sem]) (by first|exact w31 _ _ _ _|simp[go_sem]) (by omega) (by repeat(first|exact HB6.out|refine q11 ?_ _)) ?_;intro A6 c6 w6 hown6 hbw6 _);go_roundw;case rel=>exact⟨n+1,A6,c6,by omega,by go_num,by rw[HKP'.out];simp,by rw[HKP'.out];exact hown6,hbw6⟩
                     case measure=>simp[intOf];omega
                  ·obtain rfl:n=R'.length:=by omega
                   have hO:=HO.out;rw[z94]at hO;have hjn:=j106 (i:=i) (q26 (x1,x2) (y1,y2)) hkt;have HO':=a_ (hO.base_le (base':=w.heap.size) HB5.out.size);have HBE:=a_ (q12 HB6.out HB5.out);rw[z94];clear hO HO HB6;go_wp2_with fail;go_roundw;case rel=>exact⟨_,A4,c4,true,k+1,rfl,rfl,by go_num,by omega,by omega,HO'.out,HOWN.out,.inr ⟨rfl,by omega⟩,HBE.out⟩
                   case measure=>simp[q58,intOf];omega
           ·have HSD:=a_ (HSK.out.done HSC.out (fun hb=>by subst hb;have:=HSK.out.same;subst this;exact hkt));go_wp2_with fail;go_roundw;case rel=>exact⟨R',A3,c3,b2,i+1,rfl,rfl,by go_num,by omega,HSP.out,HOW.out,HSD.out,HB.out⟩
            case measure=>cases b2<;>simp[q58,intOf]<;>omega
       ·have HF:Hid (b1=false→R.Pairwise (fun x y=>¬w25 g x y)):=fun hb=>HSC.out.far hb (by subst hb;have:=HSC.out.same;subst this;exact hlt);go_wp2_with fail;go_roundw;case rel=>exact⟨R,A',c',b1,rfl,rfl,HSP.out,HOW.out,HF.out,by cases b1<;>simp at hln<;>omega,HB.out⟩
        case measure=>cases b1<;>simp[lenV,q58]at hln⊢<;>omega
