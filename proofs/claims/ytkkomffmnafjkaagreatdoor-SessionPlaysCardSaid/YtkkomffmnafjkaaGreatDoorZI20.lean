/- Contracts of multi.kindly and multi.Parts, where parts are told. Contracts .. -/
import Derived.Test.YtkkomffmnafjkaaGreatDoorZI15
import Derived.Test.YtkkomffmnafjkaaGreatDoorZI19
import Derived.Test.YtkkomffmnafjkaaGreatDoorZO6
set_option maxHeartbeats 16000000
set_option maxRecDepth 100000
set_option linter.all false
namespace Go.Proofs.YtkkomffmnafjkaaGreatDoor
open Go.RowKit
def kindOk(l:List UInt8):Bool:=decide (1≤l.length)&&decide (l.length≤100)&&w22 nCT l
theorem y132(l:List UInt8)(w:World)(hk:kindOk l=true):Calls Tryz.prog 197 #[.string ⟨l.toArray⟩] w fun e w'=>e=.returned (.bool true)∧Below w.heap.size w w':=by
 unfold kindOk at hk;simp only[r_,p_]at hk;obtain⟨⟨h1,h2⟩,h3⟩:=hk;have hsz:(⟨l.toArray⟩:ByteArray).size=l.length:=q19 l;have HF:∀W,Hid (Calls Tryz.prog 264 #[.agg #[.string ⟨#[67,111,110,116,101,110,116,45,84,121,112,101]⟩,.string ⟨l.toArray⟩]] W fun e w'=>e=.returned (.bool true)∧Below W.heap.size W w'):=fun W=>by have h:=j97 nCT l W (by decide) (by omega);rw[h3]at h;exact a_ h
 have h1':(1:Int)≤(l.length:Int):=by omega
 have h2':(l.length:Int)≤100:=by omega
 clear h1 h2 h3;go_enter Tryz.func197,Tryz.ntmps197;go_wp2_with(go_at_call 264;refine(HF _).out.mono ?_;rintro e w1⟨rfl,hb1⟩);go_ret;exact⟨rfl,hb1⟩
def x62(k:Nat):List UInt8:=if k=0 then[]else[13,10]
def v92(P:List w17)(w:World)(e:Ending)(w':World):Prop:=∃A c k,k=P.length∧e=.returned (.tuple #[.slice A k c,.int .i64 0])∧OwnG 89 j18 3 w' w.heap.size A c P∧Below w.heap.size w w'
theorem k81{total:Int}{kd bd:List UInt8}{L:List (Int×Int)}{k:Nat}(hk:k<L.length):j26 total kd bd true (L.take (k+1))=j26 total kd bd true (L.take k)++[((if k=0 then[]else[13,10])++v181 L[k] total kd bd,(0,0)),([],L[k])]:=by
 rw[n_ hk,k68];congr 1;cases k with
  |zero=>rfl
  |succ j=>
   have:¬L.take (j+1)=[]:=by intro h;have:=R_ List.length h;rw[N_,i_]at this;omega
   rw[q_ this];rfl
theorem j48{x:Int×Int}{total:Int}(h:q23 x total=true):okS x=true∧x.2≠4611686018427387904:=by unfold q23 at h;simp only[r_,aP_,bd_]at h;exact⟨h.1.1.1.1.1,h.1.1.1.2⟩
theorem w60{x:Int×Int}{total:Int}(h:q23 x total=true):(q21 x total).length≤70:=by have h0:=h;unfold q23 at h;simp only[r_,aP_,p_]at h;have h1:=w21 (n:=x.1) (by have:=(j19 x).1 h.1.1.1.1.1;omega);have h2:=w21 (n:=x.2-1) (by have:=(j19 x).1 h.1.1.1.1.1;omega);have h3:=w21 (n:=total) (by omega);unfold q21;rw[w_ h0];simp only[e_,g_,i_,show vBytes.length=6 from rfl];split<;>simp<;>omega
theorem y145(A:Option Addr)(c:Nat)(L:List (Int×Int))(total:Int)(kd bd:List UInt8)(w:World)(h:Sp w A c L)(h0:0<L.length)(hl:L.length≤1000)(hc:∀x∈L,q23 x total=true)(hkd:kindOk kd=true)(hbd:w23 bd=true)(henv:Env w):Calls Tryz.prog 131 #[.slice A L.length c,.int .i64 total,.string ⟨kd.toArray⟩,.string ⟨bd.toArray⟩] w (v92 (x37 L total kd bd) w):=by
 have HH:=a_ h;have HC:=a_ hc;have HE:=a_ henv;have HKD:=fun W=>a_ (y132 kd W hkd);have hbl:bd.length≤70:=by unfold w23 at hbd;simp only[r_,p_]at hbd;exact hbd.1.2
 have hkl:kd.length≤100:=by unfold kindOk at hkd;simp only[r_,p_]at hkd;exact hkd.1.2
 have HBD:=fun W=>a_ (j132 bd W (by omega));rw[hbd]at HBD;have HCT:∀(x:Int×Int)(W:World),x∈L→Below w.heap.size w W→Hid (Calls Tryz.prog 118 #[.agg #[.int .i64 x.1,.int .i64 x.2],.int .i64 total] W fun e w'=>e=.returned (.string ⟨(q21 x total).toArray⟩)∧Below W.heap.size W w'):=fun x W hx hW=>by have hr:=(j19 x).1 (j48 (hc x hx)).1;exact a_ (w80 x.1 x.2 total W (HE.out.below hW).tab (by omega) (by omega))
 have hne:((L.length:Int)==0)=false:=by rw[j_];omega
 have H0:=a_ h0;clear h hc henv hkd hbd h0;go_enter Tryz.func131,Tryz.ntmps131;go_wp2_with fail;go_loopw[11,22](fun _ i wr=>∃k:Nat,k≤L.length∧i=.int .i64 (k:Int)∧Below w.heap.size w wr)(fun _ i _=>L.length-(intOf i).toNat);case atStart=>exact⟨0,v_ _,rfl,b_ _ _⟩
 case round=>
  obtain⟨k,hk,rfl,hbw⟩:=hrel;have HB:=a_ hbw;clear hbw;by_cases hlt:k<L.length;·
   obtain⟨b,off,e,hb,c1,c2⟩:=(HH.out.below HB.out).at_ hlt;have hmem:=y_ hlt;have hcx:=HC.out _ hmem;have HX:=fun W hW=>HCT L[k] W hmem hW;have hie:(q21 L[k] total).isEmpty=false:=by cases hh:(q21 L[k] total).isEmpty with|false=>rfl|true=>have:=w86.1 (aN_.1 hh);rw[hcx]at this;cases this
   obtain⟨⟨x1,x2⟩,hx⟩:∃x,L[k]=x:=⟨_,rfl⟩;rw[hx]at c1 c2 HX hie;obtain⟨ct,hct⟩:∃t,q21 (x1,x2) total=t:=⟨_,rfl⟩;rw[hct]at HX hie;simp only at c1 c2 HX;clear hmem hcx hx hct HCT;rw[e];go_wp2_with(go_at_call 118;refine(HX _ (q11 HB.out _)).out.mono ?_;rintro e w1⟨rfl,hb1⟩);go_roundw;case rel=>exact⟨k+1,by omega,by go_num,q12 hb1 (q11 HB.out _)⟩
   case measure=>simp[intOf];omega
  ·have hw1:IntKind.i64.wrap (2*(L.length:Int))=2*(L.length:Int):=M_ _ (by omega);have hw2:IntKind.i64.wrap (2*(L.length:Int)+1)=2*(L.length:Int)+1:=M_ _ (by omega);go_wp2_with(
    first
     |(go_at_call 197;refine(HKD _).out.mono ?_;rintro e w1⟨rfl,hb1⟩)
     |(go_at_call 198;refine(HBD _).out.mono ?_;rintro e w2⟨rfl,hw2'⟩;obtain rfl:w1=w2:=hw2'.symm)
     |(at_make;obtain⟨i0,hi,hz0,hz1,hz2⟩:=aT_ Tryz.partInfo;go_must(refine wpList_make_own w1 rfl (.const (.int .i64 0)) (.tmp 42) 72 rfl w.heap.size 89 i0 _ 3 Tryz.underlying72 hi hz0 hz1 .i64 .i64 (2*(L.length:Int)+1) (2*L.length+1) rfl rfl (by omega) (by rw[hz2];omega) (by simp only[maxLen];omega) (q12 hb1 HB.out).size ?_;intro w3 hown3 hg3);have HO3:Hid (OwnG 89 j18 3 w3 w.heap.size (some ⟨w1.heap.size,0,none⟩) (2*L.length+1) []):=hown3;have HB3:Hid (Below w.heap.size w w3):=(q12 hb1 HB.out).grown hg3 (q12 hb1 HB.out).size (fun k hk=>by cases hk);clear hown3 hg3 hi hz0 hz1 hz2 hb1));clear hne hw1 hw2 HKD HBD;go_loopw[12,13,15,16,46](fun out ah _ _ i wr=>∃(k:Nat)(A':Option Addr)(c' m:Nat),k≤L.length∧i=.int .i64 (k:Int)∧m=(j26 total kd bd true (L.take k)).length∧out=.slice A' m c'∧OwnG 89 j18 3 wr w.heap.size A' c' (j26 total kd bd true (L.take k))∧ah=.string ⟨(x62 k).toArray⟩∧Below w.heap.size w wr)(fun _ _ _ _ i _=>L.length-(intOf i).toNat);case atStart=>exact⟨0,_,_,0,v_ _,rfl,rfl,rfl,HO3.out,rfl,HB3.out⟩
   case round=>
    clear HO3 HB3 HB hk;obtain⟨k,A',c',m,hk,rfl,hm,rfl,hown,rfl,hbw⟩:=hrel;have HB:=a_ hbw;have HO:=a_ hown;have HM:=a_ hm;have hm2:m≤2000:=by rw[hm,q56,N_];omega
    clear hbw hown hm;by_cases hlt:k<L.length;·
     obtain⟨b,off,e,hb,c1,c2⟩:=(HH.out.below HB.out).at_ hlt;have hmem:=y_ hlt;have HX:=fun W hW=>HCT L[k] W hmem hW;have hctl:=w60 (HC.out _ hmem);have HST:=a_ (k81 (total:=total) (kd:=kd) (bd:=bd) hlt);have HA2:Hid (x62 (k+1)=[13,10]):=rfl;have hal:(x62 k).length≤2:=by unfold x62;split<;>decide
     have HAE:Hid ((if k=0 then[]else[13,10]:List UInt8)=x62 k):=rfl;obtain⟨P,hP⟩:∃P,j26 total kd bd true (L.take k)=P:=⟨_,rfl⟩;rw[hP]at HO HM HST;obtain⟨⟨x1,x2⟩,hx⟩:∃x,L[k]=x:=⟨_,rfl⟩;rw[hx]at c1 c2 HX hctl HST;rw[HAE.out]at HST;obtain⟨ct,hct⟩:∃t,q21 (x1,x2) total=t:=⟨_,rfl⟩;have HHT:Hid (v181 (x1,x2) total kd bd=[45,45]++bd++[13,10]++([67,111,110,116,101,110,116,45,84,121,112,101,58,32])++kd++[13,10]++([67,111,110,116,101,110,116,45,82,97,110,103,101,58,32])++ct++[13,10]++[13,10]):=by simp only[Hid];rw[←hct];rfl
     rw[hct]at HX hctl;simp only at c1 c2 HX;obtain⟨t0,ht0⟩:∃t,x62 k=t:=⟨_,rfl⟩;rw[ht0]at HST hal⊢;obtain⟨t1,K1⟩:∃t,Hid (t=t0++[45,45]):=⟨_,a_ rfl⟩;have N1:Hid (t1.length≤4):=by simp only[Hid];rw[K1.out,e_];have:=hal;simp only[g_,i_];omega
     have hc1:∀W,(Op.stringOp .add ⟨t0.toArray⟩ ⟨([45,45]:List UInt8).toArray⟩).run Tryz.prog W=.ok (.string ⟨t1.toArray⟩) W:=by rw[K1.out];exact catE (by have:=hal;simp only[g_,i_];omega)
     obtain⟨t2,K2⟩:∃t,Hid (t=t1++bd):=⟨_,a_ rfl⟩;have N2:Hid (t2.length≤74):=by simp only[Hid];rw[K2.out,e_];have:=N1.out;omega
     have hc2:∀W,(Op.stringOp .add ⟨t1.toArray⟩ ⟨(bd:List UInt8).toArray⟩).run Tryz.prog W=.ok (.string ⟨t2.toArray⟩) W:=by rw[K2.out];exact catE (by have:=N1.out;omega)
     obtain⟨t3,K3⟩:∃t,Hid (t=t2++[13,10]):=⟨_,a_ rfl⟩;have N3:Hid (t3.length≤76):=by simp only[Hid];rw[K3.out,e_];have:=N2.out;simp only[g_,i_];omega
     have hc3:∀W,(Op.stringOp .add ⟨t2.toArray⟩ ⟨([13,10]:List UInt8).toArray⟩).run Tryz.prog W=.ok (.string ⟨t3.toArray⟩) W:=by rw[K3.out];exact catE (by have:=N2.out;simp only[g_,i_];omega)
     obtain⟨t4,K4⟩:∃t,Hid (t=t3++[67,111,110,116,101,110,116,45,84,121,112,101,58,32]):=⟨_,a_ rfl⟩;have N4:Hid (t4.length≤90):=by simp only[Hid];rw[K4.out,e_];have:=N3.out;simp only[g_,i_];omega
     have hc4:∀W,(Op.stringOp .add ⟨t3.toArray⟩ ⟨([67,111,110,116,101,110,116,45,84,121,112,101,58,32]:List UInt8).toArray⟩).run Tryz.prog W=.ok (.string ⟨t4.toArray⟩) W:=by rw[K4.out];exact catE (by have:=N3.out;simp only[g_,i_];omega)
     obtain⟨t5,K5⟩:∃t,Hid (t=t4++kd):=⟨_,a_ rfl⟩;have N5:Hid (t5.length≤190):=by simp only[Hid];rw[K5.out,e_];have:=N4.out;omega
     have hc5:∀W,(Op.stringOp .add ⟨t4.toArray⟩ ⟨(kd:List UInt8).toArray⟩).run Tryz.prog W=.ok (.string ⟨t5.toArray⟩) W:=by rw[K5.out];exact catE (by have:=N4.out;omega)
     obtain⟨t6,K6⟩:∃t,Hid (t=t5++[13,10]):=⟨_,a_ rfl⟩;have N6:Hid (t6.length≤192):=by simp only[Hid];rw[K6.out,e_];have:=N5.out;simp only[g_,i_];omega
     have hc6:∀W,(Op.stringOp .add ⟨t5.toArray⟩ ⟨([13,10]:List UInt8).toArray⟩).run Tryz.prog W=.ok (.string ⟨t6.toArray⟩) W:=by rw[K6.out];exact catE (by have:=N5.out;simp only[g_,i_];omega)
     obtain⟨t7,K7⟩:∃t,Hid (t=t6++[67,111,110,116,101,110,116,45,82,97,110,103,101,58,32]):=⟨_,a_ rfl⟩;have N7:Hid (t7.length≤207):=by simp only[Hid];rw[K7.out,e_];have:=N6.out;simp only[g_,i_];omega
     have hc7:∀W,(Op.stringOp .add ⟨t6.toArray⟩ ⟨([67,111,110,116,101,110,116,45,82,97,110,103,101,58,32]:List UInt8).toArray⟩).run Tryz.prog W=.ok (.string ⟨t7.toArray⟩) W:=by rw[K7.out];exact catE (by have:=N6.out;simp only[g_,i_];omega)
     obtain⟨t8,K8⟩:∃t,Hid (t=t7++ct):=⟨_,a_ rfl⟩;have N8:Hid (t8.length≤277):=by simp only[Hid];rw[K8.out,e_];have:=N7.out;omega
     have hc8:∀W,(Op.stringOp .add ⟨t7.toArray⟩ ⟨(ct:List UInt8).toArray⟩).run Tryz.prog W=.ok (.string ⟨t8.toArray⟩) W:=by rw[K8.out];exact catE (by have:=N7.out;omega)
     obtain⟨t9,K9⟩:∃t,Hid (t=t8++[13,10]):=⟨_,a_ rfl⟩;have N9:Hid (t9.length≤279):=by simp only[Hid];rw[K9.out,e_];have:=N8.out;simp only[g_,i_];omega
     have hc9:∀W,(Op.stringOp .add ⟨t8.toArray⟩ ⟨([13,10]:List UInt8).toArray⟩).run Tryz.prog W=.ok (.string ⟨t9.toArray⟩) W:=by rw[K9.out];exact catE (by have:=N8.out;simp only[g_,i_];omega)
     obtain⟨t10,K10⟩:∃t,Hid (t=t9++[13,10]):=⟨_,a_ rfl⟩;have N10:Hid (t10.length≤281):=by simp only[Hid];rw[K10.out,e_];have:=N9.out;simp only[g_,i_];omega
     have hc10:∀W,(Op.stringOp .add ⟨t9.toArray⟩ ⟨([13,10]:List UInt8).toArray⟩).run Tryz.prog W=.ok (.string ⟨t10.toArray⟩) W:=by rw[K10.out];exact catE (by have:=N9.out;simp only[g_,i_];omega)
     have HT:Hid (t0++v181 (x1,x2) total kd bd=t10):=by simp only[Hid];rw[HHT.out,K10.out,K9.out,K8.out,K7.out,K6.out,K5.out,K4.out,K3.out,K2.out,K1.out];simp only[x_]
     rw[HT.out]at HST;clear K1 N1 K2 N2 K3 N3 K4 N4 K5 N5 K6 N6 K7 N7 K8 N8 K9 N9 K10 N10 HHT HT hmem hx hct ht0 hal hctl hP HCT HAE;rw[e];go_wp2_with(
      first
       |(at_builtin;refine x23 (w0:=w) elemPt rfl (.tmp 66) (.tmp 71) rfl A' c' m P HM.out _ _ rfl (HO.out.below (q12 hb4 (q11 (b_ _ _) _))) [(t10,(0,0)),([],(x1,x2))] 2 rfl rfl rfl (Nat.zero_lt_succ 1) (m+2) rfl (by omega) (q12 hb4 (q11 HB.out _)) ?_;intro A5 c5 w5 hown5 hbw5 hg5;clear hg5)
       |(go_at_call 118;refine(HX _ (q11 HB.out _)).out.mono ?_;rintro e w4⟨rfl,hb4⟩;have q1:=x16 hb4 (k31 _ _ _ _);have q2:=x16 hb4 (w31 _ _ _ _)));go_roundw;case rel=>exact⟨k+1,A5,c5,m+2,by omega,by go_num,by rw[HST.out,e_,HM.out];rfl,rfl,by rw[HST.out];exact hown5,by rw[HA2.out],hbw5⟩
     case measure=>simp[intOf];omega
    ·have hke:k=L.length:=by omega
     rw[hke,V_]at HM HO;obtain⟨P,hP⟩:∃P,j26 total kd bd true L=P:=⟨_,rfl⟩;have HPL:Hid (x37 L total kd bd=P++[(endT bd,(0,0))]):=by simp only[Hid];rw[←hP];rfl
     rw[hP]at HM HO;have hc1:=catE (a:=[13,10,45,45]) (b:=bd) (by simp only[g_,i_];omega);have hc2:=catE (a:=[13,10,45,45]++bd) (b:=[45,45]) (by simp only[e_,g_,i_];omega);have hc3:=catE (a:=[13,10,45,45]++bd++[45,45]) (b:=[13,10]) (by simp only[e_,g_,i_];omega);have HET:Hid (endT bd=[13,10,45,45]++bd++[45,45]++[13,10]):=by simp only[Hid];unfold endT;simp
     generalize[13,10,45,45]++bd++[45,45]++[13,10]=t3 at hc3 HET;generalize[13,10,45,45]++bd++[45,45]=t2 at hc2 hc3;generalize[13,10,45,45]++bd=t1 at hc1 hc2;rw[HET.out]at HPL;clear hP HET HCT hke;go_wp2_with(
      first
       |(at_builtin;refine x23 (w0:=w) elemPt rfl (.tmp 74) (.tmp 80) rfl A' c' m P HM.out _ _ rfl HO.out [(t3,(0,0))] 1 rfl rfl rfl S_ (m+1) rfl (by omega) HB.out ?_;intro A5 c5 w5 hown5 hbw5 hg5;clear hg5));refine m_ (by simp[results,Tryz.results131,go_sem];try rfl) rfl ?_;rw[HPL.out];exact⟨A5,c5,m+1,by rw[e_,HM.out];rfl,rfl,hown5,hbw5⟩
theorem j120(f t:Int)(w:World)(h:okS (f,t)=true)(ho:t≠4611686018427387904):Calls Tryz.prog 199 #[.agg #[.int .i64 f,.int .i64 t]] w fun e w'=>e=.returned (.int .i64 (t-f))∧Below w.heap.size w w':=by
 have HR:=fun W=>a_ (q45 f t W);rw[h]at HR;obtain⟨r1,r2,r3⟩:=(j19 (f,t)).1 h;simp only at r1 r2 r3;have hw:IntKind.i64.wrap (t-f)=t-f:=M_ _ (by omega);have hb:(t==4611686018427387904)=false:=by rw[j_];exact ho
 clear h ho r1 r2 r3;go_enter Tryz.func199,Tryz.ntmps199;go_wp2_with(first|(go_at_call 64;refine(HR _).out.mono ?_;rintro e w1⟨rfl,rfl⟩)|go_in);go_ret;exact⟨rfl,by(repeat(first|exact b_ _ _|refine q15 ?_ _|refine x15 ?_|refine q11 ?_ _|refine w14 ?_ (by simp) _))⟩
theorem k92{n:Int}{P:List w17}{k:Nat}(hk:k<P.length)(h:P[k].1≠[]):w29 n (P.drop k)=w29 (n+(P[k].1.length:Int)) (P.drop (k+1)):=by rw[ag_ hk];obtain⟨⟨t,x⟩,hx⟩:∃p,P[k]=p:=⟨_,rfl⟩;rw[hx]at h⊢;rw[w29,w_ h]
theorem z101{n:Int}{P:List w17}{k:Nat}(hk:k<P.length)(h:P[k].1=[])(h2:okS P[k].2=false∨P[k].2.2=4611686018427387904):w29 n (P.drop k)=-1:=by rw[ag_ hk];obtain⟨⟨t,x⟩,hx⟩:∃p,P[k]=p:=⟨_,rfl⟩;rw[hx]at h h2⊢;rw[w29,q_ (by simp[show t=[]from h]),w_ h2]
theorem x92{n:Int}{P:List w17}{k:Nat}(hk:k<P.length)(h:P[k].1=[])(h2:¬(okS P[k].2=false∨P[k].2.2=4611686018427387904)):w29 n (P.drop k)=w29 (n+(P[k].2.2-P[k].2.1)) (P.drop (k+1)):=by rw[ag_ hk];obtain⟨⟨t,x⟩,hx⟩:∃p,P[k]=p:=⟨_,rfl⟩;rw[hx]at h h2⊢;rw[w29,q_ (by simp[show t=[]from h]),q_ h2]
def LowP(P:List w17):Prop:=∀p∈P,p.1.length≤1000000∧(okS p.2=true→p.2.2≠4611686018427387904→p.2.2≤1099511627776)
theorem v110(A:Option Addr)(c n:Nat)(P:List w17)(w:World)(hn:n=P.length)(h:SpG j18 3 w A c P)(hl:P.length≤3000)(hlow:LowP P):Calls Tryz.prog 132 #[.slice A n c] w fun e w'=>e=.returned (.int .i64 (z181 P))∧Below w.heap.size w w':=by
 subst hn;have HH:=a_ h;have HL:=a_ hlow;clear h hlow;go_enter Tryz.func132,Tryz.ntmps132;go_wp2_with fail;go_loopw[3,5,8,17,26](fun s _ i _ _ wr=>∃(k:Nat)(n:Int),k≤P.length∧i=.int .i64 (k:Int)∧s=.int .i64 n∧0≤n∧n≤k*1099512627776∧w29 n (P.drop k)=z181 P∧Below w.heap.size w wr)(fun _ _ i _ _ _=>P.length-(intOf i).toNat);case atStart=>exact⟨0,0,v_ _,rfl,rfl,ao_ _,by omega,rfl,b_ _ _⟩
 case round=>
  obtain⟨k,n,hk,rfl,rfl,hn0,hn1,hs,hbw⟩:=hrel;have HB:=a_ hbw;have HS:=a_ hs;clear hbw hs;by_cases hlt:k<P.length;·
   obtain⟨b,off,e,hb,hc⟩:=(HH.out.below HB.out).at' k hlt;have c0:=hc 0 _ rfl;have c1:=hc 1 _ rfl;have c2:=hc 2 _ rfl;simp only[J_]at c0;have hp:=HL.out _ (y_ hlt);have F1:Hid (P[k].1≠[]→w29 n (P.drop k)=w29 (n+(P[k].1.length:Int)) (P.drop (k+1))):=k92 hlt;have F2:Hid (P[k].1=[]→(okS P[k].2=false∨P[k].2.2=4611686018427387904)→w29 n (P.drop k)=-1):=z101 hlt;have F3:Hid (P[k].1=[]→¬(okS P[k].2=false∨P[k].2.2=4611686018427387904)→w29 n (P.drop k)=w29 (n+(P[k].2.2-P[k].2.1)) (P.drop (k+1))):=x92 hlt;obtain⟨⟨t,x1,x2⟩,hx⟩:∃p,P[k]=p:=⟨_,rfl⟩;rw[hx]at c0 c1 c2 hp F1 F2 F3;simp only at c0 c1 c2 hp F1 F2 F3;have hsz:(⟨t.toArray⟩:ByteArray).size=t.length:=q19 t;have HR:=fun W=>a_ (q45 x1 x2 W);clear hx hc;rw[e];cases hte:t.isEmpty with
    |false=>
     have hne:t≠[]:=by intro hh;rw[hh]at hte;simp at hte
     have HF:=a_ ((F1.out hne).symm.trans HS.out);have hw:IntKind.i64.wrap (n+(t.length:Int))=n+(t.length:Int):=M_ _ (by omega);have hk2:(k:Int)≤3000:=by omega
     have hn2:n+(t.length:Int)≤(k+1:Nat)*1099512627776:=by omega
     clear F1 F2 F3 hne;go_wp2_with fail;go_roundw;case rel=>exact⟨k+1,n+(t.length:Int),by omega,by go_num,rfl,by omega,hn2,HF.out,q11 HB.out _⟩
     case measure=>simp[intOf];omega
    |true=>
     have hte':t=[]:=aN_.1 hte;cases hok:okS (x1,x2)with
      |false=>have HF:Hid (z181 P=-1):=HS.out.symm.trans (F2.out hte' (.inl hok));rw[hok]at HR;clear F1 F2 F3 hte';go_wp2_with(go_at_call 64;refine(HR _).out.mono ?_;rintro e w1⟨rfl,rfl⟩);go_ret;exact⟨by rw[HF.out];rfl,q11 (q11 HB.out _) _⟩
      |true=>
       rw[hok]at HR;by_cases ho:x2=4611686018427387904;·
        have HF:Hid (z181 P=-1):=HS.out.symm.trans (F2.out hte' (.inr ho));have hob:(x2==4611686018427387904)=true:=by rw[aD_];exact ho
        subst ho;clear F1 F2 F3 hte';go_wp2_with(go_at_call 64;refine(HR _).out.mono ?_;rintro e w1⟨rfl,rfl⟩);go_ret;exact⟨by rw[HF.out];rfl,q11 (q11 HB.out _) _⟩
       ·have HF:=a_ ((F3.out hte' (by rw[hok];rintro(h|h)<;>first|exact ho h|cases h)).symm.trans HS.out);have hob:(x2==4611686018427387904)=false:=by rw[j_];exact ho
        obtain⟨r1,r2,r3⟩:=(j19 (x1,x2)).1 hok;have hx2:=hp.2 hok ho;simp only at r1 r2 r3 hx2;have hk2:(k:Int)≤3000:=by omega
        have hw:IntKind.i64.wrap (n+(x2-x1))=n+(x2-x1):=M_ _ (by omega);have hn2:n+(x2-x1)≤(k+1:Nat)*1099512627776:=by omega
        have HLN:=fun W=>a_ (j120 x1 x2 W hok ho);have hn3:0≤n+(x2-x1):=by omega
        clear F1 F2 F3 hte' ho hok r1 r2 r3 hx2 hp hn0 hn1;go_wp2_with(first|(go_at_call 64;refine(HR _).out.mono ?_;rintro e w1⟨rfl,rfl⟩;have q0:=j16 (o':=.cells #[.int .i64 x1,.int .i64 x2] 59) (j17 (w:=wr) (o:=.cells #[.string ⟨t.toArray⟩,.int .i64 x1,.int .i64 x2] 89) rfl);have q1:=bc 1 q0 rfl;have q2:=bc 2 q0 rfl;clear q0)|(go_at_call 199;refine(HLN _).out.mono ?_;rintro e w2⟨rfl,hb2⟩));go_roundw;case rel=>exact⟨k+1,n+(x2-x1),by omega,by go_num,rfl,hn3,hn2,HF.out,q12 hb2 (q11 (q11 HB.out _) _)⟩
        case measure=>simp[intOf];omega
  ·have hke:k=P.length:=by omega
   have HF:Hid (z181 P=n):=by have:=HS.out;rw[hke,List.drop_length]at this;exact this.symm
   clear HS hke;go_wp2_with fail;go_ret;exact⟨by rw[HF.out];rfl,HB.out⟩
theorem j72{g n:Int}{L:List (Int×Int)}{O:List ((Int×Int)×Nat)}(hL:∀x∈L,0≤x.1∧x.1<x.2∧x.2≤n)(h:Folded g L O):∀s∈O.map Prod.fst,0≤s.1∧s.1<s.2∧s.2≤n:=by intro s hs;obtain⟨o,ho,rfl⟩:=List.mem_map.1 hs;obtain⟨x,hx,_,e1⟩:=h.toFolds.lo o ho;obtain⟨y,hy,_,e2⟩:=h.toFolds.hi o ho;have h1:=hL x hx;have h2:=hL y hy;have h3:=Folds.wide (fun x hx=>(hL x hx).2.1) h.toFolds ho;omega
theorem w132{g:Int}{L:List (Int×Int)}{O:List ((Int×Int)×Nat)}(h:Folded g L O):O.map Prod.fst=[]↔L=[]:=by
 constructor;·
  intro hO;cases L with
   |nil=>rfl
   |cons x r=>obtain⟨o,ho,_⟩:=h.toFolds.some_ (x:=x) (by simp);have:=List.mem_map_of_mem (f:=Prod.fst) ho;rw[hO]at this;simp at this
 ·intro hL;have:=h.few;rw[hL]at this;have h0:O=[]:=l_ (by simpa using this);rw[h0];rfl
theorem q127{m:MetaL}(hok:MetaOk m){s:Int×Int}(h:0≤s.1∧s.1<s.2∧s.2≤m.hv):q23 s m.len=true:=by
 have h1:=hok.hv;have h2:=hok.ln;have h3:=hok.eq;refine q49 (f:=s.1) (t:=s.2) ((j19 s).2 ⟨by omega,by omega,by omega⟩) (by omega) (by omega) (by omega) (by omega) ?_;rcases h3 with h3|h3;·exact .inl h3
 ·right;omega
theorem w145{x:Int×Int}{total:Int}{kd bd:List UInt8}(h:q23 x total=true)(h1:kd.length≤100)(h2:bd.length≤70):(v181 x total kd bd).length≤400:=by have:=w60 h;unfold v181;simp only[e_,g_,i_,show nCT.length=12 from rfl,show nCR.length=13 from rfl];omega
theorem lowF{total:Int}{kd bd:List UInt8}(h1:kd.length≤100)(h2:bd.length≤70):∀(f:Bool)(S:List (Int×Int)),(∀s∈S,q23 s total=true∧s.2≤1099511627776)→LowP (j26 total kd bd f S)
 |_,[],_=>by intro p hp;simp[j26]at hp
 |f,s::r,h=>by
  have h0:=h s (by simp);have ih:=lowF h1 h2 false r fun x hx=>h x (by simp[hx]);have hl:=w145 h0.1 h1 h2;intro p hp;rw[j26]at hp;rcases C_.1 hp with rfl|hp;·refine⟨?_,fun _ _=>show(0:Int)≤1099511627776 by decide⟩;rw[e_];split<;>simp only[g_,i_]<;>omega
  ·rcases C_.1 hp with rfl|hp;·exact⟨by simp,fun _ _=>h0.2⟩
   ·exact ih p hp
theorem lowL{total:Int}{kd bd:List UInt8}(h1:kd.length≤100)(h2:bd.length≤70){S:List (Int×Int)}(h:∀s∈S,q23 s total=true∧s.2≤1099511627776):LowP (x37 S total kd bd):=by
 intro p hp;unfold x37 at hp;rcases A_.1 hp with hp|hp;·exact lowF h1 h2 true S h p hp
 ·rw[D_.1 hp];refine⟨?_,fun _ _=>show(0:Int)≤1099511627776 by decide⟩;unfold endT;simp only[e_,g_,i_];omega
theorem j127:kindOk [97,112,112,108,105,99,97,116,105,111,110,47,111,99,116,101,116,45,115,116,114,101,97,109]=true:=by decide+kernel
theorem x65(S:List (Int×Int))(total:Int)(kd bd:List UInt8):(x37 S total kd bd).length=2*S.length+1:=by unfold x37;rw[e_,q56];rfl
theorem k72{w w':World}{b i:Nat}(h:w'.heap[b]?=w.heap[b]?):w'.cell? ⟨b,i,none⟩=w.cell? ⟨b,i,none⟩:=by unfold World.cell?;simp only[h]
theorem SpG.set_ne{α:Type}{en:α→List Value}{n:Nat}{w:World}{A:Option Addr}{c:Nat}{L:List α}{p:Addr}{v:Value}(h:SpG en n w A c L)(hne:∀a,A=some a→a.block≠p.block):SpG en n (w.setCell p v) A c L:=⟨h.le,h.nil_,fun k hk=>by obtain⟨b,off,e,hl,h1⟩:=h.at' k hk;have hn:=hne _ e;exact⟨b,off,e,by simpa[World.setCell]using hl,fun j u hj=>(k72 (aG_ w p v b hn)).trans (h1 j u hj)⟩⟩
theorem k36{w:World}{a b:Nat}{cs cs':Array Value}{T T':TypeId}{f f':Nat×Nat}(h:w.heap[a]?=some (.cells cs T f))(h':w.heap[b]?=some (.cells cs' T' f'))(hT:T≠T'):a≠b:=by rintro rfl;rw[h]at h';injection h' with h';injection h' with _ h2;exact hT h2
theorem SpG.built_at{α:Type}{en:α→List Value}{n:Nat}(hl:∀x,(en x).length=n)(w:World)(b:Nat)(hb:b=w.heap.size)(L:List α)(cs:Array Value)(hcs:cs.toList=w180 en L)(T:TypeId):SpG en n (w.alloc (.cells cs T)) (some ⟨b,0,none⟩) L.length L:=by subst hb;exact SpG.built hl w L cs hcs T
structure SpT{α:Type}(T:TypeId)(en:α→List Value)(n:Nat)(w:World)(A:Option Addr)(c:Nat)(L:List α):Prop where
 sp:SpG en n w A c L
 ty:∀a,A=some a→∃cs f,w.heap[a.block]?=some (.cells cs T f)
section
variable{α:Type}{T:TypeId}{en:α→List Value}{n:Nat}{w w':World}{base:Nat}{A:Option Addr}{c:Nat}{L:List α}
theorem SpT.nil(T:TypeId)(w:World):SpT T en n w none 0 []:=⟨SpG.nil w,fun a ha=>by cases ha⟩
theorem SpT.below(h:SpT T en n w A c L)(hb:Below w.heap.size w w'):SpT T en n w' A c L:=⟨h.sp.below hb,fun a ha=>by obtain⟨cs,f,hc⟩:=h.ty a ha;exact⟨cs,f,j3 hb hc⟩⟩
theorem SpT.set_ty{r i:Nat}{cs:Array Value}{T':TypeId}{f:Nat×Nat}(h:SpT T en n w A c L)(hr:w.heap[r]?=some (.cells cs T' f))(hT:T≠T')(v:Value):SpT T en n (w.setCell ⟨r,i,none⟩ v) A c L:=by
 have hne:∀a,A=some a→a.block≠r:=fun a ha=>by obtain⟨cs',f',hc⟩:=h.ty a ha;exact k36 hc hr hT
 refine⟨h.sp.set_ne hne,fun a ha=>?_⟩;obtain⟨cs',f',hc⟩:=h.ty a ha;exact⟨cs',f',w15 (hne a ha) hc⟩
theorem SpT.built_at(hl:∀x,(en x).length=n)(w:World)(b:Nat)(hb:b=w.heap.size)(L:List α)(cs:Array Value)(hcs:cs.toList=w180 en L)(T:TypeId):SpT T en n (w.alloc (.cells cs T)) (some ⟨b,0,none⟩) L.length L:=by refine⟨SpG.built_at hl w b hb L cs hcs T,fun a ha=>?_⟩;injection ha with ha;subst ha;exact⟨cs,(0,0),j17 hb⟩
theorem OwnG.spt(hl:∀x,(en x).length=n)(h:OwnG T en n w base A c L):SpT T en n w A c L:=by
 refine⟨h.spg hl,fun a ha=>?_⟩;rcases h.2 with⟨hv,_⟩|⟨g,cap,cur,hv,_,hg,_⟩;·injection hv with h1;rw[h1]at ha;cases ha
 ·injection hv with h1;rw[h1]at ha;injection ha with ha;subst ha;exact⟨cur,(0,0),hg⟩
end
structure ReqL where
 hd:Bool
 ob:ByteArray
 A:Option Addr
 c:Nat
 L:List (Int×Int)
 A1:Option Addr
 n1:Nat
 c1:Nat
 A2:Option Addr
 n2:Nat
 c2:Nat
 am:Bool
 an:Bool
 si:Int
 un:Int
 rt:ByteArray
 rw:Bool
def reqA(r:ReqL):Array Value:=#[.bool r.hd,.string r.ob,.slice r.A r.L.length r.c,.slice r.A1 r.n1 r.c1,.slice r.A2 r.n2 r.c2,.bool r.am,.bool r.an,.int .i64 r.si,.int .i64 r.un,.string r.rt,.bool r.rw]
def j39(a:AnsL)(w0:World)(e:Ending)(w':World):Prop:=∃A c k B d j,k=a.fs.length∧j=a.ps.length∧e=.returned (.agg #[.int .i64 a.st,.slice A k c,.slice B j d,.int .i64 a.sz])∧SpT 176 w18 2 w' A c a.fs∧SpT 89 j18 3 w' B d a.ps∧Below w0.heap.size w0 w'
def q44(m:MetaL)(R:List (Int×Int))(seed:Int)(w0:World)(e:Ending)(w':World):Prop:=∃O,Folded 0 R O∧j39 (j24 m (O.map Prod.fst) seed) w0 e w'
theorem k97(A:Option Addr)(n m c:Nat):(Value.slice A n c).ownBlock=(Value.slice A m c).ownBlock:=by cases A<;>rfl
def Keep(w w':World)(B:Option Nat):Prop:=∀(k:Nat)(o:Obj),w.heap[k]?=some o→B≠some k→w'.heap[k]?=some o
theorem y53(m:MetaL):(x21 m).length≤10:=by
 unfold x21;simp only[e_];repeat' split
 all_goals simp
theorem single{α:Type}{S:List α}(h:S.length=1):∃s,S=[s]:=by match S,h with|[s],_=>exact⟨s,rfl⟩
theorem y81{m:MetaL}{S:List (Int×Int)}{seed:Int}(h:2≤S.length):j24 m S seed=⟨206,x21 m++[(nCT,vMulti++q29 seed)],x37 S m.len v90 (q29 seed),z181 (x37 S m.len v90 (q29 seed))⟩:=by match S,h with|s::t::r,_=>rfl
theorem Own.row{w:World}{base:Nat}{A:Option Addr}{c:Nat}{L:List (Int×Int)}(h:Own w base A c L)(h0:0<L.length):∃g cur,A=some ⟨g,0,none⟩∧w.heap[g]?=some (.cells cur 59 (0,0)):=by
 rcases h.2 with⟨_,hn⟩|⟨g,cap,cur,hv,_,hg,_⟩;·omega
 ·injection hv with h1;exact⟨g,cur,h1,hg⟩
theorem k110{w w':World}{base g:Nat}{c:Nat}{L:List (Int×Int)}(h:Own w base (some ⟨g,0,none⟩) c L)(he:w'.heap[g]?=w.heap[g]?):Own w' base (some ⟨g,0,none⟩) c L:=by
 refine⟨h.1,?_⟩;rcases h.2 with h2|⟨g',cap,cur,h1,h2,h3,h4⟩;·exact .inl h2
 ·have h1c:=h1;injection h1 with h1';injection h1' with h1';injection h1' with h1';subst h1';exact .inr ⟨g,cap,cur,h1c,h2,he.trans h3,h4⟩
theorem z133(r:ReqL)(m:MetaL)(KA:Option Addr)(kc:Nat)(FA:Option Addr)(fc fk:Nat)(seed:Int)(w0 w:World)(hsp:Sp w r.A r.c r.L)(hR:allR r.L=true)(hl:r.L.length≤70)(hok:MetaOk m)(hfk:fk=(x21 m).length)(hown:OwnG 176 w18 2 w w0.heap.size FA fc (x21 m))(hb0:Below w0.heap.size w0 w)(henv:Env w0)(hseed:-9223372036854775808≤seed∧seed≤9223372036854775807):Calls Tryz.prog 73 #[.agg (reqA r),j25 m KA kc,.slice FA fk fc,.int .i64 seed] w (fun e w'=>q44 m (resL m.hv r.L) seed w0 e w'∧Keep w w' (Value.slice FA fk fc).ownBlock):=by
 have hhv:=hok.hv;have hin:=fun y hy=>y52 hhv.1 hR (y:=y) hy;have HCONT:∀O,Folded 0 (resL m.hv r.L) O→∀s∈O.map Prod.fst,q23 s m.len=true∧s.2≤1099511627776:=fun O hO s hs=>by have h:=j72 hin hO s hs;exact⟨q127 hok h,by omega⟩
 have hlen:(resL m.hv r.L).length≤70:=ai_ (w35 _ _) hl;have HRES:=fun W hW=>a_ (k71 r.A r.c r.L m.hv W hW (by omega) hR hhv.1 (by omega));have HFOLD:=fun A' c' W(hW:Sp W A' c' (resL m.hv r.L))=>a_ (k152 A' c' (resL m.hv r.L) 0 W hW (fun x hx=>by have:=hin x hx;omega) (by omega) (z142 (by omega)));have hNF:=y53 m;have HFOL:Hid (x21 m=x21 m):=rfl;obtain⟨hd,ob,A,c,L,A1,n1,c1,A2,n2,c2,am,an,si,un,rt,rw⟩:=r;obtain⟨R,hRe⟩:∃R,resL m.hv L=R:=⟨_,rfl⟩;simp only at hsp hR hl hin HCONT hlen HRES HFOLD⊢;rw[hRe]at hlen HCONT⊢;simp only[hRe]at HRES HFOLD hin;have HIN:=a_ hin;have HPOST:Hid (∀e w',q44 m R seed w0 e w'→q44 m R seed w0 e w'):=fun e w' h=>h;obtain⟨FL,hFL⟩:∃FL,x21 m=FL:=⟨_,rfl⟩;have HFL:=a_ hFL;rw[hFL]at hfk hown hNF;have HLN:=a_ hok.eq;have HMOK:=a_ hok;have HS:=a_ hsp;have HE:=a_ henv;have HF0:=a_ hfk;clear HFOL hFL hsp henv hok hfk hRe hin;have hfk10:fk≤10:=by have:=HF0.out;omega
 have HFMT:∀(n:Int)(W:World),0≤n→n≤9223372036854775807→Below w0.heap.size w0 W→Hid (Calls Tryz.prog 125 #[.int .i64 n,.int .i64 10] W fun e w'=>e=.returned (.string ⟨(digN n).toArray⟩)∧Below W.heap.size W w'):=fun n W h0 h1 hW=>by have h:=w78 n (by omega) (by omega) W (q30 HE.out.tab hW);rw[q66 h0]at h;exact a_ h
 obtain⟨tg,wk,mo,ln,hv,fr,wh,er,ks,tn,kp⟩:=m;unfold reqA j25;simp only at HCONT HLN HRES HFOLD⊢;have hhv0:=HMOK.out.hv;have hln0:=HMOK.out.ln;simp only at hhv0 hln0;go_enter Tryz.func73,Tryz.ntmps73;go_upto_region 2 with fail;obtain⟨W0,hW0⟩:∃W0,(((w.alloc (.cells #[.bool hd,.string ob,.slice A L.length c,.slice A1 n1 c1,.slice A2 n2 c2,.bool am,.bool an,.int .i64 si,.int .i64 un,.string rt,.bool rw] 29)).alloc (.cells #[.string ⟨tg.toArray⟩,.bool wk,.int .i64 mo,.int .i64 ln,.int .i64 hv,.int .i64 fr,.int .i64 wh,.int .i64 er,.slice KA ks.length kc,.string ⟨tn.toArray⟩,.bool kp] 45)).alloc (.cells #[.slice FA fk fc] 71)).alloc (.cells #[.int .i64 0,.slice none 0 0,.slice none 0 0,.int .i64 0] 74)=W0:=⟨_,rfl⟩;have HQ0:Hid (W0.heap[w.heap.size]?=some (.cells #[.bool hd,.string ob,.slice A L.length c,.slice A1 n1 c1,.slice A2 n2 c2,.bool am,.bool an,.int .i64 si,.int .i64 un,.string rt,.bool rw] 29 (0,0))):=by rw[←hW0];exact j16 (j16 (j16 (j17 rfl)))
 have HM0:Hid (W0.heap[w.heap.size+1]?=some (.cells #[.string ⟨tg.toArray⟩,.bool wk,.int .i64 mo,.int .i64 ln,.int .i64 hv,.int .i64 fr,.int .i64 wh,.int .i64 er,.slice KA ks.length kc,.string ⟨tn.toArray⟩,.bool kp] 45 (0,0))):=by rw[←hW0];exact j16 (j16 (j17 (by simp)))
 have HK0:Hid (W0.heap[w.heap.size+1+1]?=some (.cells #[.slice FA fk fc] 71 (0,0))):=by rw[←hW0];exact j16 (j17 (by simp))
 have HX0:Hid (W0.heap[w.heap.size+1+1+1]?=some (.cells #[.int .i64 0,.slice none 0 0,.slice none 0 0,.int .i64 0] 74 (0,0))):=by rw[←hW0];exact j17 (by simp)
 have HO0:Hid (OwnG 176 w18 2 W0 w0.heap.size FA fc FL):=by simp only[Hid];rw[←hW0];exact(((hown.alloc _).alloc _).alloc _).alloc _
 have HV0:Hid (Below w.heap.size w W0):=by simp only[Hid];rw[←hW0];(repeat(first|exact b_ _ _|refine q15 ?_ _|refine x15 ?_|refine q11 ?_ _|refine w14 ?_ (by simp) _))
 have HB0:Hid (Below w0.heap.size w0 W0):=q12 HV0.out hb0;have hz0:w0.heap.size≤w.heap.size:=hb0.size;rw[hW0];clear hW0 hown hb0;have q0:=bc 2 HQ0.out rfl;have q1:=bc 4 HM0.out rfl;go_upto_region 4 with(first|(go_at_call 129;refine(HFOLD _ _ _ HP1.out.sp).out.mono ?_;rintro e w2⟨O,hO,B2,d2,rfl,hP2,h2⟩;have HQ2:=a_ (j3 h2 HQ1.out);have HM2:=a_ (j3 h2 HM1.out);have HK2:=a_ (j3 h2 HK1.out);have HX2:=a_ (j3 h2 HX1.out);have HO2:=a_ (HO1.out.below h2);have HV2:=a_ (q12 h2 HV1.out);have HB2:=a_ (q12 h2 HB1.out);have HP2:=a_ hP2;clear h2 hP2 HQ1 HM1 HK1 HX1 HO1 HV1 HB1)|(go_at_call 127;refine(HRES _ (HS.out.below HV0.out)).out.mono ?_;rintro e w1⟨B1,d1,rfl,hP1,h1⟩;have HQ1:=a_ (j3 h1 HQ0.out);have HM1:=a_ (j3 h1 HM0.out);have HK1:=a_ (j3 h1 HK0.out);have HX1:=a_ (j3 h1 HX0.out);have HO1:=a_ (HO0.out.below h1);have HV1:=a_ (q12 h1 HV0.out);have HB1:=a_ (q12 h1 HB0.out);have HP1:=a_ hP1;clear h1 hP1 HQ0 HM0 HK0 HX0 HO0 HV0 HB0 q0 q1));have HC:=a_ (HCONT O hO);have hnil:=w132 hO;have hfew:=hO.few;obtain⟨S,hS⟩:∃S,O.map Prod.fst=S:=⟨_,rfl⟩;have HSO:=a_ hS;have hOl:O.length=S.length:=by rw[←hS,aU_]
 rw[hS]at HC hnil HP2;rw[hOl];have hSl:S.length≤70:=by rw[←hS,aU_];omega
 have HOF:=a_ hO;have HSP:Hid (∀a:AnsL,j24 ⟨tg,wk,mo,ln,hv,fr,wh,er,ks,tn,kp⟩ S seed=a→∀e w',j39 a w0 e w'→q44 ⟨tg,wk,mo,ln,hv,fr,wh,er,ks,tn,kp⟩ R seed w0 e w'):=by intro a ha e w' h;exact⟨O,HOF.out,by rw[hS,ha];exact h⟩
 clear HCONT HRES HFOLD hO hS HIN hfew HS HPOST HSO hOl HOF hlen;have q1:=bc 3 HM2.out rfl;have q2:=bc 4 HM2.out rfl;have q3:=bc 0 HK2.out rfl;by_cases hS0:S.length=0;·
  have hSn:S=[]:=l_ hS0;have hRn:R.length=0:=by rw[hnil.1 hSn];rfl
  have HA:Hid (j24 ⟨tg,wk,mo,ln,hv,fr,wh,er,ks,tn,kp⟩ S seed=⟨416,FL++[(nCR,k90++digN hv)],[],0⟩):=by simp only[Hid];rw[hSn,←HFL.out];rfl
  have hrb:decide (0<R.length)=false:=by rw[hRn];rfl
  have hcs:=catE (a:=[98,121,116,101,115,32,42,47]) (b:=digN hv) (by have:=w21 (n:=hv) (by omega);simp only[g_,i_];omega);have HFV:=fun W hW=>HFMT hv W hhv0.1 (by omega) hW;have HSTAR:Hid (k90++digN hv=[98,121,116,101,115,32,42,47]++digN hv):=rfl;obtain⟨tx,htx⟩:∃t,[98,121,116,101,115,32,42,47]++digN hv=t:=⟨_,rfl⟩;rw[htx]at hcs HSTAR;obtain⟨dv,hdv⟩:∃t,digN hv=t:=⟨_,rfl⟩;rw[hdv]at hcs HSTAR;simp only[hdv]at HFV;rw[hdv,HSTAR.out]at HA;have hcase:((ln==-1)=true)∨((ln==-1)=false∧hv=ln):=by
   rcases HLN.out with e|e;·left;rw[aD_];exact e
   ·by_cases e2:ln=-1;·left;rw[aD_];exact e2
    ·right;exact⟨by rw[j_];exact e2,e⟩
  clear htx hdv hnil hSn hRn HSTAR HFMT hSl;rcases hcase with hb1|⟨hb1,hb2⟩;rotate_left;subst hb2;rotate_left;all_goals
   go_wp2_with(first|(go_at_call_of 128(Value.string ⟨#[67,111,110,116,101,110,116,45,82,97,110,103,101]⟩);refine(k55 (w0:=w0) [67,111,110,116,101,110,116,45,82,97,110,103,101] tx HK3.out HF0.out HO3.out HB3.out (by omega) (by omega)).mono ?_;rintro e w4⟨rfl,A4,c4,k4,hk4,hb4,ho4,hl4,hf4⟩;have NT:=HO3.out;have HX4:=a_ (hf4.block HX3.out (by omega) (NT.ne_ty HX3.out (by decide)));have HM4:=a_ (hf4.block HM3.out (by omega) (NT.ne_ty HM3.out (by decide)));obtain⟨x0,x1,x2,x3⟩:=bc4 HX4.out rfl rfl rfl rfl;have xf0:=q13 (i:=0) HX4.out;have xf1:=q13 (i:=1) HX4.out;have xf2:=q13 (i:=2) HX4.out;have xf3:=q13 (i:=3) HX4.out;have xz:=q14 HX4.out;have y0:=bc 0 hb4 rfl)|(go_at_call 125;refine(HFV _ HB2.out).out.mono ?_;rintro e w3⟨rfl,h3⟩;have HQ3:=a_ (j3 h3 HQ2.out);have HM3:=a_ (j3 h3 HM2.out);have HK3:=a_ (j3 h3 HK2.out);have HX3:=a_ (j3 h3 HX2.out);have HO3:=a_ (HO2.out.below h3);have HV3:=a_ (q12 h3 HV2.out);have HB3:=a_ (q12 h3 HB2.out);clear h3));refine m_ (by simp[results,Tryz.results73,go_sem,x0,x1,x2,x3];try rfl) rfl ?_;have g0:=HX4.out;have g1:=j15 (i:=0) (v:=.int .i64 416) g0;have g2:=j15 (i:=1) (v:=.slice A4 (FL.length+1) c4) g1;have g3:=j15 (i:=2) (v:=.slice none 0 0) g2;have hz:w0.heap.size≤w.heap.size+1+1+1:=by omega
   exact⟨HSP.out _ HA.out _ _ ⟨A4,c4,FL.length+1,none,0,0,by rw[e_];rfl,rfl,rfl,OwnG.spt elemFd.len ((((ho4.set_ty g0 (by decide) _).set_ty g1 (by decide) _).set_ty g2 (by decide) _).set_ty g3 (by decide) _),SpT.nil _ _,w14 (w14 (w14 (w14 hl4 hz _) hz _) hz _) hz _⟩,fun k o hk hB=>by
    have hlt:=q14 hk;have e8:k≠w.heap.size+1+1+1:=by omega
    have e9:k≠w.heap.size+1+1:=by omega
    have hB':(Value.slice FA FL.length fc).ownBlock≠some k:=by rw[k97 FA FL.length fk fc];exact hB
    exact w15 e8 (w15 e8 (w15 e8 (w15 e8 (hf4 k o ((HV3.out.block k hlt).trans hk) e9 hB'))))⟩
 have hrb:decide (0<R.length)=true:=by have:R≠[]:=fun h=>hS0 (by rw[hnil.2 h];rfl);exact s_ (bf_.2 this)
 clear hnil HFMT;obtain⟨g,cur,hg1,hg2⟩:=HP2.out.row (by omega);subst hg1;have HG2:=a_ hg2;obtain⟨W3,hW3⟩:∃W3,w2.alloc (.cells #[.int .i64 206,.slice none 0 0,.slice none 0 0,.int .i64 0] 74)=W3:=⟨_,rfl⟩;have HN3:Hid (W3.heap[w2.heap.size]?=some (.cells #[.int .i64 206,.slice none 0 0,.slice none 0 0,.int .i64 0] 74 (0,0))):=by rw[←hW3];exact j17 rfl
 have HQ3:Hid (W3.heap[w.heap.size]?=some (.cells #[.bool hd,.string ob,.slice A L.length c,.slice A1 n1 c1,.slice A2 n2 c2,.bool am,.bool an,.int .i64 si,.int .i64 un,.string rt,.bool rw] 29 (0,0))):=by rw[←hW3];exact j16 HQ2.out
 have HM3:Hid (W3.heap[w.heap.size+1]?=some (.cells #[.string ⟨tg.toArray⟩,.bool wk,.int .i64 mo,.int .i64 ln,.int .i64 hv,.int .i64 fr,.int .i64 wh,.int .i64 er,.slice KA ks.length kc,.string ⟨tn.toArray⟩,.bool kp] 45 (0,0))):=by rw[←hW3];exact j16 HM2.out
 have HK3:Hid (W3.heap[w.heap.size+1+1]?=some (.cells #[.slice FA fk fc] 71 (0,0))):=by rw[←hW3];exact j16 HK2.out
 have HX3:Hid (W3.heap[w.heap.size+1+1+1]?=some (.cells #[.int .i64 0,.slice none 0 0,.slice none 0 0,.int .i64 0] 74 (0,0))):=by rw[←hW3];exact j16 HX2.out
 have HG3:Hid (W3.heap[g]?=some (.cells cur 59 (0,0))):=by rw[←hW3];exact j16 HG2.out
 have HO3:Hid (OwnG 176 w18 2 W3 w0.heap.size FA fc FL):=by rw[←hW3];exact HO2.out.alloc _
 have HV3:Hid (Below w.heap.size w W3):=by rw[←hW3];exact q11 HV2.out _
 have HB3:Hid (Below w0.heap.size w0 W3):=by rw[←hW3];exact q11 HB2.out _
 have HP3:Hid (Own W3 w1.heap.size (some ⟨g,0,none⟩) d2 S):=by rw[←hW3];exact HP2.out.alloc _
 obtain⟨n8,hn8⟩:∃n,w2.heap.size=n:=⟨_,rfl⟩;have hX8:=q14 HX2.out;have hG8:=q14 HG2.out;rw[hn8]at HN3 hX8 hG8;have hKG:w.heap.size+1+1≠g:=k36 HK2.out HG2.out (by decide);have hb13:w0.heap.size≤n8:=by omega
 have HW3:=a_ hW3;have HN8:=a_ hn8;clear hW3 hn8;clear hg2 HQ2 HM2 HK2 HX2 HG2 HO2 HV2 HB2 HP2 q1 q2 q3;have HCTN:∀(s:Int×Int)(W:World),s∈S→Below w0.heap.size w0 W→Hid (Calls Tryz.prog 118 #[.agg #[.int .i64 s.1,.int .i64 s.2],.int .i64 ln] W fun e w'=>e=.returned (.string ⟨(q21 s ln).toArray⟩)∧Below W.heap.size W w'):=fun s W hs hW=>by have h:=HC.out s hs;have hr:=(j19 s).1 (j48 h.1).1;exact a_ (w80 s.1 s.2 ln W (HE.out.below hW).tab (by omega) (by omega))
 by_cases hS1:S.length=1;·
  obtain⟨⟨x1,x2⟩,rfl⟩:=single hS1;have HX:=fun W hW=>HCTN (x1,x2) W (by simp) hW;obtain⟨b,off,e,_,c1',c2'⟩:=HP3.out.sp.at_ (k:=0) (by simp);injection e with e;injection e with e1 e2;subst e1 e2;have hcc:=HC.out (x1,x2) (by simp);have hok2:=(j48 hcc.1);obtain⟨r1,r2,r3⟩:=(j19 (x1,x2)).1 hok2.1;have hx2:=hcc.2;have hne2:=hok2.2;simp only[List.getElem_cons_zero,bu_,U_]at c1' c2';simp only at HX r1 r2 r3 hx2 hne2;have hc1:cur[0]?=some (.int .i64 x1):=(ad_ HG3.out 0).symm.trans c1';have hc2:cur[1]?=some (.int .i64 x2):=(ad_ HG3.out 1).symm.trans c2';have HSZ:Hid (z181 [([],(x1,x2))]=x2-x1):=by simp only[Hid];unfold z181;rw[w29,q_ (by simp),q_ (by rw[hok2.1];rintro(h|h)<;>first|exact hne2 h|cases h),w29];omega
  have HA:Hid (j24 ⟨tg,wk,mo,ln,hv,fr,wh,er,ks,tn,kp⟩ [(x1,x2)] seed=⟨206,FL++[(nCR,q21 (x1,x2) ln)],[([],(x1,x2))],z181 [([],(x1,x2))]⟩):=by simp only[Hid];rw[HSZ.out,←HFL.out];rfl
  have HLOW:Hid (LowP [([],(x1,x2))]):=by intro p hp;rw[D_.1 hp];exact⟨by simp,fun _ _=>hx2⟩
  obtain⟨ct,hct⟩:∃t,q21 (x1,x2) ln=t:=⟨_,rfl⟩;rw[hct]at HA HX;have v1:W3.cell? ⟨g,0,none⟩=some (.int .i64 x1):=c1';have v2:W3.cell? ⟨g,1,none⟩=some (.int .i64 x2):=c2';have v3:=bc 3 HM3.out rfl;have v4:=bc 0 HK3.out rfl;clear hct hcc hok2 c1' c2' HC HP3 hne2;go_upto_region 12 with fail;rw[HW3.out];try rw[HN8.out]
  clear HW3 HN8;go_region_held3(fun w'=>w'.cell? ⟨g,0,none⟩=some (.int .i64 x1)∧w'.cell? ⟨g,1,none⟩=some (.int .i64 x2)∧w'.cell? ⟨w.heap.size+1,3,none⟩=some (.int .i64 ln))(first|exact⟨u1,u2,u3⟩|exact⟨z1,z2,z3⟩|exact⟨v1,v2,v3⟩|fail)(first|(go_at_call 128;refine(k55 (w0:=w0) [67,111,110,116,101,110,116,45,82,97,110,103,101] ct HK4.out HF0.out HO4.out HB4.out (by omega) (by omega)).mono ?_;rintro e w5⟨rfl,A5,c5,k5,hk5,hb5,ho5,hl5,hf5⟩;have NT:=HO4.out;have HX5:=a_ (hf5.block HX4.out (by omega) (NT.ne_ty HX4.out (by decide)));have HN5:=a_ (hf5.block HN4.out (by omega) (NT.ne_ty HN4.out (by decide)));have HG5:=a_ (hf5.block HG4.out (bj_ hKG) (NT.ne_ty HG4.out (by decide)));have HM5:=a_ (hf5.block HM4.out (by omega) (NT.ne_ty HM4.out (by decide)));have u1:=bc 0 HG5.out hc1;have u2:=bc 1 HG5.out hc2;have u3:=bc 3 HM5.out rfl)|(go_at_call 118;refine(HX _ (by first|exact HB3.out|exact x15 HB3.out|exact q15 HB3.out _)).out.mono ?_;rintro e w4⟨rfl,h4⟩;have HM4:=a_ (j3 h4 HM3.out);have HK4:=a_ (j3 h4 HK3.out);have HX4:=a_ (j3 h4 HX3.out);have HN4:=a_ (j3 h4 HN3.out);have HG4:=a_ (j3 h4 HG3.out);have HO4:Hid (OwnG 176 w18 2 w4 w0.heap.size FA fc FL):=(OwnG.below (by first|exact HO3.out|exact HO3.out.drew|exact HO3.out.drewN _) h4);have HB4:Hid (Below w0.heap.size w0 w4):=q12 h4 (by first|exact HB3.out|exact x15 HB3.out|exact q15 HB3.out _);have z1:=bc 0 HG4.out hc1;have z2:=bc 1 HG4.out hc2;have z3:=bc 3 HM4.out rfl));have n1:=bc 1 HN5.out rfl;have nf1:=q13 (i:=1) HN5.out;have n2:=bc 2 HN5.out rfl;have nf2:=q13 (i:=2) HN5.out;have nz:=q14 HN5.out;have y0:=bc 0 hb5 rfl;have y0z:=q14 hb5;have hw5:w0.heap.size≤w5.heap.size:=by omega
  have hne8:¬w.heap.size+1+1+1=n8:=by omega
  have hne9:¬n8=w.heap.size+1+1+1:=by omega
  clear z1 z2 z3 v1 v2 v3 v4 u3;go_wp2_with fail;refine(v110 (some ⟨w5.heap.size,0,none⟩) 1 1 [([],(x1,x2))] _ rfl (SpG.built_at (en:=j18) (n:=3) elemPt.len _ w5.heap.size (by simp[World.setCell]) [([],(x1,x2))] #[.string ⟨#[]⟩,.int .i64 x1,.int .i64 x2] rfl 89) (show 1≤3000 by decide) HLOW.out).mono ?_;rintro e w6⟨rfl,h6⟩;have HP6:=a_ (SpT.below (SpT.built_at (en:=j18) (n:=3) elemPt.len _ w5.heap.size (by simp[World.setCell]) [([],(x1,x2))] #[.string ⟨#[]⟩,.int .i64 x1,.int .i64 x2] rfl 89) h6);have HN6:=a_ (j3 h6 (j16 (j15 (j15 HN5.out))));have HX6:=a_ (j3 h6 (j16 (w15 hne8 (w15 hne8 HX5.out))));have HO6:=a_ (OwnG.below (((ho5.set_ty HN5.out (by decide) _).set_ty (j15 HN5.out) (by decide) _).alloc _) h6);have HB6:=a_ (q12 h6 (q11 (w14 (w14 hl5 hb13 _) hb13 _) _));have m0:=bc 0 HN6.out rfl;have mf0:=q13 (i:=0) HN6.out;have m1:=bc 1 HN6.out rfl;have mf1:=q13 (i:=1) HN6.out;have m2:=bc 2 HN6.out rfl;have mf2:=q13 (i:=2) HN6.out;have m3:=bc 3 HN6.out rfl;have mf3:=q13 (i:=3) HN6.out;have mz:=q14 HN6.out;have ee0:=bc 0 HX6.out rfl;have eef0:=q13 (i:=0) HX6.out;have ee1:=bc 1 HX6.out rfl;have eef1:=q13 (i:=1) HX6.out;have ee2:=bc 2 HX6.out rfl;have eef2:=q13 (i:=2) HX6.out;have ee3:=bc 3 HX6.out rfl;have eef3:=q13 (i:=3) HX6.out;have eez:=q14 HX6.out;go_wp2_with fail;refine m_ (by simp[results,Tryz.results73,go_sem,ee0,ee1,ee2,ee3];try rfl) rfl ?_;have q8:=HN6.out;have g0:=w15 hne8 (p:=⟨n8,3,none⟩) (v:=.int .i64 (z181 [([],(x1,x2))])) HX6.out;have g1:=j15 (i:=0) (v:=.int .i64 206) g0;have g2:=j15 (i:=1) (v:=.slice A5 (FL.length+1) c5) g1;have g3:=j15 (i:=2) (v:=.slice (some ⟨w5.heap.size,0,none⟩) 1 1) g2;have hz:w0.heap.size≤w.heap.size+1+1+1:=by omega
  exact⟨HSP.out _ HA.out _ _ ⟨A5,c5,FL.length+1,some ⟨w5.heap.size,0,none⟩,1,1,by rw[e_];rfl,rfl,rfl,OwnG.spt elemFd.len (((((HO6.out.set_ty q8 (by decide) _).set_ty g0 (by decide) _).set_ty g1 (by decide) _).set_ty g2 (by decide) _).set_ty g3 (by decide) _),((((HP6.out.set_ty q8 (by decide) _).set_ty g0 (by decide) _).set_ty g1 (by decide) _).set_ty g2 (by decide) _).set_ty g3 (by decide) _,w14 (w14 (w14 (w14 (w14 HB6.out hb13 _) hz _) hz _) hz _) hz _⟩,fun k o hk hB=>by
   have hlt:=q14 hk;have e8:k≠w.heap.size+1+1+1:=by omega
   have e9:k≠w.heap.size+1+1:=by omega
   have en:k≠n8:=by omega
   have hB':(Value.slice FA FL.length fc).ownBlock≠some k:=by rw[k97 FA FL.length fk fc];exact hB
   exact w15 e8 (w15 e8 (w15 e8 (w15 e8 (w15 en (j3 h6 (j16 (w15 en (w15 en (hf5 k o (j3 h4 ((HV3.out.block k hlt).trans hk)) e9 hB')))))))))⟩
 ·have hS2:2≤S.length:=by omega
  obtain⟨bd,hbd⟩:∃b,q29 seed=b:=⟨_,rfl⟩;have HBO:Hid (w23 bd=true):=by rw[←hbd];exact z100 seed
  have hbl:bd.length=21:=by rw[←hbd];exact q65 seed
  have HBY:∀W,Below w0.heap.size w0 W→Hid (Calls Tryz.prog 130 #[.int .i64 seed] W fun e w'=>e=.returned (.string ⟨bd.toArray⟩)∧Below W.heap.size W w'):=fun W hW=>by have h:=j110 seed W hseed (HE.out.below hW);rw[hbd]at h;exact a_ h
  have hcs:=catE (a:=[109,117,108,116,105,112,97,114,116,47,98,121,116,101,114,97,110,103,101,115,59,32,98,111,117,110,100,97,114,121,61]) (b:=bd) (by simp only[g_,i_];omega);obtain⟨tx,htx⟩:∃t,[109,117,108,116,105,112,97,114,116,47,98,121,116,101,114,97,110,103,101,115,59,32,98,111,117,110,100,97,114,121,61]++bd=t:=⟨_,rfl⟩;obtain⟨PL,hPL⟩:∃P,x37 S ln [97,112,112,108,105,99,97,116,105,111,110,47,111,99,116,101,116,45,115,116,114,101,97,109] bd=P:=⟨_,rfl⟩;have HA:Hid (j24 ⟨tg,wk,mo,ln,hv,fr,wh,er,ks,tn,kp⟩ S seed=⟨206,FL++[(nCT,tx)],PL,z181 PL⟩):=by simp only[Hid];rw[y81 hS2,←HFL.out,hbd,←htx,←hPL];rfl
  rw[htx]at hcs;have HLOW:Hid (LowP PL):=by rw[←hPL];exact lowL (by decide) (by omega) HC.out
  have hPLl:PL.length≤200:=by rw[←hPL,x65];omega
  have HPT:∀W,Sp W (some ⟨g,0,none⟩) d2 S→Below w0.heap.size w0 W→Hid (Calls Tryz.prog 131 #[.slice (some ⟨g,0,none⟩) S.length d2,.int .i64 ln,.string ⟨#[97,112,112,108,105,99,97,116,105,111,110,47,111,99,116,101,116,45,115,116,114,101,97,109]⟩,.string ⟨bd.toArray⟩] W (v92 PL W)):=fun W hs hW=>by have h:=y145 (some ⟨g,0,none⟩) d2 S ln [97,112,112,108,105,99,97,116,105,111,110,47,111,99,116,101,116,45,115,116,114,101,97,109] bd W hs (by omega) (by omega) (fun x hx=>(HC.out x hx).1) j127 HBO.out (HE.out.below hW);rw[hPL]at h;exact a_ h
  have hS1b:((S.length:Int)==1)=false:=by rw[j_];omega
  clear hbd htx hPL HCTN;go_upto_region 14 with fail;rw[HW3.out];try rw[HN8.out]
  clear HW3 HN8;go_upto_region 17 with(first|(go_at_call 131;refine(HPT _ HP5.out.sp hl5).out.mono ?_;rintro e w6⟨AP,cP,kP,hkP,rfl,hoP,h6⟩;have HN6:=a_ (j3 h6 HN5.out);have HX6:=a_ (j3 h6 HX5.out);have HK6:=a_ (j3 h6 hb5);have HO6:=a_ (ho5.below h6);have HB6:=a_ (q12 h6 hl5);have n2:=bc 2 HN6.out rfl;have nf2:=q13 (i:=2) HN6.out;have nz:=q14 HN6.out)|(go_at_call 128;refine(k55 (w0:=w0) [67,111,110,116,101,110,116,45,84,121,112,101] tx HK4.out HF0.out HO4.out HB4.out (by omega) (by omega)).mono ?_;rintro e w5⟨rfl,A5,c5,k5,hk5,hb5,ho5,hl5,hf5⟩;have NT:=HO4.out;have HX5:=a_ (hf5.block HX4.out (by omega) (NT.ne_ty HX4.out (by decide)));have HN5:=a_ (hf5.block HN4.out (by omega) (NT.ne_ty HN4.out (by decide)));have HG5:=a_ (hf5.block HG4.out (bj_ hKG) (NT.ne_ty HG4.out (by decide)));have HM5:=a_ (hf5.block HM4.out (by omega) (NT.ne_ty HM4.out (by decide)));have HP5:=a_ (k110 HP4.out (HG5.out.trans HG4.out.symm));have u3:=bc 3 HM5.out rfl)|(go_at_call 130;refine(HBY _ HB3.out).out.mono ?_;rintro e w4⟨rfl,h4⟩;have HM4:=a_ (j3 h4 HM3.out);have HK4:=a_ (j3 h4 HK3.out);have HX4:=a_ (j3 h4 HX3.out);have HN4:=a_ (j3 h4 HN3.out);have HG4:=a_ (j3 h4 HG3.out);have HO4:=a_ (HO3.out.below h4);have HB4:=a_ (q12 h4 HB3.out);have HP4:=a_ (HP3.out.below h4)));have q5:=hk5;have j0:=bc 0 HK6.out rfl;have j1:=bc 1 HN6.out rfl;have jf:=q13 (i:=1) HN6.out;have hne8:¬w.heap.size+1+1+1=n8:=by omega
  have hne9:¬n8=w.heap.size+1+1+1:=by omega
  have hz:w0.heap.size≤w.heap.size+1+1+1:=by omega
  go_wp2_with fail;have HPS:=a_ ((hoP.set_ty HN6.out (by decide) (i:=2) (.slice AP PL.length cP)).set_ty (j15 HN6.out) (by decide) (i:=1) (.slice A5 (FL.length+1) c5));refine(v110 AP cP PL.length PL _ rfl (HPS.out.spg elemPt.len) (by omega) HLOW.out).mono ?_;rintro e w7⟨rfl,h7⟩;have HP7:=a_ (HPS.out.below h7);have HN7:=a_ (j3 h7 (j15 (j15 HN6.out)));have HX7:=a_ (j3 h7 (w15 hne8 (w15 hne8 HX6.out)));have HO7:=a_ (OwnG.below ((HO6.out.set_ty HN6.out (by decide) _).set_ty (j15 HN6.out) (by decide) _) h7);have HB7:=a_ (q12 h7 (w14 (w14 HB6.out hb13 _) hb13 _));have m0:=bc 0 HN7.out rfl;have mf0:=q13 (i:=0) HN7.out;have m1:=bc 1 HN7.out rfl;have mf1:=q13 (i:=1) HN7.out;have m2:=bc 2 HN7.out rfl;have mf2:=q13 (i:=2) HN7.out;have m3:=bc 3 HN7.out rfl;have mf3:=q13 (i:=3) HN7.out;have mz:=q14 HN7.out;have ee0:=bc 0 HX7.out rfl;have eef0:=q13 (i:=0) HX7.out;have ee1:=bc 1 HX7.out rfl;have eef1:=q13 (i:=1) HX7.out;have ee2:=bc 2 HX7.out rfl;have eef2:=q13 (i:=2) HX7.out;have ee3:=bc 3 HX7.out rfl;have eef3:=q13 (i:=3) HX7.out;have eez:=q14 HX7.out;go_wp2_with fail;refine m_ (by simp[results,Tryz.results73,go_sem,ee0,ee1,ee2,ee3];try rfl) rfl ?_;have q8:=HN7.out;have g0:=w15 hne8 (p:=⟨n8,3,none⟩) (v:=.int .i64 (z181 PL)) HX7.out;have g1:=j15 (i:=0) (v:=.int .i64 206) g0;have g2:=j15 (i:=1) (v:=.slice A5 (FL.length+1) c5) g1;have g3:=j15 (i:=2) (v:=.slice AP PL.length cP) g2;exact⟨HSP.out _ HA.out _ _ ⟨A5,c5,FL.length+1,AP,cP,PL.length,by rw[e_];rfl,rfl,rfl,OwnG.spt elemFd.len (((((HO7.out.set_ty q8 (by decide) _).set_ty g0 (by decide) _).set_ty g1 (by decide) _).set_ty g2 (by decide) _).set_ty g3 (by decide) _),OwnG.spt elemPt.len (((((HP7.out.set_ty q8 (by decide) _).set_ty g0 (by decide) _).set_ty g1 (by decide) _).set_ty g2 (by decide) _).set_ty g3 (by decide) _),w14 (w14 (w14 (w14 (w14 HB7.out hb13 _) hz _) hz _) hz _) hz _⟩,fun k o hk hB=>by
   have hlt:=q14 hk;have e8:k≠w.heap.size+1+1+1:=by omega
   have e9:k≠w.heap.size+1+1:=by omega
   have en:k≠n8:=by omega
   have hB':(Value.slice FA FL.length fc).ownBlock≠some k:=by rw[k97 FA FL.length fk fc];exact hB
   exact w15 e8 (w15 e8 (w15 e8 (w15 e8 (w15 en (j3 h7 (w15 en (w15 en (j3 h6 (hf5 k o (j3 h4 ((HV3.out.block k hlt).trans hk)) e9 hB')))))))))⟩
def countB(r:ReqL)(m:MetaL)(o cs:Int):Bool:=decide (o=1)&&!r.hd&&!r.L.isEmpty&&!q46 m.hv cs r.L
def k43(r:ReqL)(m:MetaL)(o cs seed:Int)(w:World)(e:Ending)(w':World):Prop:=if o=3 then j39 ⟨304,x21 m,[],0⟩ w e w' else if o=4 then j39 ⟨412,x21 m,[],0⟩ w e w' else if countB r m o cs=true then q44 m (resL m.hv r.L) seed w e w' else j39 (w42 m r.hd) w e w'
def cfgV(j0 j1 j2 cs j4 j5 j6 j7 j8 j9:Int):Value:=.agg #[.int .i64 j0,.int .i64 j1,.int .i64 j2,.int .i64 cs,.int .i64 j4,.int .i64 j5,.int .i64 j6,.int .i64 j7,.int .i64 j8,.int .i64 j9]
structure SSt(w wx:World)(RC MC CC:Array Value)(FA:Option Addr)(fc:Nat)(FL:List j36):Prop where
 mq:wx.heap[w.heap.size]?=some (.cells RC 29 (0,0))
 mm:wx.heap[w.heap.size+1]?=some (.cells MC 45 (0,0))
 mc:wx.heap[w.heap.size+1+1]?=some (.cells CC 33 (0,0))
 mx:wx.heap[(w.heap.size+1+1+1)]?=some (.cells #[.int .i64 0,.slice none 0 0,.slice none 0 0,.int .i64 0] 74 (0,0))
 own:OwnG 176 w18 2 wx w.heap.size FA fc FL
 bel:Below w.heap.size w wx
theorem SSt.below{w wx w':World}{RC MC CC:Array Value}{FA:Option Addr}{fc:Nat}{FL:List j36}(h:SSt w wx RC MC CC FA fc FL)(hb:Below wx.heap.size wx w'):SSt w w' RC MC CC FA fc FL:=⟨j3 hb h.mq,j3 hb h.mm,j3 hb h.mc,j3 hb h.mx,h.own.below hb,q12 hb h.bel⟩
theorem SpT.alloc{α:Type}{T:TypeId}{en:α→List Value}{n:Nat}{w:World}{A:Option Addr}{c:Nat}{L:List α}(h:SpT T en n w A c L)(o:Obj):SpT T en n (w.alloc o) A c L:=h.below (q11 (b_ _ _) o)
theorem q146(r:ReqL)(m:MetaL)(KA:Option Addr)(kc:Nat)(o j0 j1 j2 cs j4 j5 j6 j7 j8 j9:Int)(seed:Int)(w:World)(hsp:Sp w r.A r.c r.L)(hR:allR r.L=true)(hl:r.L.length≤70)(hks:SpG encT 1 w KA kc m.keys)(hok:MetaOk m)(henv:Env w)(hseed:-9223372036854775808≤seed∧seed≤9223372036854775807)(hcs:(Lit.int .i64 cs).wf=true):Calls Tryz.prog 20 #[.agg (reqA r),j25 m KA kc,.int .i64 o,cfgV j0 j1 j2 cs j4 j5 j6 j7 j8 j9,.int .i64 seed] w (k43 r m o cs seed w):=by
 have HFD:=fun W hk ht=>a_ (q97 m KA kc W hk hok ht);have HCO:=fun W hs=>a_ (v119 r.A r.c r.L m.hv cs W hs (by omega) hR hok.hv.1 hok.hv.2 hcs);have HRG:=fun FA fc fk W hs hfk hown hb=>a_ (z133 r m KA kc FA fc fk seed w W hs hR hl hok hfk hown hb henv hseed);have HS:=a_ hsp;have HK:=a_ hks;have HE:=a_ henv;have HOK:=a_ hok;have HCB:Hid (countB r m o cs=(decide (o=1)&&!r.hd&&!r.L.isEmpty&&!q46 m.hv cs r.L)):=rfl;have HPOST:Hid (∀e w',(if o=3 then j39 ⟨304,x21 m,[],0⟩ w e w' else if o=4 then j39 ⟨412,x21 m,[],0⟩ w e w' else if countB r m o cs=true then q44 m (resL m.hv r.L) seed w e w' else j39 (w42 m r.hd) w e w')→k43 r m o cs seed w e w'):=fun e w' h=>h;obtain⟨FL,hFL⟩:∃FL,x21 m=FL:=⟨_,rfl⟩;have HFL:=a_ hFL;obtain⟨rb,hrb⟩:∃b,countB r m o cs=b:=⟨_,rfl⟩;rw[hrb]at HCB HPOST;obtain⟨cb,hcb⟩:∃b,q46 m.hv cs r.L=b:=⟨_,rfl⟩;rw[hcb]at HCO HCB;unfold q41 at HFD;rw[hFL]at HFD HRG HPOST;have HWA:Hid (w42 m r.hd=⟨200,FL,if r.hd=true∨m.len=0 then[]else[([],(0,if m.len=-1 then 4611686018427387904 else m.len))],m.len⟩):=by simp only[Hid];rw[←hFL];rfl
 clear hsp hks henv hok hrb hcb hFL hR hl;obtain⟨hd,ob,A,c,L,A1,n1,c1,A2,n2,c2,am,an,si,un,rt,rw⟩:=r;obtain⟨tg,wk,mo,ln,hv,fr,wh,er,ks,tn,kp⟩:=m;unfold j25 at HFD HRG⊢;unfold reqA at HRG⊢;unfold cfgV;simp only at HS HK HFD HCO HRG HCB HWA⊢;have hln0:=HOK.out.ln;simp only at hln0;go_enter Tryz.func20,Tryz.ntmps20;go_upto_region 1 with fail;obtain⟨W0,hW0⟩:∃W0,(((w.alloc (.cells #[.bool hd,.string ob,.slice A L.length c,.slice A1 n1 c1,.slice A2 n2 c2,.bool am,.bool an,.int .i64 si,.int .i64 un,.string rt,.bool rw] 29)).alloc (.cells #[.string ⟨tg.toArray⟩,.bool wk,.int .i64 mo,.int .i64 ln,.int .i64 hv,.int .i64 fr,.int .i64 wh,.int .i64 er,.slice KA ks.length kc,.string ⟨tn.toArray⟩,.bool kp] 45)).alloc (.cells #[.int .i64 j0,.int .i64 j1,.int .i64 j2,.int .i64 cs,.int .i64 j4,.int .i64 j5,.int .i64 j6,.int .i64 j7,.int .i64 j8,.int .i64 j9] 33)).alloc (.cells #[.int .i64 0,.slice none 0 0,.slice none 0 0,.int .i64 0] 74)=W0:=⟨_,rfl⟩;have HQ0:Hid (W0.heap[w.heap.size]?=some (.cells #[.bool hd,.string ob,.slice A L.length c,.slice A1 n1 c1,.slice A2 n2 c2,.bool am,.bool an,.int .i64 si,.int .i64 un,.string rt,.bool rw] 29 (0,0))):=by rw[←hW0];exact j16 (j16 (j16 (j17 rfl)))
 have HM0:Hid (W0.heap[w.heap.size+1]?=some (.cells #[.string ⟨tg.toArray⟩,.bool wk,.int .i64 mo,.int .i64 ln,.int .i64 hv,.int .i64 fr,.int .i64 wh,.int .i64 er,.slice KA ks.length kc,.string ⟨tn.toArray⟩,.bool kp] 45 (0,0))):=by rw[←hW0];exact j16 (j16 (j17 (by simp)))
 have HC0:Hid (W0.heap[w.heap.size+1+1]?=some (.cells #[.int .i64 j0,.int .i64 j1,.int .i64 j2,.int .i64 cs,.int .i64 j4,.int .i64 j5,.int .i64 j6,.int .i64 j7,.int .i64 j8,.int .i64 j9] 33 (0,0))):=by rw[←hW0];exact j16 (j17 (by simp))
 have HX0:Hid (W0.heap[(w.heap.size+1+1+1)]?=some (.cells #[.int .i64 0,.slice none 0 0,.slice none 0 0,.int .i64 0] 74 (0,0))):=by rw[←hW0];exact j17 (by simp)
 have HB0:Hid (Below w.heap.size w W0):=by simp only[Hid];rw[←hW0];(repeat(first|exact b_ _ _|refine q15 ?_ _|refine x15 ?_|refine q11 ?_ _|refine w14 ?_ (by simp) _))
 have hzW:w.heap.size≤W0.heap.size:=HB0.out.size;rw[hW0];clear hW0;obtain⟨v0,v1,v2,v3,v4,v5,v6,v7,v8,v9,v10⟩:=bc11 HM0.out;go_upto_region 2 with(first|(go_at_call 71;refine(HFD _ (HK.out.below HB0.out) (HE.out.below HB0.out).tab).out.mono ?_;rintro e w1⟨FA,fc,fk,hfk,rfl,hown,h1⟩));have S1:Hid (SSt w w1 #[.bool hd,.string ob,.slice A L.length c,.slice A1 n1 c1,.slice A2 n2 c2,.bool am,.bool an,.int .i64 si,.int .i64 un,.string rt,.bool rw] #[.string ⟨tg.toArray⟩,.bool wk,.int .i64 mo,.int .i64 ln,.int .i64 hv,.int .i64 fr,.int .i64 wh,.int .i64 er,.slice KA ks.length kc,.string ⟨tn.toArray⟩,.bool kp] #[.int .i64 j0,.int .i64 j1,.int .i64 j2,.int .i64 cs,.int .i64 j4,.int .i64 j5,.int .i64 j6,.int .i64 j7,.int .i64 j8,.int .i64 j9] FA fc FL):=⟨j3 h1 HQ0.out,j3 h1 HM0.out,j3 h1 HC0.out,j3 h1 HX0.out,OwnG.base_le hown hzW,q12 h1 HB0.out⟩;have HFK:=a_ hfk;clear hown h1 HQ0 HM0 HC0 HX0 HB0 hzW v0 v1 v2 v3 v4 v5 v6 v7 v8 v9 v10 HFD;obtain⟨x0,x1,x2,x3⟩:=bc4 S1.out.mx rfl rfl rfl rfl;have xf0:=q13 (i:=0) S1.out.mx;have xf1:=q13 (i:=1) S1.out.mx;have xf2:=q13 (i:=2) S1.out.mx;have xf3:=q13 (i:=3) S1.out.mx;have xz:=q14 S1.out.mx;by_cases h3:o=3;·
  subst h3;go_wp2_with fail;refine m_ (by simp[results,bV_,go_sem,x0,x1,x2,x3];try rfl) rfl ?_;have g0:=S1.out.mx;have g1:=j15 (i:=0) (v:=.int .i64 304) g0;have g2:=j15 (i:=1) (v:=.slice FA FL.length fc) g1;have g3:=j15 (i:=2) (v:=.slice none 0 0) g2;refine HPOST.out _ _ ?_;first|rw[w_ rfl]|rw[w_ trivial]
  exact⟨FA,fc,FL.length,none,0,0,rfl,rfl,rfl,OwnG.spt elemFd.len ((((S1.out.own.set_ty g0 (by decide) _).set_ty g1 (by decide) _).set_ty g2 (by decide) _).set_ty g3 (by decide) _),SpT.nil _ _,w14 (w14 (w14 (w14 S1.out.bel (by simp;omega) _) (by simp;omega) _) (by simp;omega) _) (by simp;omega) _⟩
 by_cases h4:o=4;·
  subst h4;go_wp2_with fail;refine m_ (by simp[results,bV_,go_sem,x0,x1,x2,x3];try rfl) rfl ?_;have g0:=S1.out.mx;have g1:=j15 (i:=0) (v:=.int .i64 412) g0;have g2:=j15 (i:=1) (v:=.slice FA FL.length fc) g1;have g3:=j15 (i:=2) (v:=.slice none 0 0) g2;refine HPOST.out _ _ ?_;first|rw[q_ (by decide),w_ rfl]|rw[q_ (by decide),w_ trivial]
  exact⟨FA,fc,FL.length,none,0,0,rfl,rfl,rfl,OwnG.spt elemFd.len ((((S1.out.own.set_ty g0 (by decide) _).set_ty g1 (by decide) _).set_ty g2 (by decide) _).set_ty g3 (by decide) _),SpT.nil _ _,w14 (w14 (w14 (w14 S1.out.bel (by simp;omega) _) (by simp;omega) _) (by simp;omega) _) (by simp;omega) _⟩
 have b3:(o==3)=false:=by rw[j_];exact h3
 have b4:(o==4)=false:=by rw[j_];exact h4
 have HN3:=a_ h3;have HN4:=a_ h4;clear h3 h4;have y0:=bc 0 S1.out.mq rfl;have y2:=bc 2 S1.out.mq rfl;have y4:=bc 4 S1.out.mm rfl;have yc:=bc 3 S1.out.mc rfl;go_upto_region 7 with fail;clear b3 b4;go_cut[51](fun s51 wx=>s51=.bool rb∧SSt w wx #[.bool hd,.string ob,.slice A L.length c,.slice A1 n1 c1,.slice A2 n2 c2,.bool am,.bool an,.int .i64 si,.int .i64 un,.string rt,.bool rw] #[.string ⟨tg.toArray⟩,.bool wk,.int .i64 mo,.int .i64 ln,.int .i64 hv,.int .i64 fr,.int .i64 wh,.int .i64 er,.slice KA ks.length kc,.string ⟨tn.toArray⟩,.bool kp] #[.int .i64 j0,.int .i64 j1,.int .i64 j2,.int .i64 cs,.int .i64 j4,.int .i64 j5,.int .i64 j6,.int .i64 j7,.int .i64 j8,.int .i64 j9] FA fc FL);case first=>
  by_cases h1:o=1;·
   subst h1;cases hd with
    |true=>
     have E:rb=false:=by rw[HCB.out];rfl
     go_wp2_with fail;go_meet;exact⟨by rw[E],S1.out⟩
    |false=>
     by_cases hL:L=[];·
      have E:rb=false:=by rw[HCB.out,hL];rfl
      have hl0:¬(0:Int)<(L.length:Int):=by rw[hL];decide
      clear hL;go_wp2_with fail;go_meet;exact⟨by rw[E],S1.out⟩
     ·have E:rb=!cb:=by rw[HCB.out];cases L with|nil=>exact absurd rfl hL|cons a r=>rfl
      have hl0:(0:Int)<(L.length:Int):=by have:=bf_.2 hL;omega
      clear hL;go_wp2_with(go_at_call 72;refine(HCO _ (HS.out.below S1.out.bel)).out.mono ?_;rintro e w2⟨rfl,h2⟩);go_meet;exact⟨by rw[E],S1.out.below h2⟩
  ·have E:rb=false:=by rw[HCB.out,k_ h1];rfl
   have b1:(o==1)=false:=by rw[j_];exact h1
   clear h1;go_wp2_with fail;go_meet;exact⟨by rw[E],S1.out⟩
 case rest=>
  obtain⟨rfl,hst⟩:=hcut;have S2:=a_ hst;clear hst S1 x0 x1 x2 x3 xf0 xf1 xf2 xf3 xz y0 y2 y4 yc HCO HCB;obtain⟨x0,x1,x2,x3⟩:=bc4 S2.out.mx rfl rfl rfl rfl;have xf0:=q13 (i:=0) S2.out.mx;have xf1:=q13 (i:=1) S2.out.mx;have xf2:=q13 (i:=2) S2.out.mx;have xf3:=q13 (i:=3) S2.out.mx;have xz:=q14 S2.out.mx;obtain⟨q0,q1,q2,q3,q4,q5,q6,q7,q8,q9,q10⟩:=bc11 S2.out.mq;obtain⟨v0,v1,v2,v3,v4,v5,v6,v7,v8,v9,v10⟩:=bc11 S2.out.mm;cases rb with
   |true=>
    have HG:=a_ (HRG FA fc FL.length wc (HS.out.below S2.out.bel) rfl S2.out.own S2.out.bel).out;go_wp2_with fail;refine HG.out.mono ?_;rintro e w3⟨⟨O,hO,GA,gc,gk,PA,pc,pk,hgk,hpk,rfl,hg,hp,hb⟩,hkp⟩;have HX3:=a_ (hkp _ _ S2.out.mx (S2.out.own.ne_ty S2.out.mx (by decide)));clear x0 x1 x2 x3 xf0 xf1 xf2 xf3 xz;have z0:=bc 0 HX3.out rfl;have zf0:=q13 (i:=0) HX3.out;have z1:=bc 1 HX3.out rfl;have zf1:=q13 (i:=1) HX3.out;have z2:=bc 2 HX3.out rfl;have zf2:=q13 (i:=2) HX3.out;have z3:=bc 3 HX3.out rfl;have zf3:=q13 (i:=3) HX3.out;have zz:=q14 HX3.out;have hgk':=a_ hgk;have hpk':=a_ hpk;clear hgk hpk;go_wp2_with fail;refine m_ (by simp[results,bV_,go_sem,z0,z1,z2,z3];try rfl) rfl ?_;refine HPOST.out _ _ ?_;rw[q_ HN3.out,q_ HN4.out];first|rw[w_ rfl]|rw[w_ trivial]
    have g0:=HX3.out;have g1:=j15 (i:=0) (v:=.int .i64 (j24 ⟨tg,wk,mo,ln,hv,fr,wh,er,ks,tn,kp⟩ (O.map Prod.fst) seed).st) g0;have g2:=j15 (i:=1) (v:=.slice GA gk gc) g1;have g3:=j15 (i:=2) (v:=.slice PA pk pc) g2;exact⟨O,hO,GA,gc,gk,PA,pc,pk,hgk'.out,hpk'.out,rfl,(((hg.set_ty g0 (by decide) _).set_ty g1 (by decide) _).set_ty g2 (by decide) _).set_ty g3 (by decide) _,(((hp.set_ty g0 (by decide) _).set_ty g1 (by decide) _).set_ty g2 (by decide) _).set_ty g3 (by decide) _,w14 (w14 (w14 (w14 hb (by simp;omega) _) (by simp;omega) _) (by simp;omega) _) (by simp;omega) _⟩
   |false=>
    have hz:w.heap.size≤w.heap.size+1+1+1:=by omega
    have zq:=q14 S2.out.mq;have zm:=q14 S2.out.mm;go_upto_region 10 with fail;obtain⟨W3,hW3⟩:∃W3,wc.alloc (.cells #[.int .i64 200,.slice FA FL.length fc,.slice none 0 0,.int .i64 ln] 74)=W3:=⟨_,rfl⟩;have HQ5:Hid (W3.heap[w.heap.size]?=some (.cells #[.bool hd,.string ob,.slice A L.length c,.slice A1 n1 c1,.slice A2 n2 c2,.bool am,.bool an,.int .i64 si,.int .i64 un,.string rt,.bool rw] 29 (0,0))):=by rw[←hW3];exact j16 S2.out.mq
    have HM5:Hid (W3.heap[w.heap.size+1]?=some (.cells #[.string ⟨tg.toArray⟩,.bool wk,.int .i64 mo,.int .i64 ln,.int .i64 hv,.int .i64 fr,.int .i64 wh,.int .i64 er,.slice KA ks.length kc,.string ⟨tn.toArray⟩,.bool kp] 45 (0,0))):=by rw[←hW3];exact j16 S2.out.mm
    have HX5:Hid (W3.heap[(w.heap.size+1+1+1)]?=some (.cells #[.int .i64 0,.slice none 0 0,.slice none 0 0,.int .i64 0] 74 (0,0))):=by rw[←hW3];exact j16 S2.out.mx
    have HN5:Hid (W3.heap[wc.heap.size]?=some (.cells #[.int .i64 200,.slice FA FL.length fc,.slice none 0 0,.int .i64 ln] 74 (0,0))):=by rw[←hW3];exact j17 rfl
    have HO5:Hid (OwnG 176 w18 2 W3 w.heap.size FA fc FL):=by rw[←hW3];exact S2.out.own.alloc _
    have HB5:Hid (Below w.heap.size w W3):=by rw[←hW3];exact q11 S2.out.bel _
    have hX8:=q14 S2.out.mx;obtain⟨n8,hn8⟩:∃n,wc.heap.size=n:=⟨_,rfl⟩;rw[hn8]at HN5 hX8;rw[hW3];try rw[hn8]
    clear hW3 hn8 S2 x0 x1 x2 x3 xf0 xf1 xf2 xf3 xz zq zm q0 q1 q2 q3 q4 q5 q6 q7 q8 q9 q10 v0 v1 v2 v3 v4 v5 v6 v7 v8 v9 v10 hfk HRG;have hne8:¬w.heap.size+1+1+1=n8:=by omega
    have hne9:¬n8=w.heap.size+1+1+1:=by omega
    have hzn:w.heap.size≤n8:=by omega
    have q0:=bc 0 HQ5.out rfl;have v3:=bc 3 HM5.out rfl;have vz:=q14 HM5.out;have e0:=bc 0 HX5.out rfl;have ef0:=q13 (i:=0) HX5.out;have e1:=bc 1 HX5.out rfl;have ef1:=q13 (i:=1) HX5.out;have e2:=bc 2 HX5.out rfl;have ef2:=q13 (i:=2) HX5.out;have e3:=bc 3 HX5.out rfl;have ef3:=q13 (i:=3) HX5.out;have ez:=q14 HX5.out;have n0:=bc 0 HN5.out rfl;have nf0:=q13 (i:=0) HN5.out;have n1:=bc 1 HN5.out rfl;have nf1:=q13 (i:=1) HN5.out;have n2:=bc 2 HN5.out rfl;have nf2:=q13 (i:=2) HN5.out;have n3:=bc 3 HN5.out rfl;have nf3:=q13 (i:=3) HN5.out;have nz:=q14 HN5.out;cases hd with
     |true=>go_wp2_with fail;refine m_ (by simp[results,bV_,go_sem,e0,e1,e2,e3];try rfl) rfl ?_;refine HPOST.out _ _ ?_;rw[q_ HN3.out,q_ HN4.out];rw[q_ (by decide),HWA.out,w_ (by first|exact .inl rfl|exact .inl trivial)];have g0:=HX5.out;have g1:=j15 (i:=0) (v:=.int .i64 200) g0;have g2:=j15 (i:=1) (v:=.slice FA FL.length fc) g1;have g3:=j15 (i:=2) (v:=.slice none 0 0) g2;exact⟨FA,fc,FL.length,none,0,0,rfl,rfl,rfl,OwnG.spt elemFd.len ((((HO5.out.set_ty g0 (by decide) _).set_ty g1 (by decide) _).set_ty g2 (by decide) _).set_ty g3 (by decide) _),SpT.nil _ _,w14 (w14 (w14 (w14 HB5.out hz _) hz _) hz _) hz _⟩
     |false=>
      by_cases hl0:ln=0;·subst hl0;go_wp2_with fail;refine m_ (by simp[results,bV_,go_sem,e0,e1,e2,e3];try rfl) rfl ?_;refine HPOST.out _ _ ?_;rw[q_ HN3.out,q_ HN4.out];rw[q_ (by decide),HWA.out,w_ (by first|exact .inr rfl|exact .inr trivial)];have g0:=HX5.out;have g1:=j15 (i:=0) (v:=.int .i64 200) g0;have g2:=j15 (i:=1) (v:=.slice FA FL.length fc) g1;have g3:=j15 (i:=2) (v:=.slice none 0 0) g2;exact⟨FA,fc,FL.length,none,0,0,rfl,rfl,rfl,OwnG.spt elemFd.len ((((HO5.out.set_ty g0 (by decide) _).set_ty g1 (by decide) _).set_ty g2 (by decide) _).set_ty g3 (by decide) _),SpT.nil _ _,w14 (w14 (w14 (w14 HB5.out hz _) hz _) hz _) hz _⟩
      ·have b0:(ln==0)=false:=by rw[j_];exact hl0
       have HL0:=a_ hl0;clear hl0;by_cases hl1:ln=-1;·
        subst hl1;go_upto_region 16 with fail;obtain⟨W6,hW6⟩:∃W6,((W3.setCell ⟨n8,2,none⟩ (.slice (some ⟨W3.heap.size+1,0,none⟩) 1 1)).alloc (.cells #[.int .i64 0,.int .i64 4611686018427387904] 59)).alloc (.cells #[.string ⟨#[]⟩,.int .i64 0,.int .i64 4611686018427387904] 89)=W6:=⟨_,rfl⟩;have HX6:Hid (W6.heap[w.heap.size+1+1+1]?=some (.cells #[.int .i64 0,.slice none 0 0,.slice none 0 0,.int .i64 0] 74 (0,0))):=by rw[←hW6];exact j16 (j16 (w15 hne8 HX5.out))
        have HN6:Hid (W6.heap[n8]?=some (.cells #[.int .i64 200,.slice FA FL.length fc,.slice (some ⟨W3.heap.size+1,0,none⟩) 1 1,.int .i64 (-1)] 74 (0,0))):=by rw[←hW6];exact j16 (j16 (j15 HN5.out))
        have HO6:Hid (OwnG 176 w18 2 W6 w.heap.size FA fc FL):=by simp only[Hid];rw[←hW6];exact((HO5.out.set_ty HN5.out (by decide) _).alloc _).alloc _
        have HB6:Hid (Below w.heap.size w W6):=by rw[←hW6];exact q11 (q11 (w14 HB5.out hzn _) _) _
        have HP6:Hid (SpT 89 j18 3 W6 (some ⟨W3.heap.size+1,0,none⟩) 1 [([],(0,4611686018427387904))]):=by rw[←hW6];exact SpT.built_at (en:=j18) (n:=3) elemPt.len _ _ (by simp[World.setCell]) [([],(0,4611686018427387904))] _ rfl _
        obtain⟨pb,hpb⟩:∃p,W3.heap.size+1=p:=⟨_,rfl⟩;rw[hpb]at HN6 HP6 hW6;try rw[hpb]
        rw[hW6];clear hW6 hpb HX5 HN5 HO5 HB5 HQ5 HM5 q0 v3 vz e0 e1 e2 e3 ef0 ef1 ef2 ef3 ez n0 n1 n2 n3 nf0 nf1 nf2 nf3 nz;have d0:=bc 0 HX6.out rfl;have df0:=q13 (i:=0) HX6.out;have d1:=bc 1 HX6.out rfl;have df1:=q13 (i:=1) HX6.out;have d2:=bc 2 HX6.out rfl;have df2:=q13 (i:=2) HX6.out;have d3:=bc 3 HX6.out rfl;have df3:=q13 (i:=3) HX6.out;have dz:=q14 HX6.out;have n0:=bc 0 HN6.out rfl;have nf0:=q13 (i:=0) HN6.out;have n1:=bc 1 HN6.out rfl;have nf1:=q13 (i:=1) HN6.out;have n2:=bc 2 HN6.out rfl;have nf2:=q13 (i:=2) HN6.out;have n3:=bc 3 HN6.out rfl;have nf3:=q13 (i:=3) HN6.out;have nz:=q14 HN6.out;go_wp2_with fail;refine m_ (by simp[results,bV_,go_sem,d0,d1,d2,d3];try rfl) rfl ?_;refine HPOST.out _ _ ?_;rw[q_ HN3.out,q_ HN4.out];rw[q_ (by decide),HWA.out,q_ (by rintro(h|h)<;>first|exact HL0.out h|cases h)];first|rw[w_ rfl]|rw[w_ trivial]
        have g0:=HX6.out;have g1:=j15 (i:=0) (v:=.int .i64 200) g0;have g2:=j15 (i:=1) (v:=.slice FA FL.length fc) g1;have g3:=j15 (i:=2) (v:=.slice (some ⟨pb,0,none⟩) 1 1) g2;exact⟨FA,fc,FL.length,some ⟨pb,0,none⟩,1,1,rfl,rfl,rfl,OwnG.spt elemFd.len ((((HO6.out.set_ty g0 (by decide) _).set_ty g1 (by decide) _).set_ty g2 (by decide) _).set_ty g3 (by decide) _),(((HP6.out.set_ty g0 (by decide) _).set_ty g1 (by decide) _).set_ty g2 (by decide) _).set_ty g3 (by decide) _,w14 (w14 (w14 (w14 HB6.out hz _) hz _) hz _) hz _⟩
       ·have b1:(ln==-1)=false:=by rw[j_];exact hl1
        have HL1:=a_ hl1;clear hl1;go_upto_region 16 with fail;obtain⟨W6,hW6⟩:∃W6,((W3.setCell ⟨n8,2,none⟩ (.slice (some ⟨W3.heap.size+1,0,none⟩) 1 1)).alloc (.cells #[.int .i64 0,.int .i64 ln] 59)).alloc (.cells #[.string ⟨#[]⟩,.int .i64 0,.int .i64 ln] 89)=W6:=⟨_,rfl⟩;have HX6:Hid (W6.heap[w.heap.size+1+1+1]?=some (.cells #[.int .i64 0,.slice none 0 0,.slice none 0 0,.int .i64 0] 74 (0,0))):=by rw[←hW6];exact j16 (j16 (w15 hne8 HX5.out))
        have HN6:Hid (W6.heap[n8]?=some (.cells #[.int .i64 200,.slice FA FL.length fc,.slice (some ⟨W3.heap.size+1,0,none⟩) 1 1,.int .i64 ln] 74 (0,0))):=by rw[←hW6];exact j16 (j16 (j15 HN5.out))
        have HO6:Hid (OwnG 176 w18 2 W6 w.heap.size FA fc FL):=by simp only[Hid];rw[←hW6];exact((HO5.out.set_ty HN5.out (by decide) _).alloc _).alloc _
        have HB6:Hid (Below w.heap.size w W6):=by rw[←hW6];exact q11 (q11 (w14 HB5.out hzn _) _) _
        have HP6:Hid (SpT 89 j18 3 W6 (some ⟨W3.heap.size+1,0,none⟩) 1 [([],(0,ln))]):=by rw[←hW6];exact SpT.built_at (en:=j18) (n:=3) elemPt.len _ _ (by simp[World.setCell]) [([],(0,ln))] _ rfl _
        obtain⟨pb,hpb⟩:∃p,W3.heap.size+1=p:=⟨_,rfl⟩;rw[hpb]at HN6 HP6 hW6;try rw[hpb]
        rw[hW6];clear hW6 hpb HX5 HN5 HO5 HB5 HQ5 HM5 q0 v3 vz e0 e1 e2 e3 ef0 ef1 ef2 ef3 ez n0 n1 n2 n3 nf0 nf1 nf2 nf3 nz;have d0:=bc 0 HX6.out rfl;have df0:=q13 (i:=0) HX6.out;have d1:=bc 1 HX6.out rfl;have df1:=q13 (i:=1) HX6.out;have d2:=bc 2 HX6.out rfl;have df2:=q13 (i:=2) HX6.out;have d3:=bc 3 HX6.out rfl;have df3:=q13 (i:=3) HX6.out;have dz:=q14 HX6.out;have n0:=bc 0 HN6.out rfl;have nf0:=q13 (i:=0) HN6.out;have n1:=bc 1 HN6.out rfl;have nf1:=q13 (i:=1) HN6.out;have n2:=bc 2 HN6.out rfl;have nf2:=q13 (i:=2) HN6.out;have n3:=bc 3 HN6.out rfl;have nf3:=q13 (i:=3) HN6.out;have nz:=q14 HN6.out;go_wp2_with fail;refine m_ (by simp[results,bV_,go_sem,d0,d1,d2,d3];try rfl) rfl ?_;refine HPOST.out _ _ ?_;rw[q_ HN3.out,q_ HN4.out];rw[q_ (by decide),HWA.out,q_ (by rintro(h|h)<;>first|exact HL0.out h|cases h)];rw[q_ HL1.out];have g0:=HX6.out;have g1:=j15 (i:=0) (v:=.int .i64 200) g0;have g2:=j15 (i:=1) (v:=.slice FA FL.length fc) g1;have g3:=j15 (i:=2) (v:=.slice (some ⟨pb,0,none⟩) 1 1) g2;exact⟨FA,fc,FL.length,some ⟨pb,0,none⟩,1,1,rfl,rfl,rfl,OwnG.spt elemFd.len ((((HO6.out.set_ty g0 (by decide) _).set_ty g1 (by decide) _).set_ty g2 (by decide) _).set_ty g3 (by decide) _),(((HP6.out.set_ty g0 (by decide) _).set_ty g1 (by decide) _).set_ty g2 (by decide) _).set_ty g3 (by decide) _,w14 (w14 (w14 (w14 HB6.out hz _) hz _) hz _) hz _⟩
structure CfgL where
 j0:Int
 j1:Int
 j2:Int
 cs:Int
 j4:Int
 j5:Int
 j6:Int
 j7:Int
 j8:Int
 j9:Int
structure FineP(r:ReqL)(m:MetaL)(o:Int):Prop where
 few:r.L.length≤70
 all_:allR r.L=true
 ok:MetaOk m
 out:1≤o∧o≤4
def powB(n:Int):Bool:=(List.range 19).any fun k=>decide (n=4*2^k)
def x26(g:CfgL):Bool:=(decide (4≤g.j0)&&decide (g.j0≤1048576))&&powB g.j0&&(decide (0≤g.j1)&&decide (g.j1≤1099511627776))&&(decide (g.j0≤g.j2)&&decide (g.j2≤1099511627776))&&(decide (1≤g.cs)&&decide (g.cs≤64))&&(decide (0≤g.j4)&&decide (g.j4≤100))&&(decide (0≤g.j5)&&decide (g.j5≤100))&&(decide (0≤g.j6)&&decide (g.j6≤1099511627776))&&(decide (g.j0≤g.j7)&&decide (g.j7≤1125899906842624))&&(decide (g.j0≤g.j8)&&decide (g.j8≤g.j7))&&(decide (1≤g.j9)&&decide (g.j9≤1099511627776))
theorem z106(m:Nat)(h:0<m):(2*m)&&&(2*m-1)=2*(m&&&(m-1)):=by
 have e:2*m-1=2*(m-1)+1:=by omega
 rw[e];apply Nat.eq_of_testBit_eq;intro i;cases i with|zero=>simp[Nat.testBit_zero]|succ i=>rw[Nat.testBit_and,Nat.testBit_succ,Nat.testBit_succ,Nat.testBit_succ,show 2*m/2=m by omega,show(2*(m-1)+1)/2=m-1 by omega,show 2*(m&&&(m-1))/2=m&&&(m-1)by omega,Nat.testBit_and]
theorem x110(m:Nat):(2*m+1)&&&(2*m+1-1)=2*m:=by rw[show 2*m+1-1=2*m by omega];apply Nat.eq_of_testBit_eq;intro i;cases i with|zero=>simp[Nat.testBit_zero]|succ i=>rw[Nat.testBit_and,Nat.testBit_succ,Nat.testBit_succ,show(2*m+1)/2=m by omega,show 2*m/2=m by omega,Bool.and_self]
theorem k127:∀(k n:Nat),0<n→n<2^k→(n&&&(n-1)=0↔∃j,j<k∧n=2^j)
 |0,n,h0,h1=>by simp at h1;omega
 |k+1,n,h0,h1=>by
  have hm:n=2*(n/2)∨n=2*(n/2)+1:=by omega
  obtain⟨m,hm2⟩:∃m,n/2=m:=⟨_,rfl⟩;rw[hm2]at hm;clear hm2;rcases hm with hm|hm;·
   subst hm;have ih:=k127 k m (by omega) (by rw[bg_]at h1;omega);rw[z106 m (by omega)];constructor;·intro h;obtain⟨j,hj,e⟩:=ih.1 (by omega);exact⟨j+1,by omega,by rw[e,bg_];omega⟩
   ·rintro⟨j,hj,e⟩;cases j with
     |zero=>simp at e;omega
     |succ j=>have:=ih.2 ⟨j,by omega,by rw[bg_]at e;omega⟩;omega
  ·subst hm;rw[x110];constructor;·intro h;exact⟨0,by omega,by simp;omega⟩
   ·rintro⟨j,hj,e⟩;cases j with|zero=>simp at e;omega|succ j=>rw[bg_]at e;omega
theorem w155{n:Int}(h0:4≤n)(h1:n≤1048576):powB n=decide (n.toNat&&&(n.toNat-1)=0):=by
 rw[ak_,p_,k127 21 n.toNat (by omega) (by omega)];unfold powB;rw[List.any_eq_true];constructor;·
  rintro⟨k,hk,e⟩;rw[p_]at e;have hk:=bF_.1 hk;refine⟨k+2,by omega,?_⟩;rw[e,Nat.pow_add];have:((4*2^k:Int)).toNat=4*2^k:=by
   have h2:(4*2^k:Int)=((4*2^k:Nat):Int):=by simp
   rw[h2];exact Int.toNat_natCast _
  rw[this];omega
 ·rintro⟨j,hj,e⟩;have hj2:2≤j:=by
   rcases ah_ j 2 with h|h;·
    have:j=0∨j=1:=by omega
    rcases this with rfl|rfl<;>simp at e<;>omega
   ·exact h
  obtain⟨k,rfl⟩:∃k,j=k+2:=⟨j-2,by omega⟩;refine⟨k,bF_.2 (by omega),?_⟩;rw[p_];have h2:(4*2^k:Int)=((4*2^k:Nat):Int):=by simp
  rw[h2];rw[Nat.pow_add]at e;omega
def btw(n a b:Int):Bool:=decide (a≤n)&&decide (n≤b)
theorem y79{n a b:Int}:btw n a b=true↔a≤n∧n≤b:=by unfold btw;rw[r_,p_,p_]
theorem k116(n a b:Int)(w:World):Calls Tryz.prog 136 #[.int .i64 n,.int .i64 a,.int .i64 b] w fun e w'=>e=.returned (.bool (btw n a b))∧w'=w:=by
 unfold btw;by_cases h1:a≤n;·
  have H1:=a_ (s_ h1);by_cases h2:n≤b;·have H2:=a_ (s_ h2);go_enter Tryz.func136,Tryz.ntmps136;go_wp2_with fail;go_ret;exact⟨by first|(rw[H1.out,H2.out];rfl)|(rw[H2.out];rfl),rfl⟩
  ·have H2:=a_ (k_ h2);go_enter Tryz.func136,Tryz.ntmps136;go_wp2_with fail;go_ret;exact⟨by first|(rw[H1.out,H2.out];rfl)|(rw[H2.out];rfl),rfl⟩
 ·have H1:=a_ (k_ h1);go_enter Tryz.func136,Tryz.ntmps136;go_wp2_with fail;go_ret;exact⟨by first|(rw[H1.out];rfl)|rfl,rfl⟩
theorem z123(a b:Nat)(ha:a<4611686018427387904)(hb:b<4611686018427387904):bits .and .i64 (a:Int) (b:Int)=((a&&&b:Nat):Int):=by
 have hx:a&&&b≤a:=Nat.and_le_left;have h1:(BitVec.ofInt 64 (a:Int)).toNat=a:=by rw[BitVec.ofInt_natCast,BitVec.toNat_ofNat];exact Nat.mod_eq_of_lt (by omega)
 have h2:(BitVec.ofInt 64 (b:Int)).toNat=b:=by rw[BitVec.ofInt_natCast,BitVec.toNat_ofNat];exact Nat.mod_eq_of_lt (by omega)
 show IntKind.i64.wrap ((BitVec.ofInt 64 (a:Int)&&&BitVec.ofInt 64 (b:Int)).toNat:Int)=_;rw[BitVec.toNat_and,h1,h2,IntKind.wrap_i64];omega
theorem v161{n:Int}(h0:4≤n)(h1:n≤1048576):powB n=decide (bits .and .i64 n (n-1)=0):=by obtain⟨m,rfl⟩:∃m:Nat,n=(m:Int):=⟨n.toNat,by omega⟩;rw[w155 h0 h1,show((m:Int)-1)=((m-1:Nat):Int)by omega,z123 m (m-1) (by omega) (by omega),Int.toNat_natCast];rw[decide_eq_decide];omega
theorem k161(j0 j1 j2 cs j4 j5 j6 j7 j8 j9:Int):x26 ⟨j0,j1,j2,cs,j4,j5,j6,j7,j8,j9⟩=(btw j0 4 1048576&&powB j0&&btw j1 0 1099511627776&&btw j2 j0 1099511627776&&btw cs 1 64&&btw j4 0 100&&btw j5 0 100&&btw j6 0 1099511627776&&btw j7 j0 1125899906842624&&btw j8 j0 j7&&btw j9 1 1099511627776):=rfl
theorem w149{n:Int}(h0:4≤n)(h1:n≤1048576):wrap64 (n-1)=n-1:=by unfold wrap64;omega
theorem w138(j0 j1 j2 cs j4 j5 j6 j7 j8 j9:Int):x26 ⟨j0,j1,j2,cs,j4,j5,j6,j7,j8,j9⟩=(btw j0 4 1048576&&decide (bits .and .i64 j0 (wrap64 (j0-1))=0)&&btw j1 0 1099511627776&&btw j2 j0 1099511627776&&btw cs 1 64&&btw j4 0 100&&btw j5 0 100&&btw j6 0 1099511627776&&btw j7 j0 1125899906842624&&btw j8 j0 j7&&btw j9 1 1099511627776):=by rw[k161];cases h:btw j0 4 1048576 with|false=>simp|true=>rw[v161 (y79.1 h).1 (y79.1 h).2,w149 (y79.1 h).1 (y79.1 h).2]
theorem w94(j0 j1 j2 cs j4 j5 j6 j7 j8 j9:Int)(w:World):Calls Tryz.prog 78 #[cfgV j0 j1 j2 cs j4 j5 j6 j7 j8 j9] w fun e w'=>e=.returned (.bool (x26 ⟨j0,j1,j2,cs,j4,j5,j6,j7,j8,j9⟩))∧Below w.heap.size w w':=by
 unfold cfgV;have HV:=a_ (w138 j0 j1 j2 cs j4 j5 j6 j7 j8 j9);obtain⟨V,hV⟩:∃V,x26 ⟨j0,j1,j2,cs,j4,j5,j6,j7,j8,j9⟩=V:=⟨_,rfl⟩;rw[hV]at HV⊢;clear hV;obtain⟨q,hq⟩:∃q,bits .and .i64 j0 (wrap64 (j0-1))=q:=⟨_,rfl⟩;rw[hq]at HV;obtain⟨bq,hbq⟩:∃b,decide (q=0)=b:=⟨_,rfl⟩;have hbe:(q==0)=bq:=by rw[←hbq];rfl
 rw[hbq]at HV;have HBE:=a_ hbe;clear hbq;obtain⟨b_j0,e_j0⟩:∃b,btw j0 4 1048576=b:=⟨_,rfl⟩;obtain⟨b_j1,e_j1⟩:∃b,btw j1 0 1099511627776=b:=⟨_,rfl⟩;obtain⟨b_j2,e_j2⟩:∃b,btw j2 j0 1099511627776=b:=⟨_,rfl⟩;obtain⟨b_cs,e_cs⟩:∃b,btw cs 1 64=b:=⟨_,rfl⟩;obtain⟨b_j4,e_j4⟩:∃b,btw j4 0 100=b:=⟨_,rfl⟩;obtain⟨b_j5,e_j5⟩:∃b,btw j5 0 100=b:=⟨_,rfl⟩;obtain⟨b_j6,e_j6⟩:∃b,btw j6 0 1099511627776=b:=⟨_,rfl⟩;obtain⟨b_j7,e_j7⟩:∃b,btw j7 j0 1125899906842624=b:=⟨_,rfl⟩;obtain⟨b_j8,e_j8⟩:∃b,btw j8 j0 j7=b:=⟨_,rfl⟩;obtain⟨b_j9,e_j9⟩:∃b,btw j9 1 1099511627776=b:=⟨_,rfl⟩;rw[e_j0,e_j1,e_j2,e_cs,e_j4,e_j5,e_j6,e_j7,e_j8,e_j9]at HV;go_enter Tryz.func78,Tryz.ntmps78;go_upto_region 1 with fail;obtain⟨W0,hW0⟩:∃W,(w.alloc (.cells #[.int .i64 j0,.int .i64 j1,.int .i64 j2,.int .i64 cs,.int .i64 j4,.int .i64 j5,.int .i64 j6,.int .i64 j7,.int .i64 j8,.int .i64 j9] 33))=W:=⟨_,rfl⟩;have X0:Hid (W0.heap[w.heap.size]?=some (.cells #[.int .i64 j0,.int .i64 j1,.int .i64 j2,.int .i64 cs,.int .i64 j4,.int .i64 j5,.int .i64 j6,.int .i64 j7,.int .i64 j8,.int .i64 j9] 33 (0,0))):=by rw[←hW0];exact j17 rfl
 have HB0:Hid (Below w.heap.size w W0):=by rw[←hW0];exact q11 (b_ _ _) _
 rw[hW0];clear hW0;obtain⟨v0,v1,v2,v3,v4,v5,v6,v7,v8,v9⟩:=bc10 X0.out;have vz:=q14 X0.out;go_wp2_with(go_at_call 136;refine(k116 _ _ _ _).mono ?_;rintro e w1⟨rfl,hw1⟩;obtain rfl:W0=w1:=hw1.symm);all_goals go_ret;have hbe2:=HBE.out;exact⟨by rw[HV.out];simp_all,HB0.out⟩
def pw(k:Nat):Int:=4*2^k
theorem pw_le:∀k:Fin 20,(pw k.val≤1048576↔k.val≤18)∧4≤pw k.val∧pw k.val≤2097152:=by decide
theorem pw_next(k:Nat):pw (k+1)=pw k*2:=by unfold pw;rw[Int.pow_succ];omega
theorem x161{n:Int}{k:Nat}(hk:k≤18)(h:n=pw k):powB n=true:=by unfold powB;rw[List.any_eq_true];exact⟨k,bF_.2 (by omega),by rw[p_];exact h⟩
theorem powB_no{n:Int}(h:∀j,j<19→n≠pw j):powB n=false:=by unfold powB;rw[List.any_eq_false];intro j hj;rw[p_];exact h j (bF_.1 hj)
theorem q139(n:Int)(w:World):Calls Tryz.prog 149 #[.int .i64 n] w fun e w'=>e=.returned (.bool (powB n))∧w'=w:=by
 go_enter Tryz.func149,Tryz.ntmps149;go_wp2_with fail;go_loopw[3](fun i wr=>wr=w∧∃k:Nat,k≤19∧i=.int .i64 (pw k)∧∀j,j<k→n≠pw j)(fun i _=>2097153-(intOf i).toNat);case atStart=>exact⟨rfl,0,by omega,rfl,fun j hj=>by omega⟩
 case round=>
  obtain⟨rfl,k,hk,rfl,hall⟩:=hrel;have HA:=a_ hall;clear hall;obtain⟨h1,h2,h3⟩:=pw_le ⟨k,by omega⟩;simp only at h1 h2 h3;have HNX:=a_ (pw_next k);have HY:Hid (k≤18→n=pw k→powB n=true):=fun a b=>x161 a b;obtain⟨u,hu⟩:∃u,pw k=u:=⟨_,rfl⟩;have HU:=a_ hu;rw[hu]at h1 h2 h3 HNX HY⊢;clear hu;by_cases hle:u≤1048576;·
   have hk18:=h1.1 hle;clear h1;by_cases he:u=n;·
    have HV:=a_ (HY.out hk18 he.symm);have hq:(u==n)=true:=by rw[aD_];exact he
    clear he HY;go_wp2_with fail;go_ret;exact⟨by rw[HV.out];rfl,rfl⟩
   ·have hq:(u==n)=false:=by rw[j_];exact he
    have HNE:=a_ he;clear he HY;go_wp2_with fail;go_roundw;case rel=>
     refine⟨by first|trivial|rfl,k+1,by omega,by rw[HNX.out],fun j hj=>?_⟩;by_cases hjk:j=k;·rw[hjk,HU.out];exact fun h=>HNE.out h.symm
     ·exact HA.out j (by omega)
    case measure=>simp[intOf];omega
  ·have HV:Hid (powB n=false):=powB_no fun j hj=>HA.out j (by have:=mt h1.2 hle;omega);clear h1 HY HA HNX;go_wp2_with fail;go_ret;exact⟨by rw[HV.out];rfl,rfl⟩
def CfgRow(cs:Array Value)(w:World)(e:Ending)(w':World):Prop:=∃b,e=.returned (.slice (some ⟨b,0,none⟩) 10 10)∧w'.heap[b]?=some (.cells cs 2 (0,0))∧Below w.heap.size w w'
theorem x116(j0 j1 j2 cs j4 j5 j6 j7 j8 j9:Int)(w:World):Calls Tryz.prog 148 #[cfgV j0 j1 j2 cs j4 j5 j6 j7 j8 j9] w (CfgRow #[.int .i64 j0,.int .i64 j1,.int .i64 j2,.int .i64 cs,.int .i64 j4,.int .i64 j5,.int .i64 j6,.int .i64 j7,.int .i64 j8,.int .i64 j9] w):=by unfold cfgV;go_enter Tryz.func148,Tryz.ntmps148;go_wp2_with fail;go_ret;exact⟨_,rfl,j17 (by simp),by(repeat(first|exact b_ _ _|refine q15 ?_ _|refine x15 ?_|refine q11 ?_ _|refine w14 ?_ (by simp) _))⟩
theorem cfg_all(j0 j1 j2 cs j4 j5 j6 j7 j8 j9:Int):x26 ⟨j0,j1,j2,cs,j4,j5,j6,j7,j8,j9⟩=((List.range 10).all (fun k=>decide (([4,0,j0,1,0,0,0,j0,j0,1]:List Int).getD k 0≤([j0,j1,j2,cs,j4,j5,j6,j7,j8,j9]:List Int).getD k 0)&&decide (([j0,j1,j2,cs,j4,j5,j6,j7,j8,j9]:List Int).getD k 0≤([1048576,1099511627776,1099511627776,64,100,100,1099511627776,1125899906842624,j7,1099511627776]:List Int).getD k 0))&&powB j0):=by
 rw[ak_];unfold x26;simp[List.range,List.range.loop,r_];constructor;·intro h;simp_all
 ·intro h;simp_all
theorem y116{w:World}{b:Nat}{T:TypeId}{f:Nat×Nat}(L:List Int)(hb:w.heap[b]?=some (.cells (L.map (Value.int .i64)).toArray T f)){k:Nat}(hk:k<L.length):w.cell? ⟨b,k,none⟩=some (.int .i64 (L.getD k 0)):=by refine j14 hb ?_;simp[hk,aJ_]
theorem y88(j0 j1 j2 cs j4 j5 j6 j7 j8 j9:Int)(w:World):Calls Tryz.prog 90 #[cfgV j0 j1 j2 cs j4 j5 j6 j7 j8 j9] w fun e w'=>e=.returned (.bool (x26 ⟨j0,j1,j2,cs,j4,j5,j6,j7,j8,j9⟩))∧Below w.heap.size w w':=by
 have HN:=fun W=>a_ (x116 j0 j1 j2 cs j4 j5 j6 j7 j8 j9 W);have HP:=fun W=>a_ (q139 j0 W);have HV:=a_ (cfg_all j0 j1 j2 cs j4 j5 j6 j7 j8 j9);obtain⟨V,hV⟩:∃V,x26 ⟨j0,j1,j2,cs,j4,j5,j6,j7,j8,j9⟩=V:=⟨_,rfl⟩;rw[hV]at HV⊢;clear hV;unfold cfgV at HN⊢;go_enter Tryz.func90,Tryz.ntmps90;go_upto_region 2 with fail;obtain⟨W0,hW0⟩:∃W,(w.alloc (.cells #[.int .i64 j0,.int .i64 j1,.int .i64 j2,.int .i64 cs,.int .i64 j4,.int .i64 j5,.int .i64 j6,.int .i64 j7,.int .i64 j8,.int .i64 j9] 33))=W:=⟨_,rfl⟩;have X0:Hid (W0.heap[w.heap.size]?=some (.cells #[.int .i64 j0,.int .i64 j1,.int .i64 j2,.int .i64 cs,.int .i64 j4,.int .i64 j5,.int .i64 j6,.int .i64 j7,.int .i64 j8,.int .i64 j9] 33 (0,0))):=by rw[←hW0];exact j17 rfl
 have HB0:Hid (Below w.heap.size w W0):=by rw[←hW0];exact q11 (b_ _ _) _
 rw[hW0];clear hW0;obtain⟨v0,v1,v2,v3,v4,v5,v6,v7,v8,v9⟩:=bc10 X0.out;have vz:=q14 X0.out;go_upto_region 4 with fail;obtain⟨W1,hW1⟩:∃W,(W0.alloc (.cells #[.int .i64 4,.int .i64 0,.int .i64 j0,.int .i64 1,.int .i64 0,.int .i64 0,.int .i64 0,.int .i64 j0,.int .i64 j0,.int .i64 1] 2)).alloc (.cells #[.int .i64 1048576,.int .i64 1099511627776,.int .i64 1099511627776,.int .i64 64,.int .i64 100,.int .i64 100,.int .i64 1099511627776,.int .i64 1125899906842624,.int .i64 j7,.int .i64 1099511627776] 2)=W:=⟨_,rfl⟩;have XL:Hid (W1.heap[W0.heap.size]?=some (.cells (([4,0,j0,1,0,0,0,j0,j0,1]:List Int).map (Value.int .i64)).toArray 2 (0,0))):=by rw[←hW1];exact j16 (j17 rfl)
 have XH:Hid (W1.heap[W0.heap.size+1]?=some (.cells (([1048576,1099511627776,1099511627776,64,100,100,1099511627776,1125899906842624,j7,1099511627776]:List Int).map (Value.int .i64)).toArray 2 (0,0))):=by rw[←hW1];exact j17 (by simp)
 have X1:Hid (W1.heap[w.heap.size]?=some (.cells #[.int .i64 j0,.int .i64 j1,.int .i64 j2,.int .i64 cs,.int .i64 j4,.int .i64 j5,.int .i64 j6,.int .i64 j7,.int .i64 j8,.int .i64 j9] 33 (0,0))):=by rw[←hW1];exact j16 (j16 X0.out)
 have HB1:Hid (Below w.heap.size w W1):=by rw[←hW1];exact q11 (q11 HB0.out _) _
 rw[hW1];clear hW1 v0 v1 v2 v3 v4 v5 v6 v7 v8 v9 vz HB0 X0;obtain⟨v0,v1,v2,v3,v4,v5,v6,v7,v8,v9⟩:=bc10 X1.out;have vz:=q14 X1.out;go_wp2_with(go_at_call 148;refine(HN _).out.mono ?_;rintro e w3⟨bn,rfl,hbn,hb3⟩);have YL:=a_ (j3 hb3 XL.out);have YH:=a_ (j3 hb3 XH.out);have YC:=a_ (j3 hb3 X1.out);have YN:Hid (w3.heap[bn]?=some (.cells (([j0,j1,j2,cs,j4,j5,j6,j7,j8,j9]:List Int).map (Value.int .i64)).toArray 2 (0,0))):=hbn;have HB3:=a_ (q12 hb3 HB1.out);have y0:=bc 0 YC.out rfl;have yz:=q14 YC.out;have zL:=q14 YL.out;have zH:=q14 YH.out;have zN:=q14 hbn;obtain⟨ll,hll⟩:∃l,([4,0,j0,1,0,0,0,j0,j0,1]:List Int)=l:=⟨_,rfl⟩;obtain⟨lh,hlh⟩:∃l,([1048576,1099511627776,1099511627776,64,100,100,1099511627776,1125899906842624,j7,1099511627776]:List Int)=l:=⟨_,rfl⟩;obtain⟨ln,hln⟩:∃l,([j0,j1,j2,cs,j4,j5,j6,j7,j8,j9]:List Int)=l:=⟨_,rfl⟩;have L1:Hid (ll.length=10):=by simp only[Hid];rw[←hll];rfl
 have L2:Hid (lh.length=10):=by simp only[Hid];rw[←hlh];rfl
 have L3:Hid (ln.length=10):=by simp only[Hid];rw[←hln];rfl
 rw[hll]at YL HV;rw[hlh]at YH HV;rw[hln]at YN HV;obtain⟨PB,hPB⟩:∃p,powB j0=p:=⟨_,rfl⟩;rw[hPB]at HV HP;clear hll hlh hln hPB hbn hb3 HN XL XH X1 HB1 v0 v1 v2 v3 v4 v5 v6 v7 v8 v9 vz;go_loopw[7,8,27](fun _ _ i wr=>wr=w3∧∃k:Nat,k≤10∧i=.int .i64 (k:Int)∧∀j,j<k→(decide (ll.getD j 0≤ln.getD j 0)&&decide (ln.getD j 0≤lh.getD j 0))=true)(fun _ _ i _=>10-(intOf i).toNat);case atStart=>exact⟨rfl,0,by omega,rfl,fun j hj=>by omega⟩
 case round=>
  obtain⟨rfl,k,hk,rfl,hall⟩:=hrel;have HA:=a_ hall;clear hall;by_cases hlt:k<10;·
   have d1:=y116 ll YL.out (k:=k) (by rw[L1.out];exact hlt);have d2:=y116 lh YH.out (k:=k) (by rw[L2.out];exact hlt);have d3:=y116 ln YN.out (k:=k) (by rw[L3.out];exact hlt);have HST:Hid ((decide (ll.getD k 0≤ln.getD k 0)&&decide (ln.getD k 0≤lh.getD k 0))=true→∀j,j<k+1→(decide (ll.getD j 0≤ln.getD j 0)&&decide (ln.getD j 0≤lh.getD j 0))=true):=by
    intro h j hj;by_cases e:j=k;·rw[e];exact h
    ·exact HA.out j (by omega)
   have HNO:Hid ((decide (ll.getD k 0≤ln.getD k 0)&&decide (ln.getD k 0≤lh.getD k 0))=false→V=false):=by intro h;rw[HV.out,Bool.and_eq_false_iff];left;rw[List.all_eq_false];exact⟨k,bF_.2 hlt,by rw[h];simp⟩
   have hki:(k:Int)<10:=by omega
   obtain⟨a,ha⟩:∃a,ll.getD k 0=a:=⟨_,rfl⟩;obtain⟨z,hz⟩:∃a,lh.getD k 0=a:=⟨_,rfl⟩;obtain⟨x,hx⟩:∃a,ln.getD k 0=a:=⟨_,rfl⟩;rw[ha]at d1 HST HNO;rw[hz]at d2 HST HNO;rw[hx]at d3 HST HNO;clear ha hz hx HA;by_cases h1:x<a;·have HF:=a_ (HNO.out (by rw[k_ (show¬a≤x by omega)];rfl));clear HST HNO;go_wp2_with fail;go_ret;exact⟨by rw[HF.out];rfl,HB3.out⟩
   by_cases h2:z<x;·have HF:=a_ (HNO.out (by rw[k_ (show¬x≤z by omega)];simp));clear HST HNO;go_wp2_with fail;go_ret;exact⟨by rw[HF.out];rfl,HB3.out⟩
   have HF:=a_ (HST.out (by rw[s_ (show a≤x by omega),s_ (show x≤z by omega)];rfl));clear HST HNO;go_wp2_with fail;go_roundw;case rel=>exact⟨by first|trivial|rfl,k+1,by omega,by go_num,HF.out⟩
   case measure=>simp[intOf];omega
  ·have HF:Hid (V=PB):=by
    simp only[Hid];rw[HV.out];have:(List.range 10).all (fun k=>decide (ll.getD k 0≤ln.getD k 0)&&decide (ln.getD k 0≤lh.getD k 0))=true:=by rw[av_];intro j hj;exact HA.out j (by have:=bF_.1 hj;omega)
    rw[this,Bool.true_and]
   clear HA;go_wp2_with(go_at_call 149;refine(HP _).out.mono ?_;rintro e w4⟨rfl,hw4⟩;obtain rfl:wr=w4:=hw4.symm);go_ret;exact⟨by rw[HF.out];rfl,HB3.out⟩
structure Mut(S:List Nat)(w w':World):Prop where
 os:w'.os=w.os
 tape:w'.tape=w.tape
 output:w'.output=w.output
 size:w.heap.size≤w'.heap.size
 blk:∀(k:Nat)(o:Obj),w.heap[k]?=some o→k∉S→w'.heap[k]?=some o
section
variable{S S':List Nat}{w w' w2:World}
theorem Mut.refl(S:List Nat)(w:World):Mut S w w:=⟨rfl,rfl,rfl,t_ _,fun _ _ h _=>h⟩
theorem Mut.of_below(h:Below w.heap.size w w'):Mut S w w':=⟨h.os,h.tape,h.output,h.size,fun _ _ hk _=>j3 h hk⟩
theorem Mut.trans(h:Mut S w w')(h2:Mut S w' w2):Mut S w w2:=⟨h2.os.trans h.os,h2.tape.trans h.tape,h2.output.trans h.output,ai_ h.size h2.size,fun k o hk hn=>h2.blk k o (h.blk k o hk hn) hn⟩
theorem Mut.trans_new(h:Mut S w w')(h2:Mut S' w' w2)(hS:∀k∈S',k∈S∨w.heap.size≤k):Mut S w w2:=⟨h2.os.trans h.os,h2.tape.trans h.tape,h2.output.trans h.output,ai_ h.size h2.size,fun k o hk hn=>h2.blk k o (h.blk k o hk hn) fun hin=>by
 rcases hS k hin with h3|h3;·exact hn h3
 ·exact absurd (q14 hk) (Nat.not_lt.2 h3)⟩
theorem Mut.mono(h:Mut S w w')(hS:∀k∈S,k∈S'):Mut S' w w':=⟨h.os,h.tape,h.output,h.size,fun k o hk hn=>h.blk k o hk fun hin=>hn (hS k hin)⟩
theorem Mut.set{p:Addr}(h:p.block∈S)(v:Value)(hm:Mut S w w'):Mut S w (w'.setCell p v):=⟨hm.os,hm.tape,hm.output,by have:=hm.size;simp[World.setCell];omega,fun k o hk hn=>w15 (fun e=>hn (by rw[e];exact h)) (hm.blk k o hk hn)⟩
theorem Mut.set_new{p:Addr}(hp:w.heap.size≤p.block)(v:Value)(hm:Mut S w w'):Mut S w (w'.setCell p v):=⟨hm.os,hm.tape,hm.output,by have:=hm.size;simp[World.setCell];omega,fun k o hk hn=>w15 (fun e=>by have:=q14 hk;omega) (hm.blk k o hk hn)⟩
theorem Mut.alloc(hm:Mut S w w')(o:Obj):Mut S w (w'.alloc o):=hm.trans (.of_below (q11 (b_ _ _) o))
theorem Mut.drew(hm:Mut S w w'):Mut S w w'.drew:=hm.trans (.of_below (x15 (b_ _ _)))
theorem Mut.drewN(hm:Mut S w w')(n:Nat):Mut S w (w'.drewN n):=hm.trans (.of_below (q15 (b_ _ _) n))
theorem Mut.below{n:Nat}(hm:Mut S w w')(hn:∀k∈S,n≤k)(hsz:n≤w.heap.size):Below n w w':=⟨hm.os,hm.tape,hm.output,hm.size,fun k hk=>by
 have hlt:k<w.heap.size:=by omega
 have h1:w.heap[k]?=some w.heap[k]:=ac_ hlt;rw[h1];exact hm.blk k _ h1 fun hin=>by have:=hn k hin;omega⟩
end
theorem k30{α:Type}{P:Program}{enc:α→List Value}{n:Nat}{T ST:TypeId}{bytes:Nat}(K:ElemK P enc n T ST bytes){ops:Array Oper}{rest:List Oper}{o:Oper}{a:Act}{Q:Exit→Act→World→Prop}{w w0:World}(hgd:o.guard=none)(s x:Operand)(ho:o.op=.call {callee:=.builtin .append,args:=#[s,x],argTypes:=#[ST,ST]})(A:Option Addr)(c:Nat)(L:List α)(hs:a.eval s=.slice A L.length c)(hown:OwnG T enc n w w0.heap.size A c L)(A2:Option Addr)(c2:Nat)(L2:List α)(hx:a.eval x=.slice A2 L2.length c2)(hsp:SpG enc n w A2 c2 L2)(hl:L.length+L2.length≤1000000)(hbel:Below w0.heap.size w0 w)(h:∀A' c' w',OwnG T enc n w' w0.heap.size A' c' (L++L2)→Below w0.heap.size w0 w'→w.grownBy w' (Value.slice A L.length c).ownBlock→wpList P ops Q rest (a.put o.dst (.slice A' (L.length+L2.length) c')) w'):wpList P ops Q (o::rest) a w:=by
 rcases bi_ L2.length with h0|h0;·
  obtain rfl:L2=[]:=l_ h0;obtain⟨i0,z,hi,hz,hsz,hby,hzs⟩:=K.info;cases hA2:A2 with
   |none=>subst hA2;have hc2:=hsp.nil_ rfl;subst hc2;refine wpList_append_own_none hgd s x _ ho w0.heap.size T i0 n K.und hi _ _ _ hs hown hx ?_;have:=h A c w (by simpa using hown) hbel (bZ_ w _);simpa using this
   |some ad=>
    subst hA2;refine wpList_append_own w hgd s x _ ho w0.heap.size T i0 z n bytes K.und hi hz hsz hby hzs K.pos _ _ _ hs hown ad 0 c2 [] hx (by simp) ?_ ?_ (by simp only[maxLen];omega) ?_ hbel.size ?_;·intro j u hj;simp at hj
    ·intro u hu;simp at hu
    ·have:=K.small;have h5:L.length*bytes≤1000000*128:=cd_ (by simpa using hl) this;simp only[J_];omega
    ·intro v' w' h1 h2' h3;have hlt:=al_ hown;have hbel':Below w0.heap.size w0 w':=hbel.grown h2' hbel.size (fun k hk=>(hlt k hk).1);rw[T_,J_]at h1;have hform:∃A' c',v'=.slice A' L.length c':=by
      rcases h1.2 with⟨hv,hn⟩|⟨g',cap,cur,hv,_⟩;·rw[hn];exact⟨_,_,hv⟩
      ·exact⟨_,_,hv⟩
     obtain⟨A',c',rfl⟩:=hform;have:=h A' c' w' (by rw[T_];exact h1) hbel' h2';simpa using this
 ·exact k53 K hgd s x ho A c L hs hown A2 c2 L2 hx hsp h0 hl hbel h
def j186:List w17→List (Int×Int)|[]=>[]|p::r=>(if p.1.isEmpty then[p.2]else[])++j186 r
theorem k69:∀(a b:List w17),j186 (a++b)=j186 a++j186 b|[],b=>rfl|p::r,b=>by rw[ae_,j186,j186,k69 r b,x_]
theorem x67:∀(P:List w17),(j186 P).length≤P.length
 |[]=>t_ _
 |p::r=>by have:=x67 r;rw[j186,e_,g_];split<;>simp<;>omega
theorem q123{P:List w17}{k:Nat}(hk:k<P.length):j186 (P.take (k+1))=j186 (P.take k)++(if P[k].1.isEmpty then[P[k].2]else[]):=by rw[n_ hk,k69];simp[j186]
def k41(n:Int):Int:=if n<400∨599<n then 500 else n
theorem y161(n:Int)(w:World):Calls Tryz.prog 95 #[.int .i64 n] w fun e w'=>e=.returned (.agg #[.int .i64 (k41 n),.slice none 0 0,.slice none 0 0,.int .i64 0])∧Below w.heap.size w w':=by
 by_cases h1:n<400;·
  have E:k41 n=500:=w_ (.inl h1);go_enter Tryz.func95,Tryz.ntmps95;go_wp2_with fail;refine m_ (by simp[results,Tryz.results95,go_sem];try rfl) rfl ?_;try rw[E]
  exact⟨rfl,by(repeat(first|exact b_ _ _|refine q15 ?_ _|refine x15 ?_|refine q11 ?_ _|refine w14 ?_ (by simp) _))⟩
 ·by_cases h2:(599:Int)<n;·
   have E:k41 n=500:=w_ (.inr h2);go_enter Tryz.func95,Tryz.ntmps95;go_wp2_with fail;refine m_ (by simp[results,Tryz.results95,go_sem];try rfl) rfl ?_;try rw[E]
   exact⟨rfl,by(repeat(first|exact b_ _ _|refine q15 ?_ _|refine x15 ?_|refine q11 ?_ _|refine w14 ?_ (by simp) _))⟩
  ·have E:k41 n=n:=q_ (by omega);go_enter Tryz.func95,Tryz.ntmps95;go_wp2_with fail;refine m_ (by simp[results,Tryz.results95,go_sem];try rfl) rfl ?_;try rw[E]
   exact⟨rfl,by(repeat(first|exact b_ _ _|refine q15 ?_ _|refine x15 ?_|refine q11 ?_ _|refine w14 ?_ (by simp) _))⟩
theorem z150(n:Int)(w:World):Calls Tryz.prog 96 #[.int .i64 n] w fun e w'=>e=.returned (.agg #[.int .i64 (k41 n),.slice none 0 0,.slice none 0 0,.int .i64 0])∧Below w.heap.size w w':=by
 by_cases h1:n<400;·
  have E:k41 n=500:=w_ (.inl h1);go_enter Tryz.func96,Tryz.ntmps96;go_wp2_with fail;refine m_ (by simp[results,Tryz.results96,go_sem];try rfl) rfl ?_;try rw[E]
  exact⟨rfl,by(repeat(first|exact b_ _ _|refine q15 ?_ _|refine x15 ?_|refine q11 ?_ _|refine w14 ?_ (by simp) _))⟩
 ·by_cases h2:(599:Int)<n;·
   have E:k41 n=500:=w_ (.inr h2);go_enter Tryz.func96,Tryz.ntmps96;go_wp2_with fail;refine m_ (by simp[results,Tryz.results96,go_sem];try rfl) rfl ?_;try rw[E]
   exact⟨rfl,by(repeat(first|exact b_ _ _|refine q15 ?_ _|refine x15 ?_|refine q11 ?_ _|refine w14 ?_ (by simp) _))⟩
  ·have E:k41 n=n:=q_ (by omega);go_enter Tryz.func96,Tryz.ntmps96;go_wp2_with fail;refine m_ (by simp[results,Tryz.results96,go_sem];try rfl) rfl ?_;try rw[E]
   exact⟨rfl,by(repeat(first|exact b_ _ _|refine q15 ?_ _|refine x15 ?_|refine q11 ?_ _|refine w14 ?_ (by simp) _))⟩
theorem y103{α:Type}{L L':List α}{k:Nat}(h1:k<L.length)(h2:k<L'.length)(h:L.take k=L'.take k)(he:L[k]=L'[k]):L.take (k+1)=L'.take (k+1):=by rw[n_ h1,n_ h2,h,he]
theorem k130{α:Type}{L L':List α}{k:Nat}(h1:k<L.length)(h2:k<L'.length)(he:L[k]≠L'[k]):L≠L':=by rintro rfl;exact he rfl
theorem j139(A:Option Addr)(c n:Nat)(L:List j36)(A':Option Addr)(c' n':Nat)(L':List j36)(w:World)(hn:n=L.length)(hn':n'=L'.length)(h:SpG w18 2 w A c L)(h':SpG w18 2 w A' c' L')(hl:L.length≤100000)(_hl':L'.length≤100000):Calls Tryz.prog 94 #[.slice A n c,.slice A' n' c'] w fun e w'=>(∃b:Bool,e=.returned (.bool b)∧(b=true↔L=L'))∧Below w.heap.size w w':=by
 subst hn hn';have HH:=a_ h;have HH':=a_ h';clear h h';by_cases hll:L.length=L'.length;rotate_left;·
  have hbb:((L.length:Int)!=(L'.length:Int))=true:=by rw[F_];omega
  have HN:Hid (L≠L'):=fun h=>hll (by rw[h]);clear hll;go_enter Tryz.func94,Tryz.ntmps94;go_wp2_with fail;go_ret;exact⟨⟨false,rfl,(fun h=>by cases h),fun h=>absurd h HN.out⟩,b_ _ _⟩
 have hbb:((L.length:Int)!=(L'.length:Int))=false:=by rw[z_];omega
 have HLL:=a_ hll;clear hll;go_enter Tryz.func94,Tryz.ntmps94;go_wp2_with fail;clear hbb;go_loopw[5,13](fun _ i wr=>∃(k:Nat),k≤L.length∧i=.int .i64 (k:Int)∧L.take k=L'.take k∧Below w.heap.size w wr)(fun _ i _=>L.length-(intOf i).toNat);case atStart=>exact⟨0,v_ _,rfl,by simp,b_ _ _⟩
 case round=>
  obtain⟨k,hk,rfl,hin,hbw⟩:=hrel;have HI:=a_ hin;have HB:=a_ hbw;clear hin hbw;by_cases hlt:k<L.length;·
   have hlt':k<L'.length:=by have:=HLL.out;omega
   obtain⟨b,off,e,hb,hc⟩:=(HH.out.below HB.out).at' k hlt;obtain⟨b',off',e',hb',hc'⟩:=(HH'.out.below HB.out).at' k hlt';have c0:=hc 0 _ rfl;have c1:=hc 1 _ rfl;have d0:=hc' 0 _ rfl;have d1:=hc' 1 _ rfl;simp only[J_]at c0 d0;have HS:Hid (L[k]=L'[k]→L.take (k+1)=L'.take (k+1)):=y103 hlt hlt' HI.out;have HN:Hid (L[k]≠L'[k]→L≠L'):=k130 hlt hlt';obtain⟨⟨x1,x2⟩,hx⟩:∃x,L[k]=x:=⟨_,rfl⟩;obtain⟨⟨y1,y2⟩,hy⟩:∃x,L'[k]=x:=⟨_,rfl⟩;rw[hx]at c0 c1 HS HN;rw[hy]at d0 d1 HS HN;simp only at c0 c1 d0 d1;clear hx hy hc hc' HI;subst e e';by_cases e1:x1=y1;·
    subst e1;by_cases e2:x2=y2;·
     subst e2;have HF:=a_ (HS.out rfl);clear HS HN;go_wp2_with fail;go_quiet(fail);go_wp2_with fail;go_roundw;case rel=>exact⟨k+1,by omega,by go_num,HF.out,q15 HB.out _⟩
     case measure=>simp[intOf];omega
    ·have HF:=a_ (HN.out (fun h=>by injection h with _ h;exact e2 h));have b2:(x2==y2)=false:=j_.2 e2;clear HS HN e2;go_wp2_with fail;go_quiet(fail);go_wp2_with fail;go_ret;exact⟨⟨false,rfl,(fun h=>by cases h),fun h=>absurd h HF.out⟩,q15 HB.out _⟩
   ·have HF:=a_ (HN.out (fun h=>by injection h with h _;exact e1 h));have b1:(x1==y1)=false:=j_.2 e1;clear HS HN e1;go_wp2_with fail;go_quiet(fail);go_wp2_with fail;go_ret;exact⟨⟨false,rfl,(fun h=>by cases h),fun h=>absurd h HF.out⟩,q15 HB.out _⟩
  ·have hI:=HI.out;rw[u_ (by omega),u_ (by have:=HLL.out;omega)]at hI;have HV:=a_ hI;clear hI HI;go_wp2_with fail;go_ret;exact⟨⟨true,rfl,fun _=>HV.out,fun _=>rfl⟩,HB.out⟩
def x33(p:w17):w17:=if p.1.isEmpty then p else(p.1,(0,0))
def SameA(s1 z1 s2 z2:Int)(F1 F2:List j36)(P1 P2:List w17):Prop:=s1=s2∧z1=z2∧F1=F2∧P1.map x33=P2.map x33
def SameB(Q:Prop)(w:World)(e:Ending)(w':World):Prop:=(∃b:Bool,e=.returned (.bool b)∧(b=true↔Q))∧Below w.heap.size w w'
theorem w52{Q:Prop}{w w':World}(hq:¬Q)(h:Below w.heap.size w w'):SameB Q w (.returned (.bool false)) w':=⟨⟨false,rfl,(fun h=>by cases h),fun h=>absurd h hq⟩,h⟩
theorem w161{Q:Prop}{w w':World}(hq:Q)(h:Below w.heap.size w w'):SameB Q w (.returned (.bool true)) w':=⟨⟨true,rfl,fun _=>hq,fun _=>rfl⟩,h⟩
theorem y57(s1 z1 s2 z2:Int)(FA1:Option Addr)(fk1 fc1:Nat)(PA1:Option Addr)(pk1 pc1:Nat)(FA2:Option Addr)(fk2 fc2:Nat)(PA2:Option Addr)(pk2 pc2:Nat)(F1 F2:List j36)(P1 P2:List w17)(w:World)(hf1:fk1=F1.length)(hf2:fk2=F2.length)(hp1:pk1=P1.length)(hp2:pk2=P2.length)(f1:SpG w18 2 w FA1 fc1 F1)(f2:SpG w18 2 w FA2 fc2 F2)(p1:SpG j18 3 w PA1 pc1 P1)(p2:SpG j18 3 w PA2 pc2 P2)(hl1:F1.length≤1000)(hl2:F2.length≤1000)(hl3:P1.length≤1000):Calls Tryz.prog 36 #[.agg #[.int .i64 s1,.slice FA1 fk1 fc1,.slice PA1 pk1 pc1,.int .i64 z1],.agg #[.int .i64 s2,.slice FA2 fk2 fc2,.slice PA2 pk2 pc2,.int .i64 z2]] w (SameB (SameA s1 z1 s2 z2 F1 F2 P1 P2) w):=by
 subst hp1 hp2;have HF1:=a_ f1;have HF2:=a_ f2;have HP1:=a_ p1;have HP2:=a_ p2;have HS:=fun W a b=>a_ (j139 FA1 fc1 fk1 F1 FA2 fc2 fk2 F2 W hf1 hf2 a b (by omega) (by omega));clear f1 f2 p1 p2;have hsym:SameA s1 z1 s2 z2 F1 F2 P1 P2↔(s1=s2∧z1=z2∧F1=F2∧P1.map x33=P2.map x33):=Iff.rfl;have HQ:=a_ hsym;generalize SameA s1 z1 s2 z2 F1 F2 P1 P2=Q at HQ⊢;clear hsym hf1 hf2 hl1 hl2;by_cases e1:s1=s2;rotate_left;·
  have hn:=a_ (fun h:Q=>e1 (HQ.out.1 h).1);have b1:(s1 !=s2)=true:=by rw[F_];exact e1
  clear e1;go_enter Tryz.func36,Tryz.ntmps36;go_wp2_with fail;go_ret;exact w52 hn.out (by(repeat(first|exact b_ _ _|refine q15 ?_ _|refine x15 ?_|refine q11 ?_ _|refine w14 ?_ (by simp) _)))
 have b1:(s1 !=s2)=false:=by rw[z_];exact e1
 by_cases e2:z1=z2;rotate_left;·
  have hn:=a_ (fun h:Q=>e2 (HQ.out.1 h).2.1);have b2:(z1 !=z2)=true:=by rw[F_];exact e2
  clear e1 e2;go_enter Tryz.func36,Tryz.ntmps36;go_wp2_with fail;go_ret;exact w52 hn.out (by(repeat(first|exact b_ _ _|refine q15 ?_ _|refine x15 ?_|refine q11 ?_ _|refine w14 ?_ (by simp) _)))
 have b2:(z1 !=z2)=false:=by rw[z_];exact e2
 have HE:=a_ (And.intro e1 e2);clear e1 e2;go_enter Tryz.func36,Tryz.ntmps36;go_wp2_with fail;obtain⟨W0,hW0⟩:∃W0,(w.alloc (.cells #[.int .i64 s1,.slice FA1 fk1 fc1,.slice PA1 P1.length pc1,.int .i64 z1] 74)).alloc (.cells #[.int .i64 s2,.slice FA2 fk2 fc2,.slice PA2 P2.length pc2,.int .i64 z2] 74)=W0:=⟨_,rfl⟩;have HX0:Hid (W0.heap[w.heap.size]?=some (.cells #[.int .i64 s1,.slice FA1 fk1 fc1,.slice PA1 P1.length pc1,.int .i64 z1] 74 (0,0))):=by rw[←hW0];exact j16 (j17 rfl)
 have HY0:Hid (W0.heap[w.heap.size+1]?=some (.cells #[.int .i64 s2,.slice FA2 fk2 fc2,.slice PA2 P2.length pc2,.int .i64 z2] 74 (0,0))):=by rw[←hW0];exact j17 (by simp)
 have HB0:Hid (Below w.heap.size w W0):=by simp only[Hid];rw[←hW0];(repeat(first|exact b_ _ _|refine q15 ?_ _|refine x15 ?_|refine q11 ?_ _|refine w14 ?_ (by simp) _))
 rw[hW0];clear hW0;refine(HS _ (HF1.out.below HB0.out) (HF2.out.below HB0.out)).out.mono ?_;rintro e w1⟨⟨fb,rfl,hfb⟩,hb1⟩;have HFB:=a_ hfb;have HX:=a_ (j3 hb1 HX0.out);have HY:=a_ (j3 hb1 HY0.out);have HB:=a_ (q12 hb1 HB0.out);clear hfb hb1 HX0 HY0 HB0 HS b1 b2;have x2:=bc 2 HX.out rfl;have y2:=bc 2 HY.out rfl;cases fb with
  |false=>
   have hn:Hid (¬Q):=fun h=>by have:=HFB.out.2 (HQ.out.1 h).2.2.1;cases this
   go_wp2_with fail;go_ret;exact w52 hn.out HB.out
  |true=>
   have HFE:=a_ (HFB.out.1 rfl);by_cases hpl:P1.length=P2.length;rotate_left;·
    have hn:Hid (¬Q):=fun h=>hpl (by have:=R_ List.length (HQ.out.1 h).2.2.2;simpa using this);have bl:((P1.length:Int)!=(P2.length:Int))=true:=by rw[F_];omega
    clear hpl;go_wp2_with fail;go_ret;exact w52 hn.out HB.out
   have bl:((P1.length:Int)!=(P2.length:Int))=false:=by rw[z_];omega
   have HPL:=a_ hpl;clear hpl;go_wp2_with fail;clear bl x2 y2;go_loopw[5,38](fun _ i wr=>∃k:Nat,k≤P1.length∧i=.int .i64 (k:Int)∧(P1.map x33).take k=(P2.map x33).take k∧Below w1.heap.size w1 wr)(fun _ i _=>P1.length-(intOf i).toNat);case atStart=>exact⟨0,v_ _,rfl,by simp,b_ _ _⟩
   case round=>
    obtain⟨k,hk,rfl,hin,hbw⟩:=hrel;have HI:=a_ hin;have HBW:=a_ hbw;have HBA:=a_ (q12 hbw HB.out);have HXr:=a_ (j3 hbw HX.out);have HYr:=a_ (j3 hbw HY.out);clear hin hbw;have x2:=bc 2 HXr.out rfl;have y2:=bc 2 HYr.out rfl;by_cases hlt:k<P1.length;·
     have hlt':k<P2.length:=by have:=HPL.out;omega
     obtain⟨b,off,e,hb,hc⟩:=(HP1.out.below HBA.out).at' k hlt;obtain⟨b',off',e',hb',hc'⟩:=(HP2.out.below HBA.out).at' k hlt';have c0:=hc 0 _ rfl;have c1:=hc 1 _ rfl;have c2:=hc 2 _ rfl;have d0:=hc' 0 _ rfl;have d1:=hc' 1 _ rfl;have d2:=hc' 2 _ rfl;simp only[J_]at c0 d0;have HST:Hid (x33 P1[k]=x33 P2[k]→(P1.map x33).take (k+1)=(P2.map x33).take (k+1)):=fun h=>y103 (by simpa using hlt) (by simpa using hlt') HI.out (by simpa using h);have HNO:Hid (x33 P1[k]≠x33 P2[k]→¬Q):=fun h hq=>k130 (L:=P1.map x33) (L':=P2.map x33) (by simpa using hlt) (by simpa using hlt') (by simpa using h) (HQ.out.1 hq).2.2.2;obtain⟨⟨t,u1,u2⟩,hx⟩:∃x,P1[k]=x:=⟨_,rfl⟩;obtain⟨⟨t',u1',u2'⟩,hy⟩:∃x,P2[k]=x:=⟨_,rfl⟩;rw[hx]at c0 c1 c2 HST HNO;rw[hy]at d0 d1 d2 HST HNO;simp only at c0 c1 c2 d0 d1 d2;clear hx hy hc hc' HI;subst e e';by_cases et:t=t';rotate_left;·
      have bt:(t==t')=false:=j_.2 et;have hne:x33 (t,u1,u2)≠x33 (t',u1',u2'):=by intro h;have:=R_ Prod.fst h;unfold x33 at this;split at this<;>split at this<;>exact et this
      clear et;have hn:=a_ (HNO.out hne);clear HST HNO;go_wp2_with fail;go_quiet(fail);go_wp2_with fail;go_ret;exact w52 hn.out (q15 HBA.out _)
     subst et;cases hte:t.isEmpty with
      |false=>
       have HF:=a_ (HST.out (by unfold x33;simp[hte]));clear HST HNO;go_wp2_with fail;go_quiet(fail);go_wp2_with fail;go_roundw;case rel=>exact⟨k+1,by omega,by go_num,HF.out,q15 HBW.out _⟩
       case measure=>simp[intOf];omega
      |true=>
       by_cases e1:u1=u1';·
        subst e1;by_cases e2:u2=u2';·
         subst e2;have HF:=a_ (HST.out rfl);clear HST HNO;go_wp2_with fail;go_quiet(fail);go_wp2_with fail;go_roundw;case rel=>exact⟨k+1,by omega,by go_num,HF.out,q15 HBW.out _⟩
         case measure=>simp[intOf];omega
        ·have b2:(u2==u2')=false:=by rw[j_];exact e2
         have hne:x33 (t,u1,u2)≠x33 (t,u1,u2'):=by intro h;unfold x33 at h;simp only[hte,if_true]at h;injection h with _ h;injection h with _ h;exact e2 h
         clear e2;have hn:=a_ (HNO.out hne);clear HST HNO;go_wp2_with fail;go_quiet(fail);go_wp2_with fail;go_ret;exact w52 hn.out (q15 HBA.out _)
       ·have b1:(u1==u1')=false:=by rw[j_];exact e1
        have hne:x33 (t,u1,u2)≠x33 (t,u1',u2'):=by intro h;unfold x33 at h;simp only[hte,if_true]at h;injection h with _ h;injection h with h _;exact e1 h
        clear e1;have hn:=a_ (HNO.out hne);clear HST HNO;go_wp2_with fail;go_quiet(fail);go_wp2_with fail;go_ret;exact w52 hn.out (q15 HBA.out _)
    ·have hI:=HI.out;rw[u_ (by simp;omega),u_ (by have:=HPL.out;simp;omega)]at hI;have HV:=a_ (HQ.out.2 ⟨HE.out.1,HE.out.2,HFE.out,hI⟩);clear hI HI;go_wp2_with fail;go_ret;exact w161 HV.out HBA.out
def AnsP(r:ReqL)(m:MetaL)(o cs seed:Int)(a:AnsL):Prop:=if o=3 then a=⟨304,x21 m,[],0⟩else if o=4 then a=⟨412,x21 m,[],0⟩else if countB r m o cs=true then∃O,Folded 0 (resL m.hv r.L) O∧a=j24 m (O.map Prod.fst) seed else a=w42 m r.hd
theorem z95{r:ReqL}{m:MetaL}{o cs seed:Int}{w w':World}{e:Ending}(h:k43 r m o cs seed w e w'):∃a,AnsP r m o cs seed a∧j39 a w e w':=by
 unfold k43 at h;unfold AnsP;by_cases h3:o=3;·rw[w_ h3]at h;exact⟨_,by rw[w_ h3],h⟩
 ·rw[q_ h3]at h;by_cases h4:o=4;·rw[w_ h4]at h;exact⟨_,by rw[q_ h3,w_ h4],h⟩
  ·rw[q_ h4]at h;by_cases hc:countB r m o cs=true;·rw[w_ hc]at h;obtain⟨O,hO,h⟩:=h;exact⟨_,by rw[q_ h3,q_ h4,w_ hc];exact⟨O,hO,rfl⟩,h⟩
   ·rw[q_ hc]at h;exact⟨_,by rw[q_ h3,q_ h4,q_ hc],h⟩
theorem j123(m:MetaL)(O:List (Int×Int))(seed:Int)(h:O.length≤70):(j24 m O seed).fs.length≤11∧(j24 m O seed).ps.length≤141:=by have hf:=y53 m;match O,h with|[],_=>exact⟨by simp only[j24,e_,g_,i_];omega,by simp[j24]⟩|[s],_=>exact⟨by simp only[j24,e_,g_,i_];omega,by simp[j24]⟩|s::t::r,h=>exact⟨by simp only[j24,e_,g_,i_];omega,by simp only[j24,x65];omega⟩
theorem AnsP.len{r:ReqL}{m:MetaL}{o cs seed:Int}{a:AnsL}(h:AnsP r m o cs seed a)(hl:r.L.length≤70):a.fs.length≤1000∧a.ps.length≤1000:=by
 have hf:=y53 m;unfold AnsP at h;split at h;·subst h;exact⟨by simp only;omega,by simp⟩
 ·split at h;·subst h;exact⟨by simp only;omega,by simp⟩
  ·split at h;·
    obtain⟨O,hO,rfl⟩:=h;have h1:(O.map Prod.fst).length≤70:=by have h2:=hO.few;have h3:=w35 m.hv r.L;rw[aU_];omega
    have h4:=j123 m _ seed h1;omega
   ·subst h;refine⟨by simp only[w42];omega,?_⟩;simp only[w42];split<;>simp
theorem y139(m:MetaL)(O:List (Int×Int))(seed:Int):(j24 m O seed).st=416∧(j24 m O seed).ps=[]∧(j24 m O seed).sz=0∨(j24 m O seed).st=206:=by match O with|[]=>exact .inl ⟨rfl,rfl,rfl⟩|[s]=>exact .inr rfl|s::t::r=>exact .inr rfl
theorem AnsP.bare{r:ReqL}{m:MetaL}{o cs seed:Int}{a:AnsL}(h:AnsP r m o cs seed a):((a.st==304)=(o==3))∧((a.st==412)=(o==4))∧(a.st≠200→a.st≠206→a.ps=[]∧a.sz=0):=by
 unfold AnsP at h;split at h;·rename_i h3;subst h;subst h3;exact⟨rfl,rfl,fun _ _=>⟨rfl,rfl⟩⟩
 ·rename_i h3;have e3:(o==3)=false:=by rw[j_];exact h3
  split at h;·rename_i h4;subst h;subst h4;exact⟨rfl,rfl,fun _ _=>⟨rfl,rfl⟩⟩
  ·rename_i h4;have e4:(o==4)=false:=by rw[j_];exact h4
   rw[e3,e4];split at h;·
    obtain⟨O,hO,rfl⟩:=h;rcases y139 m (O.map Prod.fst) seed with⟨h1,h2,h3⟩|h1;·rw[h1];exact⟨rfl,rfl,fun _ _=>⟨h2,h3⟩⟩
    ·rw[h1];exact⟨rfl,rfl,fun _ h=>absurd rfl h⟩
   ·subst h;exact⟨rfl,rfl,fun h=>absurd rfl h⟩
theorem AnsP.head{r:ReqL}{m:MetaL}{o cs seed:Int}{a:AnsL}(hh:r.hd=true)(h:AnsP r m o cs seed a):a.ps=[]∧(o≤2→a.st=200∧a.sz=m.len):=by
 have hc:countB r m o cs=false:=by unfold countB;rw[hh];simp
 unfold AnsP at h;rw[hc,q_ (by simp:¬false=true)]at h;split at h;·subst h;exact⟨rfl,fun _=>by omega⟩
 ·split at h;·subst h;exact⟨rfl,fun _=>by omega⟩
  ·subst h;exact⟨by simp[w42,hh],fun _=>⟨rfl,rfl⟩⟩
theorem x130{x:Int×Int}(h:0≤x.1∧x.1<x.2∧x.2≤1099511627776):okS x=true:=(j19 _).2 ⟨by omega,by omega,by omega⟩
theorem bodyF(total:Int)(kd bd:List UInt8){R:List w17}(hR:j29 R):∀(f:Bool)(S:List (Int×Int)),(∀s∈S,0≤s.1∧s.1<s.2∧s.2≤1099511627776)→j29 (j26 total kd bd f S++R)
 |_,[],_=>hR
 |f,x::r,h=>by
  have hx:=h x (by simp);have hr:=bodyF total kd bd hR false r fun s hs=>h s (by simp[hs]);have hne:(if f=true then[]else[13,10])++v181 x total kd bd≠[]:=by intro e;have:=List.append_eq_nil_iff.1 e;have h2:=this.2;unfold v181 at h2;simp at h2
  rw[j26,ae_,ae_];refine⟨.inl ⟨hne,rfl⟩,fun _=>?_,.inr ⟨rfl,x130 hx,hx.2.1⟩,fun _=>?_,hr⟩;·unfold j40;rw[bl_.2 hne];rfl
  ·unfold j40;rw[k_ (by simp only;omega)];rfl
theorem bodyL(total:Int)(kd bd:List UInt8){S:List (Int×Int)}(h:∀s∈S,0≤s.1∧s.1<s.2∧s.2≤1099511627776):j29 (x37 S total kd bd):=by
 unfold x37;refine bodyF total kd bd ?_ true S h;have hne:endT bd≠[]:=by unfold endT;simp
 exact⟨.inl ⟨hne,rfl⟩,fun h=>absurd rfl h,trivial⟩
theorem AnsP.body{r:ReqL}{m:MetaL}{o cs seed:Int}{a:AnsL}(h:AnsP r m o cs seed a)(hok:MetaOk m)(hR:allR r.L=true):j29 a.ps:=by
 have hhv:=hok.hv;have hln:=hok.ln;unfold AnsP at h;by_cases h3:o=3;·rw[w_ h3]at h;rw[h];trivial
 rw[q_ h3]at h;by_cases h4:o=4;·rw[w_ h4]at h;rw[h];trivial
 rw[q_ h4]at h;by_cases hc:countB r m o cs=true;·
  rw[w_ hc]at h;obtain⟨O,hO,rfl⟩:=h;have hres:∀x∈resL m.hv r.L,0≤x.1∧x.1<x.2∧x.2≤m.hv:=fun x hx=>y52 hhv.1 hR hx;have hin:=j72 hres hO;generalize O.map Prod.fst=S at*;have hlow:∀s∈S,0≤s.1∧s.1<s.2∧s.2≤1099511627776:=fun s hs=>by have:=hin s hs;omega
  match S,hlow with
   |[],_=>trivial
   |[s],hlow=>have hs:=hlow s (by simp);exact⟨.inr ⟨rfl,x130 hs,hs.2.1⟩,fun h=>absurd rfl h,trivial⟩
   |s::t::r',hlow=>exact bodyL m.len v90 (q29 seed) hlow
 ·rw[q_ hc]at h;rw[h];unfold w42;simp only;split;·trivial
  ·next hn=>
    have hl0:m.len≠0:=fun e=>hn (.inr e);refine⟨.inr ⟨rfl,?_,?_⟩,fun h=>absurd rfl h,trivial⟩;·rw[j19];simp only;split<;>exact⟨by omega,by omega,by omega⟩
    ·simp only;split<;>omega
theorem AnsP.move{r r':ReqL}{m:MetaL}{o cs seed:Int}{a:AnsL}(h:AnsP r m o cs seed a)(hd:r.hd=r'.hd)(hL:r.L=r'.L):AnsP r' m o cs seed a:=by unfold AnsP countB at*;rw[←hd,←hL];exact h
theorem AnsP.one{r:ReqL}{m:MetaL}{o cs seed:Int}{a b:AnsL}(hr:∀x∈resL m.hv r.L,x.1<x.2)(ha:AnsP r m o cs seed a)(hb:AnsP r m o cs seed b):a=b:=by
 unfold AnsP at ha hb;split at ha;·rename_i h3;rw[w_ h3]at hb;exact ha.trans hb.symm
 ·rename_i h3;rw[q_ h3]at hb;split at ha;·rename_i h4;rw[w_ h4]at hb;exact ha.trans hb.symm
  ·rename_i h4;rw[q_ h4]at hb;split at ha;·rename_i hc;rw[w_ hc]at hb;obtain⟨O,hO,rfl⟩:=ha;obtain⟨O',hO',rfl⟩:=hb;have e:=hO.eq hr (by decide) hO';subst e;rfl
   ·rename_i hc;rw[q_ hc]at hb;exact ha.trans hb.symm
theorem q95{n:Int}(h0:0≤n)(h1:n<10):(⟨#[48,49,50,51,52,53,54,55,56,57]⟩:ByteArray).extract n.toNat (n+1).toNat=⟨(digN n).toArray⟩:=by
 have e:n=0∨n=1∨n=2∨n=3∨n=4∨n=5∨n=6∨n=7∨n=8∨n=9:=by omega
 rw[x181 h0 h1];rcases e with rfl|rfl|rfl|rfl|rfl|rfl|rfl|rfl|rfl|rfl<;>decide
theorem q107:∀(m:Nat)(n:Int)(w:World),n.toNat≤m→0≤n→n≤9223372036854775807→Calls Tryz.prog 219 #[.int .i64 n] w fun e w'=>e=.returned (.string ⟨(digN n).toArray⟩)∧Below w.heap.size w w':=by
 intro m;induction m with
  |zero=>
   intro n w hm h0 h1;obtain rfl:n=0:=by omega
   have HD:Hid (digN 0=[48]):=by simp only[Hid];rw[x181 (by omega) (by omega)];rfl
   have kc:=fun W=>q68 W 48 48 rfl;go_enter Tryz.func219,Tryz.ntmps219;go_wp2_with fail;go_ret;rw[HD.out];exact⟨rfl,q11 (b_ _ _) _⟩
  |succ m ih=>
   intro n w hm h0 h1;have hmod:0≤n%10∧n%10<10:=by omega
   have hc:(48:Int)+n%10=((UInt8.ofNat (48+(n%10).toNat)).toNat:Int):=by rw[y64 (by omega)];omega
   obtain⟨c,hcc⟩:∃c,UInt8.ofNat (48+(n%10).toNat)=c:=⟨_,rfl⟩;have hc':(48:Int)+n%10=(c.toNat:Int):=by rw[←hcc];exact hc
   have kc:=fun W=>q68 W c (c.toNat:Int) rfl;have hcb:(c.toNat:Int)<256:=by have:=aA_ c;omega
   by_cases h10:n<10;·
    have HD:Hid (digN n=[c]):=by simp only[Hid];rw[x181 h0 h10,←hcc,show n%10=n from by omega]
    clear hc hcc ih;go_enter Tryz.func219,Tryz.ntmps219;go_wp2_with fail;go_ret;rw[HD.out];exact⟨rfl,q11 (b_ _ _) _⟩
   ·have HD:Hid (digN n=digN (n/10)++[c]):=by simp only[Hid];rw[q61 h10,hcc]
    have hdl:=w21 (n:=n/10) (by omega);have HI:=fun W=>a_ (ih (n/10) W (by omega) (by omega) (by omega));clear hc hcc ih;go_enter Tryz.func219,Tryz.ntmps219;go_wp2_with fail;refine(HI _).out.mono ?_;rintro e w1⟨rfl,hb1⟩;have HB:=a_ hb1;clear hb1 HI;go_wp2_with fail;go_ret;rw[HD.out,←cat_one];exact⟨rfl,q12 HB.out (q11 (b_ _ _) _)⟩
theorem j107:∀(m:Nat)(n:Int)(w:World),n.toNat≤m→0≤n→n≤9223372036854775807→Calls Tryz.prog 155 #[.int .i64 n] w fun e w'=>e=.returned (.string ⟨(digN n).toArray⟩)∧∃m,w'=w.drewN m:=by
 intro m;induction m with
  |zero=>
   intro n w hm h0 h1;obtain rfl:n=0:=by omega
   have HD:Hid ((⟨#[48]⟩:ByteArray)=⟨(digN 0).toArray⟩):=by simp only[Hid];rw[x181 (by omega) (by omega)];rfl
   have hx:(⟨#[48,49,50,51,52,53,54,55,56,57]⟩:ByteArray).extract 0 1=⟨#[48]⟩:=by decide
   go_enter Tryz.func155,Tryz.ntmps155;go_wp2_with fail;go_ret;rw[←HD.out];exact⟨rfl,0,rfl⟩
  |succ m ih=>
   intro n w hm h0 h1;by_cases h10:n<10;·
    have hx:=q95 h0 h10;have hn1:0≤n+1:=by omega
    have hn2:n+1≤10:=by omega
    have hn3:n≤n+1:=by omega
    have hwr:IntKind.i64.wrap (n+1)=n+1:=M_ _ (by omega);have hb1:(n+1).toNat≤10:=by omega
    have hb2:n.toNat≤(n+1).toNat:=by omega
    clear ih hm;generalize digN n=d at hx;go_enter Tryz.func155,Tryz.ntmps155;go_wp2_with fail;go_ret;exact⟨by first|rfl|rw[hx],0,rfl⟩
   ·have hmod:0≤n%10∧n%10<10:=by omega
    have hx:=q95 hmod.1 hmod.2;have HD:Hid (digN n=digN (n/10)++digN (n%10)):=by simp only[Hid];rw[q61 h10,x181 (n:=n%10) (by omega) (by omega)]
    have hdl:=w21 (n:=n/10) (by omega);have hdl2:=w21 (n:=n%10) (by omega);have hc1:=catE (a:=digN (n/10)) (b:=digN (n%10)) (by omega);have HI:=fun W=>a_ (ih (n/10) W (by omega) (by omega) (by omega));have hq1:0≤n%10+1:=by omega
    have hq2:n%10+1≤10:=by omega
    have hq3:n%10≤n%10+1:=by omega
    have hq0:=hmod.1;have hwr:IntKind.i64.wrap (n%10+1)=n%10+1:=M_ _ (by omega);have hb1:(n%10+1).toNat≤10:=by omega
    have hb2:(n%10).toNat≤(n%10+1).toNat:=by omega
    clear ih hdl hdl2 hm hmod;generalize digN (n%10)=d2 at HD hc1 hx;generalize digN (n/10)=d1 at HI HD hc1;go_enter Tryz.func155,Tryz.ntmps155;go_wp2_with fail;go_quiet((go_at_call 155;exact Calls.quiet_of (HI _).out));go_wp2_with fail;go_ret;rw[HD.out];exact⟨rfl,_,rfl⟩
theorem k107:∀(m:Nat)(n:Int)(w:World),n.toNat≤m→0≤n→n≤9223372036854775807→Calls Tryz.prog 223 #[.int .i64 n] w fun e w'=>e=.returned (.string ⟨(digN n).toArray⟩)∧∃m,w'=w.drewN m:=by
 intro m;induction m with
  |zero=>
   intro n w hm h0 h1;obtain rfl:n=0:=by omega
   have HD:Hid ((⟨#[48]⟩:ByteArray)=⟨(digN 0).toArray⟩):=by simp only[Hid];rw[x181 (by omega) (by omega)];rfl
   have hx:(⟨#[48,49,50,51,52,53,54,55,56,57]⟩:ByteArray).extract 0 1=⟨#[48]⟩:=by decide
   go_enter Tryz.func223,Tryz.ntmps223;go_wp2_with fail;go_ret;rw[←HD.out];exact⟨rfl,0,rfl⟩
  |succ m ih=>
   intro n w hm h0 h1;by_cases h10:n<10;·
    have hx:=q95 h0 h10;have hn1:0≤n+1:=by omega
    have hn2:n+1≤10:=by omega
    have hn3:n≤n+1:=by omega
    have hwr:IntKind.i64.wrap (n+1)=n+1:=M_ _ (by omega);have hb1:(n+1).toNat≤10:=by omega
    have hb2:n.toNat≤(n+1).toNat:=by omega
    clear ih hm;generalize digN n=d at hx;go_enter Tryz.func223,Tryz.ntmps223;go_wp2_with fail;go_ret;exact⟨by first|rfl|rw[hx],0,rfl⟩
   ·have hmod:0≤n%10∧n%10<10:=by omega
    have hx:=q95 hmod.1 hmod.2;have HD:Hid (digN n=digN (n/10)++digN (n%10)):=by simp only[Hid];rw[q61 h10,x181 (n:=n%10) (by omega) (by omega)]
    have hdl:=w21 (n:=n/10) (by omega);have hdl2:=w21 (n:=n%10) (by omega);have hc1:=catE (a:=digN (n/10)) (b:=digN (n%10)) (by omega);have HI:=fun W=>a_ (ih (n/10) W (by omega) (by omega) (by omega));have hq1:0≤n%10+1:=by omega
    have hq2:n%10+1≤10:=by omega
    have hq3:n%10≤n%10+1:=by omega
    have hq0:=hmod.1;have hwr:IntKind.i64.wrap (n%10+1)=n%10+1:=M_ _ (by omega);have hb1:(n%10+1).toNat≤10:=by omega
    have hb2:(n%10).toNat≤(n%10+1).toNat:=by omega
    clear ih hdl hdl2 hm hmod;generalize digN (n%10)=d2 at HD hc1 hx;generalize digN (n/10)=d1 at HI HD hc1;go_enter Tryz.func223,Tryz.ntmps223;go_wp2_with fail;go_quiet((go_at_call 223;exact Calls.quiet_of (HI _).out));go_wp2_with fail;go_ret;rw[HD.out];exact⟨rfl,_,rfl⟩
theorem q59(f t total:Int)(w:World)(hfw:f≤9223372036854775807)(htw:t≤9223372036854775807):Calls Tryz.prog 156 #[.agg #[.int .i64 f,.int .i64 t],.int .i64 total] w fun e w'=>e=.returned (.string ⟨(q21 (f,t) total).toArray⟩)∧Below w.heap.size w w':=by
 have HR:=fun W=>a_ (x64 f t W);by_cases h0:okS (f,t)=false;·have HV:Hid (q21 (f,t) total=[]):=q37 (by unfold q23;rw[h0];rfl);rw[h0]at HR;clear h0;go_enter ca_,bP_;go_wp2_with(go_at_call 162;refine(HR _).out.mono ?_;rintro e w1⟨rfl,n1,rfl⟩);go_ret;rw[HV.out];exact⟨rfl,by(repeat(first|exact b_ _ _|refine q15 ?_ _|refine x15 ?_|refine q11 ?_ _|refine w14 ?_ (by simp) _))⟩
 have h0t:okS (f,t)=true:=by revert h0;cases okS (f,t)<;>simp
 clear h0;rw[h0t]at HR;obtain⟨r1,r2,r3⟩:=(j19 (f,t)).1 h0t;simp only at r1 r2 r3;by_cases h1:f=t;·have HV:Hid (q21 (f,t) total=[]):=q37 (by unfold q23;rw[s_ h1];simp);clear h0t;subst h1;go_enter ca_,bP_;go_wp2_with(go_at_call 162;refine(HR _).out.mono ?_;rintro e w1⟨rfl,n1,rfl⟩);go_ret;rw[HV.out];exact⟨rfl,by(repeat(first|exact b_ _ _|refine q15 ?_ _|refine x15 ?_|refine q11 ?_ _|refine w14 ?_ (by simp) _))⟩
 have h1l:¬t≤f:=by omega
 by_cases h2:t=4611686018427387904;·have HV:Hid (q21 (f,t) total=[]):=q37 (by unfold q23;rw[s_ h2];simp);clear h0t;subst h2;go_enter ca_,bP_;go_wp2_with(go_at_call 162;refine(HR _).out.mono ?_;rintro e w1⟨rfl,n1,rfl⟩);go_ret;rw[HV.out];exact⟨rfl,by(repeat(first|exact b_ _ _|refine q15 ?_ _|refine x15 ?_|refine q11 ?_ _|refine w14 ?_ (by simp) _))⟩
 have h2l:¬(4611686018427387904:Int)≤t:=by omega
 by_cases h3:total< -1;·have HV:Hid (q21 (f,t) total=[]):=q37 (by unfold q23;rw[k_ (show¬-1≤total by omega)];simp);clear h0t;go_enter ca_,bP_;go_wp2_with(go_at_call 162;refine(HR _).out.mono ?_;rintro e w1⟨rfl,n1,rfl⟩);go_ret;rw[HV.out];exact⟨rfl,by(repeat(first|exact b_ _ _|refine q15 ?_ _|refine x15 ?_|refine q11 ?_ _|refine w14 ?_ (by simp) _))⟩
 by_cases h4:(4611686018427387904:Int)≤total;·have HV:Hid (q21 (f,t) total=[]):=q37 (by unfold q23;rw[k_ (show¬total≤4611686018427387903 by omega)];simp);clear h0t;go_enter ca_,bP_;go_wp2_with(go_at_call 162;refine(HR _).out.mono ?_;rintro e w1⟨rfl,n1,rfl⟩);go_ret;rw[HV.out];exact⟨rfl,by(repeat(first|exact b_ _ _|refine q15 ?_ _|refine x15 ?_|refine q11 ?_ _|refine w14 ?_ (by simp) _))⟩
 by_cases h6:0≤total∧total<t;·obtain⟨h6,h7⟩:=h6;have HV:Hid (q21 (f,t) total=[]):=q37 (by unfold q23;rw[k_ (show¬total=-1 by omega),k_ (show¬t≤total by omega)];simp);clear h0t;go_enter ca_,bP_;go_wp2_with(go_at_call 162;refine(HR _).out.mono ?_;rintro e w1⟨rfl,n1,rfl⟩);go_ret;rw[HV.out];exact⟨rfl,by(repeat(first|exact b_ _ _|refine q15 ?_ _|refine x15 ?_|refine q11 ?_ _|refine w14 ?_ (by simp) _))⟩
 have F:∀(n:Int)(W:World),0≤n→n≤9223372036854775807→Calls Tryz.prog 223 #[.int .i64 n] W fun e w'=>e=.returned (.string ⟨(digN n).toArray⟩)∧∃m,w'=W.drewN m:=fun n W h0 h1=>k107 n.toNat n W (t_ _) h0 h1;have F1:∀W,Hid (Calls Tryz.prog 223 #[.int .i64 f] W fun e w'=>e=.returned (.string ⟨(digN f).toArray⟩)∧∃m,w'=W.drewN m):=fun W=>a_ (F f W r1 (by omega));have F2:∀W,Hid (Calls Tryz.prog 223 #[.int .i64 (t-1)] W fun e w'=>e=.returned (.string ⟨(digN (t-1)).toArray⟩)∧∃m,w'=W.drewN m):=fun W=>a_ (F (t-1) W (by omega) (by omega));have hl1:=w21 (n:=f) (by omega);have hl2:=w21 (n:=t-1) (by omega);have hc1:=catE (a:=[98,121,116,101,115,32]) (b:=digN f) (by simp only[g_,i_];omega);have hc2:=catE (a:=[98,121,116,101,115,32]++digN f) (b:=[45]) (by simp only[e_,g_,i_];omega);have hc3:=catE (a:=[98,121,116,101,115,32]++digN f++[45]) (b:=digN (t-1)) (by simp only[e_,g_,i_];omega);have hc4:=catE (a:=[98,121,116,101,115,32]++digN f++[45]++digN (t-1)) (b:=[47]) (by simp only[e_,g_,i_];omega);have hwr:IntKind.i64.wrap (t-1)=t-1:=M_ _ (by omega);by_cases h5:total=-1;·
  subst h5;have HV:Hid (q21 (f,t) (-1)=[98,121,116,101,115,32]++digN f++[45]++digN (t-1)++[47]++[42]):=by simp only[Hid];unfold q21;rw[w_ (q49 h0t h1 h2 (by omega) (by omega) (.inl rfl)),w_ rfl];rfl
  have hc5:=catE (a:=[98,121,116,101,115,32]++digN f++[45]++digN (t-1)++[47]) (b:=[42]) (by simp only[e_,g_,i_];omega);generalize[98,121,116,101,115,32]++digN f++[45]++digN (t-1)++[47]++[42]=x5 at hc5 HV;generalize[98,121,116,101,115,32]++digN f++[45]++digN (t-1)++[47]=x4 at hc4 hc5;generalize[98,121,116,101,115,32]++digN f++[45]++digN (t-1)=x3 at hc3 hc4;generalize[98,121,116,101,115,32]++digN f++[45]=x2 at hc2 hc3;generalize[98,121,116,101,115,32]++digN f=x1 at hc1 hc2;generalize digN f=d1 at F1 hc1;generalize digN (t-1)=d2 at F2 hc3;clear F hl1 hl2 h0t h6 r2 r3;go_enter ca_,bP_;go_wp2_with(
   go_at_call 162;refine(HR _).out.mono ?_;rintro e w1⟨rfl,n1,hw1⟩;have HVB:Hid (w1.heap[w.heap.size]?=some (.cells #[.int .i64 f,.int .i64 t] 59 (0,0))):=by rw[←hw1];exact j16 (j17 rfl)
   have HVb:Hid (Below w.heap.size w w1):=by simp only[Hid];rw[←hw1];(repeat(first|exact b_ _ _|refine q15 ?_ _|refine x15 ?_|refine q11 ?_ _|refine w14 ?_ (by simp) _))
   clear hw1;have v0:=bc 0 HVB.out rfl;have v1:=bc 1 HVB.out rfl);clear HR;go_quiet((first|(go_at_call_of 223(Value.int .i64 f);exact Calls.quiet_of (F1 _).out)|(go_at_call_has 223(Value.int .i64 (t-1));exact Calls.quiet_of (F2 _).out)));go_wp2_with fail;go_ret;rw[HV.out];exact⟨rfl,by first|exact q15 (q15 HVb.out _) _|exact q15 HVb.out _|exact HVb.out⟩
 ·have HV:Hid (q21 (f,t) total=[98,121,116,101,115,32]++digN f++[45]++digN (t-1)++[47]++digN total):=by simp only[Hid];unfold q21;rw[w_ (q49 h0t h1 h2 (by omega) (by omega) (.inr (by omega))),q_ h5];rfl
  have h50:0≤total:=by omega
  have h7:¬total<t:=by omega
  have F3:∀W,Hid (Calls Tryz.prog 223 #[.int .i64 total] W fun e w'=>e=.returned (.string ⟨(digN total).toArray⟩)∧∃m,w'=W.drewN m):=fun W=>a_ (F total W (by omega) (by omega));have hl3:=w21 (n:=total) (by omega);have hc5:=catE (a:=[98,121,116,101,115,32]++digN f++[45]++digN (t-1)++[47]) (b:=digN total) (by simp only[e_,g_,i_];omega);generalize[98,121,116,101,115,32]++digN f++[45]++digN (t-1)++[47]++digN total=x5 at hc5 HV;generalize[98,121,116,101,115,32]++digN f++[45]++digN (t-1)++[47]=x4 at hc4 hc5;generalize[98,121,116,101,115,32]++digN f++[45]++digN (t-1)=x3 at hc3 hc4;generalize[98,121,116,101,115,32]++digN f++[45]=x2 at hc2 hc3;generalize[98,121,116,101,115,32]++digN f=x1 at hc1 hc2;generalize digN f=d1 at F1 hc1;generalize digN (t-1)=d2 at F2 hc3;generalize digN total=d3 at F3 hc5;clear F hl1 hl2 hl3 h0t h6 r2 r3;go_enter ca_,bP_;go_wp2_with(
   go_at_call 162;refine(HR _).out.mono ?_;rintro e w1⟨rfl,n1,hw1⟩;have HVB:Hid (w1.heap[w.heap.size]?=some (.cells #[.int .i64 f,.int .i64 t] 59 (0,0))):=by rw[←hw1];exact j16 (j17 rfl)
   have HVb:Hid (Below w.heap.size w w1):=by simp only[Hid];rw[←hw1];(repeat(first|exact b_ _ _|refine q15 ?_ _|refine x15 ?_|refine q11 ?_ _|refine w14 ?_ (by simp) _))
   clear hw1;have v0:=bc 0 HVB.out rfl;have v1:=bc 1 HVB.out rfl);clear HR;go_quiet((first|(go_at_call_of 223(Value.int .i64 f);exact Calls.quiet_of (F1 _).out)|(go_at_call_has 223(Value.int .i64 (t-1));exact Calls.quiet_of (F2 _).out)));go_wp2_with(go_at_call 223;refine(F3 _).out.mono ?_;rintro e w4⟨rfl,m4,rfl⟩);go_ret;rw[HV.out];exact⟨rfl,by first|exact q15 (q15 HVb.out _) _|exact q15 HVb.out _|exact HVb.out⟩
theorem y107(m:MetaL)(A:Option Addr)(c:Nat)(w:World)(hks:SpG encT 1 w A c m.keys)(hok:MetaOk m):Calls Tryz.prog 150 #[j25 m A c,.int .i64 0] w (q41 m w):=by
 have HRT:=fun W(hW:SpG encT 1 W A c m.keys)=>a_ (w113 m A c W hW hok);have HCO:=fun W=>a_ (q132 m A c W hok.fr hok.wh hok.er);have HCT:=fun W=>a_ (x109 m.fresh (offN m.wh) (offN m.er) (!m.keep) W hok.fr (by have:=hok.wh;unfold offN;split<;>omega) (by have:=hok.er;unfold offN;split<;>omega));rw[k109 m ⟨hok.fr.1,hok.wh.1,hok.er.1⟩]at HCT;obtain⟨ct,hct⟩:∃ct,ctlT m=ct:=⟨_,rfl⟩;rw[hct]at HCT;have HF:Hid (x21 m=(if tag0 m=true then[]else[(k77,tagT m.tag m.weak)])++(if m.mo=-1 then[]else[(nMod,q42 m.mo)])++[(nCtl,ct)]++[(nAge,[48])]++(if m.keys=[]then[]else[(nKey,x176 [32] m.keys)])++(if m.ten=[]then[]else[(nTen,m.ten)])++(if m.len=-1 then[(nLen,[42]),(x77,digN m.hv)]else[(nLen,digN m.len)])):=by simp only[Hid];rw[←hct];rfl
 obtain⟨L1,K1⟩:∃L,Hid (L=if tag0 m=true then[]else[(k77,tagT m.tag m.weak)]):=⟨_,a_ rfl⟩;obtain⟨L2,K2⟩:∃L,Hid (L=L1++if m.mo=-1 then[]else[(nMod,q42 m.mo)]):=⟨_,a_ rfl⟩;obtain⟨L3,K3⟩:∃L,Hid (L=L2++[(nCtl,ct)]):=⟨_,a_ rfl⟩;obtain⟨L4,K4⟩:∃L,Hid (L=L3++[(nAge,[48])]):=⟨_,a_ rfl⟩;obtain⟨L5,K5⟩:∃L,Hid (L=L4++if m.keys=[]then[]else[(nKey,x176 [32] m.keys)]):=⟨_,a_ rfl⟩;obtain⟨L6,K6⟩:∃L,Hid (L=L5++if m.ten=[]then[]else[(nTen,m.ten)]):=⟨_,a_ rfl⟩;obtain⟨L7,K7⟩:∃L,Hid (L=L6++if m.len=-1 then[(nLen,[42]),(x77,digN m.hv)]else[(nLen,digN m.len)]):=⟨_,a_ rfl⟩;have N1:Hid (L1.length≤1):=by simp only[Hid];rw[K1.out];split<;>simp
 have N2:Hid (L2.length≤2):=by simp only[Hid];rw[K2.out,e_];have:=N1.out;split<;>simp<;>omega
 have N3:Hid (L3.length≤3):=by simp only[Hid];rw[K3.out,e_];have:=N2.out;simp;omega
 have N4:Hid (L4.length≤4):=by simp only[Hid];rw[K4.out,e_];have:=N3.out;simp;omega
 have N5:Hid (L5.length≤5):=by simp only[Hid];rw[K5.out,e_];have:=N4.out;split<;>simp<;>omega
 have N6:Hid (L6.length≤6):=by simp only[Hid];rw[K6.out,e_];have:=N5.out;split<;>simp<;>omega
 have HL:Hid (x21 m=L7):=by simp only[Hid];rw[HF.out,K7.out,K6.out,K5.out,K4.out,K3.out,K2.out,K1.out]
 clear HF;have HP:Hid (∀A c k w',k=L7.length→OwnG 176 w18 2 w' w.heap.size A c L7→Below w.heap.size w w'→q41 m w (.returned (.tuple #[.slice A k c,.int .i64 0])) w'):=by simp only[Hid];intro A c k w' h1 h2 h3;rw[←HL.out]at h1 h2;exact⟨A,c,k,h1,rfl,h2,h3⟩
 obtain⟨P,hP⟩:∃P,q41 m w=P:=⟨_,rfl⟩;rw[hP]at HP⊢;clear hct HL hP;have HOK:=a_ hok;have HK0:=a_ hks;have HN:=fun n W(h0:0≤n)(h1:n≤9223372036854775807)=>a_ (q107 n.toNat n W (t_ _) h0 h1);have HN0:∀W,Hid (Calls Tryz.prog 219 #[.int .i64 0] W fun e w'=>e=.returned (.string ⟨#[48]⟩)∧Below W.heap.size W w'):=fun W=>by have h:=(HN 0 W (ao_ _) (by decide)).out;rw[digN0]at h;exact a_ h
 clear hok hks;obtain⟨tg,wk,mo,ln,hv,fr,wh,er,ks,tn,kp⟩:=m;simp only at K1 K2 K5 K6 K7 HK0 HRT HCO;unfold j25 at HRT HCO⊢;simp only at HRT HCO⊢;go_enter Tryz.func150,Tryz.ntmps150;go_upto_region 4 with(go_at_call 16;refine(HRT _ (HK0.out.alloc _)).out.mono ?_;rintro e w1⟨rfl,hb1⟩);have HR:Hid (w1.heap[w.heap.size]?=some (.cells #[.string ⟨tg.toArray⟩,.bool wk,.int .i64 mo,.int .i64 ln,.int .i64 hv,.int .i64 fr,.int .i64 wh,.int .i64 er,.slice A ks.length c,.string ⟨tn.toArray⟩,.bool kp] 45 (0,0))):=j3 hb1 (j17 rfl);have HB:Hid (Below w.heap.size w w1):=q12 hb1 (q11 (b_ _ _) _);have HO:Hid (OwnG 176 w18 2 w1 w.heap.size none 0 []):=OwnG.nil _ _;clear hb1 HRT;have HTN:Hid (∀W,Calls Tryz.prog 60 #[.agg #[.string ⟨tg.toArray⟩,.bool wk]] W fun e w'=>e=.returned (.bool (tag0 ⟨tg,wk,mo,ln,hv,fr,wh,er,ks,tn,kp⟩))∧Below W.heap.size W w'):=fun W=>by
  have h:=y72 tg wk W;have e:(tg.isEmpty&&!wk)=tag0 ⟨tg,wk,mo,ln,hv,fr,wh,er,ks,tn,kp⟩:=by unfold tag0;cases tg<;>simp
  rw[e]at h;exact h
 obtain⟨r0,r1,r2,r3,r4,r5,r6,r7,r8,r9,r10⟩:=bc11 HR.out;go_upto_if 25 with(go_at_call 60;refine(HTN.out _).mono ?_;rintro e wt⟨rfl,hbt⟩);have HRt:=a_ (j3 hbt HR.out);have HOt:=a_ (HO.out.below hbt);have HBt:=a_ (q12 hbt HB.out);clear hbt HR HB HO r0 r1 r2 r3 r4 r5 r6 r7 r8 r9 r10;have HR:=a_ HRt.out;have HB:=a_ HBt.out;have HO:=a_ HOt.out;clear HRt HBt HOt;obtain⟨r0,r1,r2,r3,r4,r5,r6,r7,r8,r9,r10⟩:=bc11 HR.out;have HTO:Hid (tag0 ⟨tg,wk,mo,ln,hv,fr,wh,er,ks,tn,kp⟩=false→j20 tg=true):=by
  intro h;rcases HOK.out.tg with h1|h1;·simp only at h1;rw[h1.1,h1.2]at h;simp[tag0]at h
  ·exact h1
 obtain⟨tz,htz⟩:∃z,tag0 ⟨tg,wk,mo,ln,hv,fr,wh,er,ks,tn,kp⟩=z:=⟨_,rfl⟩;rw[htz]at HTO K1;try rw[htz]
 clear HTN htz;go_cut[6](fun s6 wx=>RowSt 176 w18 2 w w.heap.size #[.string ⟨tg.toArray⟩,.bool wk,.int .i64 mo,.int .i64 ln,.int .i64 hv,.int .i64 fr,.int .i64 wh,.int .i64 er,.slice A ks.length c,.string ⟨tn.toArray⟩,.bool kp] 45 L1 s6 wx);case first=>
  cases tz with
   |true=>have E:L1=[]:=K1.out;go_wp2_with fail;go_meet;exact⟨⟨_,_,_,rfl,by rw[E];rfl,by rw[E];exact HO.out⟩,HR.out,HB.out⟩
   |false=>have E:L1=[([69,84,97,103],tagT tg wk)]:=K1.out;have hto:=HTO.out rfl;have HTT:=fun W=>a_ (j111 tg wk W (by have:=(y54 hto).2;omega));rw[show j47 tg wk=tagT tg wk from w_ hto]at HTT;obtain⟨tt,htt⟩:∃t,tagT tg wk=t:=⟨_,rfl⟩;rw[htt]at HTT E;clear hto htt;go_wp2_with(first|(go_at_call 215;refine(HTT _).out.mono ?_;rintro e x1⟨rfl,hb1⟩;have HR1:=a_ (j3 hb1 HR.out);have HO1:=a_ (HO.out.below hb1);have HB1:=a_ (q12 hb1 HB.out);clear hb1)|(at_builtin;go_must(refine x23 (w0:=w) elemFd rfl (.tmp 26) (.tmp 31) rfl none 0 0 [] rfl #[.string ⟨#[69,84,97,103]⟩,.string ⟨tt.toArray⟩] _ rfl HO1.out [([69,84,97,103],tt)] 1 rfl rfl rfl S_ 1 rfl (by decide) HB1.out ?_;intro A2 c2 w2 hown2 hbw2 hg2)));go_meet;exact⟨⟨A2,c2,1,rfl,by rw[E];rfl,by rw[E];exact hown2⟩,w20 (j16 HR1.out) hg2 (by simp[Value.ownBlock]),hbw2⟩
 case rest=>
  obtain⟨⟨A1,c1,m1,rfl,hm1,ho1⟩,hr1,hb1⟩:=hcut;clear HR HB HO r0 r1 r2 r3 r4 r5 r6 r7 r8 r9 r10;have HR:=a_ hr1;have HB:=a_ hb1;have HO:=a_ ho1;have M1:Hid (m1=L1.length):=hm1;clear hr1 hb1 ho1 hm1;obtain⟨r0,r1,r2,r3,r4,r5,r6,r7,r8,r9,r10⟩:=bc11 HR.out;clear HTO;go_upto_if 35 with fail;go_cut[6](fun s6 wx=>RowSt 176 w18 2 w w.heap.size #[.string ⟨tg.toArray⟩,.bool wk,.int .i64 mo,.int .i64 ln,.int .i64 hv,.int .i64 fr,.int .i64 wh,.int .i64 er,.slice A ks.length c,.string ⟨tn.toArray⟩,.bool kp] 45 L2 s6 wx);case first=>
   by_cases hmo:0≤mo;·
    have E:L2=L1++[([76,97,115,116,45,77,111,100,105,102,105,101,100],q42 mo)]:=by rw[K2.out,q_ (by omega)];rfl
    have HDT:=fun W=>a_ (j69 mo W hmo HOK.out.mo.2);obtain⟨tt,htt⟩:∃t,q42 mo=t:=⟨_,rfl⟩;have HDT2:∀W,Hid (Calls Tryz.prog 216 #[.int .i64 mo] W fun e w'=>e=.returned (.tuple #[.string ⟨tt.toArray⟩,.int .i64 0])∧Below W.heap.size W w'):=fun W=>by rw[←htt];exact HDT W
    rw[htt]at E;clear htt HDT;go_wp2_with(first|(go_at_call 216;refine(HDT2 _).out.mono ?_;rintro e x1⟨rfl,hb1⟩;have HR1:=a_ (j3 hb1 HR.out);have HO1:=a_ (HO.out.below hb1);have HB1:=a_ (q12 hb1 HB.out);clear hb1)|(at_builtin;go_must(refine x23 (w0:=w) elemFd rfl (.tmp 42) (.tmp 45) rfl A1 c1 m1 L1 M1.out #[.string ⟨#[76,97,115,116,45,77,111,100,105,102,105,101,100]⟩,.string ⟨tt.toArray⟩] _ rfl HO1.out [([76,97,115,116,45,77,111,100,105,102,105,101,100],tt)] 1 rfl rfl rfl S_ (m1+1) rfl (by have:=M1.out;have:=N1.out;omega) HB1.out ?_;intro A2 c2 w2 hown2 hbw2 hg2)));go_meet;exact⟨⟨A2,c2,m1+1,rfl,by rw[E,e_,←M1.out];rfl,by rw[E];exact hown2⟩,w20 (j16 HR1.out) hg2 (HO1.out.ne_ty HR1.out (by decide)),hbw2⟩
   ·have E:L2=L1:=by rw[K2.out,w_ (by have:=HOK.out.mo;simp only at this;omega),T_]
    go_wp2_with fail;go_meet;exact⟨⟨_,_,_,rfl,by rw[E];exact M1.out,by rw[E];exact HO.out⟩,HR.out,HB.out⟩
  case rest=>
   obtain⟨⟨A2,c2,m2,rfl,hm2,ho2⟩,hr2,hb2⟩:=hcut;clear HR HB HO r0 r1 r2 r3 r4 r5 r6 r7 r8 r9 r10;have HR:=a_ hr2;have HB:=a_ hb2;have HO:=a_ ho2;have M2:Hid (m2=L2.length):=hm2;clear hr2 hb2 ho2 hm2;obtain⟨r0,r1,r2,r3,r4,r5,r6,r7,r8,r9,r10⟩:=bc11 HR.out;go_upto_region 10 with(first|(go_at_call 218;refine(HCO _).out.mono ?_;rintro e x1⟨rfl,hb1⟩;have HR1:=a_ (j3 hb1 HR.out);have HO1:=a_ (HO.out.below hb1);have HB1:=a_ (q12 hb1 HB.out);clear hb1)|(go_at_call 217;refine(HCT _).out.mono ?_;rintro e x2⟨rfl,hb2⟩;have HR2:=a_ (j3 hb2 HR1.out);have HO2:=a_ (HO1.out.below hb2);have HB2:=a_ (q12 hb2 HB1.out);clear hb2)|(at_builtin;go_must(refine x23 (w0:=w) elemFd rfl (.tmp 47) (.tmp 52) rfl A2 c2 m2 L2 M2.out #[.string ⟨#[67,97,99,104,101,45,67,111,110,116,114,111,108]⟩,.string ⟨ct.toArray⟩] _ rfl HO2.out [([67,97,99,104,101,45,67,111,110,116,114,111,108],ct)] 1 rfl rfl rfl S_ (m2+1) rfl (by have:=M2.out;have:=N2.out;omega) HB2.out ?_;intro A3 c3 w3 hown2 hbw2 hg2)));have M3:Hid (m2+1=L3.length):=by simp only[Hid];rw[K3.out,e_,←M2.out];rfl
   have HR3:Hid (w3.heap[w.heap.size]?=some (.cells #[.string ⟨tg.toArray⟩,.bool wk,.int .i64 mo,.int .i64 ln,.int .i64 hv,.int .i64 fr,.int .i64 wh,.int .i64 er,.slice A ks.length c,.string ⟨tn.toArray⟩,.bool kp] 45 (0,0))):=w20 (j16 HR2.out) hg2 (HO2.out.ne_ty HR2.out (by decide));have HO3:Hid (OwnG 176 w18 2 w3 w.heap.size A3 c3 L3):=by simp only[Hid];rw[K3.out];exact hown2
   have HB3:=a_ hbw2;clear hown2 hbw2 hg2 HR HB HO HR1 HO1 HB1 HR2 HO2 HB2 HCO HCT r0 r1 r2 r3 r4 r5 r6 r7 r8 r9 r10;obtain⟨m3,hm3⟩:∃k,m2+1=k:=⟨_,rfl⟩;rw[hm3]at M3;try rw[hm3]
   clear hm3;have HR:=a_ HR3.out;have HB:=a_ HB3.out;have HO:=a_ HO3.out;clear HR3 HB3 HO3;obtain⟨r0,r1,r2,r3,r4,r5,r6,r7,r8,r9,r10⟩:=bc11 HR.out;go_upto_region 11 with(first|(go_at_call 219;refine(HN0 _).out.mono ?_;rintro e x1⟨rfl,hb1⟩;have HR1:=a_ (j3 hb1 HR.out);have HO1:=a_ (HO.out.below hb1);have HB1:=a_ (q12 hb1 HB.out);clear hb1)|(at_builtin;go_must(refine x23 (w0:=w) elemFd rfl (.tmp 54) (.tmp 58) rfl A3 c3 m3 L3 M3.out #[.string ⟨#[65,103,101]⟩,.string ⟨#[48]⟩] _ rfl HO1.out [([65,103,101],[48])] 1 rfl rfl rfl S_ (m3+1) rfl (by have:=M3.out;have:=N3.out;omega) HB1.out ?_;intro A4 c4 w4 hown2 hbw2 hg2)));have M4:Hid (m3+1=L4.length):=by simp only[Hid];rw[K4.out,e_,←M3.out];rfl
   have HR3:Hid (w4.heap[w.heap.size]?=some (.cells #[.string ⟨tg.toArray⟩,.bool wk,.int .i64 mo,.int .i64 ln,.int .i64 hv,.int .i64 fr,.int .i64 wh,.int .i64 er,.slice A ks.length c,.string ⟨tn.toArray⟩,.bool kp] 45 (0,0))):=w20 (j16 HR1.out) hg2 (HO1.out.ne_ty HR1.out (by decide));have HO3:Hid (OwnG 176 w18 2 w4 w.heap.size A4 c4 L4):=by simp only[Hid];rw[K4.out];exact hown2
   have HB3:=a_ hbw2;clear hown2 hbw2 hg2 HR HB HO HR1 HO1 HB1 HN0 r0 r1 r2 r3 r4 r5 r6 r7 r8 r9 r10;obtain⟨m4,hm4⟩:∃k,m3+1=k:=⟨_,rfl⟩;rw[hm4]at M4;try rw[hm4]
   clear hm4;have HR:=a_ HR3.out;have HB:=a_ HB3.out;have HO:=a_ HO3.out;clear HR3 HB3 HO3;obtain⟨r0,r1,r2,r3,r4,r5,r6,r7,r8,r9,r10⟩:=bc11 HR.out;have HKN:Hid (ks.length≤32):=HOK.out.kn;have HKL:=a_ (k100 HOK.out.kn HOK.out.ka);simp only at HKL;go_upto_if 63 with fail;go_cut[6](fun s6 wx=>RowSt 176 w18 2 w w.heap.size #[.string ⟨tg.toArray⟩,.bool wk,.int .i64 mo,.int .i64 ln,.int .i64 hv,.int .i64 fr,.int .i64 wh,.int .i64 er,.slice A ks.length c,.string ⟨tn.toArray⟩,.bool kp] 45 L5 s6 wx);case first=>
    by_cases hk0:ks.length=0;·
     have E:L5=L4:=by rw[K5.out,w_ (l_ hk0),T_]
     have hk0':¬(0:Int)<(ks.length:Int):=by omega
     clear hk0;go_wp2_with fail;go_meet;exact⟨⟨_,_,_,rfl,by rw[E];exact M4.out,by rw[E];exact HO.out⟩,HR.out,HB.out⟩
    ·have E:L5=L4++[([83,117,114,114,111,103,97,116,101,45,75,101,121],x176 [32] ks)]:=by rw[K5.out,q_ (fun e=>hk0 (by rw[e];rfl))];rfl
     have hk0':(0:Int)<(ks.length:Int):=by omega
     have HS:=a_ (HK0.out.below HB.out);clear hk0;go_wp2_with fail;go_loopw[9,10](fun t i wr=>wr=w4∧∃k:Nat,k≤ks.length∧i=.int .i64 (k:Int)∧t=.string ⟨(x176 [32] (ks.take k)).toArray⟩)(fun _ i _=>ks.length-(intOf i).toNat);case atStart=>exact⟨rfl,0,v_ _,rfl,rfl⟩
     case round=>
      obtain⟨rfl,k,hk,rfl,rfl⟩:=hrel;have hkn:=HKN.out;by_cases hlt:k<ks.length;·
       obtain⟨b,off,e,hb,hc⟩:=HS.out.at' k hlt;have q0:=hc 0 _ rfl;have hJ1:=q47 [32] ks k;have hJ2:=q47 [32] ks (k+1);have hJL:=HKL.out;have HT:=a_ (k91 (sep:=[32]) hlt);rw[HT.out]at hJ2;obtain⟨x,hx⟩:∃x,ks[k]=x:=⟨_,rfl⟩;rw[hx]at q0 HT hJ2;simp only[bn_,J_]at q0;clear hc hx;subst e;by_cases hk0:k=0;·
        rw[w_ hk0]at hJ2;have HT2:Hid (x176 [32] (ks.take (k+1))=x176 [32] (ks.take k)++x):=by simp only[Hid];rw[HT.out,w_ hk0,hk0];rfl
        have hJ0:(x176 [32] (ks.take k)).length=0:=by rw[hk0];rfl
        have hc1:=catE (a:=x176 [32] (ks.take k)) (b:=x) (by omega);have hkp:¬(0:Int)<(k:Int):=by omega
        clear HT hJ1 hJ2 hJL hk0 hJ0;generalize x176 [32] (ks.take k)++x=x2 at hc1 HT2;generalize x176 [32] (ks.take k)=x1 at hc1;go_wp2_with fail;go_roundw;case rel=>exact⟨by first|trivial|rfl,k+1,by omega,by go_num,by rw[HT2.out]⟩
        case measure=>simp[intOf];omega
       ·rw[q_ hk0]at hJ2;have HT2:Hid (x176 [32] (ks.take (k+1))=x176 [32] (ks.take k)++[32]++x):=by simp only[Hid];rw[HT.out,q_ hk0,x_]
        simp only[e_,g_,i_]at hJ2;have hc1:=catE (a:=x176 [32] (ks.take k)) (b:=[32]) (by simp only[g_,i_];omega);have hc2:=catE (a:=x176 [32] (ks.take k)++[32]) (b:=x) (by simp only[e_,g_,i_];omega);have hkp:(0:Int)<(k:Int):=by omega
        clear HT hJ1 hJ2 hJL hk0;generalize x176 [32] (ks.take k)++[32]++x=x3 at hc2 HT2;generalize x176 [32] (ks.take k)++[32]=x2 at hc1 hc2;generalize x176 [32] (ks.take k)=x1 at hc1;go_wp2_with fail;go_roundw;case rel=>exact⟨by first|trivial|rfl,k+1,by omega,by go_num,by rw[HT2.out]⟩
        case measure=>simp[intOf];omega
      ·have hke:k=ks.length:=by omega
       have HE:Hid (x176 [32] (ks.take k)=x176 [32] ks):=by simp only[Hid];rw[hke,V_]
       obtain⟨tt,htt⟩:∃t,x176 [32] (ks.take k)=t:=⟨_,rfl⟩;rw[←HE.out,htt]at E;rw[htt];have hlt':¬(k:Int)<(ks.length:Int):=by omega
       clear hke HE htt;go_wp2_with(at_builtin;go_must(refine x23 (w0:=w) elemFd rfl (.tmp 82) (.tmp 85) rfl A4 c4 m4 L4 M4.out #[.string ⟨#[83,117,114,114,111,103,97,116,101,45,75,101,121]⟩,.string ⟨tt.toArray⟩] _ rfl HO.out [([83,117,114,114,111,103,97,116,101,45,75,101,121],tt)] 1 rfl rfl rfl S_ (m4+1) rfl (by have:=M4.out;have:=N4.out;omega) HB.out ?_;intro A2 c2 w2 hown2 hbw2 hg2));go_meet;exact⟨⟨A2,c2,m4+1,rfl,by rw[E,e_,←M4.out];rfl,by rw[E];exact hown2⟩,w20 (j16 HR.out) hg2 (HO.out.ne_ty HR.out (by decide)),hbw2⟩
   case rest=>
    obtain⟨⟨A5,c5,m5,rfl,hm5,ho5⟩,hr5,hb5⟩:=hcut;clear HR HB HO r0 r1 r2 r3 r4 r5 r6 r7 r8 r9 r10;have HR:=a_ hr5;have HB:=a_ hb5;have HO:=a_ ho5;have M5:Hid (m5=L5.length):=hm5;clear hr5 hb5 ho5 hm5;obtain⟨r0,r1,r2,r3,r4,r5,r6,r7,r8,r9,r10⟩:=bc11 HR.out;obtain⟨nb,hnb⟩:∃b,tn.isEmpty=b:=⟨_,rfl⟩;go_upto_if 89 with fail;go_cut[6](fun s6 wx=>RowSt 176 w18 2 w w.heap.size #[.string ⟨tg.toArray⟩,.bool wk,.int .i64 mo,.int .i64 ln,.int .i64 hv,.int .i64 fr,.int .i64 wh,.int .i64 er,.slice A ks.length c,.string ⟨tn.toArray⟩,.bool kp] 45 L6 s6 wx);case first=>
     cases nb with
      |true=>
       have ht0:tn=[]:=aN_.1 hnb;have E:L6=L5:=by rw[K6.out,w_ ht0,T_]
       clear ht0;go_wp2_with fail;go_meet;exact⟨⟨_,_,_,rfl,by rw[E];exact M5.out,by rw[E];exact HO.out⟩,HR.out,HB.out⟩
      |false=>
       have ht0:tn≠[]:=by intro hh;rw[hh]at hnb;simp at hnb
       have E:L6=L5++[([88,45,84,101,110,97,110,116],tn)]:=by rw[K6.out,q_ ht0];rfl
       clear ht0;go_wp2_with(at_builtin;go_must(refine x23 (w0:=w) elemFd rfl (.tmp 90) (.tmp 94) rfl A5 c5 m5 L5 M5.out #[.string ⟨#[88,45,84,101,110,97,110,116]⟩,.string ⟨tn.toArray⟩] _ rfl HO.out [([88,45,84,101,110,97,110,116],tn)] 1 rfl rfl rfl S_ (m5+1) rfl (by have:=M5.out;have:=N5.out;omega) HB.out ?_;intro A2 c2 w2 hown2 hbw2 hg2));go_meet;exact⟨⟨A2,c2,m5+1,rfl,by rw[E,e_,←M5.out];rfl,by rw[E];exact hown2⟩,w20 (j16 HR.out) hg2 (HO.out.ne_ty HR.out (by decide)),hbw2⟩
    case rest=>
     obtain⟨⟨A6,c6,m6,rfl,hm6,ho6⟩,hr6,hb6⟩:=hcut;clear HR HB HO r0 r1 r2 r3 r4 r5 r6 r7 r8 r9 r10;have HR:=a_ hr6;have HB:=a_ hb6;have HO:=a_ ho6;have M6:Hid (m6=L6.length):=hm6;clear hr6 hb6 ho6 hm6;obtain⟨r0,r1,r2,r3,r4,r5,r6,r7,r8,r9,r10⟩:=bc11 HR.out;by_cases hl0:0≤ln;·
      have E:L7=L6++[([88,45,76,101,110,103,116,104],digN ln)]:=by rw[K7.out,q_ (by omega)];rfl
      have HD:=fun W=>HN ln W hl0 (by have:=HOK.out.ln;simp only at this;omega);obtain⟨tt,htt⟩:∃t,digN ln=t:=⟨_,rfl⟩;rw[htt]at HD E;clear htt;go_wp2_with(first|(go_at_call 219;refine(HD _).out.mono ?_;rintro e x1⟨rfl,hb1⟩;have HR1:=a_ (j3 hb1 HR.out);have HO1:=a_ (HO.out.below hb1);have HB1:=a_ (q12 hb1 HB.out);clear hb1)|(at_builtin;go_must(refine x23 (w0:=w) elemFd rfl (.tmp 99) (.tmp 104) rfl A6 c6 m6 L6 M6.out #[.string ⟨#[88,45,76,101,110,103,116,104]⟩,.string ⟨tt.toArray⟩] _ rfl HO1.out [([88,45,76,101,110,103,116,104],tt)] 1 rfl rfl rfl S_ (m6+1) rfl (by have:=M6.out;have:=N6.out;omega) HB1.out ?_;intro A2 c2 w2 hown2 hbw2 hg2)));exact HP.out A2 c2 (m6+1) _ (by rw[E,e_,←M6.out];rfl) (by rw[E];exact hown2) hbw2
     ·have E:L7=L6++[([88,45,76,101,110,103,116,104],[42])]++[([88,45,72,97,118,101],digN hv)]:=by rw[K7.out,w_ (by have:=HOK.out.ln;simp only at this;omega),x_];rfl
      have HD:=fun W=>HN hv W HOK.out.hv.1 (by have:=HOK.out.hv;simp only at this;omega);obtain⟨tt,htt⟩:∃t,digN hv=t:=⟨_,rfl⟩;try simp only at HD
      rw[htt]at HD E;clear htt;go_upto_region 25 with(at_builtin;go_must(refine x23 (w0:=w) elemFd rfl (.tmp 106) (.tmp 108) rfl A6 c6 m6 L6 M6.out #[.string ⟨#[88,45,76,101,110,103,116,104]⟩,.string ⟨#[42]⟩] _ rfl HO.out [([88,45,76,101,110,103,116,104],[42])] 1 rfl rfl rfl S_ (m6+1) rfl (by have:=M6.out;have:=N6.out;omega) HB.out ?_;intro A7 c7 w7 hown7 hbw7 hg7));have HR7:Hid (w7.heap[w.heap.size]?=some (.cells #[.string ⟨tg.toArray⟩,.bool wk,.int .i64 mo,.int .i64 ln,.int .i64 hv,.int .i64 fr,.int .i64 wh,.int .i64 er,.slice A ks.length c,.string ⟨tn.toArray⟩,.bool kp] 45 (0,0))):=w20 (j16 HR.out) hg7 (HO.out.ne_ty HR.out (by decide));have HO7:=a_ hown7;have HB7:=a_ hbw7;have M7:Hid (m6+1=(L6++[([88,45,76,101,110,103,116,104],[42])]).length):=by simp only[Hid];rw[e_,←M6.out];rfl
      have N7:Hid ((L6++[([88,45,76,101,110,103,116,104],([42]:List UInt8))]).length≤7):=by simp only[Hid];rw[e_];have:=N6.out;simp;omega
      generalize L6++[([88,45,76,101,110,103,116,104],[42])]=LX at E HO7 M7 N7;clear hown7 hbw7 hg7 HR HB HO r0 r1 r2 r3 r4 r5 r6 r7 r8 r9 r10;obtain⟨m7,hm7⟩:∃k,m6+1=k:=⟨_,rfl⟩;rw[hm7]at M7;try rw[hm7]
      clear hm7;have HR:=a_ HR7.out;have HB:=a_ HB7.out;have HO:=a_ HO7.out;clear HR7 HB7 HO7;have r3:=bc 3 HR.out rfl;have r4:=bc 4 HR.out rfl;go_wp2_with(first|(go_at_call 219;refine(HD _).out.mono ?_;rintro e x1⟨rfl,hb1⟩;have HR1:=a_ (j3 hb1 HR.out);have HO1:=a_ (HO.out.below hb1);have HB1:=a_ (q12 hb1 HB.out);clear hb1)|(at_builtin;go_must(refine x23 (w0:=w) elemFd rfl (.tmp 110) (.tmp 115) rfl A7 c7 m7 LX M7.out #[.string ⟨#[88,45,72,97,118,101]⟩,.string ⟨tt.toArray⟩] _ rfl HO1.out [([88,45,72,97,118,101],tt)] 1 rfl rfl rfl S_ (m7+1) rfl (by have:=M7.out;have:=N7.out;omega) HB1.out ?_;intro A2 c2 w2 hown2 hbw2 hg2)));exact HP.out A2 c2 (m7+1) _ (by rw[E,e_,←M7.out];rfl) (by rw[E];exact hown2) hbw2
